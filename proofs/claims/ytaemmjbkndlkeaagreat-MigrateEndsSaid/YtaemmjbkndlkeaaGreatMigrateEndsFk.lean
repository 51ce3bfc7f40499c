import Derived.Test.YtaemmjbkndlkeaaGreatMigrateEndsFo
import Derived.Laws.Append
import Derived.Laws.CopyRow
import Derived.Laws.AppendOwn
open List renaming eq_nil_of_length_eq_zero->fB,map_cons->fI,append_assoc->aM,getElem?_take->aF,getElem?_drop->fK,getElem?_toArray->bH,getD->aV,length_take->aD,length_drop->aG,getElem?_append_left->bI,size_toArray->aK,getElem?_append_right->bJ,getElem?_eq_none->aJ,take_of_length_le->fE,getElem?_eq_getElem->aI,range'->bO,mem_of_getElem?->fN,mem_of_mem_take->fO,mem_of_mem_drop->fP,mem_cons->cQ,mem_append->cB
open Bool renaming false_eq_true->aA
open Option renaming map_eq_some_iff->fH
open Nat renaming add_zero->aB,succ_mul->bF,mul_le_mul_right->bD,zero_add->bG,mul_comm->fL,le_refl->aX,add_mul->bK,le_trans->bL,le_mul_of_pos_right->fM
open Array renaming ext'->fJ
set_option linter.all false
namespace Go.GD
open Go
variable {G:List bd}{I:ae}{K:List Nat->D->Rows->Prop}{M k n r sy sz:Nat}{P:Program}{R:Rows}{after:Array Edge}{args:Array Operand}{arr:Array Value}{d d' y:D}{dst:Option Tmp}{ev:Operand->D}{f:FuncId}{i:TypeInfo}{ks:List Nat}{pos':String}{row x:Row}{t tx ty type:TypeId}{dj:Array TypeId}{ux:TypeDesc}{v z:Value}{w w':World}{ys:ai}
section
variable {c:Ctx} {w:World} {ks:List Nat}
theorem u5(ks:List Nat)(row:Row):(row.kill ks).box=row.box/\(row.kill ks).ty=row.ty/\(row.kill ks).sz=row.sz/\(row.kill ks).es.l.length=row.es.l.length:=by
 unfold Row.kill;split<;>exact⟨rfl,rfl,rfl,rfl⟩
theorem Z2q:∀{e:List D},(D.ji ks e).length=e.length
 |[]=>rfl
 |d::l=>by simp[D.ji,Z2q (e:=l)]
theorem Zdf(gu:∀f cs,d≠.gp f cs)(h:dc c w d v):dc (c.kill ks) w (d.fc ks) v:=by
 have key:∀r row,da r ks=false->c.R r=some row->(c.kill ks).R r=some (row.kill ks):=λr row hr cz=>by simp[Ctx.kill,hr,cz]
 have h1:=dc.one h
 cases d with
 |all r=>
  simp only[D.fc]
  cases hr:da r ks with
  |true=>exact h1
  |false=>
   obtain⟨row,g1,g2,g3⟩:=h
   obtain⟨s1,s2,s3,s4⟩:=u5 ks row
   exact⟨_,key r row hr g1,s1.trans g2,by rw[s2,s3,s4];exact g3⟩
 |own r o n=>
  simp only[D.fc]
  cases hr:da r ks with
  |true=>exact h1
  |false=>
   obtain⟨row,g1,g2,g3,g4⟩:=h
   obtain⟨s1,s2,s3,s4⟩:=u5 ks row
   exact⟨_,key r row hr g1,s1.trans g2,by rw[s4];exact g3,by rw[s2,s3];exact g4⟩
 |ptr r i off=>
  simp only[D.fc]
  cases hr:da r ks with
  |true=>exact h1
  |false=>
   obtain⟨row,g1,g2,g3,g4⟩:=h
   obtain⟨s1,s2,s3,s4⟩:=u5 ks row
   exact⟨_,key r row hr g1,g2,by rw[s4];exact g3,by rw[s3];exact g4⟩
 |pa r i off len k n=>
  simp only[D.fc]
  cases hr:da r ks with
  |true=>exact h1
  |false=>
   obtain⟨g0,row,g1,g2,g3,g4⟩:=h
   obtain⟨s1,s2,s3,s4⟩:=u5 ks row
   exact⟨g0,_,key r row hr g1,g2,by rw[s4];exact g3,by rw[s3];exact g4⟩
 |gq r=>
  simp only[D.fc]
  cases hr:da r ks with
  |true=>exact h1
  |false=>
   rcases h with h|⟨row,g1,g2,g3,g4⟩
   ·exact .inl h
   ·obtain⟨s1,s2,s3,s4⟩:=u5 ks row
    exact .inr ⟨_,key r row hr g1,g2,by rw[s4];exact g3,by rw[s3];exact g4⟩
 |gp f cs=>exact absurd rfl (gu f cs)
 |_=>exact h
theorem yu(gu:∀f cs,d≠.gp f cs)(h:∀r∈nJ d,da r ks=false):d.fc ks=d:=by
 cases d<;>first|rfl|(simp only[D.fc];rw[h _ (by simp[nJ])])|exact absurd rfl (gu _ _)
theorem SC(h:dc c w d v):dc (c.kill ks) w (d.fc ks) v:=by
 by_cases e:∃g cs,d=.gp g cs
 ·obtain⟨g,cs,rfl⟩:=e
  have h1:=dc.one h
  simp only[D.fc]
  cases hd:pq (rp cs) ks with
  |false=>exact h1
  |true=>
   obtain⟨us,hv,hu⟩:=h
   exact⟨us,hv,YF (c:=c) (w:=w) (c':=c.kill ks) (w':=w) (S:=λr=>da r ks=false) (λd v q1 q2 q3=>by have:=Zdf (ks:=ks) q1 q3;rwa [yu q1 q2]at this) (λ_ hb=>⟨hb,rfl⟩) (λr hr=>by
    have:=Un.1 hd r hr
    cases hm:da r ks with
    |false=>rfl
    |true=>exact(this (nN.1 hm)).elim) hu⟩
 ·exact Zdf (λf cs e'=>e ⟨f,cs,e'⟩) h
theorem Zih:∀{ds:List D} {vs:List Value},jl c w ds vs->jl (c.kill ks) w (D.ji ks ds) vs
 |[],[],_=>trivial
 |_::_,_::_,h=>⟨SC h.1,Zih h.2⟩
 |[],_::_,h=>h.elim
 |_::_,[],h=>h.elim
theorem Zpd(h:VRep c w d v):VRep (c.kill ks) w (d.kill ks) v:=by
 cases d with
 |agg cs=>obtain⟨vs,hv,hr⟩:=h;exact⟨vs,hv,Zih hr⟩
 |_=>
  have:=SC (ks:=ks) (VRep.toC (λcs e=>by cases e) h)
  exact VRep.Ei this
theorem Zix:∀{ds:List D} {vs:List Value},kg c w ds vs->kg (c.kill ks) w (D.pJ ks ds) vs
 |[],[],_=>trivial
 |_::_,_::_,h=>⟨Zpd h.1,Zix h.2⟩
 |[],_::_,h=>h.elim
 |_::_,[],h=>h.elim
theorem Wm(h:Rep c w d v):Rep (c.kill ks) w (d.j4 ks) v:=by
 cases d with
 |dw ds=>obtain⟨vs,hv,hr⟩:=h;exact⟨vs,hv,Zix hr⟩
 |dead=>trivial
 |_=>
  have:=Zpd (ks:=ks) (Rep.toV (λds e=>by cases e) (λe=>by cases e) h)
  exact Rep.J9 this
theorem Zc7:∀{ds:List D} {arr:Array Value} {off:Nat},kJ c w ds arr off->kJ (c.kill ks) w (D.ji ks ds) arr off
 |[],_,_,_=>trivial
 |_::_,_,_,⟨⟨v,hv,h1⟩,h2⟩=>⟨⟨v,hv,SC h1⟩,Zc7 h2⟩
theorem Zq4(h:El c w r row):El (c.kill ks) w r (row.kill ks):=by
 obtain⟨s1,s2,s3,s4⟩:=u5 ks row
 rcases h with⟨h0,h1,h2,h3⟩|⟨h0,arr,ha,hs,hx⟩
 ·refine .inl ⟨h0,s1.trans h1,?_,by rw[s3];exact h3⟩
  rw[h2]at s4;exact fB s4
 ·refine .inr ⟨h0,arr,by rw[s2];exact ha,by rw[s3];exact hs,?_⟩
  rw[s1,s3]
  split
  ·rename_i hb
   simp only[hb,if_true]at hx
   obtain⟨e,k1,k2,k3,k4⟩:=hx
   obtain⟨box,ty,sz,es⟩:=row
   simp only at hb k1 k2 k3 k4
   subst hb;subst k1
   exact⟨D.ji ks e,rfl,by rw[Z2q];exact k2,k3,Zc7 k4⟩
  ·rename_i hb
   simp only[hb,aA,if_false]at hx
   have he:(row.kill ks).es=row.es:=by
    unfold Row.kill
    split
    ·simp at hb
    ·rfl
   rw[he];exact hx
theorem na(h:(c.kill ks).R r=some x):da r ks=false/\∃row,c.R r=some row/\x=row.kill ks:=by
 simp only[Ctx.kill]at h
 cases hb:da r ks with
 |true=>rw[hb]at h;simp at h
 |false=>
  rw[hb]at h
  simp only[aA,if_false,fH]at h
  obtain⟨row,h1,h2⟩:=h
  exact⟨rfl,row,h1,h2.symm⟩
theorem Sg(hm:Mem c w):Mem (c.kill ks) w:=by
 refine⟨λr x hx=>?_,λr s x y hx hy v1 v2 he=>?_,λb hb=>⟨(hm.fg b hb).1,λr x hx v=>?_⟩,hm.top,hm.jZ⟩
 ·obtain⟨_,row,h1,rfl⟩:=na hx
  exact Zq4 (hm.row r row h1)
 ·obtain⟨_,row,h1,_⟩:=na hx
  obtain⟨_,ao,h2,_⟩:=na hy
  exact hm.inj r s row ao h1 h2 v1 v2 he
 ·obtain⟨_,row,h1,_⟩:=na hx
  exact(hm.fg b hb).2 r row h1 v
end
theorem Zr7:∀{l:List Nat},pq l []=true
 |[]=>rfl
 |x::l=>by simp only[pq,da];exact Zr7
theorem Wk(d:D):d.fc []=d:=by
 cases d with
 |gp f cs=>simp only[D.fc,Zr7]
 |_=>rfl
theorem Wj:∀{ds:List D},D.ji [] ds=ds
 |[]=>rfl
 |d::l=>by simp only[D.ji,Wk,Wj (ds:=l)]
theorem Z86(row:Row):row.kill []=row:=by
 unfold Row.kill;split
 ·simp[Wj]
 ·rfl
theorem vR(c:Ctx):c.kill []=c:=by
 obtain⟨ρ,R,V,I,base,top,X⟩:=c
 simp only[Ctx.kill,da,aA,if_false]
 congr 1
 funext r
 cases R r<;>simp[Z86]
theorem lL.toK{c c':Ctx}(h:lL c w c' w'):jN [] c w c' w':=
 ⟨h.mem,by rw[vR];exact h.cy,h.fr,λb hb=>(h.fg b hb).imp id .inr,λr ao h1 h2=>(h.ob r ao h1 h2).imp id .inr⟩
theorem PD{ks:List Nat}:∀{R:Rows} {i r:Nat},(rO ks R i).getD r none=if da (i+r) ks=true then none else(R.getD r none).map (Row.kill ks)
 |[],i,r=>by simp[rO]
 |x::l,i,0=>by
  simp only[rO,aB]
  cases da i ks<;>cases x<;>simp
 |x::l,i,r+1=>by
  have:=PD (ks:=ks) (R:=l) (i:=i+1) (r:=r)
  rw[show i+1+r=i+(r+1) by omega]at this
  simpa[rO]using this
theorem I8{ks:List Nat}:∀{R:Rows} {i:Nat},(rO ks R i).length=R.length
 |[],_=>rfl
 |x::l,i=>by simp[rO,I8 (R:=l)]
def rV(ks:List Nat)(env:List (Nat×D)):List (Nat×D):=env.map λx=>(x.1,x.2.j4 ks)
theorem HQ{ks:List Nat}:∀{env:List (Nat×D)} {K:List (Nat×D)->Prop},Ge ks env K↔K (rV ks env)
 |[],_=>Iff.rfl
 |(t,d)::l,K=>by
  simp only[Ge,D.c7]
  rw[HQ (env:=l) (K:=λl=>K ((t,d.j4 ks)::l))]
  rfl
theorem BD{ks:List Nat}:∀{env:List (Nat×D)} {t:Nat},look (rV ks env) t=(look env t).j4 ks
 |[],_=>rfl
 |(u,d)::l,t=>by
  simp only[rV,fI,look]
  cases Nat.beq u t with
  |true=>rfl
  |false=>exact BD (env:=l)
theorem Qpu(w:World){t tx ty e:TypeId}(ht:P.underlying t=some (.slice e))(pr:P.underlying tx=some ux)(hx:∀k,ux≠.int k)(hi:P.info? e=some i)
 {a:Option Addr} {n cap m:Nat} {x:Value} {news:List Value} (hl:(Builtin.lenOf x).run P w=.ok m w) (hf:(Builtin.firstCells i.size m x).run P w=.ok news.toArray w) (kK:n+m<=cap) {w':World}
 (j0:∀b,a=some b->(storeCells (b.add (n*i.size)) news).run P w=.ok () w') (mZ:a=none->w'=w):
 (Builtin.append_ #[t,tx] ty #[.slice a n cap,x]).run P w=.ok (.slice a (n+m) cap) w':=by
 have hz:(match ux with|.int _=>true|_=>false)=false:=by
  cases ux<;>first|rfl|exact absurd rfl (hx _)
 cases a with
 |none=>
  have:=mZ rfl
  subst this
  simp[Builtin.append_,run_underlying ht,run_underlying pr,hz,sizeOf,typeInfo,hi,hl,kK,hf]
 |some b=>simp[Builtin.append_,run_underlying ht,run_underlying pr,hz,sizeOf,typeInfo,hi,hl,kK,hf,j0 b rfl]
theorem Qq0(w:World){t tx ty e:TypeId}(ht:P.underlying t=some (.slice e))(pr:P.underlying tx=some ux)(hx:∀k,ux≠.int k)(hi:P.info? e=some i)(hz:i.zero=some z)
 {a:Option Addr} {n cap m:Nat} {x:Value} {kM news:List Value} (hl:(Builtin.lenOf x).run P w=.ok m w) (hf:(Builtin.firstCells i.size m x).run P w.drew=.ok news.toArray w.drew) (hfo:(Builtin.firstCells i.size n (.slice a n cap)).run P w.drew=.ok kM.toArray w.drew)
 (hg:cap<n+m) (h63:((n+m:Nat):Int)<=9223372036854775807) (mK:Builtin.nextslicecap (n+m) cap*i.bytes<=281474976710656):
 (Builtin.append_ #[t,tx] ty #[.slice a n cap,x]).run P w=.ok (.slice (some ⟨w.heap.size,0,none⟩) (n+m) (grownCap w (n+m) cap e))
  (w.drew.alloc (.cells (kM.toArray++news.toArray++Builtin.zeroCells z.cells (grownCap w (n+m) cap e-(n+m))) e)):=by
 have hn:¬(n+m<=cap):=by omega
 have YG:¬(9223372036854775807<((n:Int)+(m:Int))):=by omega
 have YH:¬(281474976710656<Builtin.nextslicecap (n+m) cap*i.bytes):=by omega
 simp[Builtin.append_,run_underlying ht,run_underlying pr,sizeOf,typeInfo,zeroValue,hi,hz,hl,hn,YG,YH,Question.forced,hf,hfo,newRow,grownCap]
 congr 2
 apply fJ
 simp[aM]
theorem vu{b o:Nat}{fz:Nat×Nat}(h:w.heap[b]?=some (.cells arr ty fz))(j:Nat):w.cell? ((⟨b,o,none⟩:Addr).add j)=arr[o+j]? :=by
 rw[EY]
 unfold World.cell?
 simp[h]
theorem Sh{es:List (List D)}{off sz:Nat}(h:im I w es arr off sz)(h0:0<sz):∃news:List Value,news.length=es.length*sz/\(∀j u,news[j]?=some u->arr[off+j]?=some u)/\im I w es news.toArray 0 sz:=by
 have ft:es.length*sz<=arr.size-off:=by
  by_cases he:es.length=0
  ·rw[he];omega
  ·obtain⟨h1,h2⟩:=tn.1 h (es.length-1) (by omega)
   obtain⟨v,hv,_⟩:=tP.1 h2 (sz-1) (by omega)
   have bh:=(Array.getElem?_eq_some_iff.1 hv).1
   have:es.length*sz=(es.length-1)*sz+sz:=by
    rw[show es.length*sz=(es.length-1+1)*sz by congr 1;omega,bF]
   omega
 refine⟨(arr.toList.drop off).take (es.length*sz),by simp;omega,λj u hj=>?_,?_⟩
 ·rw[aF]at hj
  split at hj
  ·rw[fK]at hj
   simpa using hj
  ·cases hj
 ·rw[tn]at h⊢
  intro i hi
  obtain⟨h1,h2⟩:=h i hi
  refine⟨h1,?_⟩
  rw[tP]at h2⊢
  intro j hj
  obtain⟨v,hv,hp⟩:=h2 j hj
  refine⟨v,?_,hp⟩
  have bh:i*sz+j<es.length*sz:=by
   have:=bD sz (show i+1<=es.length by omega)
   rw[bF]at this
   omega
  simp only[bG,bH]
  rw[aF,if_pos bh,fK,<-hv]
  simp[Nat.add_assoc]
theorem im.one{es:List (List D)}{news:List Value}(h:im I w es news.toArray 0 sz)(hl:news.length=es.length*sz):∀u∈news,u.oneCell'=true:=by
 intro u hu
 obtain⟨j,hj⟩:=List.getElem?_of_mem hu
 have bh:=(List.getElem?_eq_some_iff.1 hj).1
 have h0:0<sz:=by
  rcases Nat.eq_zero_or_pos sz with h0|h0
  ·subst h0;simp at hl;rw[hl]at bh;simp at bh
  ·exact h0
 have hi:j/sz<es.length:=by rw[Nat.div_lt_iff_lt_mul h0];omega
 obtain⟨h1,h2⟩:=tn.1 h (j/sz) hi
 obtain⟨v,hv,hp⟩:=tP.1 h2 (j%sz) (by rw[h1];exact Nat.mod_lt _ h0)
 have e:0+j/sz*sz+j%sz=j:=by rw[bG,fL];exact Nat.div_add_mod j sz
 rw[e,bH,hj]at hv
 cases hv
 exact fy.one hp
theorem Zns(s:List UInt8):im I w (ai.ints .u8 (o8 s)).l (s.map λb=>Value.int .u8 b.toNat).toArray 0 1:=by
 rw[tn]
 intro i hi
 have iF:i<s.length:=by simpa[o8,ai.l]using hi
 have he:(ai.ints .u8 (o8 s)).l.getD i []=[.int .u8 s[i].toNat]:=by simp[o8,ai.l,aV,iF]
 rw[he]
 refine⟨rfl,?_⟩
 simp only[Du,Dv,r6,r7,r8,r9,sc,sd,tt,tR,tS,tT,tU,tV,tW,tX,tY,tZ,and_true]
 exact⟨_,by simp[iF],rfl⟩
def Src(P:Program)(c:Ctx)(w:World)(v:Value)(ys:List (List D))(sz:Nat):Prop:=
 ∃news:List Value,news.length=ys.length*sz/\(Builtin.lenOf v).run P w=.ok ys.length w/\(∀k,k<=ys.length->∀w',w'.heap=w.heap->(Builtin.firstCells sz k v).run P w'=.ok (news.take (k*sz)).toArray w')/\im c.I w ys news.toArray 0 sz
theorem I9{c:Ctx}(h0:0<sz){es:List (List D)}{a:Option Addr}{cap:Nat}(ie:es=[]\/sy=sz/\∃b off arr ty fz,a=some ⟨b,off,none⟩/\w.heap[b]?=some (.cells arr ty fz)/\im c.I w es arr off sy):
 Src P c w (.slice a es.length cap) es sz:=by
 rcases ie with ie|⟨hss,b,off,arr,ty,fz,ha,hh,hE⟩
 ·subst ie
  refine⟨[],by simp,by simp[Builtin.lenOf],λk hk w' _=>?_,by simp[pY,pK]⟩
  have w6:k=0:=by simpa using hk
  subst w6
  cases a with
  |none=>simp[Builtin.firstCells]
  |some a=>
   have:=run_firstCells_some (P:=P) w' sz 0 a 0 cap [] (by simp) (λj v h=>by simp at h)
   simpa using this
 ·subst hss
  obtain⟨news,g1,g2,g3⟩:=Sh hE h0
  refine⟨news,g1,by simp[Builtin.lenOf],λk hk w' YI=>?_,g3⟩
  subst ha
  refine run_firstCells_some (P:=P) w' sy k ⟨b,off,none⟩ _ cap (news.take (k*sy)) ?_ λj u hj=>?_
  ·have:=bD sy hk
   simp;omega
  ·rw[vu (by rw[YI];exact hh)]
   rw[aF]at hj
   split at hj
   ·exact g2 j u hj
   ·cases hj
theorem z8{c:Ctx}(h0:0<sz)(h:si R y=some (sy,ys))(hs:sy=sz\/ys.l=[])(hm:Mem c w)(hA:mf c R)(hr:Rep c w y v):Src P c w v ys.l sz:=by
 cases y<;>simp only[si]at h<;>try(cases h;done)
 case c8=>cases h;rw[show v=_ from hr];exact I9 (sy:=sz) h0 (es:=[]) (.inl rfl)
 case emp=>cases h;obtain⟨a,hv,_⟩:=hr;rw[hv];exact I9 (sy:=sz) h0 (es:=[]) (.inl rfl)
 case sl s es fr=>
  cases h
  obtain⟨a,cap,hv,hc,ie⟩:=hr
  rw[hv]
  refine I9 (sy:=sy) h0 ?_
  rcases ie with ie|⟨b,off,arr,ty,fz,ha,hI,hf,hh,hE⟩
  ·exact .inl ie
  ·rcases hs with hs|hs
   ·exact .inr ⟨hs,b,off,arr,ty,fz,ha,hh,hE⟩
   ·exact .inl hs
 case all r=>
  split at h
  ·rename_i ty s es hR
   cases h
   obtain⟨row,g1,g2,hv⟩:=hr
   have:=hA r row _ g1 hR
   subst this
   rcases hv with⟨hV,a,hv,_⟩|⟨hV,cap,arr,hv,g3,g4,g5,g6⟩
   ·have he:=(hm.nm g1 hV).2.1
    simp only at he
    rw[hv,he]
    exact I9 (sy:=sz) h0 (es:=[]) (.inl rfl)
   ·obtain⟨iJ,jE,iU,hx⟩:=hm.real g1 hV
    simp only at g5 jE hx hv
    rw[g5]at jE;cases jE
    simp only[aA,if_false]at hx
    rw[hv]
    refine I9 (sy:=sy) h0 ?_
    rcases hs with hs|hs
    ·exact .inr ⟨hs,_,0,arr,_,_,rfl,g5,hx⟩
    ·exact .inl hs
  ·cases h
 case own r o n=>
  split at h
  ·rename_i ty s es hR
   cases h
   obtain⟨row,g1,g2,g5,hv⟩:=hr
   have:=hA r row _ g1 hR
   subst this
   simp only at g5
   have hlen:((es.l.drop o).take n).length=n:=by simp only[aD,aG];omega
   rw[ai.iY,ai.kj]at hs⊢
   rcases hv with⟨g7,a,hv,_⟩|⟨hV,cap,arr,g3,g4,g6,hv,g7⟩
   ·subst g7
    rw[hv]
    have:=I9 (P:=P) (c:=c) (w:=w) (sy:=sz) h0 (es:=(es.l.drop o).take 0) (a:=a) (cap:=0) (.inl (by simp))
    simpa using this
   ·obtain⟨iJ,jE,iU,hx⟩:=hm.real g1 hV
    simp only at g6 jE hx hv
    rw[g6]at jE;cases jE
    simp only[aA,if_false]at hx
    have hE:=LY (n:=n) (J4 (l:=o) hx)
    have:=I9 (P:=P) (c:=c) (w:=w) (sy:=sy) h0 (es:=(es.l.drop o).take n) (a:=some ⟨c.ρ r,o*sy,none⟩) (cap:=cap) (by
     rcases hs with hs|hs
     ·exact .inr ⟨hs,_,o*sy,arr,_,_,rfl,g6,by simpa using hE⟩
     ·exact .inl hs)
    rw[hlen]at this
    rw[hv];exact this
  ·cases h
theorem y8{c:Ctx}{ke kx:TK}(h0:0<sz)(h:Cs R ke kx y=some (sy,ys))(hs:sy=sz\/ys.l=[])(hm:Mem c w)(hA:mf c R)(hr:Rep c w y v):Src P c w v ys.l sz:=by
 unfold Cs at h
 split at h
 ·exact z8 h0 h hs hm hA hr
 ·split at h
  ·rename_i s
   cases h
   have hv:=Rep.str.1 hr
   subst hv
   have ft:(ByteArray.mk s.toArray).size=s.length:=by simp[ByteArray.size]
   have ext:∀k,((ByteArray.mk s.toArray).extract 0 k).data.toList=s.take k:=λk=>by
    simp[ByteArray.data_extract]
   have hf:∀k w',(Builtin.firstCells sz k (.string ⟨s.toArray⟩)).run P w'=.ok ((s.map λb=>Value.int .u8 b.toNat).take k).toArray w':=λk w'=>by
    simp only[Builtin.firstCells,Sem.run_pure]
    congr 1
    apply fJ
    simp only[Array.toList_map,ext,List.map_take]
   rcases hs with hs|hs
   ·subst hs
    exact⟨s.map λb=>Value.int .u8 b.toNat,by simp[o8,ai.len],by simp[Builtin.lenOf,o8,ai.len,ft],λk hk w' _=>by rw[hf];simp,Zns s⟩
   ·have:s=[]:=by simpa[o8,ai.l]using hs
    subst this
    exact⟨[],by simp[o8,ai.len],by simp[Builtin.lenOf,o8,ai.len,ft],λk hk w' _=>by rw[hf];simp,by simp[o8,ai.l,pY,pK]⟩
  ·cases h
 ·cases h
def Ctx.jv(c:Ctx)(k:Nat)(row:Row):Ctx:={c with R:=λr=>if r=k then some row else c.R r,V:=λr=>r=k\/c.V r}
theorem SE{c:Ctx}(hk:c.R k=none)(row:Row):jc c w (c.jv k row) w:=by
 refine⟨rfl,aX _,λb hb=>⟨hb,rfl⟩,λr x hr=>?_⟩
 have gu:r≠k:=λe=>by rw[e,hk]at hr;cases hr
 exact⟨x,by simp[Ctx.jv,gu,hr],rfl,rfl,rfl,rfl,rfl,by simp[Ctx.jv,gu],λ_ arr ha=>⟨arr,ha,rfl⟩⟩
theorem Wp{c:Ctx}(hm:Mem c w)(hk:c.R k=none)(hb:row.box=false)(he:row.es.l=[])(h0:0<row.sz):Mem (c.jv k row) w:=by
 have hg:=SE (w:=w) hk row
 have inv:∀r x,(c.jv k row).R r=some x->¬(c.jv k row).V r->c.R r=some x/\¬c.V r:=λr x hr hv=>by
  have h1:¬r=k:=λe=>hv (.inl e)
  exact⟨by simpa[Ctx.jv,h1]using hr,λe=>hv (.inr e)⟩
 refine⟨λr x hr=>?_,λr s x y hr hs v1 v2 h=>?_,λb ij=>⟨(hm.fg b ij).1,λr x hr v=>?_⟩,hm.top,hm.jZ⟩
 ·by_cases e:r=k
  ·subst e
   simp only[Ctx.jv,if_true,Option.some.injEq]at hr
   subst hr
   exact .inl ⟨.inl rfl,hb,he,h0⟩
  ·have pE:c.R r=some x:=by simpa[Ctx.jv,e]using hr
   exact tk hg rfl (by simp[Ctx.jv,e]) (λ_=>rfl) (hm.row r x pE)
 ·obtain⟨h1,h2⟩:=inv r x hr v1
  obtain⟨h3,h4⟩:=inv s y hs v2
  exact hm.inj r s x y h1 h3 h2 h4 h
 ·obtain⟨h1,h2⟩:=inv r x hr v
  exact(hm.fg b ij).2 r x h1 h2
theorem JZ(c:Ctx)(w:World):jc c w c w.drew:=⟨rfl,aX _,λb hb=>⟨hb,rfl⟩,λr row hr=>⟨row,hr,rfl,rfl,rfl,rfl,rfl,Iff.rfl,λ_ arr ha=>⟨arr,ha,rfl⟩⟩⟩
theorem HF{c:Ctx}(h:Mem c w):Mem c w.drew:=
 ⟨λr row hr=>tk (JZ c w) rfl Iff.rfl (λ_=>rfl) (h.row r row hr),h.inj,h.fg,h.top,h.jZ⟩
theorem Si{es ys:List (List D)}{A B C:List Value}(h1:im I w es A.toArray 0 sz)(hA:A.length=es.length*sz)(h2:im I w ys B.toArray 0 sz)(hB:B.length=ys.length*sz):im I w (es++ys) (A++B++C).toArray 0 sz:=by
 rw[tn]at h1 h2⊢
 intro i hi
 by_cases bh:i<es.length
 ·have he:(es++ys).getD i []=es.getD i []:=by simp[aV,bI bh]
  rw[he]
  obtain⟨g1,g2⟩:=h1 i bh
  refine⟨g1,?_⟩
  rw[tP]at g2⊢
  intro j hj
  obtain⟨v,hv,hp⟩:=g2 j hj
  refine⟨v,?_,hp⟩
  have hl:=(Array.getElem?_eq_some_iff.1 hv).1
  simp only[bH,aK]at hv hl⊢
  rw[aM,bI hl];exact hv
 ·have iF:i-es.length<ys.length:=by simp at hi;omega
  have he:(es++ys).getD i []=ys.getD (i-es.length) []:=by simp[aV,bJ (show es.length<=i by omega)]
  rw[he]
  obtain⟨g1,g2⟩:=h2 _ iF
  refine⟨g1,?_⟩
  rw[tP]at g2⊢
  intro j hj
  obtain⟨v,hv,hp⟩:=g2 j hj
  refine⟨v,?_,hp⟩
  have hl:=(Array.getElem?_eq_some_iff.1 hv).1
  simp only[bH,aK]at hv hl⊢
  have e:0+i*sz+j=A.length+(0+(i-es.length)*sz+j):=by
   rw[hA,show i*sz=(es.length+(i-es.length))*sz by congr 1;omega,bK];omega
  rw[e,aM,bJ (by omega),bI (by omega)]
  rw[show A.length+(0+(i-es.length)*sz+j)-A.length=0+(i-es.length)*sz+j by omega]
  exact hv
theorem qS{c:Ctx}(hm:Mem c w){row ao:Row}{cur arr:Array Value}(hr:c.R r=some row)(hV:¬c.V r)(hk:c.R k=none)(hh:w.heap[c.ρ r]?=some (.cells cur row.ty (0,0)))(JW:ao.ty=row.ty)(h0:0<ao.sz)(hb:ao.box=false)
 (hE:∀w',(∀b,c.I b->w'.heap[b]?=w.heap[b]?)->im c.I w' ao.es.l arr 0 ao.sz):
 jc (c.kill [r]) w ((c.kill [r]).add k ao (c.ρ r)) (w.setRow (c.ρ r) arr)/\Mem ((c.kill [r]).add k ao (c.ρ r)) (w.setRow (c.ρ r) arr):=by
 have tI:=Sg (ks:=[r]) hm
 have Bm:(c.kill [r]).R k=none:=by simp[Ctx.kill,hk]
 have mZ:∀s x,(c.kill [r]).R s=some x->s≠r/\s≠k:=λs x hs=>by
  obtain⟨h1,jK,h2,_⟩:=na hs
  refine⟨λe=>?_,λe=>by rw[e,Bm]at hs;cases hs⟩
  rw[e]at h1
  have:=nN (r:=r) (l:=[r])
  simp[h1]at this
 have e6:(w.setRow (c.ρ r) arr).heap[c.ρ r]?=some (.cells arr row.ty (0,0)):=setRow_heap w _ _ _ _ _ hh
 have rT:∀s x,(c.kill [r]).R s=some x->¬c.V s->(w.setRow (c.ρ r) arr).heap[c.ρ s]?=w.heap[c.ρ s]? :=λs x hs v=>setRow_other w _ _ _ λe=>by
  obtain⟨_,jK,h2,_⟩:=na hs
  exact(mZ s x hs).1 (hm.inj s r jK row h2 hr v hV e)
 have hI:∀b,c.I b->(w.setRow (c.ρ r) arr).heap[b]?=w.heap[b]? :=λb hb=>setRow_other w _ _ _ (λe=>(hm.fg b hb).2 r row hr hV e.symm)
 have hg:jc (c.kill [r]) w ((c.kill [r]).add k ao (c.ρ r)) (w.setRow (c.ρ r) arr):=by
  refine⟨rfl,aX _,λb hb=>⟨hb,hI b hb⟩,λs x hs=>?_⟩
  obtain⟨n1,n2⟩:=mZ s x hs
  exact⟨x,by simp[Ctx.add,n2,hs],rfl,rfl,rfl,rfl,by simp[Ctx.add,n2],by simp[Ctx.add,n2],λv a ha=>⟨a,(rT s x hs v).trans ha,rfl⟩⟩
 have inv:∀s x,((c.kill [r]).add k ao (c.ρ r)).R s=some x->¬((c.kill [r]).add k ao (c.ρ r)).V s->(s=k/\((c.kill [r]).add k ao (c.ρ r)).ρ s=c.ρ r)\/(s≠k/\s≠r/\((c.kill [r]).add k ao (c.ρ r)).ρ s=c.ρ s/\¬c.V s/\∃y,c.R s=some y):=λs x hs v=>by
  by_cases e:s=k
  ·exact .inl ⟨e,by simp[Ctx.add,e]⟩
  ·have iU:(c.kill [r]).R s=some x:=by simpa[Ctx.add,e]using hs
   obtain⟨_,y,hy,_⟩:=na iU
   have v':¬c.V s:=λh=>v (by simp only[Ctx.add];exact⟨e,h⟩)
   exact .inr ⟨e,(mZ s x iU).1,by simp[Ctx.add,e,Ctx.kill],v',y,hy⟩
 refine⟨hg,⟨λs x hs=>?_,λs q x y hs hq v1 v2 he=>?_,λb ij=>?_,by show c.top<=(w.setRow _ _).heap.size;simpa[World.setRow]using hm.top,hm.jZ.mono hg.I⟩⟩
 ·by_cases e:s=k
  ·subst e
   simp only[Ctx.add,if_true,Option.some.injEq]at hs
   subst hs
   refine .inr ⟨by simp[Ctx.add],arr,by simp only[Ctx.add,if_true];rw[JW];exact e6,h0,?_⟩
   rw[hb]
   simp only[aA,if_false]
   exact hE _ hI
  ·have iU:(c.kill [r]).R s=some x:=by simpa[Ctx.add,e]using hs
   exact tk hg (by simp[Ctx.add,e]) (by simp[Ctx.add,e]) (λv=>rT s x iU v) (tI.row s x iU)
 ·rcases inv s x hs v1 with⟨e1,p1⟩|⟨e1,p1,p2,p3,y1,p4⟩<;>rcases inv q y hq v2 with⟨e2,q1⟩|⟨e2,q1,q2,q3,y2,q4⟩
  ·rw[e1,e2]
  ·rw[p1,q2]at he
   exact(q1 (hm.inj q r y2 row q4 hr q3 hV he.symm)).elim
  ·rw[p2,q1]at he
   exact(p1 (hm.inj s r y1 row p4 hr p3 hV he)).elim
  ·rw[p2,q2]at he
   exact hm.inj s q y1 y2 p4 q4 p3 q3 he
 ·refine⟨by simpa[World.setRow]using(hm.fg b ij).1,λs x hs v=>?_⟩
  rcases inv s x hs v with⟨e1,p1⟩|⟨e1,p1,p2,p3,y1,p4⟩
  ·rw[p1];exact(hm.fg b ij).2 r row hr hV
  ·rw[p2];exact(hm.fg b ij).2 s y1 p4 p3
def BB(P:Program)(o:Oper)(ev:Operand->D)(R:Rows)(ks:List Nat)(val:D)(R':Rows):Prop:=
 ∀ (c:Ctx) (w:World) (a:Act),Mem c w->c.base<=w.heap.size->(∀r,c.R r=R.getD r none)->(∀x∈o.op.operands,Rep c w (ev x) (a.eval x))->
  ∀K Q,(∀v w' c',jN ks c w c' w'->(∀r,c'.R r=R'.getD r none)->Rep c' w' val v->K (a.put o.dst v) w')->o.nd P a w K Q
theorem Ek.toK{o:Oper}{val:D}{R':Rows}(h:Ek P o ev R val R'):BB P o ev R [] val R':=
 λc w a hm hb hR eh K Q hK=>h c w a hm hb hR eh K Q λv w' c' hn j7 hv=>hK v w' c' hn.toK j7 hv
section
variable {P:Program} {c:Ctx} {w:World} {R:Rows} {ks:List Nat} {e sz lz:Nat} {es ys:ai}
theorem Uo{ρ':Nat->Nat}{V':Nat->Prop}(hR:∀r,c.R r=R.getD r none):∀r,(if r=R.length then some row else(c.kill ks).R r)=(rO ks R 0++[some row]).getD r none:=by
 intro r
 by_cases e:r=R.length
 ·subst e
  simp[aV,bJ,I8]
 ·rw[if_neg e]
  by_cases bh:r<R.length
  ·rw[aV,bI (by rw[I8];exact bh),<-aV,PD]
   simp[Ctx.kill,hR]
  ·rw[aV,aJ (by simp[I8];omega)]
   simp[Ctx.kill,hR,aJ (show R.length<=r by omega)]
theorem append_empty(ht:P.underlying t=some (.slice e))(pr:P.underlying tx=some ux)(hx: ∀k,ux≠ .int k)(hi:P.info? e=some i)(hz:i.zero=some z)(ft:i.size=sz)(uv:i.bytes=lz)(AJ:z.cells.size=sz)
    (hm:Mem c w) (hb:c.base<=w.heap.size) (hR: ∀r,c.R r=R.getD r none) (h0:0<sz) (sC:0<lz) (om:lz*(0+ys.l.length)<=140737488355328) {a:Option Addr} (Ct:Cu c.top a) {vy:Value} (hs:Src P c w vy ys.l sz):
    ∃v' w' c',(Builtin.append_ #[t,tx] ty #[.slice a 0 0,vy]).run P w= .ok v' w'/\jN ks c w c' w'/\(∀r,c'.R r=(rO ks R 0++[some (⟨false,e,sz,ys⟩:Row)]).getD r none)/\Rep c' w' (.all R.length) v':=by
  obtain⟨news,g1,g2,g3,g4⟩:=hs
  have hk:c.R R.length=none:=by rw[hR];simp [aV]
  have Bm:(c.kill ks).R R.length=none:=by simp [Ctx.kill,hk]
  have tI:=Sg (ks:=ks) hm
  subst ft
  by_cases hm0:ys.l.length=0
  . have SJ:ys.l=[]:=fB hm0
    have hn:news=[]:=fB (by rw[g1,hm0];simp)
    subst hn
    rw[SJ]at g2 g3
    have il:=Qpu (P:=P) w (ty:=ty) (n:=0) (cap:=0) (a:=a) (w':=w) ht pr hx hi g2 (by simpa using g3 0 (aX _) w rfl) (by simp) (λb _=>by simp [storeCells]) (λ_=>rfl)
    refine⟨_,w,(c.kill ks).jv R.length ⟨false,e,i.size,ys⟩,il,⟨Wp tI Bm rfl SJ h0,SE Bm _,Fr.refl _ w,λb hb=> .inl hb,λr ao h1 h2=> ?_⟩,Uo (ρ':=c.ρ) (V':=c.V) hR,?_⟩
    . have gu:r≠R.length:=λe=>h2 (.inl e)
      have rU:(c.kill ks).R r=some ao:=by simpa [Ctx.jv,gu] using h1
      obtain⟨_,jK,h3,_⟩:=na rU
      exact .inl ⟨⟨jK,h3⟩,λe=>h2 (.inr e),rfl⟩
    . exact⟨⟨false,e,i.size,ys⟩,by simp [Ctx.jv],rfl, .inl ⟨.inl rfl,a,rfl,Ct⟩⟩
  . have hlen:(0+ys.l.length:Nat)*i.bytes<=140737488355328:=by rw[uv,fL];exact om
    have Il:0+ys.l.length<=140737488355328:=bL (fM _ (by rw[uv];exact sC)) hlen
    have YJ:0+ys.l.length<=maxLen:=by unfold maxLen;omega
    have il:=Qq0 (P:=P) w (ty:=ty) (n:=0) (cap:=0) (a:=a) (kM:=[]) (news:=news) ht pr hx hi hz g2
      (by have:=g3 _ (aX _) w.drew rfl;rwa [fE (by omega)]at this)
      (by cases a with
          |none=>simp [Builtin.firstCells]
          |some a=>simpa using run_firstCells_some (P:=P) w.drew i.size 0 a 0 0 [] (by simp) (λj v h=>by simp at h)) (by omega) (by omega) (growslice_fits (by omega) hlen)
    have gl:=grownCap_ge w (0+ys.l.length) 0 e
    have Ag:grownCap w (0+ys.l.length) 0 e<=maxLen:=grownCap_le_maxLen w _ _ e YJ
    generalize grownCap w (0+ys.l.length) 0 e=gc at il gl Ag
    have pw:(#[]++news.toArray++Builtin.zeroCells z.cells (gc-(0+ys.l.length))).size=gc*i.size:=by
      have e1:(#[]++news.toArray++Builtin.zeroCells z.cells (gc-(0+ys.l.length))).size=ys.l.length*i.size+(gc-(0+ys.l.length))*i.size:=by
        simp [size_zeroCells,AJ,g1]
      rw[e1,<-bK]
      congr 1;omega
    have hE: ∀(I:ae) (w':World),(∀b,c.I b->I b/\w'.heap[b]? =w.heap[b]?)->im I w' ys.l (#[]++news.toArray++Builtin.zeroCells z.cells (gc-(0+ys.l.length))) 0 i.size:=λI w' h=>by
      have:=Si (I:=I) (w:=w') (es:=[]) (ys:=ys.l) (A:=[]) (B:=news) (C:=(Builtin.zeroCells z.cells (gc-(0+ys.l.length))).toList) (sz:=i.size) (by simp [pY,pK]) (by simp) (nq h _ _ _ _ g4) g1
      have h2:(#[]++news.toArray++Builtin.zeroCells z.cells (gc-(0+ys.l.length)))=([]++news++(Builtin.zeroCells z.cells (gc-(0+ys.l.length))).toList).toArray:=by apply fJ;simp
      rw[h2];simpa using this
    have GU:=Mem.alloc (w:=w.drew) (HF tI) Bm ⟨false,e,i.size,ys⟩ (#[]++news.toArray++Builtin.zeroCells z.cells (gc-(0+ys.l.length))) h0 (by
      simp only[aA,if_false]
      exact hE _ _ λb hb=>⟨hb,rfl⟩)
    have oq:=Up (c:=c.kill ks) (w:=w.drew) (k:=R.length) (e:=e) (sz:=i.size) (cap:=gc) (es:=ys) (arr:= #[]++news.toArray++Builtin.zeroCells z.cells (gc-(0+ys.l.length))) (by omega) Ag pw.symm
    refine⟨_,_,(c.kill ks).add R.length ⟨false,e,i.size,ys⟩ w.heap.size,il,⟨GU,(JZ _ w).trans (jc.alloc (w:=w.drew) (HF tI) Bm _ _),?_,λb hb=> .inl hb,λr ao h1 h2=> ?_⟩,Uo (ρ':=c.ρ) (V':=c.V) hR,by have h3:=oq;simp only[bG]at h3⊢;exact h3⟩
    . exact Fr.trans (w':=w.drew) ⟨rfl,rfl,rfl,aX _,λ_ _ _=>rfl⟩ (Fr.alloc _ w.drew _)
    . by_cases e1:r=R.length
      . subst e1
        right;right
        simp [Ctx.add]
      . have rU:(c.kill ks).R r=some ao:=by simpa [Ctx.add,e1] using h1
        obtain⟨_,jK,h3,_⟩:=na rU
        exact .inl ⟨⟨jK,h3⟩,by simpa [Ctx.add,e1,Ctx.kill] using h2,by simp [Ctx.add,e1,Ctx.kill]⟩
theorem Zik(ht:P.underlying t=some (.slice e))(pr:P.underlying tx=some ux)(hx:∀k,ux≠.int k)(hi:P.info? e=some i)(hz:i.zero=some z)(ft:i.size=sz)(uv:i.bytes=lz)(AJ:z.cells.size=sz)
 (hm:Mem c w) (hb:c.base<=w.heap.size) (hR:∀r,c.R r=R.getD r none) (h0:0<sz) (sC:0<lz) (om:lz*(es.l.length+ys.l.length)<=140737488355328) {r:Nat} {row:Row} (q1:c.R r=some row) (JW:row.ty=e) (hV:¬c.V r) {cap:Nat} {cur:Array Value} (h1:es.l.length<=cap) (h2:cap<=maxLen) (h3:w.heap[c.ρ r]?=some (.cells cur e (0,0))) (h4:cap*sz=cur.size) (Bn:im c.I w es.l cur 0 sz) {vy:Value} (hs:Src P c w vy ys.l sz):
 ∃v' w' c',(Builtin.append_ #[t,tx] ty #[.slice (some ⟨c.ρ r,0,none⟩) es.l.length cap,vy]).run P w=.ok v' w'/\jN [r] c w c' w'/\(∀q,c'.R q=(rO [r] R 0++[some (⟨false,e,sz,es.app ys⟩:Row)]).getD q none)/\Rep c' w' (.all R.length) v':=by
 obtain⟨news,g1,g2,g3,g4⟩:=hs
 have hk:c.R R.length=none:=by rw[hR];simp[aV]
 have Bm:(c.kill [r]).R R.length=none:=by simp[Ctx.kill,hk]
 have tI:=Sg (ks:=[r]) hm
 subst ft
 have hlen:(es.l.length+ys.l.length)*i.bytes<=140737488355328:=by rw[uv,fL];exact om
 have Il:es.l.length+ys.l.length<=140737488355328:=bL (fM _ (by rw[uv];exact sC)) hlen
 have YJ:es.l.length+ys.l.length<=maxLen:=by unfold maxLen;omega
 obtain⟨kM,o1,o2,o3⟩:=Sh Bn h0
 by_cases kK:es.l.length+ys.l.length<=cap
 ·have mK:es.l.length*i.size+0+news.length<=cur.size:=by rw[g1,<-h4,aB,<-bK];exact bD _ kK
  have j0:=run_storeCells_at (P:=P) (c.ρ r) (es.l.length*i.size) e news 0 cur w h3 mK (im.one g4 g1)
  simp only[aB]at j0 mK
  have il:=Qpu (P:=P) w (ty:=ty) (n:=es.l.length) (cap:=cap) (a:=some ⟨c.ρ r,0,none⟩) ht pr hx hi g2 (by have:=g3 _ (aX _) w rfl;rwa [fE (by omega)]at this) kK (λb hb=>by cases hb;rw[Addr.add_lit,bG];exact j0) (λh=>by cases h)
  have hE:∀w',(∀b,c.I b->w'.heap[b]?=w.heap[b]?)->im c.I w' (es.app ys).l (cur.toList.take (es.l.length*i.size)++news++cur.toList.drop (es.l.length*i.size+news.length)).toArray 0 i.size:=λw' h=>by
   rw[ai.j8]
   refine Si (A:=cur.toList.take (es.l.length*i.size)) (nq (λb hb=>⟨hb,h b hb⟩) _ _ _ _ ?_) (by rw[aD,show cur.toList.length=cur.size from rfl];omega) (nq (λb hb=>⟨hb,h b hb⟩) _ _ _ _ g4) g1
   have:cur.toList.take (es.l.length*i.size)=kM:=by
    apply List.ext_getElem?
    intro j
    by_cases hj:j<kM.length
    ·have:=o2 j _ (aI hj)
     rw[aF,if_pos (by omega),aI hj]
     simpa using this
    ·rw[aJ (by rw[aD];omega),aJ (by omega)]
   rw[this];exact o3
  obtain⟨k1,k2⟩:=qS hm (k:=R.length) (ao:=⟨false,e,i.size,es.app ys⟩) q1 hV hk (by rw[JW];exact h3) JW.symm h0 rfl hE
  refine⟨_,_,_,il,⟨k2,k1,(Qm w _ _).mono λb _ hb=>⟨r,_,q1,hV,hb.symm⟩,λb hb=>.inl hb,λq ao p1 p2=>?_⟩,Uo (ρ':=c.ρ) (V':=c.V) hR,?_⟩
  ·by_cases e1:q=R.length
   ·subst e1
    exact .inr (.inl ⟨r,_,by simp[da],q1,hV,by simp[Ctx.add]⟩)
   ·have rU:(c.kill [r]).R q=some ao:=by simpa[Ctx.add,e1]using p1
    obtain⟨_,jK,MS,_⟩:=na rU
    exact .inl ⟨⟨jK,MS⟩,by simpa[Ctx.add,e1,Ctx.kill]using p2,by simp[Ctx.add,e1,Ctx.kill]⟩
  ·refine⟨⟨false,e,i.size,es.app ys⟩,by simp[Ctx.add],rfl,.inr ⟨by simp[Ctx.add],cap,(cur.toList.take (es.l.length*i.size)++news++cur.toList.drop (es.l.length*i.size+news.length)).toArray,?_,by rw[ai.j8,lA];exact kK,h2,?_,?_⟩⟩
   ·simp only[Ctx.add,if_true,ai.j8,lA]
   ·simp only[Ctx.add,if_true];exact setRow_heap w _ _ _ _ _ h3
   ·simp only[aK,lA,aD,aG,Array.length_toList]
    rw[h4];omega
 ·have il:=Qq0 (P:=P) w (ty:=ty) (n:=es.l.length) (cap:=cap) (a:=some ⟨c.ρ r,0,none⟩) (kM:=kM) (news:=news) ht pr hx hi hz g2
   (by have:=g3 _ (aX _) w.drew rfl;rwa [fE (by omega)]at this)
   (run_firstCells_some (P:=P) w.drew i.size es.l.length _ _ cap kM o1 λj v hj=>by
    rw[vu (w:=w.drew) h3];exact o2 j v hj) (by omega) (by omega) (growslice_fits (by omega) hlen)
  have gl:=grownCap_ge w (es.l.length+ys.l.length) cap e
  have Ag:grownCap w (es.l.length+ys.l.length) cap e<=maxLen:=grownCap_le_maxLen w _ _ e YJ
  generalize grownCap w (es.l.length+ys.l.length) cap e=gc at il gl Ag
  have pw:(kM.toArray++news.toArray++Builtin.zeroCells z.cells (gc-(es.l.length+ys.l.length))).size=gc*i.size:=by
   have e1:(kM.toArray++news.toArray++Builtin.zeroCells z.cells (gc-(es.l.length+ys.l.length))).size=es.l.length*i.size+ys.l.length*i.size+(gc-(es.l.length+ys.l.length))*i.size:=by
    simp[size_zeroCells,AJ,g1,o1]
   rw[e1,<-bK,<-bK]
   congr 1;omega
  have hE:∀(I:ae) (w':World),(∀b,c.I b->I b/\w'.heap[b]?=w.heap[b]?)->im I w' (es.app ys).l (kM.toArray++news.toArray++Builtin.zeroCells z.cells (gc-(es.l.length+ys.l.length))) 0 i.size:=λI w' h=>by
   rw[ai.j8]
   have:=Si (I:=I) (w:=w') (es:=es.l) (ys:=ys.l) (A:=kM) (B:=news) (C:=(Builtin.zeroCells z.cells (gc-(es.l.length+ys.l.length))).toList) (sz:=i.size) (nq h _ _ _ _ o3) o1 (nq h _ _ _ _ g4) g1
   have h2:(kM.toArray++news.toArray++Builtin.zeroCells z.cells (gc-(es.l.length+ys.l.length)))=(kM++news++(Builtin.zeroCells z.cells (gc-(es.l.length+ys.l.length))).toList).toArray:=by apply fJ;simp
   rw[h2];exact this
  have GU:=Mem.alloc (w:=w.drew) (HF tI) Bm ⟨false,e,i.size,es.app ys⟩ (kM.toArray++news.toArray++Builtin.zeroCells z.cells (gc-(es.l.length+ys.l.length))) h0 (by
   simp only[aA,if_false]
   exact hE _ _ λb hb=>⟨hb,rfl⟩)
  have oq:=Up (c:=c.kill [r]) (w:=w.drew) (k:=R.length) (e:=e) (sz:=i.size) (cap:=gc) (es:=es.app ys) (arr:=kM.toArray++news.toArray++Builtin.zeroCells z.cells (gc-(es.l.length+ys.l.length))) (by rw[ai.j8,lA];omega) Ag pw.symm
  refine⟨_,_,(c.kill [r]).add R.length ⟨false,e,i.size,es.app ys⟩ w.heap.size,il,⟨GU,(JZ _ w).trans (jc.alloc (w:=w.drew) (HF tI) Bm _ _),?_,λb hb=>.inl hb,λq ao p1 p2=>?_⟩,Uo (ρ':=c.ρ) (V':=c.V) hR,by rw[ai.j8,lA]at oq;exact oq⟩
  ·exact Fr.trans (w':=w.drew) ⟨rfl,rfl,rfl,aX _,λ_ _ _=>rfl⟩ (Fr.alloc _ w.drew _)
  ·by_cases e1:q=R.length
   ·subst e1
    right;right
    simp[Ctx.add]
   ·have rU:(c.kill [r]).R q=some ao:=by simpa[Ctx.add,e1]using p1
    obtain⟨_,jK,MS,_⟩:=na rU
    exact .inl ⟨⟨jK,MS⟩,by simpa[Ctx.add,e1,Ctx.kill]using p2,by simp[Ctx.add,e1,Ctx.kill]⟩
theorem Zt9(ht:P.underlying t=some (.slice e))(pr:P.underlying tx=some ux)(hx:∀k,ux≠.int k)(hi:P.info? e=some i)(hz:i.zero=some z)(ft:i.size=sz)(uv:i.bytes=lz)(AJ:z.cells.size=sz)
 (hm:Mem c w) (hb:c.base<=w.heap.size) (hR:∀r,c.R r=R.getD r none) (h0:0<sz) (sC:0<lz) (om:lz*(es.l.length+ys.l.length)<=140737488355328) {r:Nat} (hr:R.getD r none=some ⟨false,e,sz,es⟩) {vx vy:Value} (YL:Rep c w (.all r) vx) (hs:Src P c w vy ys.l sz):
 ∃v' w' c',(Builtin.append_ #[t,tx] ty #[vx,vy]).run P w=.ok v' w'/\jN [r] c w c' w'/\(∀q,c'.R q=(rO [r] R 0++[some (⟨false,e,sz,es.app ys⟩:Row)]).getD q none)/\Rep c' w' (.all R.length) v':=by
 obtain⟨row,q1,q2,hv⟩:=YL
 have cz:row=⟨false,e,sz,es⟩:=by rw[hR,hr]at q1;exact(Option.some.inj q1).symm
 subst cz
 rcases hv with⟨hV,a,hv,Ct⟩|⟨hV,cap,cur,hv,h1,h2,h3,h4⟩
 ·have he:=(hm.nm q1 hV).2.1
  simp only at he
  subst hv
  have hl:(es.app ys).l=ys.l:=by rw[ai.j8,he];rfl
  exact append_empty (ks:=[r]) (ys:=es.app ys) ht pr hx hi hz ft uv AJ hm hb hR h0 sC (by rw[hl];rw[he]at om;simpa using om) Ct (by rw[hl];exact hs)
 ·have hl:=hm.real q1 hV
  obtain⟨MN,jE,_,Bn⟩:=hl
  simp only at h1 h3 h4 hv jE
  subst hv
  rw[h3]at jE;cases jE
  simp only[aA,if_false]at Bn
  exact Zik ht pr hx hi hz ft uv AJ hm hb hR h0 sC om q1 rfl hV h1 h2 h3 h4 Bn hs
theorem Zrx(ht:P.underlying t=some (.slice e))(pr:P.underlying tx=some ux)(hx:∀k,ux≠.int k)(hi:P.info? e=some i)(hz:i.zero=some z)(ft:i.size=sz)(uv:i.bytes=lz)(AJ:z.cells.size=sz)
 (hm:Mem c w) (hb:c.base<=w.heap.size) (hR:∀r,c.R r=R.getD r none) (h0:0<sz) (sC:0<lz) (om:lz*((es.take n).l.length+ys.l.length)<=140737488355328) {r:Nat} (hr:R.getD r none=some ⟨false,e,sz,es⟩) {vx vy:Value} (YL:Rep c w (.own r 0 n) vx) (hs:Src P c w vy ys.l sz):
 ∃v' w' c',(Builtin.append_ #[t,tx] ty #[vx,vy]).run P w=.ok v' w'/\jN [r] c w c' w'/\(∀q,c'.R q=(rO [r] R 0++[some (⟨false,e,sz,(es.take n).app ys⟩:Row)]).getD q none)/\Rep c' w' (.all R.length) v':=by
 obtain⟨row,q1,q2,hle,hv⟩:=YL
 have cz:row=⟨false,e,sz,es⟩:=by rw[hR,hr]at q1;exact(Option.some.inj q1).symm
 subst cz
 have hln:(es.take n).l.length=n:=by rw[ai.iY,aD];simp only at hle;omega
 rcases hv with⟨h0',a,hv,Ct⟩|⟨hV,cap,cur,h1,h2,h3,hv,h4⟩
 ·subst hv;subst h0'
  have DS:(es.take 0).l=[]:=by rw[ai.iY];rfl
  have hl:((es.take 0).app ys).l=ys.l:=by rw[ai.j8,DS];rfl
  have g:jc c w {c with top:=w.heap.size} w:=⟨rfl,hm.top,λb hb=>⟨hb,rfl⟩,λr row hr=>⟨row,hr,rfl,rfl,rfl,rfl,rfl,Iff.rfl,λnv arr ha=>⟨arr,ha,rfl⟩⟩⟩
  have HX:Mem {c with top:=w.heap.size} w:=⟨λr row hr=>tk g rfl Iff.rfl (λ_=>rfl) (hm.row r row hr),hm.inj,hm.fg,aX _,hm.jZ⟩
  have Gh:Cu w.heap.size a:=by
   rcases Ct with h|⟨hV,h⟩
   ·exact h.mono hm.top
   ·exactλx hx=>by rw[h x hx];exact hm.lt q1 hV
  obtain⟨v',w',c',p1,p2,p3,p4⟩:=append_empty (c:={c with top:=w.heap.size}) (ks:=[r]) (ys:=(es.take 0).app ys) ht pr hx hi hz ft uv AJ HX hb hR h0 sC (by rw[hl];rw[DS]at om;simpa using om) Gh (by rw[hl];exact hs)
  refine⟨v',w',c',p1,⟨p2.mem,?_,p2.fr,p2.fg,p2.ob⟩,p3,p4⟩
  have g':jc (c.kill [r]) w (Ctx.kill {c with top:=w.heap.size} [r]) w:=⟨rfl,hm.top,λb hb=>⟨hb,rfl⟩,λr row hr=>⟨row,hr,rfl,rfl,rfl,rfl,rfl,Iff.rfl,λnv arr ha=>⟨arr,ha,rfl⟩⟩⟩
  exact g'.trans p2.cy
 ·obtain⟨MN,jE,_,Bn⟩:=hm.real q1 hV
  simp only at h3 h4 hv jE
  rw[h3]at jE;cases jE
  simp only[aA,if_false]at Bn
  have hE1:im c.I w (es.take n).l cur 0 sz:=by rw[ai.iY];exact LY Bn
  rw[hv,show((0:Nat)*sz)=0 from Nat.zero_mul _]
  have:=Zik (ty:=ty) (es:=es.take n) (cap:=cap) ht pr hx hi hz ft uv AJ hm hb hR h0 sC om q1 rfl hV (by rw[hln];exact h1) h2 h3 (by rw[<-h4,bG]) hE1 hs
  rw[hln]at this
  exact this
end
theorem Sv{E:ai}(h:H9 E=true):E.l=[]:=by
 unfold H9 at h
 split at h
 ·rfl
 ·cases h
theorem Zpu{T:iy}(hT:Q4 P T){x y:D}(h:LZ T M t tx x y R K):
    ∃ ks R',K ks (.all R.length) R'/\(∀k,da k ks=true->M<=k)/\ ∀c w vx vy,Mem c w->c.base<=w.heap.size->(∀r,c.R r=R.getD r none)->Rep c w x vx->Rep c w y vy->
      ∃v' w' c',(Builtin.append_ #[t,tx] ty #[vx,vy]).run P w= .ok v' w'/\jN ks c w c' w'/\(∀r,c'.R r=R'.getD r none)/\Rep c' w' (.all R.length) v':=by
  unfold LZ at h
  split at h
  . rename_i e iI _ _ _ _ _ ht
    have hk:=mF hT ht
    simp only at hk
    split at h
    . rename_i ke sz lz cs z q kx _ _ _ _ _ he htx
      obtain⟨i,u,hi,hu,wU,hs,hb,hc,hzero⟩:=Qh hT he
      have Uq:=mF hT htx
      split at h
      . rename_i sy ys jV
        simp only[dd,aE,Bool.or_eq_true]at h
        obtain⟨⟨⟨⟨h0,h1⟩,h2,h3⟩,h4,h5⟩,h⟩:=h
        have h0:0<sz:=lE h0
        have sC:0<lz:=lE h4
        have h2:=bE h2
        have h5:sy=sz\/ys.l=[]:=h5.imp bE Sv
        have tD:u.cells.size=sz:=by have:=L0 wU;simp at this;omega
        obtain⟨ux,pr,nA⟩: ∃ux,P.underlying tx=some ux/\ ∀k,ux≠ .int k:=by
          unfold Cs at jV
          split at jV
          . simp only at Uq;exact⟨_,Uq.1,λk e=>by cases e⟩
          . simp only at Uq;exact⟨_,Uq,λk e=>by cases e⟩
          . cases jV
        have wA: ∀(c:Ctx) (w:World) (vy:Value),Mem c w->(∀r,c.R r=R.getD r none)->Rep c w y vy->Src P c w vy ys.l sz:=λc w vy hm hR hy=>y8 h0 jV h5 hm (λr row ao g1 g2=>by rw[hR,g2]at g1;exact(Option.some.inj g1).symm) hy
        cases x<;>simp only at h
        case c8=>
          simp only[Cv,dd,decide_eq_true_eq,nf,<-ai.iv]at h
          refine⟨_,_,h.2,λk hk=>by simp [da]at hk,λc w vx vy hm rI hR hx hy=> ?_⟩
          rw[show vx=_ from hx]
          have hl:((ai.gen []).app ys).l=ys.l:=by rw[ai.j8];rfl
          exact append_empty (ks:=[]) (ys:=(ai.gen []).app ys) hk.1 pr nA hi hu hs hb tD hm rI hR h0 sC (by rw[hl];have:=h.1;simpa [ai.l] using this) Qy (by rw[hl];exact wA c w vy hm hR hy)
        case emp=>
          simp only[Cv,dd,decide_eq_true_eq,nf,<-ai.iv]at h
          refine⟨_,_,h.2,λk hk=>by simp [da]at hk,λc w vx vy hm rI hR hx hy=> ?_⟩
          obtain⟨a,hx,Ct⟩:=hx
          rw[hx]
          have hl:((ai.gen []).app ys).l=ys.l:=by rw[ai.j8];rfl
          exact append_empty (ks:=[]) (ys:=(ai.gen []).app ys) hk.1 pr nA hi hu hs hb tD hm rI hR h0 sC (by rw[hl];have:=h.1;simpa [ai.l] using this) Ct (by rw[hl];exact wA c w vy hm hR hy)
        case all r=>
          split at h
          . rename_i jW s es hr
            simp only[aE,Cv,dd,decide_eq_true_eq,nf,<-ai.iv]at h
            obtain⟨⟨⟨g1,g2⟩,g3⟩,g5,g6⟩:=h
            have g1:=bE g1
            have g2:=bE g2
            subst g1;subst g2
            refine⟨_,_,g6,λk hk=> ?_,λc w vx vy hm rI hR hx hy=> ?_⟩
            . have:=nN.1 hk
              simp at this
              rw[this];exact lE g3
            . exact Zt9 hk.1 pr nA hi hu hs hb tD hm rI hR h0 sC g5 hr hx (wA c w vy hm hR hy)
          . exact h.elim
        case own r o n=>
          split at h
          . rename_i jW s es hr
            simp only[aE,Cv,dd,decide_eq_true_eq,nf,<-ai.iv]at h
            obtain⟨⟨⟨g1,g2⟩,g3,g4⟩,g5,g6⟩:=h
            have g1:=bE g1
            have g2:=bE g2
            have g4:=bE g4
            subst g1;subst g2;subst g4
            refine⟨_,_,g6,λk hk=> ?_,λc w vx vy hm rI hR hx hy=> ?_⟩
            . have:=nN.1 hk
              simp at this
              rw[this];exact lE g3
            . exact Zrx hk.1 pr nA hi hu hs hb tD hm rI hR h0 sC g5 hr hx (wA c w vy hm hR hy)
          . exact h.elim
      . exact h.elim
    . exact h.elim
  . exact h.elim
theorem Z8m{c:Ctx}(gu:∀f cs,d≠.gp f cs)(h:dc c w d v):dc {c with base:=0} w d v:=by
 cases d with
 |sl sz es fr=>
  obtain⟨a,cap,hv,hc,ie⟩:=h
  refine⟨a,cap,hv,hc,?_⟩
  rcases ie with ie|⟨b,off,arr,ty,fz,ha,hI,hf,hh,hE⟩
  ·exact .inl ie
  ·exact .inr ⟨b,off,arr,ty,fz,ha,hI,λ_=>Nat.zero_le _,hh,hE⟩
 |gp f cs=>exact absurd rfl (gu f cs)
 |_=>exact h
theorem YM{c:Ctx}(h:dc c w d v):dc {c with base:=0} w d v:=by
 by_cases e:∃g cs,d=.gp g cs
 ·obtain⟨g,cs,rfl⟩:=e
  obtain⟨us,hv,hu⟩:=h
  exact⟨us,hv,YF (c:=c) (w:=w) (c':={c with base:=0}) (w':=w) (S:=λ_=>True) (λd v q1 _ q2=>Z8m q1 q2) (λ_ hb=>⟨hb,rfl⟩) (λ_ _=>trivial) hu⟩
 ·exact Z8m (λf cs e'=>e ⟨f,cs,e'⟩) h
theorem Z69{c:Ctx}{w:World}:∀{ds:List D} {vs:List Value},jl c w ds vs->jl {c with base:=0} w ds vs
 |[],[],_=>trivial
 |_::_,_::_,h=>⟨YM h.1,Z69 h.2⟩
 |[],_::_,h=>h.elim
 |_::_,[],h=>h.elim
theorem Zbr{c:Ctx}(h:VRep c w d v):VRep {c with base:=0} w d v:=by
 cases d with
 |agg cs=>obtain⟨vs,hv,hr⟩:=h;exact⟨vs,hv,Z69 hr⟩
 |_=>exact VRep.Ei (YM (VRep.toC (λcs e=>by cases e) h))
theorem YN{c:Ctx}{w:World}:∀{ds:List D} {vs:List Value},kg c w ds vs->kg {c with base:=0} w ds vs
 |[],[],_=>trivial
 |_::_,_::_,h=>⟨Zbr h.1,YN h.2⟩
 |[],_::_,h=>h.elim
 |_::_,[],h=>h.elim
theorem Z24{c:Ctx}{w:World}:∀{ds:List D} {arr:Array Value} {off:Nat},kJ c w ds arr off->kJ {c with base:=0} w ds arr off
 |[],_,_,_=>trivial
 |_::_,_,_,⟨⟨v,hv,h1⟩,h2⟩=>⟨⟨v,hv,YM h1⟩,Z24 h2⟩
theorem Zjq{c:Ctx}(h:Mem c w):Mem {c with base:=0} w:=by
 refine⟨λr row hr=>?_,h.inj,h.fg,h.top,h.jZ⟩
 rcases h.row r row hr with h0|⟨h0,arr,ha,hs,hx⟩
 ·exact .inl h0
 ·refine .inr ⟨h0,arr,ha,hs,?_⟩
  split
  ·rename_i hb
   rw[if_pos hb]at hx
   obtain⟨e,k1,k2,k3,k4⟩:=hx
   exact⟨e,k1,k2,k3,Z24 k4⟩
  ·rename_i hb
   rw[if_neg hb]at hx
   exact hx
theorem Z2b{f:Nat->Nat}:∀{ids:List Nat} {rows:List Row} {R:Rows},ids.Nodup->ids.length<=rows.length->(∀r∈ids,r<R.length)->
 (EZ f ids rows R).length=R.length/\(∀(i r:Nat),ids[i]?=some r->∃row,rows[i]?=some row/\(EZ f ids rows R).getD r none=some (row.jg f false))/\∀r,r∉ids->(EZ f ids rows R).getD r none=R.getD r none
 |[],rows,R,_,_,_=>by
  have:EZ f [] rows R=R:=by cases rows<;>rfl
  rw[this]
  exact⟨rfl,λi r h=>by simp at h,λ_ _=>rfl⟩
 |r::ids,[],R,_,hl,_=>by simp at hl
 |r ::ids,row::rows,R,kQ,hl,bh=>by
  obtain⟨H6,Ja⟩:=List.nodup_cons.1 kQ
  obtain⟨g1,g2,g3⟩:=Z2b (f:=f) (ids:=ids) (rows:=rows) (R:=R.set r (some (row.jg f false))) Ja (by simpa using hl) (λq hq=>by simpa using bh q (by simp[hq]))
  have hr:=bh r (by simp)
  have YO:(R.set r (some (row.jg f false))).getD r none=some (row.jg f false):=by simp[aV,hr]
  have gu:∀q,q≠r->(R.set r (some (row.jg f false))).getD q none=R.getD q none:=λq hq=>by simp[aV,List.getElem?_set_ne (Ne.symm hq)]
  simp only[EZ]
  refine⟨by simpa using g1,λi q hq=>?_,λq hq=>?_⟩
  ·cases i with
   |zero=>
    simp at hq;subst hq
    exact⟨row,rfl,by rw[g3 _ H6];exact YO⟩
   |succ i=>simpa using g2 i q (by simpa using hq)
  ·have h1:q≠r:=λe=>hq (by simp[e])
   rw[g3 q (λe=>hq (by simp[e])),gu q h1]
def Ctx.dz(c:Ctx)(c':Ctx)(kl n0:Nat)(R2:Rows):Ctx:=
 { ρ:=λr=>if n0<=r/\r<R2.length then c'.ρ (kl+(r-n0)) else c.ρ r,
   R:=λr=>R2.getD r none,
   V:=λr=>if n0<=r/\r<R2.length then c'.V (kl+(r-n0)) else c.V r,
   I:=c'.I,base:=c.base,top:=c'.top,X:=c.X}
theorem L1{i k n:Nat}:da i (bO k n)=true↔k<=i/\i<k+n:=by
 rw[nN,List.mem_range'_1]
theorem Zd0{c c':Ctx}{ids:List Nat}{dy aj:List Row}(hm:Mem c w)(hR:∀r,c.R r=R.getD r none)
 (kQ:ids.Nodup) (db:Bd R (λr=>pos r ids 0) ids=some dy) (hle:(ids.take k).length<=aj.length)
 (hx:jN (bO k (dy.length-k)) {c.pass w ids dy false with base:=0} w c' w') (j7:∀i,c'.R i=aj[i]?)
 {R2:Rows} (uw:R2=EZ (bk (ids.take k) R.length) (ids.take k) aj (rO (ids.drop k) R 0)++PE (bk (ids.take k) R.length) (aj.drop (ids.take k).length)):
 DT (λ_=>True) (bk (ids.take k) R.length) false c' (c.dz c' (ids.take k).length R.length R2)/\
 jN (ids.drop k) c w (c.dz c' (ids.take k).length R.length R2) w':=by
 obtain⟨jn,Ao⟩:=Fa db
 generalize hf:bk (ids.take k) R.length=f at*
 generalize YP:(ids.take k).length=kl at*
 have nQ:∀r row,R.getD r none=some row->c.R r=some row:=λr row e=>by rw[hR];exact e
 have bh:∀r∈ids,r<R.length:=λr hr=>by
  obtain⟨row,h1,_⟩:=Ao _ r (Be hr)
  by_cases hl:r<R.length
  ·exact hl
  ·rw[aV,aJ (by omega)]at h1;cases h1
 have htd:ids.take k++ids.drop k=ids:=List.take_append_drop k ids
 have YQ:(ids.take k).Nodup:=by rw[<-htd]at kQ;exact(List.nodup_append.1 kQ).1
 have PF:∀r,r∈ids.take k->r∈ids.drop k->False:=λr h1 h2=>by
  rw[<-htd]at kQ
  exact(List.nodup_append.1 kQ).2.2 r h1 r h2 rfl
 have Jau:kl=min k ids.length:=by rw[<-YP];simp
 have Cw:∀i,i<kl->(ids.take k)[i]?=ids[i]? :=λi hi=>by rw[aF,if_pos (by omega)]
 have sD:∀i r,ids[i]?=some r->kl<=i->r∈ids.drop k:=λi r hi gl=>by
  have mL:=(List.getElem?_eq_some_iff.1 hi).1
  have:(ids.drop k)[i-k]?=some r:=by rw[fK,show k+(i-k)=i by omega];exact hi
  exact fN this
 obtain⟨k1,k2,k3⟩:=Z2b (f:=f) (ids:=ids.take k) (rows:=aj) (R:=rO (ids.drop k) R 0) YQ (by rw[YP];exact hle) (λr hr=>by rw[I8];exact bh r (fO hr))
 rw[I8]at k1
 have uY:R2.length=R.length+(aj.length-kl):=by rw[uw];simp[k1,PE]
 have PG:∀r,r<R.length->R2.getD r none=(EZ f (ids.take k) aj (rO (ids.drop k) R 0)).getD r none:=λr hr=>by
  rw[uw,aV,aV,bI (by omega)]
 have YR:∀i,kl<=i->i<aj.length->R2.getD (R.length+(i-kl)) none=aj[i]?.map λrow=>row.jg f false:=λi h1 h2=>by
  have:∀(l:List Row) (j:Nat),(PE f l)[j]?=l[j]?.map λrow=>some (row.jg f false):=λl j=>by simp[PE]
  rw[uw,aV,bJ (by omega),this,k1,show R.length+(i-kl)-R.length=i-kl by omega,fK,show kl+(i-kl)=i by omega]
  rw[aI h2];rfl
 have jF:∀i r ao,i<kl->ids[i]?=some r->c'.R i=some ao->∃row,c.R r=some row/\ao.box=row.box/\ao.ty=row.ty/\ao.sz=row.sz/\ao.es.l.length=row.es.l.length/\c'.ρ i=c.ρ r/\(c'.V i↔c.V r)/\r<R.length/\R2.getD r none=some (ao.jg f false)/\f i=r/\
  (¬c.V r->∀arr,w.heap[c.ρ r]?=some (.cells arr row.ty (0,0))->∃iJ,w'.heap[c.ρ r]?=some (.cells iJ row.ty (0,0))/\iJ.size=arr.size):=by
  intro i r ao nY hi jk
  obtain⟨row,h1,h2⟩:=Ao i r hi
  have mm:=fN hi
  have h3:=nQ r row h1
  have Cx:(({c.pass w ids dy false with base:=0}:Ctx).kill (bO k (dy.length-k))).R i=some ((row.jg (λr=>pos r ids 0) false).kill (bO k (dy.length-k))):=by
   simp only[Ctx.kill,Ctx.pass]
   rw[if_neg (λe=>by have:=L1.1 e;omega),h2];rfl
  obtain⟨sE,g1,g2,g3,g4,g5,g6,gV,g7⟩:=hx.cy.R i _ Cx
  rw[jk]at g1;cases g1
  obtain⟨s1,s2,s3,s4⟩:=Jb (λr=>pos r ids 0) false row
  obtain⟨t1,t2,t3,t4⟩:=u5 (bO k (dy.length-k)) (row.jg (λr=>pos r ids 0) false)
  have iF:=(Cw i nY).trans hi
  obtain⟨kN,q1,q2⟩:=k2 i r iF
  rw[j7,q1]at jk;cases jk
  refine⟨row,h3,g2.trans (t1.trans s1),g3.trans (t2.trans s2),g4.trans (t3.trans s3),g5.trans (t4.trans s4),by simpa[Ctx.kill,Ctx.pass,hi]using g6,by simpa[Ctx.kill,Ctx.pass,hi]using gV,bh r mm,by rw[PG r (bh r mm)];exact q2,by rw[<-hf];simp[bk,iF],λnv arr ha=>?_⟩
  have:=g7 (by simpa[Ctx.kill,Ctx.pass,hi]using nv) arr (by simpa[Ctx.kill,Ctx.pass,hi,s2,t2]using ha)
  simpa[Ctx.kill,Ctx.pass,hi,s2,t2]using this
 have NK:∀i ao,c'.R i=some ao->¬c'.V i->(∃j s row,ids[j]?=some s/\c.R s=some row/\¬c.V s/\c'.ρ i=c.ρ s/\(i<kl->j=i)/\(kl<=i->s∈ids.drop k))\/w.heap.size<=c'.ρ i:=by
  intro i ao h1 nv
  by_cases nY:i<kl
  ·have iF:ids[i]?=some ids[i]:=aI (by omega)
   obtain⟨row,g1,g2,g3,g4,g5,g6,g7,_⟩:=jF i _ ao nY iF h1
   exact .inl ⟨i,_,row,iF,g1,λe=>nv (g7.2 e),g6,λ_=>rfl,λh=>by omega⟩
  ·rcases hx.ob i ao h1 nv with⟨⟨x,o7⟩,v,e⟩|⟨s,x,hs,o7,v,e⟩|e
   ·have Iz:dy[i]?=some x:=o7
    have GV:=(List.getElem?_eq_some_iff.1 Iz).1
    have iF:ids[i]?=some ids[i]:=aI (by omega)
    obtain⟨row,g1,g2⟩:=Ao i _ iF
    exact .inl ⟨i,_,row,iF,nQ _ _ g1,by simpa[Ctx.pass,iF]using v,by simpa[Ctx.pass,iF]using e,λh=>by omega,λ_=>sD i _ iF (by omega)⟩
   ·have Iz:dy[s]?=some x:=o7
    have GV:=(List.getElem?_eq_some_iff.1 Iz).1
    have iF:ids[s]?=some ids[s]:=aI (by omega)
    obtain⟨row,g1,g2⟩:=Ao s _ iF
    have hsk:=(L1.1 hs).1
    exact .inl ⟨s,_,row,iF,nQ _ _ g1,by simpa[Ctx.pass,iF]using v,by simpa[Ctx.pass,iF]using e,λh=>by omega,λ_=>sD s _ iF (by omega)⟩
   ·exact .inr e
 have new:∀i ao,kl<=i->c'.R i=some ao->i<aj.length/\R2.getD (R.length+(i-kl)) none=some (ao.jg f false)/\f i=R.length+(i-kl):=by
  intro i ao hi jk
  have h1:aj[i]?=some ao:=by rw[<-j7];exact jk
  have h2:=(List.getElem?_eq_some_iff.1 h1).1
  refine⟨h2,by rw[YR i hi h2,h1];rfl,?_⟩
  rw[<-hf]
  simp only[bk]
  rw[aJ (by omega),YP]
 have Cy:DT (λ_=>True) f false c' (c.dz c' kl R.length R2):=by
  refine⟨λi ao _ jk=>?_,(λh=>by cases h),aX _⟩
  obtain⟨s1,s2,s3,s4⟩:=Jb f false ao
  by_cases hi:i<kl
  ·have iF:ids[i]?=some ids[i]:=aI (by omega)
   obtain⟨row,g1,g2,g3,g4,g5,g6,g7,g8,g9,g10,_⟩:=jF i _ ao hi iF jk
   rw[g10]
   exact⟨_,g9,s1,s2,s3,s4,by simp only[Ctx.dz];rw[if_neg (by omega),g6],by simp only[Ctx.dz];rw[if_neg (by omega)];exact g7.symm⟩
  ·obtain⟨h1,h2,h3⟩:=new i ao (by omega) jk
   rw[h3]
   have hc:R.length<=R.length+(i-kl)/\R.length+(i-kl)<R2.length:=by omega
   have he:kl+(R.length+(i-kl)-R.length)=i:=by omega
   exact⟨_,h2,s1,s2,s3,s4,by simp only[Ctx.dz];rw[if_pos hc,he],by simp only[Ctx.dz];rw[if_pos hc,he]⟩
 have BL:Fr (λb=>∃r x,c.R r=some x/\¬c.V r/\r∈ids/\c.ρ r=b) w w':=hx.fr.mono λb _ ⟨i,x,h1,h2,h3⟩=>by
  have rU:dy[i]?=some x:=h1
  have hi:i<ids.length:=by have:=(List.getElem?_eq_some_iff.1 rU).1;omega
  have iF:ids[i]?=some ids[i]:=aI hi
  obtain⟨row,g1,g2⟩:=Ao i _ iF
  exact⟨_,row,nQ _ row g1,by simpa[Ctx.pass,iF]using h2,fN iF,by simpa[Ctx.pass,iF]using h3⟩
 have rest:∀r,r∉ids->r<R.length->R2.getD r none=(R.getD r none).map (Row.kill (ids.drop k)):=λr h1 h2=>by
  rw[PG r h2,k3 r (λe=>h1 (fO e)),PD,bG,if_neg (λe=>h1 (fP (nN.1 e)))]
 have gone:∀r,r∈ids.drop k->R2.getD r none=none:=λr h=>by
  rw[PG r (bh r (fP h)),k3 r (λe=>PF r e h),PD,bG,if_pos (nN.2 h)]
 have inv:∀r x,(c.dz c' kl R.length R2).R r=some x->(∃i ao,c'.R i=some ao/\x=ao.jg f false/\(c.dz c' kl R.length R2).ρ r=c'.ρ i/\((c.dz c' kl R.length R2).V r↔c'.V i)/\(i<kl/\ids[i]?=some r/\(c.dz c' kl R.length R2).ρ r=c.ρ r/\((c.dz c' kl R.length R2).V r↔c.V r)\/R.length<=r/\kl<=i/\r=R.length+(i-kl)))\/
  (∃row,c.R r=some row/\x=row.kill (ids.drop k)/\r∉ids/\(c.dz c' kl R.length R2).ρ r=c.ρ r/\((c.dz c' kl R.length R2).V r↔c.V r)):=by
  intro r x jM
  have jM:R2.getD r none=some x:=jM
  by_cases mm:r∈ids
  ·by_cases hg:r∈ids.drop k
   ·rw[gone r hg]at jM;cases jM
   ·left
    have hp:=Be mm
    have Bf:pos r ids 0<kl:=by
     by_cases h:pos r ids 0<kl
     ·exact h
     ·exact(hg (sD _ r hp (by omega))).elim
    obtain⟨kN,q1,q2⟩:=k2 _ r ((Cw _ Bf).trans hp)
    have sF:c'.R (pos r ids 0)=some kN:=by rw[j7];exact q1
    obtain⟨row,g1,g2,g3,g4,g5,g6,g7,g8,g9,g10,_⟩:=jF _ r kN Bf hp sF
    rw[g9]at jM
    cases jM
    have e1:(c.dz c' kl R.length R2).ρ r=c.ρ r:=by simp only[Ctx.dz];rw[if_neg (by omega)]
    have e2:(c.dz c' kl R.length R2).V r↔c.V r:=by simp only[Ctx.dz];rw[if_neg (by omega)]
    exact⟨_,kN,sF,rfl,by rw[e1,g6],by rw[e2,g7],.inl ⟨Bf,hp,e1,e2⟩⟩
  ·by_cases hc:R.length<=r
   ·left
    have Ur:r<R2.length:=by
     by_cases h:r<R2.length
     ·exact h
     ·rw[aV,aJ (by omega)]at jM;cases jM
    have hi:kl+(r-R.length)<aj.length:=by omega
    have sF:c'.R (kl+(r-R.length))=some aj[kl+(r-R.length)]:=by rw[j7];exact aI hi
    obtain⟨h1,h2,h3⟩:=new _ _ (by omega) sF
    rw[show R.length+(kl+(r-R.length)-kl)=r by omega]at h2
    rw[h2]at jM
    cases jM
    exact⟨_,_,sF,rfl,by simp only[Ctx.dz];rw[if_pos ⟨hc,Ur⟩],by simp only[Ctx.dz];rw[if_pos ⟨hc,Ur⟩],.inr ⟨hc,by omega,by omega⟩⟩
   ·right
    rw[rest r mm (by omega)]at jM
    simp only[fH]at jM
    obtain⟨row,h1,h2⟩:=jM
    exact⟨row,nQ r row h1,h2.symm,mm,by simp only[Ctx.dz];rw[if_neg (by omega)],by simp only[Ctx.dz];rw[if_neg (by omega)]⟩
 have apart:∀r row i ao,c.R r=some row->r∉ids->¬c.V r->c'.R i=some ao->¬c'.V i->c'.ρ i≠c.ρ r:=λr row i ao h1 h2 h3 h4 h5 e=>by
  rcases NK i ao h4 h5 with⟨j,s,jC,q1,q2,q3,q4,_⟩|q
  ·have:=hm.inj s r jC row q2 h1 q3 h3 (by rw[<-q4,e])
   subst this
   exact h2 (fN q1)
  ·have:=hm.lt h1 h3;omega
 have pP:jc (c.kill (ids.drop k)) w (c.dz c' kl R.length R2) w':=by
  refine⟨rfl,hx.cy.top,λb ij=>?_,λr x hr=>?_⟩
  ·have h1:(({c.pass w ids dy false with base:=0}:Ctx).kill (bO k (dy.length-k))).I b:=.inl ij
   exact⟨(hx.cy.I b h1).1,(hx.cy.I b h1).2⟩
  ·obtain⟨Us,row,cz,rfl⟩:=na hr
   have Us:r∉ids.drop k:=λe=>by rw[nN.2 e]at Us;cases Us
   obtain⟨u1,u2,u3,u4⟩:=u5 (ids.drop k) row
   by_cases mm:r∈ids
   ·have hp:=Be mm
    have Bf:pos r ids 0<kl:=by
     by_cases h:pos r ids 0<kl
     ·exact h
     ·exact(Us (sD _ r hp (by omega))).elim
    obtain⟨kN,q1,q2⟩:=k2 _ r ((Cw _ Bf).trans hp)
    have sF:c'.R (pos r ids 0)=some kN:=by rw[j7];exact q1
    obtain⟨jK,g1,g2,g3,g4,g5,g6,g7,g8,g9,g10,g11⟩:=jF _ r kN Bf hp sF
    rw[cz]at g1;cases g1
    obtain⟨s1,s2,s3,s4⟩:=Jb f false kN
    refine⟨_,g9,s1.trans (g2.trans u1.symm),s2.trans (g3.trans u2.symm),s3.trans (g4.trans u3.symm),s4.trans (g5.trans u4.symm),by simp only[Ctx.dz];rw[if_neg (by omega)];rfl,by simp only[Ctx.dz];rw[if_neg (by omega)];rfl,λnv arr ha=>?_⟩
    rw[u2]at ha⊢
    exact g11 nv arr ha
   ·have rr:r<R.length:=by
     by_cases h:r<R.length
     ·exact h
     ·rw[hR,aV,aJ (by omega)]at cz;cases cz
    refine⟨row.kill (ids.drop k),?_,rfl,rfl,rfl,rfl,by simp only[Ctx.dz];rw[if_neg (by omega)];rfl,by simp only[Ctx.dz];rw[if_neg (by omega)];rfl,λnv arr ha=>⟨arr,?_,rfl⟩⟩
    ·show R2.getD r none=_
     rw[rest r mm rr,<-hR,cz];rfl
    ·have nv:¬c.V r:=nv
     show w'.heap[c.ρ r]?=_
     rw[BL.heap _ (hm.lt cz nv) fun⟨s,x,h1,h2,h3,h4⟩=>mm (by rw[<-hm.inj s r x row h1 cz h2 nv h4];exact h3)]
     exact ha
 refine⟨Cy,⟨λr x jM=>?_,λr s x y hr hs v1 v2 he=>?_,λb ij=>⟨(hx.mem.fg b ij).1,λr x hr v=>?_⟩,hx.mem.top,hx.mem.jZ⟩,pP,BL.mono λb _ ⟨r,x,h1,h2,_,h4⟩=>⟨r,x,h1,h2,h4⟩,λb ij=>?_,λr x hr v=>?_⟩
 ·rcases inv r x jM with⟨i,ao,h1,rfl,h3,h4,_⟩|⟨row,h1,rfl,h2,h3,h4⟩
  ·exact YS Cy (flat:=False) (.inl λb hb=>hb) h3 h4 (λ_ _ _ _ _=>trivial) (λe=>e.elim) (hx.mem.row i ao h1)
  ·have hk:=Zq4 (ks:=ids.drop k) (hm.row r row h1)
   exact tk pP h3 h4 (λnv=>BL.heap _ (hm.lt h1 nv) fun⟨s,x',g1,g2,g3,g4⟩=>h2 (by rw[<-hm.inj s r x' row g1 h1 g2 nv g4];exact g3)) hk
 ·rcases inv r x hr with⟨i,x',h1,_,h3,h4,h5⟩|⟨row,h1,_,h2,h3,h4⟩<;>rcases inv s y hs with⟨j,y',g1,_,g3,g4,g5⟩|⟨jC,g1,_,g2,g3,g4⟩
  ·have:i=j:=hx.mem.inj i j x' y' h1 g1 (λe=>v1 (h4.2 e)) (λe=>v2 (g4.2 e)) (by rw[<-h3,<-g3];exact he)
   subst this
   rcases h5 with⟨q0,q1,_⟩|⟨_,q1,q2⟩<;>rcases g5 with⟨p0,p1,_⟩|⟨_,p1,p2⟩
   ·rw[q1]at p1;exact Option.some.inj p1
   ·omega
   ·omega
   ·omega
  ·exact(apart s jC i x' g1 g2 (λe=>v2 (g4.2 e)) h1 (λe=>v1 (h4.2 e)) (by rw[<-h3,<-g3];exact he)).elim
  ·exact(apart r row j y' h1 h2 (λe=>v1 (h4.2 e)) g1 (λe=>v2 (g4.2 e)) (by rw[<-h3,<-g3];exact he.symm)).elim
  ·exact hm.inj r s row jC h1 g1 (λe=>v1 (h4.2 e)) (λe=>v2 (g4.2 e)) (by rw[<-h3,<-g3];exact he)
 ·rcases inv r x hr with⟨i,x',h1,_,h3,h4,h5⟩|⟨row,h1,_,h2,h3,h4⟩
  ·rw[h3];exact(hx.mem.fg b ij).2 i x' h1 (λe=>v (h4.2 e))
  ·have nv:¬c.V r:=λe=>v (h4.2 e)
   rw[h3]
   rcases hx.fg b ij with q|⟨s,z,q1,q2,q3,q4⟩|q
   ·rcases q with q|⟨q,_⟩
    ·exact(hm.fg b q).2 r row h1 nv
    ·cases q
   ·intro e
    have hz:dy[s]?=some z:=q2
    have GV:=(List.getElem?_eq_some_iff.1 hz).1
    have iF:ids[s]?=some ids[s]:=aI (by omega)
    obtain⟨jC,g1,g2⟩:=Ao s _ iF
    have:=hm.inj _ r jC row (nQ _ _ g1) h1 (by simpa[Ctx.pass,iF]using q3) nv (by rw[e];simpa[Ctx.pass,iF]using q4)
    exact h2 (by rw[<-this];exact fN iF)
   ·have:=hm.lt h1 nv;omega
 ·rcases hx.fg b ij with q|⟨s,z,q1,q2,q3,q4⟩|q
  ·rcases q with q|⟨q,_⟩
   ·exact .inl q
   ·cases q
  ·have hz:dy[s]?=some z:=q2
   have GV:=(List.getElem?_eq_some_iff.1 hz).1
   have iF:ids[s]?=some ids[s]:=aI (by omega)
   obtain⟨jC,g1,g2⟩:=Ao s _ iF
   have hsk:=(L1.1 q1).1
   exact .inr (.inl ⟨_,jC,nN.2 (sD s _ iF (by omega)),nQ _ _ g1,by simpa[Ctx.pass,iF]using q3,by simpa[Ctx.pass,iF]using q4⟩)
  ·exact .inr (.inr q)
 ·rcases inv r x hr with⟨i,x',h1,_,h3,h4,h5⟩|⟨row,h1,_,h2,h3,h4⟩
  ·rcases h5 with⟨q0,q1,q2,q3⟩|⟨q0,q1,q2⟩
   ·obtain⟨row,g1,_⟩:=jF i r x' q0 q1 h1
    exact .inl ⟨⟨row,g1⟩,λe=>v (q3.2 e),q2⟩
   ·rcases NK i x' h1 (λe=>v (h4.2 e))with⟨j,s,jC,p1,p2,p3,p4,_,p5⟩|p
    ·exact .inr (.inl ⟨s,jC,nN.2 (p5 q1),p2,p3,by rw[h3];exact p4⟩)
    ·exact .inr (.inr (by rw[h3];exact p))
  ·exact .inl ⟨⟨row,h1⟩,λe=>v (h4.2 e),h3⟩
def GW(P:Program)(f:FuncId)(args:List Operand)(ev:Operand->D)(R:Rows)(ks:List Nat)(val:D)(R':Rows):Prop:=
 ∀ (c:Ctx) (w:World) (ρ:Operand->Value),Mem c w->c.base<=w.heap.size->(∀r,c.R r=R.getD r none)->(∀y∈args,Rep c w (ev y) (ρ y))->
  ∀K':Value->World->Prop,(∀v w' c',jN ks c w c' w'->(∀r,c'.R r=R'.getD r none)->Rep c' w' val v->K' v w')->FQ P c.I f (args.map ρ) w λe w'=>∃v,e=.returned v/\K' v w'
theorem Wi{P:Program}{G:List bd}{M:Nat}(hG:jD P G){f:FuncId}{k:Nat}{args:List Operand}{ev:Operand->D}{R:Rows}{K:List Nat->D->Rows->Prop}
 (lM:oX G f=some k) (h:HP G M f k (args.map ev) R K):∃ks val R' x,K ks val R'/\oF G f=some x/\(x.refs≠[])/\(∀j,da j ks=true->M<=j)/\GW P f args ev R ks val R':=by
 unfold HP at h
 split at h
 ·rename_i x hx
  have u6:x.gone=some k:=by simpa[oX,hx]using lM
  obtain⟨dx,hf⟩:=FZ hG hx
  split at h
  ·rename_i az dy has iS
   simp only[dd,aE]at h
   obtain⟨⟨⟨⟨hv,mH⟩,h1,h2⟩,h3,h4⟩,h⟩:=h
   generalize Jc:mu R x.refs (args.map ev)=ids at*
   have uy:=L2.1 h1
   have jn:=L2.1 h2
   have kQ:=L3.1 h3
   have GX:lH x.refs (args.map ev)=[]:=by
    revert hv
    cases lH x.refs (args.map ev)<;>simp
   have hrefs:x.refs≠[]:=λe=>by rw[e]at mH;simp at mH
   have main:∀res aj,GY R (ids.take k) (ids.drop k) res aj K->tJ P x.f k az dy res aj->
    ∃ks val R' y,K ks val R'/\oF G f=some y/\(y.refs≠[])/\(∀j,da j ks=true->M<=j)/\GW P f args ev R ks val R':=by
    intro res aj hK hA
    simp only[GY,dd,D.c7,nf]at hK
    obtain⟨hle,hK⟩:=hK
    have hle:=lE hle
    refine⟨_,_,_,x,hK,hx,hrefs,λj hj=>lE (List.all_eq_true.1 h4 j (nN.1 hj)),λc w ρ hm hb hR eh K' pX=>?_⟩
    have nQ:∀r row,r∈ids->R.getD r none=some row->c.R r=some row:=λr row _ e=>by rw[hR];exact e
    have oW:mf c R:=λr row ao g1 g2=>by rw[hR,g2]at g1;exact(Option.some.inj g1).symm
    have hn:=Ut (len:=false) (w:=w) nQ iS
    have fu:=L4 (len:=false) (ρ:=ρ) hm oW hn has (λe=>(e GX).elim) (λr hr=>by rw[GX]at hr;cases hr) uy eh
    have mj:=hA _ w _ (Zjq (YT (len:=false) hm nQ kQ jn iS)) rfl (λr=>rfl) (YN fu)
    rw[hf]at mj
    refine mj.mono (λb hb=>.inl hb) (λe w' sG=>?_)
    obtain⟨v,c',he,nA,j7,kL⟩:=sG
    have:=Zd0 (k:=k) hm hR kQ iS hle nA j7 rfl
    exact⟨v,he,pX v w' _ this.2 (λr=>rfl) (YU this.1 (flat:=False) (.inl λb hb=>hb) (λ_=>trivial) (λe=>e.elim) kL)⟩
   split at h
   ·rename_i α v res aj hm
    exact main _ _ (h v rfl) (dx.PH k u6 _ _ _ _ _ _ hm)
   ·rename_i p α v res aj hm
    exact main _ _ (h.2 v rfl) (dx.GZ k u6 _ _ _ _ _ _ _ hm h.1)
   ·exact h.elim
  ·exact h.elim
 ·exact h.elim
theorem Zqt(hG:jD P G)(hy:f<YB){guard:Option (Nat×Bool)}
 (lM:oX G f=some k) (h:HP G M f k (args.toList.map ev) R K):∃ks val R' x,K ks val R'/\oF G f=some x/\(x.refs≠[])/\(∀j,da j ks=true->M<=j)/\BB P ⟨dst,.call ⟨.value (.func f),args,dj⟩,type,pos',after,guard⟩ ev R ks val R':=by
 obtain⟨ks,val,R',x,h1,h2,h3,h4,h5⟩:=Wi hG lM h
 obtain⟨dx,hf⟩:=FZ hG h2
 refine⟨ks,val,R',x,h1,h2,h3,h4,λc w a hm hb hR eh K' Q pX=>?_⟩
 subst hf
 exact YV dx rfl hy ((h5 c w a.eval hm hb hR (λy hy=>eh y (by simp[Op.operands,Call.operands];exact .inr (by simpa using hy))) (λv w'=>K' (a.put dst v) w') λv w' c'=>pX v w' c').1 hy)
def Ctx.only(c:Ctx)(ks:List Nat):Ctx:={c with R:=λr=>if da r ks=true then(match c.R r with|some row=>if row.box=true then none else some row|none=>none)else none}
theorem L5{c:Ctx}(h:(c.only ks).R r=some x):r∈ks/\c.R r=some x/\x.box=false:=by
 simp only[Ctx.only]at h
 split at h
 ·rename_i hm
  split at h
  ·rename_i row hr
   split at h
   ·cases h
   ·rename_i hb
    cases h
    exact⟨nN.1 hm,hr,by simpa using hb⟩
  ·cases h
 ·cases h
theorem qv{c:Ctx}(hm:r∈ks)(hr:c.R r=some x)(hb:x.box=false):(c.only ks).R r=some x:=by
 simp[Ctx.only,nN.2 hm,hr,hb]
theorem xS{c:Ctx}(hm:Mem c w)(ks:List Nat):Mem (c.only ks) w:=by
 refine⟨λr x hr=>?_,λr s x y hr hs=>?_,λb hb=>⟨(hm.fg b hb).1,λr x hr v=>?_⟩,hm.top,hm.jZ⟩
 ·obtain⟨_,h1,h2⟩:=L5 hr
  rcases hm.row r x h1 with h|⟨h0,arr,ha,hs,hx⟩
  ·exact .inl h
  ·refine .inr ⟨h0,arr,ha,hs,?_⟩
   rw[if_neg (by rw[h2];simp)]at hx⊢
   exact hx
 ·exact hm.inj r s x y (L5 hr).2.1 (L5 hs).2.1
 ·exact(hm.fg b hb).2 r x (L5 hr).2.1 v
theorem Zjc{c:Ctx}(h:Fb R d=some d')(hl:∀r∈nJ d,r∈ks)(hr:dc c w d v):dc (c.only ks) w d v:=by
 cases d<;>simp only[Fb]at h<;>try(cases h;done)
 case all r=>
  obtain⟨row,g1,g2,g3⟩:=hr
  exact⟨row,qv (hl r (by simp[nJ])) g1 g2,g2,g3⟩
 case own r o n=>
  obtain⟨row,g1,g2,g3,g4⟩:=hr
  exact⟨row,qv (hl r (by simp[nJ])) g1 g2,g2,g3,g4⟩
 all_goals exact hr
theorem Zlg{c:Ctx}{w:World}{R:Rows}{ks:List Nat}:∀{ds oc:List D} {vs:List Value},Jd R ds=some oc->(∀r∈pQ ds,r∈ks)->jl c w ds vs->jl (c.only ks) w ds vs
 |[],_,[],_,_,_=>trivial
 |d ::ds,oc,v::vs,h,hl,hr=>by
  simp only[Jd]at h
  split at h
  ·rename_i x xs h1 h2
   exact⟨Zjc h1 (λr e=>hl r (by simp[pQ,e])) hr.1,Zlg h2 (λr e=>hl r (by simp[pQ,e])) hr.2⟩
  ·cases h
 |[],_,_::_,_,_,h=>h.elim
 |_::_,_,[],_,_,h=>h.elim
theorem zS{c:Ctx}(h:conv R d=some d')(hl:∀r∈Fc d,r∈ks)(hr:Rep c w d v):Rep (c.only ks) w d v:=by
 cases d with
 |agg cs=>
  simp only[conv,fH]at h
  obtain⟨xs,h1,_⟩:=h
  obtain⟨vs,hv,hx⟩:=hr
  exact⟨vs,hv,Zlg h1 hl hx⟩
 |dw ds=>simp[conv,Fb]at h
 |dead=>trivial
 |_=>
  simp only[conv]at h
  simp only[Rep,VRep]at hr⊢
  exact Zjc h hl hr
theorem Zdm{R:Rows}{f:Nat->Nat}{ev:Operand->D}:∀{xs:List Operand} {az:List D},sH R f [] (xs.map ev)=some az->∀x∈xs,∃y,conv R (ev x)=some y
 |[],_,_,x,hx=>by simp at hx
 |y ::xs,az,h,x,hx=>by
  simp only[fI,sH]at h
  split at h
  ·rename_i z zs h1 h2
   simp only[cQ]at hx
   rcases hx with rfl|hx
   ·exact⟨_,h1⟩
   ·exact Zdm h2 x hx
  ·cases h
theorem Zc9{ev:Operand->D}{r:Nat}:∀{xs:List Operand} {x:Operand},x∈xs->r∈Fc (ev x)->r∈lH [] (xs.map ev)
 |y::xs,x,hx,hr=>by
  simp only[fI,lH,cB]
  simp only[cQ]at hx
  rcases hx with rfl|hx
  ·exact .inl hr
  ·exact .inr (Zc9 hx hr)
theorem YW{r:Nat}:∀{l ids:List Nat},r∈lq ids l->r∈ids\/r∈l
 |[],ids,h=>.inl h
 |x ::l,ids,h=>by
  simp only[lq]at h
  split at h
  ·rcases YW h with h|h
   ·exact .inl h
   ·exact .inr (by simp[h])
  ·rcases YW h with h|h
   ·simp only[cB,List.mem_singleton]at h
    rcases h with h|h
    ·exact .inl h
    ·exact .inr (by simp[h])
   ·exact .inr (by simp[h])
theorem xv{c:Ctx}(h:Rep c w d v):Rep {c with base:=0} w d v:=by
 cases d with
 |dw ds=>obtain⟨vs,hv,hx⟩:=h;exact⟨vs,hv,YN hx⟩
 |dead=>trivial
 |_=>exact Rep.J9 (Zbr (Rep.toV (λds e=>by cases e) (λe=>by cases e) h))
theorem yS(hG:jD P G){guard:Option (Nat×Bool)}
 (lM:oX G f=none) (h:Cz G M f (args.toList.map ev) R K):∃ks val R' x,K ks val R'/\oF G f=some x/\(∀j,da j ks=true->M<=j)/\BB P ⟨dst,.call ⟨.value (.func f),args,dj⟩,type,pos',after,guard⟩ ev R ks val R':=by
 unfold Cz at h
 split at h
 ·rename_i x hx
  have u6:x.gone=none:=by simpa[oX,hx]using lM
  obtain⟨dx,hf⟩:=FZ hG hx
  split at h
  ·rename_i az dy has iS
   simp only[dd,aE]at h
   obtain⟨⟨⟨mH,wC⟩,h3,uy,h4⟩,h⟩:=h
   have Jav:∀r,r∈lq [] (lH [] (args.toList.map ev))->r∈lH [] (args.toList.map ev):=λr hr=>by
    rcases YW hr with h|h
    ·cases h
    ·exact h
   generalize Jc:lq [] (lH [] (args.toList.map ev))=ids at*
   have kQ:=L3.1 h3
   have uy:=L2.1 uy
   have main :∀res aj,GY R [] ids res aj K->ku P x.f az [] res aj->
    ∃ks val R' y,K ks val R'/\oF G f=some y/\(∀j,da j ks=true->M<=j)/\BB P ⟨dst,.call ⟨.value (.func f),args,dj⟩,type,pos',after,guard⟩ ev R ks val R':=by
    intro res aj hK hA
    simp only[GY,dd,D.c7,nf]at hK
    obtain⟨_,hK⟩:=hK
    refine⟨_,_,_,x,hK,hx,λj hj=>lE (List.all_eq_true.1 h4 j (nN.1 hj)),λc w a hm hb hR eh K' Q pX=>?_⟩
    have oW:mf (c.only ids) R:=λr row ao g1 g2=>by
     have:=(L5 g1).2.1
     rw[hR,g2]at this;exact(Option.some.inj this).symm
    have hmo:=xS hm ids
    have hn:=Ut (c:=c.only ids) (R:=R) (ids:=[]) (dy:=[]) (len:=true) (w:=w) (λr row e=>by cases e) rfl
    have YX:∀y∈args.toList,Rep (c.only ids) w (ev y) (a.eval y):=λy hy=>by
     obtain⟨z,hz⟩:=Zdm has y hy
     exact zS hz (λr hr=>uy r (Zc9 hy hr)) (eh y (by simp[Op.operands,Call.operands];exact .inr (by simpa using hy)))
    rw[YY (λr=>r) (λr=>pos r [] 0)]at has
    have fu:=L4 (len:=true) (ρ:=a.eval) hmo oW hn has (λ_=>rfl) (λr _ e=>by cases e) (λr e=>by rw[YZ]at e;cases e) YX
    have mj:=hA _ w _ (YT (R:=R) (len:=true) hmo (λr row e=>by cases e) (by simp) (λr e=>by simp[CA]at e) rfl) rfl (λr=>rfl) fu
    refine YV dx hf (dx.real u6) (mj.mono λe w' sG=>?_)
    obtain⟨v,c',he,nA,j7,kL⟩:=sG
    have Gp:∀r x,((c.only ids).pass w [] [] true).R r=some x->False:=λr x h=>by simp[Ctx.pass]at h
    obtain⟨jn,Ao⟩:=Fa iS
    have hxK:jN (bO 0 (dy.length-0)) {c.pass w ids dy false with base:=0} w {c' with base:=0} w':=by
     refine⟨Zjq nA.mem,⟨rfl,nA.cy.top,λb ij=>?_,λr x hr=>?_⟩,nA.fr.mono λb _ ⟨r,x,h1,_⟩=>(Gp r x h1).elim,λb ij=>?_,λr x hr hv=>?_⟩
     ·have:c.I b:=by
       rcases ij with h|⟨h,_⟩
       ·exact h
       ·cases h
      exact⟨(nA.cy.I b (.inl this)).1,(nA.cy.I b (.inl this)).2⟩
     ·obtain⟨h1,row,h2,_⟩:=na hr
      have h2':dy[r]?=some row:=h2
      have:=(List.getElem?_eq_some_iff.1 h2').1
      rw[L1.2 (by omega)]at h1;cases h1
     ·rcases nA.fg b ij with h|h
      ·rcases h with h|⟨_,r,row,g1,g2,g3,_,g5⟩
       ·exact .inl (.inl h)
       ·obtain⟨k1,k2,k3⟩:=L5 g1
        have hp:=Be k1
        obtain⟨jC,q1,q2⟩:=Ao _ r hp
        have hl:=(List.getElem?_eq_some_iff.1 q2).1
        exact .inr (.inl ⟨_,_,L1.2 (by omega),q2,by simpa[Ctx.pass,Ctx.only,hp]using g2,by simpa[Ctx.pass,Ctx.only,hp]using g5⟩)
      ·exact .inr (.inr h)
     ·rcases nA.ob r x hr hv with⟨⟨y,h1⟩,_⟩|h
      ·exact(Gp r y h1).elim
      ·exact .inr (.inr h)
    have:=Zd0 (k:=0) (c':={c' with base:=0}) hm hR kQ iS (by simp) hxK j7 rfl
    simp only[List.take_zero,List.drop_zero]at this
    exact⟨v,he,pX v w' _ this.2 (λr=>rfl) (YU this.1 (flat:=False) (.inl λb hb=>hb) (λ_=>trivial) (λe=>e.elim) (xv kL))⟩
   split at h
   ·rename_i α v res aj hm
    exact main _ _ (h v rfl) (dx.abs u6 _ _ _ _ _ _ hm).1
   ·rename_i p α v res aj hm
    exact main _ _ (h.2 v rfl) (dx.lr u6 _ _ _ _ _ _ _ hm h.1).1
   ·exact h.elim
  ·exact h.elim
 ·exact h.elim

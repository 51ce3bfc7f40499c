import Derived.Test.YtaemmjbkndlkeaaGreatMigrateOrdersFo
import Derived.Laws.Append
import Derived.Laws.CopyRow
import Derived.Laws.AppendOwn
open List renaming eq_nil_of_length_eq_zero->fA,map_cons->fG,append_assoc->aM,getElem?_take->aF,getElem?_drop->fI,getElem?_toArray->bH,getD->aV,length_take->aD,length_drop->aG,getElem?_append_left->bI,size_toArray->aK,getElem?_append_right->bJ,getElem?_eq_none->aJ,take_of_length_le->fD,getElem?_eq_getElem->aI,range'->bO,mem_of_getElem?->fL,mem_of_mem_take->fM,mem_of_mem_drop->fN,mem_cons->cQ,mem_append->cB
open Bool renaming false_eq_true->aA
open Option renaming map_eq_some_iff->fF
open Nat renaming add_zero->aB,succ_mul->bF,mul_le_mul_right->bD,zero_add->bG,mul_comm->fJ,le_refl->aX,add_mul->bK,le_trans->bL,le_mul_of_pos_right->fK
open Array renaming ext'->fH
set_option linter.all false
namespace Go.GD
open Go
variable {G:List ba}{I:ae}{K:List Nat->D->Rows->Prop}{M k n r sy sz:Nat}{P:Program}{R:Rows}{after:Array Edge}{args:Array Operand}{arr:Array Value}{d d' y:D}{dst:Option Tmp}{ev:Operand->D}{f:FuncId}{i:TypeInfo}{ks:List Nat}{pos':String}{row x:Row}{t tx ty type:TypeId}{dj:Array TypeId}{ux:TypeDesc}{v z:Value}{w w':World}{ys:ai}
section
variable {c:Ctx} {w:World} {ks:List Nat}
theorem wq(ks:List Nat)(row:Row):(row.kill ks).box=row.box/\(row.kill ks).ty=row.ty/\(row.kill ks).sz=row.sz/\(row.kill ks).es.l.length=row.es.l.length:=by
 unfold Row.kill;split<;>exact⟨rfl,rfl,rfl,rfl⟩
theorem Z12:∀{e:List D},(D.ji ks e).length=e.length
 |[]=>rfl
 |d::l=>by simp[D.ji,Z12 (e:=l)]
theorem Zcn(gq:∀f cs,d≠.gj f cs)(h:dc c w d v):dc (c.kill ks) w (d.ez ks) v:=by
 have key:∀r row,da r ks=false->c.R r=some row->(c.kill ks).R r=some (row.kill ks):=λr row hr cz=>by simp[Ctx.kill,hr,cz]
 have h1:=dc.one h
 cases d with
 |all r=>
  simp only[D.ez]
  cases hr:da r ks with
  |true=>exact h1
  |false=>
   obtain⟨row,g1,g2,g3⟩:=h
   obtain⟨s1,s2,s3,s4⟩:=wq ks row
   exact⟨_,key r row hr g1,s1.trans g2,by rw[s2,s3,s4];exact g3⟩
 |own r o n=>
  simp only[D.ez]
  cases hr:da r ks with
  |true=>exact h1
  |false=>
   obtain⟨row,g1,g2,g3,g4⟩:=h
   obtain⟨s1,s2,s3,s4⟩:=wq ks row
   exact⟨_,key r row hr g1,s1.trans g2,by rw[s4];exact g3,by rw[s2,s3];exact g4⟩
 |ptr r i off=>
  simp only[D.ez]
  cases hr:da r ks with
  |true=>exact h1
  |false=>
   obtain⟨row,g1,g2,g3,g4⟩:=h
   obtain⟨s1,s2,s3,s4⟩:=wq ks row
   exact⟨_,key r row hr g1,g2,by rw[s4];exact g3,by rw[s3];exact g4⟩
 |pa r i off len k n=>
  simp only[D.ez]
  cases hr:da r ks with
  |true=>exact h1
  |false=>
   obtain⟨g0,row,g1,g2,g3,g4⟩:=h
   obtain⟨s1,s2,s3,s4⟩:=wq ks row
   exact⟨g0,_,key r row hr g1,g2,by rw[s4];exact g3,by rw[s3];exact g4⟩
 |gk r=>
  simp only[D.ez]
  cases hr:da r ks with
  |true=>exact h1
  |false=>
   rcases h with h|⟨row,g1,g2,g3,g4⟩
   ·exact .inl h
   ·obtain⟨s1,s2,s3,s4⟩:=wq ks row
    exact .inr ⟨_,key r row hr g1,g2,by rw[s4];exact g3,by rw[s3];exact g4⟩
 |gj f cs=>exact absurd rfl (gq f cs)
 |_=>exact h
theorem vt(gq:∀f cs,d≠.gj f cs)(h:∀r∈nO d,da r ks=false):d.ez ks=d:=by
 cases d<;>first|rfl|(simp only[D.ez];rw[h _ (by simp[nO])])|exact absurd rfl (gq _ _)
theorem SO(h:dc c w d v):dc (c.kill ks) w (d.ez ks) v:=by
 by_cases e:∃g cs,d=.gj g cs
 ·obtain⟨g,cs,rfl⟩:=e
  have h1:=dc.one h
  simp only[D.ez]
  cases hd:px (ry cs) ks with
  |false=>exact h1
  |true=>
   obtain⟨us,hv,hu⟩:=h
   exact⟨us,hv,YA (c:=c) (w:=w) (c':=c.kill ks) (w':=w) (S:=λr=>da r ks=false) (λd v q1 q2 q3=>by have:=Zcn (ks:=ks) q1 q3;rwa [vt q1 q2]at this) (λ_ hb=>⟨hb,rfl⟩) (λr hr=>by
    have:=Uw.1 hd r hr
    cases hm:da r ks with
    |false=>rfl
    |true=>exact(this (nU.1 hm)).elim) hu⟩
 ·exact Zcn (λf cs e'=>e ⟨f,cs,e'⟩) h
theorem Ziy:∀{ds:List D} {vs:List Value},jk c w ds vs->jk (c.kill ks) w (D.ji ks ds) vs
 |[],[],_=>trivial
 |_::_,_::_,h=>⟨SO h.1,Ziy h.2⟩
 |[],_::_,h=>h.elim
 |_::_,[],h=>h.elim
theorem Zos(h:VRep c w d v):VRep (c.kill ks) w (d.kill ks) v:=by
 cases d with
 |agg cs=>obtain⟨vs,hv,hr⟩:=h;exact⟨vs,hv,Ziy hr⟩
 |_=>
  have:=SO (ks:=ks) (VRep.toC (λcs e=>by cases e) h)
  exact VRep.EA this
theorem Zl8:∀{ds:List D} {vs:List Value},kd c w ds vs->kd (c.kill ks) w (D.pM ks ds) vs
 |[],[],_=>trivial
 |_::_,_::_,h=>⟨Zos h.1,Zl8 h.2⟩
 |[],_::_,h=>h.elim
 |_::_,[],h=>h.elim
theorem Wt(h:Rep c w d v):Rep (c.kill ks) w (d.jW ks) v:=by
 cases d with
 |dw ds=>obtain⟨vs,hv,hr⟩:=h;exact⟨vs,hv,Zl8 hr⟩
 |dead=>trivial
 |_=>
  have:=Zos (ks:=ks) (Rep.toV (λds e=>by cases e) (λe=>by cases e) h)
  exact Rep.Ks this
theorem Zcm:∀{ds:List D} {arr:Array Value} {off:Nat},kF c w ds arr off->kF (c.kill ks) w (D.ji ks ds) arr off
 |[],_,_,_=>trivial
 |_::_,_,_,⟨⟨v,hv,h1⟩,h2⟩=>⟨⟨v,hv,SO h1⟩,Zcm h2⟩
theorem Zog(h:ED c w r row):ED (c.kill ks) w r (row.kill ks):=by
 obtain⟨s1,s2,s3,s4⟩:=wq ks row
 rcases h with⟨h0,h1,h2,h3⟩|⟨h0,arr,ha,hs,hx⟩
 ·refine .inl ⟨h0,s1.trans h1,?_,by rw[s3];exact h3⟩
  rw[h2]at s4;exact fA s4
 ·refine .inr ⟨h0,arr,by rw[s2];exact ha,by rw[s3];exact hs,?_⟩
  rw[s1,s3]
  split
  ·rename_i hb
   simp only[hb,if_true]at hx
   obtain⟨e,k1,k2,k3,k4⟩:=hx
   obtain⟨box,ty,sz,es⟩:=row
   simp only at hb k1 k2 k3 k4
   subst hb;subst k1
   exact⟨D.ji ks e,rfl,by rw[Z12];exact k2,k3,Zcm k4⟩
  ·rename_i hb
   simp only[hb,aA,if_false]at hx
   have he:(row.kill ks).es=row.es:=by
    unfold Row.kill
    split
    ·simp at hb
    ·rfl
   rw[he];exact hx
theorem nj(h:(c.kill ks).R r=some x):da r ks=false/\∃row,c.R r=some row/\x=row.kill ks:=by
 simp only[Ctx.kill]at h
 cases hb:da r ks with
 |true=>rw[hb]at h;simp at h
 |false=>
  rw[hb]at h
  simp only[aA,if_false,fF]at h
  obtain⟨row,h1,h2⟩:=h
  exact⟨rfl,row,h1,h2.symm⟩
theorem Sr(hm:Mem c w):Mem (c.kill ks) w:=by
 refine⟨λr x hx=>?_,λr s x y hx hy v1 v2 he=>?_,λb hb=>⟨(hm.fe b hb).1,λr x hx v=>?_⟩,hm.top,hm.jU⟩
 ·obtain⟨_,row,h1,rfl⟩:=nj hx
  exact Zog (hm.row r row h1)
 ·obtain⟨_,row,h1,_⟩:=nj hx
  obtain⟨_,ao,h2,_⟩:=nj hy
  exact hm.inj r s row ao h1 h2 v1 v2 he
 ·obtain⟨_,row,h1,_⟩:=nj hx
  exact(hm.fe b hb).2 r row h1 v
end
theorem Zpk:∀{l:List Nat},px l []=true
 |[]=>rfl
 |x::l=>by simp only[px,da];exact Zpk
theorem Wr(d:D):d.ez []=d:=by
 cases d with
 |gj f cs=>simp only[D.ez,Zpk]
 |_=>rfl
theorem Wq:∀{ds:List D},D.ji [] ds=ds
 |[]=>rfl
 |d::l=>by simp only[D.ji,Wr,Wq (ds:=l)]
theorem Z6z(row:Row):row.kill []=row:=by
 unfold Row.kill;split
 ·simp[Wq]
 ·rfl
theorem xR(c:Ctx):c.kill []=c:=by
 obtain⟨ρ,R,V,I,base,top,X⟩:=c
 simp only[Ctx.kill,da,aA,if_false]
 congr 1
 funext r
 cases R r<;>simp[Z6z]
theorem lT.toK{c c':Ctx}(h:lT c w c' w'):jK [] c w c' w':=
 ⟨h.mem,by rw[xR];exact h.cy,h.fr,λb hb=>(h.fe b hb).imp id .inr,λr ao h1 h2=>(h.om r ao h1 h2).imp id .inr⟩
theorem PR{ks:List Nat}:∀{R:Rows} {i r:Nat},(rS ks R i).getD r none=if da (i+r) ks=true then none else(R.getD r none).map (Row.kill ks)
 |[],i,r=>by simp[rS]
 |x::l,i,0=>by
  simp only[rS,aB]
  cases da i ks<;>cases x<;>simp
 |x::l,i,r+1=>by
  have:=PR (ks:=ks) (R:=l) (i:=i+1) (r:=r)
  rw[show i+1+r=i+(r+1) by omega]at this
  simpa[rS]using this
theorem Js{ks:List Nat}:∀{R:Rows} {i:Nat},(rS ks R i).length=R.length
 |[],_=>rfl
 |x::l,i=>by simp[rS,Js (R:=l)]
def r6(ks:List Nat)(env:List (Nat×D)):List (Nat×D):=env.map λx=>(x.1,x.2.jW ks)
theorem Ih{ks:List Nat}:∀{env:List (Nat×D)} {K:List (Nat×D)->Prop},GA ks env K↔K (r6 ks env)
 |[],_=>Iff.rfl
 |(t,d)::l,K=>by
  simp only[GA,D.c6]
  rw[Ih (env:=l) (K:=λl=>K ((t,d.jW ks)::l))]
  rfl
theorem BO{ks:List Nat}:∀{env:List (Nat×D)} {t:Nat},look (r6 ks env) t=(look env t).jW ks
 |[],_=>rfl
 |(u,d)::l,t=>by
  simp only[r6,fG,look]
  cases Nat.beq u t with
  |true=>rfl
  |false=>exact BO (env:=l)
theorem Qpt(w:World){t tx ty e:TypeId}(ht:P.underlying t=some (.slice e))(py:P.underlying tx=some ux)(hx:∀k,ux≠.int k)(hi:P.info? e=some i)
 {a:Option Addr} {n cap m:Nat} {x:Value} {news:List Value} (hl:(Builtin.lenOf x).run P w=.ok m w) (hf:(Builtin.firstCells i.size m x).run P w=.ok news.toArray w) (kO:n+m<=cap) {w':World}
 (jV:∀b,a=some b->(storeCells (b.add (n*i.size)) news).run P w=.ok () w') (nh:a=none->w'=w):
 (Builtin.append_ #[t,tx] ty #[.slice a n cap,x]).run P w=.ok (.slice a (n+m) cap) w':=by
 have hz:(match ux with|.int _=>true|_=>false)=false:=by
  cases ux<;>first|rfl|exact absurd rfl (hx _)
 cases a with
 |none=>
  have:=nh rfl
  subst this
  simp[Builtin.append_,run_underlying ht,run_underlying py,hz,sizeOf,typeInfo,hi,hl,kO,hf]
 |some b=>simp[Builtin.append_,run_underlying ht,run_underlying py,hz,sizeOf,typeInfo,hi,hl,kO,hf,jV b rfl]
theorem Qpp(w:World){t tx ty e:TypeId}(ht:P.underlying t=some (.slice e))(py:P.underlying tx=some ux)(hx:∀k,ux≠.int k)(hi:P.info? e=some i)(hz:i.zero=some z)
 {a:Option Addr} {n cap m:Nat} {x:Value} {kQ news:List Value} (hl:(Builtin.lenOf x).run P w=.ok m w) (hf:(Builtin.firstCells i.size m x).run P w.drew=.ok news.toArray w.drew) (hfo:(Builtin.firstCells i.size n (.slice a n cap)).run P w.drew=.ok kQ.toArray w.drew)
 (hg:cap<n+m) (h63:((n+m:Nat):Int)<=9223372036854775807) (mP:Builtin.nextslicecap (n+m) cap*i.bytes<=281474976710656):
 (Builtin.append_ #[t,tx] ty #[.slice a n cap,x]).run P w=.ok (.slice (some ⟨w.heap.size,0,none⟩) (n+m) (grownCap w (n+m) cap e))
  (w.drew.alloc (.cells (kQ.toArray++news.toArray++Builtin.zeroCells z.cells (grownCap w (n+m) cap e-(n+m))) e)):=by
 have hn:¬(n+m<=cap):=by omega
 have YC:¬(9223372036854775807<((n:Int)+(m:Int))):=by omega
 have YD:¬(281474976710656<Builtin.nextslicecap (n+m) cap*i.bytes):=by omega
 simp[Builtin.append_,run_underlying ht,run_underlying py,sizeOf,typeInfo,zeroValue,hi,hz,hl,hn,YC,YD,Question.forced,hf,hfo,newRow,grownCap]
 congr 2
 apply fH
 simp[aM]
theorem qu{b o:Nat}{fz:Nat×Nat}(h:w.heap[b]?=some (.cells arr ty fz))(j:Nat):w.cell? ((⟨b,o,none⟩:Addr).add j)=arr[o+j]? :=by
 rw[Fu]
 unfold World.cell?
 simp[h]
theorem Ss{es:List (List D)}{off sz:Nat}(h:ik I w es arr off sz)(h0:0<sz):∃news:List Value,news.length=es.length*sz/\(∀j u,news[j]?=some u->arr[off+j]?=some u)/\ik I w es news.toArray 0 sz:=by
 have fp:es.length*sz<=arr.size-off:=by
  by_cases he:es.length=0
  ·rw[he];omega
  ·obtain⟨h1,h2⟩:=tA.1 h (es.length-1) (by omega)
   obtain⟨v,hv,_⟩:=tX.1 h2 (sz-1) (by omega)
   have bd:=(Array.getElem?_eq_some_iff.1 hv).1
   have:es.length*sz=(es.length-1)*sz+sz:=by
    rw[show es.length*sz=(es.length-1+1)*sz by congr 1;omega,bF]
   omega
 refine⟨(arr.toList.drop off).take (es.length*sz),by simp;omega,λj u hj=>?_,?_⟩
 ·rw[aF]at hj
  split at hj
  ·rw[fI]at hj
   simpa using hj
  ·cases hj
 ·rw[tA]at h⊢
  intro i hi
  obtain⟨h1,h2⟩:=h i hi
  refine⟨h1,?_⟩
  rw[tX]at h2⊢
  intro j hj
  obtain⟨v,hv,hp⟩:=h2 j hj
  refine⟨v,?_,hp⟩
  have bd:i*sz+j<es.length*sz:=by
   have:=bD sz (show i+1<=es.length by omega)
   rw[bF]at this
   omega
  simp only[bG,bH]
  rw[aF,if_pos bd,fI,<-hv]
  simp[Nat.add_assoc]
theorem ik.one{es:List (List D)}{news:List Value}(h:ik I w es news.toArray 0 sz)(hl:news.length=es.length*sz):∀u∈news,u.oneCell'=true:=by
 intro u hu
 obtain⟨j,hj⟩:=List.getElem?_of_mem hu
 have bd:=(List.getElem?_eq_some_iff.1 hj).1
 have h0:0<sz:=by
  rcases Nat.eq_zero_or_pos sz with h0|h0
  ·subst h0;simp at hl;rw[hl]at bd;simp at bd
  ·exact h0
 have hi:j/sz<es.length:=by rw[Nat.div_lt_iff_lt_mul h0];omega
 obtain⟨h1,h2⟩:=tA.1 h (j/sz) hi
 obtain⟨v,hv,hp⟩:=tX.1 h2 (j%sz) (by rw[h1];exact Nat.mod_lt _ h0)
 have e:0+j/sz*sz+j%sz=j:=by rw[bG,fJ];exact Nat.div_add_mod j sz
 rw[e,bH,hj]at hv
 cases hv
 exact fy.one hp
theorem Zmk(s:List UInt8):ik I w (ai.ints .u8 (pf s)).l (s.map λb=>Value.int .u8 b.toNat).toArray 0 1:=by
 rw[tA]
 intro i hi
 have iD:i<s.length:=by simpa[pf,ai.l]using hi
 have he:(ai.ints .u8 (pf s)).l.getD i []=[.int .u8 s[i].toNat]:=by simp[pf,ai.l,aV,iD]
 rw[he]
 refine⟨rfl,?_⟩
 simp only[DJ,DK,se,si,sj,sk,sn,so,tC,tZ,ua,ub,uc,ud,ue,uf,ug,uh,and_true]
 exact⟨_,by simp[iD],rfl⟩
def Src(P:Program)(c:Ctx)(w:World)(v:Value)(ys:List (List D))(sz:Nat):Prop:=
 ∃news:List Value,news.length=ys.length*sz/\(Builtin.lenOf v).run P w=.ok ys.length w/\(∀k,k<=ys.length->∀w',w'.heap=w.heap->(Builtin.firstCells sz k v).run P w'=.ok (news.take (k*sz)).toArray w')/\ik c.I w ys news.toArray 0 sz
theorem Jt{c:Ctx}(h0:0<sz){es:List (List D)}{a:Option Addr}{cap:Nat}(gy:es=[]\/sy=sz/\∃b off arr ty fz,a=some ⟨b,off,none⟩/\w.heap[b]?=some (.cells arr ty fz)/\ik c.I w es arr off sy):
 Src P c w (.slice a es.length cap) es sz:=by
 rcases gy with gy|⟨hss,b,off,arr,ty,fz,ha,hh,hE⟩
 ·subst gy
  refine⟨[],by simp,by simp[Builtin.lenOf],λk hk w' _=>?_,by simp[ra,pN]⟩
  have Ah:k=0:=by simpa using hk
  subst Ah
  cases a with
  |none=>simp[Builtin.firstCells]
  |some a=>
   have:=run_firstCells_some (P:=P) w' sz 0 a 0 cap [] (by simp) (λj v h=>by simp at h)
   simpa using this
 ·subst hss
  obtain⟨news,g1,g2,g3⟩:=Ss hE h0
  refine⟨news,g1,by simp[Builtin.lenOf],λk hk w' YE=>?_,g3⟩
  subst ha
  refine run_firstCells_some (P:=P) w' sy k ⟨b,off,none⟩ _ cap (news.take (k*sy)) ?_ λj u hj=>?_
  ·have:=bD sy hk
   simp;omega
  ·rw[qu (by rw[YE];exact hh)]
   rw[aF]at hj
   split at hj
   ·exact g2 j u hj
   ·cases hj
theorem z7{c:Ctx}(h0:0<sz)(h:sr R y=some (sy,ys))(hs:sy=sz\/ys.l=[])(hm:Mem c w)(hA:mn c R)(hr:Rep c w y v):Src P c w v ys.l sz:=by
 cases y<;>simp only[sr]at h<;>try(cases h;done)
 case c7=>cases h;rw[show v=_ from hr];exact Jt (sy:=sz) h0 (es:=[]) (.inl rfl)
 case emp=>cases h;obtain⟨a,hv,_⟩:=hr;rw[hv];exact Jt (sy:=sz) h0 (es:=[]) (.inl rfl)
 case sl s es fr=>
  cases h
  obtain⟨a,cap,hv,hc,gy⟩:=hr
  rw[hv]
  refine Jt (sy:=sy) h0 ?_
  rcases gy with gy|⟨b,off,arr,ty,fz,ha,hI,hf,hh,hE⟩
  ·exact .inl gy
  ·rcases hs with hs|hs
   ·exact .inr ⟨hs,b,off,arr,ty,fz,ha,hh,hE⟩
   ·exact .inl hs
 case all r=>
  split at h
  ·rename_i ty s es hR
   cases h
   obtain⟨row,g1,g2,hv⟩:=hr
   have:=hA r row _ g1 hR
   subst this
   rcases hv with⟨hV,a,hv,_⟩|⟨hV,cap,arr,hv,g3,g4,g5,g6⟩
   ·have he:=(hm.nA g1 hV).2.1
    simp only at he
    rw[hv,he]
    exact Jt (sy:=sz) h0 (es:=[]) (.inl rfl)
   ·obtain⟨iG,jC,iS,hx⟩:=hm.real g1 hV
    simp only at g5 jC hx hv
    rw[g5]at jC;cases jC
    simp only[aA,if_false]at hx
    rw[hv]
    refine Jt (sy:=sy) h0 ?_
    rcases hs with hs|hs
    ·exact .inr ⟨hs,_,0,arr,_,_,rfl,g5,hx⟩
    ·exact .inl hs
  ·cases h
 case own r o n=>
  split at h
  ·rename_i ty s es hR
   cases h
   obtain⟨row,g1,g2,g5,hv⟩:=hr
   have:=hA r row _ g1 hR
   subst this
   simp only at g5
   have hlen:((es.l.drop o).take n).length=n:=by simp only[aD,aG];omega
   rw[ai.iW,ai.kh]at hs⊢
   rcases hv with⟨g7,a,hv,_⟩|⟨hV,cap,arr,g3,g4,g6,hv,g7⟩
   ·subst g7
    rw[hv]
    have:=Jt (P:=P) (c:=c) (w:=w) (sy:=sz) h0 (es:=(es.l.drop o).take 0) (a:=a) (cap:=0) (.inl (by simp))
    simpa using this
   ·obtain⟨iG,jC,iS,hx⟩:=hm.real g1 hV
    simp only at g6 jC hx hv
    rw[g6]at jC;cases jC
    simp only[aA,if_false]at hx
    have hE:=Mb (n:=n) (Kn (l:=o) hx)
    have:=Jt (P:=P) (c:=c) (w:=w) (sy:=sy) h0 (es:=(es.l.drop o).take n) (a:=some ⟨c.ρ r,o*sy,none⟩) (cap:=cap) (by
     rcases hs with hs|hs
     ·exact .inr ⟨hs,_,o*sy,arr,_,_,rfl,g6,by simpa using hE⟩
     ·exact .inl hs)
    rw[hlen]at this
    rw[hv];exact this
  ·cases h
theorem y7{c:Ctx}{ke kx:TK}(h0:0<sz)(h:CG R ke kx y=some (sy,ys))(hs:sy=sz\/ys.l=[])(hm:Mem c w)(hA:mn c R)(hr:Rep c w y v):Src P c w v ys.l sz:=by
 unfold CG at h
 split at h
 ·exact z7 h0 h hs hm hA hr
 ·split at h
  ·rename_i s
   cases h
   have hv:=Rep.str.1 hr
   subst hv
   have fp:(ByteArray.mk s.toArray).size=s.length:=by simp[ByteArray.size]
   have ext:∀k,((ByteArray.mk s.toArray).extract 0 k).data.toList=s.take k:=λk=>by
    simp[ByteArray.data_extract]
   have hf:∀k w',(Builtin.firstCells sz k (.string ⟨s.toArray⟩)).run P w'=.ok ((s.map λb=>Value.int .u8 b.toNat).take k).toArray w':=λk w'=>by
    simp only[Builtin.firstCells,Sem.run_pure]
    congr 1
    apply fH
    simp only[Array.toList_map,ext,List.map_take]
   rcases hs with hs|hs
   ·subst hs
    exact⟨s.map λb=>Value.int .u8 b.toNat,by simp[pf,ai.len],by simp[Builtin.lenOf,pf,ai.len,fp],λk hk w' _=>by rw[hf];simp,Zmk s⟩
   ·have:s=[]:=by simpa[pf,ai.l]using hs
    subst this
    exact⟨[],by simp[pf,ai.len],by simp[Builtin.lenOf,pf,ai.len,fp],λk hk w' _=>by rw[hf];simp,by simp[pf,ai.l,ra,pN]⟩
  ·cases h
 ·cases h
def Ctx.jt(c:Ctx)(k:Nat)(row:Row):Ctx:={c with R:=λr=>if r=k then some row else c.R r,V:=λr=>r=k\/c.V r}
theorem SQ{c:Ctx}(hk:c.R k=none)(row:Row):ja c w (c.jt k row) w:=by
 refine⟨rfl,aX _,λb hb=>⟨hb,rfl⟩,λr x hr=>?_⟩
 have gq:r≠k:=λe=>by rw[e,hk]at hr;cases hr
 exact⟨x,by simp[Ctx.jt,gq,hr],rfl,rfl,rfl,rfl,rfl,by simp[Ctx.jt,gq],λ_ arr ha=>⟨arr,ha,rfl⟩⟩
theorem Ww{c:Ctx}(hm:Mem c w)(hk:c.R k=none)(hb:row.box=false)(he:row.es.l=[])(h0:0<row.sz):Mem (c.jt k row) w:=by
 have hg:=SQ (w:=w) hk row
 have inv:∀r x,(c.jt k row).R r=some x->¬(c.jt k row).V r->c.R r=some x/\¬c.V r:=λr x hr hv=>by
  have h1:¬r=k:=λe=>hv (.inl e)
  exact⟨by simpa[Ctx.jt,h1]using hr,λe=>hv (.inr e)⟩
 refine⟨λr x hr=>?_,λr s x y hr hs v1 v2 h=>?_,λb ie=>⟨(hm.fe b ie).1,λr x hr v=>?_⟩,hm.top,hm.jU⟩
 ·by_cases e:r=k
  ·subst e
   simp only[Ctx.jt,if_true,Option.some.injEq]at hr
   subst hr
   exact .inl ⟨.inl rfl,hb,he,h0⟩
  ·have pI:c.R r=some x:=by simpa[Ctx.jt,e]using hr
   exact tz hg rfl (by simp[Ctx.jt,e]) (λ_=>rfl) (hm.row r x pI)
 ·obtain⟨h1,h2⟩:=inv r x hr v1
  obtain⟨h3,h4⟩:=inv s y hs v2
  exact hm.inj r s x y h1 h3 h2 h4 h
 ·obtain⟨h1,h2⟩:=inv r x hr v
  exact(hm.fe b ie).2 r x h1 h2
theorem Kj(c:Ctx)(w:World):ja c w c w.drew:=⟨rfl,aX _,λb hb=>⟨hb,rfl⟩,λr row hr=>⟨row,hr,rfl,rfl,rfl,rfl,rfl,Iff.rfl,λ_ arr ha=>⟨arr,ha,rfl⟩⟩⟩
theorem H4{c:Ctx}(h:Mem c w):Mem c w.drew:=
 ⟨λr row hr=>tz (Kj c w) rfl Iff.rfl (λ_=>rfl) (h.row r row hr),h.inj,h.fe,h.top,h.jU⟩
theorem Su{es ys:List (List D)}{A B C:List Value}(h1:ik I w es A.toArray 0 sz)(hA:A.length=es.length*sz)(h2:ik I w ys B.toArray 0 sz)(hB:B.length=ys.length*sz):ik I w (es++ys) (A++B++C).toArray 0 sz:=by
 rw[tA]at h1 h2⊢
 intro i hi
 by_cases bd:i<es.length
 ·have he:(es++ys).getD i []=es.getD i []:=by simp[aV,bI bd]
  rw[he]
  obtain⟨g1,g2⟩:=h1 i bd
  refine⟨g1,?_⟩
  rw[tX]at g2⊢
  intro j hj
  obtain⟨v,hv,hp⟩:=g2 j hj
  refine⟨v,?_,hp⟩
  have hl:=(Array.getElem?_eq_some_iff.1 hv).1
  simp only[bH,aK]at hv hl⊢
  rw[aM,bI hl];exact hv
 ·have iD:i-es.length<ys.length:=by simp at hi;omega
  have he:(es++ys).getD i []=ys.getD (i-es.length) []:=by simp[aV,bJ (show es.length<=i by omega)]
  rw[he]
  obtain⟨g1,g2⟩:=h2 _ iD
  refine⟨g1,?_⟩
  rw[tX]at g2⊢
  intro j hj
  obtain⟨v,hv,hp⟩:=g2 j hj
  refine⟨v,?_,hp⟩
  have hl:=(Array.getElem?_eq_some_iff.1 hv).1
  simp only[bH,aK]at hv hl⊢
  have e:0+i*sz+j=A.length+(0+(i-es.length)*sz+j):=by
   rw[hA,show i*sz=(es.length+(i-es.length))*sz by congr 1;omega,bK];omega
  rw[e,aM,bJ (by omega),bI (by omega)]
  rw[show A.length+(0+(i-es.length)*sz+j)-A.length=0+(i-es.length)*sz+j by omega]
  exact hv
theorem zR{c:Ctx}(hm:Mem c w){row ao:Row}{cur arr:Array Value}(hr:c.R r=some row)(hV:¬c.V r)(hk:c.R k=none)(hh:w.heap[c.ρ r]?=some (.cells cur row.ty (0,0)))(Kg:ao.ty=row.ty)(h0:0<ao.sz)(hb:ao.box=false)
 (hE:∀w',(∀b,c.I b->w'.heap[b]?=w.heap[b]?)->ik c.I w' ao.es.l arr 0 ao.sz):
 ja (c.kill [r]) w ((c.kill [r]).add k ao (c.ρ r)) (w.setRow (c.ρ r) arr)/\Mem ((c.kill [r]).add k ao (c.ρ r)) (w.setRow (c.ρ r) arr):=by
 have tQ:=Sr (ks:=[r]) hm
 have Bx:(c.kill [r]).R k=none:=by simp[Ctx.kill,hk]
 have nh:∀s x,(c.kill [r]).R s=some x->s≠r/\s≠k:=λs x hs=>by
  obtain⟨h1,jH,h2,_⟩:=nj hs
  refine⟨λe=>?_,λe=>by rw[e,Bx]at hs;cases hs⟩
  rw[e]at h1
  have:=nU (r:=r) (l:=[r])
  simp[h1]at this
 have eu:(w.setRow (c.ρ r) arr).heap[c.ρ r]?=some (.cells arr row.ty (0,0)):=setRow_heap w _ _ _ _ _ hh
 have r4:∀s x,(c.kill [r]).R s=some x->¬c.V s->(w.setRow (c.ρ r) arr).heap[c.ρ s]?=w.heap[c.ρ s]? :=λs x hs v=>setRow_other w _ _ _ λe=>by
  obtain⟨_,jH,h2,_⟩:=nj hs
  exact(nh s x hs).1 (hm.inj s r jH row h2 hr v hV e)
 have hI:∀b,c.I b->(w.setRow (c.ρ r) arr).heap[b]?=w.heap[b]? :=λb hb=>setRow_other w _ _ _ (λe=>(hm.fe b hb).2 r row hr hV e.symm)
 have hg:ja (c.kill [r]) w ((c.kill [r]).add k ao (c.ρ r)) (w.setRow (c.ρ r) arr):=by
  refine⟨rfl,aX _,λb hb=>⟨hb,hI b hb⟩,λs x hs=>?_⟩
  obtain⟨n1,n2⟩:=nh s x hs
  exact⟨x,by simp[Ctx.add,n2,hs],rfl,rfl,rfl,rfl,by simp[Ctx.add,n2],by simp[Ctx.add,n2],λv a ha=>⟨a,(r4 s x hs v).trans ha,rfl⟩⟩
 have inv:∀s x,((c.kill [r]).add k ao (c.ρ r)).R s=some x->¬((c.kill [r]).add k ao (c.ρ r)).V s->(s=k/\((c.kill [r]).add k ao (c.ρ r)).ρ s=c.ρ r)\/(s≠k/\s≠r/\((c.kill [r]).add k ao (c.ρ r)).ρ s=c.ρ s/\¬c.V s/\∃y,c.R s=some y):=λs x hs v=>by
  by_cases e:s=k
  ·exact .inl ⟨e,by simp[Ctx.add,e]⟩
  ·have iS:(c.kill [r]).R s=some x:=by simpa[Ctx.add,e]using hs
   obtain⟨_,y,hy,_⟩:=nj iS
   have v':¬c.V s:=λh=>v (by simp only[Ctx.add];exact⟨e,h⟩)
   exact .inr ⟨e,(nh s x iS).1,by simp[Ctx.add,e,Ctx.kill],v',y,hy⟩
 refine⟨hg,⟨λs x hs=>?_,λs q x y hs hq v1 v2 he=>?_,λb ie=>?_,by show c.top<=(w.setRow _ _).heap.size;simpa[World.setRow]using hm.top,hm.jU.mono hg.I⟩⟩
 ·by_cases e:s=k
  ·subst e
   simp only[Ctx.add,if_true,Option.some.injEq]at hs
   subst hs
   refine .inr ⟨by simp[Ctx.add],arr,by simp only[Ctx.add,if_true];rw[Kg];exact eu,h0,?_⟩
   rw[hb]
   simp only[aA,if_false]
   exact hE _ hI
  ·have iS:(c.kill [r]).R s=some x:=by simpa[Ctx.add,e]using hs
   exact tz hg (by simp[Ctx.add,e]) (by simp[Ctx.add,e]) (λv=>r4 s x iS v) (tQ.row s x iS)
 ·rcases inv s x hs v1 with⟨e1,p1⟩|⟨e1,p1,p2,p3,y1,p4⟩<;>rcases inv q y hq v2 with⟨e2,q1⟩|⟨e2,q1,q2,q3,y2,q4⟩
  ·rw[e1,e2]
  ·rw[p1,q2]at he
   exact(q1 (hm.inj q r y2 row q4 hr q3 hV he.symm)).elim
  ·rw[p2,q1]at he
   exact(p1 (hm.inj s r y1 row p4 hr p3 hV he)).elim
  ·rw[p2,q2]at he
   exact hm.inj s q y1 y2 p4 q4 p3 q3 he
 ·refine⟨by simpa[World.setRow]using(hm.fe b ie).1,λs x hs v=>?_⟩
  rcases inv s x hs v with⟨e1,p1⟩|⟨e1,p1,p2,p3,y1,p4⟩
  ·rw[p1];exact(hm.fe b ie).2 r row hr hV
  ·rw[p2];exact(hm.fe b ie).2 s y1 p4 p3
def BM(P:Program)(o:Oper)(ev:Operand->D)(R:Rows)(ks:List Nat)(val:D)(R':Rows):Prop:=
 ∀ (c:Ctx) (w:World) (a:Act),Mem c w->c.base<=w.heap.size->(∀r,c.R r=R.getD r none)->(∀x∈o.op.operands,Rep c w (ev x) (a.eval x))->
  ∀K Q,(∀v w' c',jK ks c w c' w'->(∀r,c'.R r=R'.getD r none)->Rep c' w' val v->K (a.put o.dst v) w')->o.nk P a w K Q
theorem EC.toK{o:Oper}{val:D}{R':Rows}(h:EC P o ev R val R'):BM P o ev R [] val R':=
 λc w a hm hb hR eh K Q hK=>h c w a hm hb hR eh K Q λv w' c' hn jZ hv=>hK v w' c' hn.toK jZ hv
section
variable {P:Program} {c:Ctx} {w:World} {R:Rows} {ks:List Nat} {e sz lL:Nat} {es ys:ai}
theorem Ux{ρ':Nat->Nat}{V':Nat->Prop}(hR:∀r,c.R r=R.getD r none):∀r,(if r=R.length then some row else(c.kill ks).R r)=(rS ks R 0++[some row]).getD r none:=by
 intro r
 by_cases e:r=R.length
 ·subst e
  simp[aV,bJ,Js]
 ·rw[if_neg e]
  by_cases bd:r<R.length
  ·rw[aV,bI (by rw[Js];exact bd),<-aV,PR]
   simp[Ctx.kill,hR]
  ·rw[aV,aJ (by simp[Js];omega)]
   simp[Ctx.kill,hR,aJ (show R.length<=r by omega)]
theorem append_empty(ht:P.underlying t=some (.slice e))(py:P.underlying tx=some ux)(hx: ∀k,ux≠ .int k)(hi:P.info? e=some i)(hz:i.zero=some z)(fp:i.size=sz)(uK:i.bytes=lL)(AS:z.cells.size=sz)
    (hm:Mem c w) (hb:c.base<=w.heap.size) (hR: ∀r,c.R r=R.getD r none) (h0:0<sz) (sK:0<lL) (oA:lL*(0+ys.l.length)<=140737488355328) {a:Option Addr} (CH:CI c.top a) {vy:Value} (hs:Src P c w vy ys.l sz):
    ∃v' w' c',(Builtin.append_ #[t,tx] ty #[.slice a 0 0,vy]).run P w= .ok v' w'/\jK ks c w c' w'/\(∀r,c'.R r=(rS ks R 0++[some (⟨false,e,sz,ys⟩:Row)]).getD r none)/\Rep c' w' (.all R.length) v':=by
  obtain⟨news,g1,g2,g3,g4⟩:=hs
  have hk:c.R R.length=none:=by rw[hR];simp [aV]
  have Bx:(c.kill ks).R R.length=none:=by simp [Ctx.kill,hk]
  have tQ:=Sr (ks:=ks) hm
  subst fp
  by_cases hm0:ys.l.length=0
  . have SW:ys.l=[]:=fA hm0
    have hn:news=[]:=fA (by rw[g1,hm0];simp)
    subst hn
    rw[SW]at g2 g3
    have ij:=Qpt (P:=P) w (ty:=ty) (n:=0) (cap:=0) (a:=a) (w':=w) ht py hx hi g2 (by simpa using g3 0 (aX _) w rfl) (by simp) (λb _=>by simp [storeCells]) (λ_=>rfl)
    refine⟨_,w,(c.kill ks).jt R.length ⟨false,e,i.size,ys⟩,ij,⟨Ww tQ Bx rfl SW h0,SQ Bx _,Fr.refl _ w,λb hb=> .inl hb,λr ao h1 h2=> ?_⟩,Ux (ρ':=c.ρ) (V':=c.V) hR,?_⟩
    . have gq:r≠R.length:=λe=>h2 (.inl e)
      have r5:(c.kill ks).R r=some ao:=by simpa [Ctx.jt,gq] using h1
      obtain⟨_,jH,h3,_⟩:=nj r5
      exact .inl ⟨⟨jH,h3⟩,λe=>h2 (.inr e),rfl⟩
    . exact⟨⟨false,e,i.size,ys⟩,by simp [Ctx.jt],rfl, .inl ⟨.inl rfl,a,rfl,CH⟩⟩
  . have hlen:(0+ys.l.length:Nat)*i.bytes<=140737488355328:=by rw[uK,fJ];exact oA
    have IL:0+ys.l.length<=140737488355328:=bL (fK _ (by rw[uK];exact sK)) hlen
    have YF:0+ys.l.length<=maxLen:=by unfold maxLen;omega
    have ij:=Qpp (P:=P) w (ty:=ty) (n:=0) (cap:=0) (a:=a) (kQ:=[]) (news:=news) ht py hx hi hz g2
      (by have:=g3 _ (aX _) w.drew rfl;rwa [fD (by omega)]at this)
      (by cases a with
          |none=>simp [Builtin.firstCells]
          |some a=>simpa using run_firstCells_some (P:=P) w.drew i.size 0 a 0 0 [] (by simp) (λj v h=>by simp at h)) (by omega) (by omega) (growslice_fits (by omega) hlen)
    have gh:=grownCap_ge w (0+ys.l.length) 0 e
    have Aq:grownCap w (0+ys.l.length) 0 e<=maxLen:=grownCap_le_maxLen w _ _ e YF
    generalize grownCap w (0+ys.l.length) 0 e=gc at ij gh Aq
    have pz:(#[]++news.toArray++Builtin.zeroCells z.cells (gc-(0+ys.l.length))).size=gc*i.size:=by
      have e1:(#[]++news.toArray++Builtin.zeroCells z.cells (gc-(0+ys.l.length))).size=ys.l.length*i.size+(gc-(0+ys.l.length))*i.size:=by
        simp [size_zeroCells,AS,g1]
      rw[e1,<-bK]
      congr 1;omega
    have hE: ∀(I:ae) (w':World),(∀b,c.I b->I b/\w'.heap[b]? =w.heap[b]?)->ik I w' ys.l (#[]++news.toArray++Builtin.zeroCells z.cells (gc-(0+ys.l.length))) 0 i.size:=λI w' h=>by
      have:=Su (I:=I) (w:=w') (es:=[]) (ys:=ys.l) (A:=[]) (B:=news) (C:=(Builtin.zeroCells z.cells (gc-(0+ys.l.length))).toList) (sz:=i.size) (by simp [ra,pN]) (by simp) (nC h _ _ _ _ g4) g1
      have h2:(#[]++news.toArray++Builtin.zeroCells z.cells (gc-(0+ys.l.length)))=([]++news++(Builtin.zeroCells z.cells (gc-(0+ys.l.length))).toList).toArray:=by apply fH;simp
      rw[h2];simpa using this
    have Hk:=Mem.alloc (w:=w.drew) (H4 tQ) Bx ⟨false,e,i.size,ys⟩ (#[]++news.toArray++Builtin.zeroCells z.cells (gc-(0+ys.l.length))) h0 (by
      simp only[aA,if_false]
      exact hE _ _ λb hb=>⟨hb,rfl⟩)
    have oB:=Uy (c:=c.kill ks) (w:=w.drew) (k:=R.length) (e:=e) (sz:=i.size) (cap:=gc) (es:=ys) (arr:= #[]++news.toArray++Builtin.zeroCells z.cells (gc-(0+ys.l.length))) (by omega) Aq pz.symm
    refine⟨_,_,(c.kill ks).add R.length ⟨false,e,i.size,ys⟩ w.heap.size,ij,⟨Hk,(Kj _ w).trans (ja.alloc (w:=w.drew) (H4 tQ) Bx _ _),?_,λb hb=> .inl hb,λr ao h1 h2=> ?_⟩,Ux (ρ':=c.ρ) (V':=c.V) hR,by have h3:=oB;simp only[bG]at h3⊢;exact h3⟩
    . exact Fr.trans (w':=w.drew) ⟨rfl,rfl,rfl,aX _,λ_ _ _=>rfl⟩ (Fr.alloc _ w.drew _)
    . by_cases e1:r=R.length
      . subst e1
        right;right
        simp [Ctx.add]
      . have r5:(c.kill ks).R r=some ao:=by simpa [Ctx.add,e1] using h1
        obtain⟨_,jH,h3,_⟩:=nj r5
        exact .inl ⟨⟨jH,h3⟩,by simpa [Ctx.add,e1,Ctx.kill] using h2,by simp [Ctx.add,e1,Ctx.kill]⟩
theorem Zk1(ht:P.underlying t=some (.slice e))(py:P.underlying tx=some ux)(hx:∀k,ux≠.int k)(hi:P.info? e=some i)(hz:i.zero=some z)(fp:i.size=sz)(uK:i.bytes=lL)(AS:z.cells.size=sz)
 (hm:Mem c w) (hb:c.base<=w.heap.size) (hR:∀r,c.R r=R.getD r none) (h0:0<sz) (sK:0<lL) (oA:lL*(es.l.length+ys.l.length)<=140737488355328) {r:Nat} {row:Row} (q1:c.R r=some row) (Kg:row.ty=e) (hV:¬c.V r) {cap:Nat} {cur:Array Value} (h1:es.l.length<=cap) (h2:cap<=maxLen) (h3:w.heap[c.ρ r]?=some (.cells cur e (0,0))) (h4:cap*sz=cur.size) (By:ik c.I w es.l cur 0 sz) {vy:Value} (hs:Src P c w vy ys.l sz):
 ∃v' w' c',(Builtin.append_ #[t,tx] ty #[.slice (some ⟨c.ρ r,0,none⟩) es.l.length cap,vy]).run P w=.ok v' w'/\jK [r] c w c' w'/\(∀q,c'.R q=(rS [r] R 0++[some (⟨false,e,sz,es.app ys⟩:Row)]).getD q none)/\Rep c' w' (.all R.length) v':=by
 obtain⟨news,g1,g2,g3,g4⟩:=hs
 have hk:c.R R.length=none:=by rw[hR];simp[aV]
 have Bx:(c.kill [r]).R R.length=none:=by simp[Ctx.kill,hk]
 have tQ:=Sr (ks:=[r]) hm
 subst fp
 have hlen:(es.l.length+ys.l.length)*i.bytes<=140737488355328:=by rw[uK,fJ];exact oA
 have IL:es.l.length+ys.l.length<=140737488355328:=bL (fK _ (by rw[uK];exact sK)) hlen
 have YF:es.l.length+ys.l.length<=maxLen:=by unfold maxLen;omega
 obtain⟨kQ,o1,o2,o3⟩:=Ss By h0
 by_cases kO:es.l.length+ys.l.length<=cap
 ·have mP:es.l.length*i.size+0+news.length<=cur.size:=by rw[g1,<-h4,aB,<-bK];exact bD _ kO
  have jV:=run_storeCells_at (P:=P) (c.ρ r) (es.l.length*i.size) e news 0 cur w h3 mP (ik.one g4 g1)
  simp only[aB]at jV mP
  have ij:=Qpt (P:=P) w (ty:=ty) (n:=es.l.length) (cap:=cap) (a:=some ⟨c.ρ r,0,none⟩) ht py hx hi g2 (by have:=g3 _ (aX _) w rfl;rwa [fD (by omega)]at this) kO (λb hb=>by cases hb;rw[Addr.add_lit,bG];exact jV) (λh=>by cases h)
  have hE:∀w',(∀b,c.I b->w'.heap[b]?=w.heap[b]?)->ik c.I w' (es.app ys).l (cur.toList.take (es.l.length*i.size)++news++cur.toList.drop (es.l.length*i.size+news.length)).toArray 0 i.size:=λw' h=>by
   rw[ai.j4]
   refine Su (A:=cur.toList.take (es.l.length*i.size)) (nC (λb hb=>⟨hb,h b hb⟩) _ _ _ _ ?_) (by rw[aD,show cur.toList.length=cur.size from rfl];omega) (nC (λb hb=>⟨hb,h b hb⟩) _ _ _ _ g4) g1
   have:cur.toList.take (es.l.length*i.size)=kQ:=by
    apply List.ext_getElem?
    intro j
    by_cases hj:j<kQ.length
    ·have:=o2 j _ (aI hj)
     rw[aF,if_pos (by omega),aI hj]
     simpa using this
    ·rw[aJ (by rw[aD];omega),aJ (by omega)]
   rw[this];exact o3
  obtain⟨k1,k2⟩:=zR hm (k:=R.length) (ao:=⟨false,e,i.size,es.app ys⟩) q1 hV hk (by rw[Kg];exact h3) Kg.symm h0 rfl hE
  refine⟨_,_,_,ij,⟨k2,k1,(Sv w _ _).mono λb _ hb=>⟨r,_,q1,hV,hb.symm⟩,λb hb=>.inl hb,λq ao p1 p2=>?_⟩,Ux (ρ':=c.ρ) (V':=c.V) hR,?_⟩
  ·by_cases e1:q=R.length
   ·subst e1
    exact .inr (.inl ⟨r,_,by simp[da],q1,hV,by simp[Ctx.add]⟩)
   ·have r5:(c.kill [r]).R q=some ao:=by simpa[Ctx.add,e1]using p1
    obtain⟨_,jH,M8,_⟩:=nj r5
    exact .inl ⟨⟨jH,M8⟩,by simpa[Ctx.add,e1,Ctx.kill]using p2,by simp[Ctx.add,e1,Ctx.kill]⟩
  ·refine⟨⟨false,e,i.size,es.app ys⟩,by simp[Ctx.add],rfl,.inr ⟨by simp[Ctx.add],cap,(cur.toList.take (es.l.length*i.size)++news++cur.toList.drop (es.l.length*i.size+news.length)).toArray,?_,by rw[ai.j4,lA];exact kO,h2,?_,?_⟩⟩
   ·simp only[Ctx.add,if_true,ai.j4,lA]
   ·simp only[Ctx.add,if_true];exact setRow_heap w _ _ _ _ _ h3
   ·simp only[aK,lA,aD,aG,Array.length_toList]
    rw[h4];omega
 ·have ij:=Qpp (P:=P) w (ty:=ty) (n:=es.l.length) (cap:=cap) (a:=some ⟨c.ρ r,0,none⟩) (kQ:=kQ) (news:=news) ht py hx hi hz g2
   (by have:=g3 _ (aX _) w.drew rfl;rwa [fD (by omega)]at this)
   (run_firstCells_some (P:=P) w.drew i.size es.l.length _ _ cap kQ o1 λj v hj=>by
    rw[qu (w:=w.drew) h3];exact o2 j v hj) (by omega) (by omega) (growslice_fits (by omega) hlen)
  have gh:=grownCap_ge w (es.l.length+ys.l.length) cap e
  have Aq:grownCap w (es.l.length+ys.l.length) cap e<=maxLen:=grownCap_le_maxLen w _ _ e YF
  generalize grownCap w (es.l.length+ys.l.length) cap e=gc at ij gh Aq
  have pz:(kQ.toArray++news.toArray++Builtin.zeroCells z.cells (gc-(es.l.length+ys.l.length))).size=gc*i.size:=by
   have e1:(kQ.toArray++news.toArray++Builtin.zeroCells z.cells (gc-(es.l.length+ys.l.length))).size=es.l.length*i.size+ys.l.length*i.size+(gc-(es.l.length+ys.l.length))*i.size:=by
    simp[size_zeroCells,AS,g1,o1]
   rw[e1,<-bK,<-bK]
   congr 1;omega
  have hE:∀(I:ae) (w':World),(∀b,c.I b->I b/\w'.heap[b]?=w.heap[b]?)->ik I w' (es.app ys).l (kQ.toArray++news.toArray++Builtin.zeroCells z.cells (gc-(es.l.length+ys.l.length))) 0 i.size:=λI w' h=>by
   rw[ai.j4]
   have:=Su (I:=I) (w:=w') (es:=es.l) (ys:=ys.l) (A:=kQ) (B:=news) (C:=(Builtin.zeroCells z.cells (gc-(es.l.length+ys.l.length))).toList) (sz:=i.size) (nC h _ _ _ _ o3) o1 (nC h _ _ _ _ g4) g1
   have h2:(kQ.toArray++news.toArray++Builtin.zeroCells z.cells (gc-(es.l.length+ys.l.length)))=(kQ++news++(Builtin.zeroCells z.cells (gc-(es.l.length+ys.l.length))).toList).toArray:=by apply fH;simp
   rw[h2];exact this
  have Hk:=Mem.alloc (w:=w.drew) (H4 tQ) Bx ⟨false,e,i.size,es.app ys⟩ (kQ.toArray++news.toArray++Builtin.zeroCells z.cells (gc-(es.l.length+ys.l.length))) h0 (by
   simp only[aA,if_false]
   exact hE _ _ λb hb=>⟨hb,rfl⟩)
  have oB:=Uy (c:=c.kill [r]) (w:=w.drew) (k:=R.length) (e:=e) (sz:=i.size) (cap:=gc) (es:=es.app ys) (arr:=kQ.toArray++news.toArray++Builtin.zeroCells z.cells (gc-(es.l.length+ys.l.length))) (by rw[ai.j4,lA];omega) Aq pz.symm
  refine⟨_,_,(c.kill [r]).add R.length ⟨false,e,i.size,es.app ys⟩ w.heap.size,ij,⟨Hk,(Kj _ w).trans (ja.alloc (w:=w.drew) (H4 tQ) Bx _ _),?_,λb hb=>.inl hb,λq ao p1 p2=>?_⟩,Ux (ρ':=c.ρ) (V':=c.V) hR,by rw[ai.j4,lA]at oB;exact oB⟩
  ·exact Fr.trans (w':=w.drew) ⟨rfl,rfl,rfl,aX _,λ_ _ _=>rfl⟩ (Fr.alloc _ w.drew _)
  ·by_cases e1:q=R.length
   ·subst e1
    right;right
    simp[Ctx.add]
   ·have r5:(c.kill [r]).R q=some ao:=by simpa[Ctx.add,e1]using p1
    obtain⟨_,jH,M8,_⟩:=nj r5
    exact .inl ⟨⟨jH,M8⟩,by simpa[Ctx.add,e1,Ctx.kill]using p2,by simp[Ctx.add,e1,Ctx.kill]⟩
theorem Zs6(ht:P.underlying t=some (.slice e))(py:P.underlying tx=some ux)(hx:∀k,ux≠.int k)(hi:P.info? e=some i)(hz:i.zero=some z)(fp:i.size=sz)(uK:i.bytes=lL)(AS:z.cells.size=sz)
 (hm:Mem c w) (hb:c.base<=w.heap.size) (hR:∀r,c.R r=R.getD r none) (h0:0<sz) (sK:0<lL) (oA:lL*(es.l.length+ys.l.length)<=140737488355328) {r:Nat} (hr:R.getD r none=some ⟨false,e,sz,es⟩) {vx vy:Value} (YG:Rep c w (.all r) vx) (hs:Src P c w vy ys.l sz):
 ∃v' w' c',(Builtin.append_ #[t,tx] ty #[vx,vy]).run P w=.ok v' w'/\jK [r] c w c' w'/\(∀q,c'.R q=(rS [r] R 0++[some (⟨false,e,sz,es.app ys⟩:Row)]).getD q none)/\Rep c' w' (.all R.length) v':=by
 obtain⟨row,q1,q2,hv⟩:=YG
 have cz:row=⟨false,e,sz,es⟩:=by rw[hR,hr]at q1;exact(Option.some.inj q1).symm
 subst cz
 rcases hv with⟨hV,a,hv,CH⟩|⟨hV,cap,cur,hv,h1,h2,h3,h4⟩
 ·have he:=(hm.nA q1 hV).2.1
  simp only at he
  subst hv
  have hl:(es.app ys).l=ys.l:=by rw[ai.j4,he];rfl
  exact append_empty (ks:=[r]) (ys:=es.app ys) ht py hx hi hz fp uK AS hm hb hR h0 sK (by rw[hl];rw[he]at oA;simpa using oA) CH (by rw[hl];exact hs)
 ·have hl:=hm.real q1 hV
  obtain⟨M3,jC,_,By⟩:=hl
  simp only at h1 h3 h4 hv jC
  subst hv
  rw[h3]at jC;cases jC
  simp only[aA,if_false]at By
  exact Zk1 ht py hx hi hz fp uK AS hm hb hR h0 sK oA q1 rfl hV h1 h2 h3 h4 By hs
theorem Zse(ht:P.underlying t=some (.slice e))(py:P.underlying tx=some ux)(hx:∀k,ux≠.int k)(hi:P.info? e=some i)(hz:i.zero=some z)(fp:i.size=sz)(uK:i.bytes=lL)(AS:z.cells.size=sz)
 (hm:Mem c w) (hb:c.base<=w.heap.size) (hR:∀r,c.R r=R.getD r none) (h0:0<sz) (sK:0<lL) (oA:lL*((es.take n).l.length+ys.l.length)<=140737488355328) {r:Nat} (hr:R.getD r none=some ⟨false,e,sz,es⟩) {vx vy:Value} (YG:Rep c w (.own r 0 n) vx) (hs:Src P c w vy ys.l sz):
 ∃v' w' c',(Builtin.append_ #[t,tx] ty #[vx,vy]).run P w=.ok v' w'/\jK [r] c w c' w'/\(∀q,c'.R q=(rS [r] R 0++[some (⟨false,e,sz,(es.take n).app ys⟩:Row)]).getD q none)/\Rep c' w' (.all R.length) v':=by
 obtain⟨row,q1,q2,hle,hv⟩:=YG
 have cz:row=⟨false,e,sz,es⟩:=by rw[hR,hr]at q1;exact(Option.some.inj q1).symm
 subst cz
 have hln:(es.take n).l.length=n:=by rw[ai.iW,aD];simp only at hle;omega
 rcases hv with⟨h0',a,hv,CH⟩|⟨hV,cap,cur,h1,h2,h3,hv,h4⟩
 ·subst hv;subst h0'
  have Eg:(es.take 0).l=[]:=by rw[ai.iW];rfl
  have hl:((es.take 0).app ys).l=ys.l:=by rw[ai.j4,Eg];rfl
  have g:ja c w {c with top:=w.heap.size} w:=⟨rfl,hm.top,λb hb=>⟨hb,rfl⟩,λr row hr=>⟨row,hr,rfl,rfl,rfl,rfl,rfl,Iff.rfl,λnv arr ha=>⟨arr,ha,rfl⟩⟩⟩
  have Ip:Mem {c with top:=w.heap.size} w:=⟨λr row hr=>tz g rfl Iff.rfl (λ_=>rfl) (hm.row r row hr),hm.inj,hm.fe,aX _,hm.jU⟩
  have GF:CI w.heap.size a:=by
   rcases CH with h|⟨hV,h⟩
   ·exact h.mono hm.top
   ·exactλx hx=>by rw[h x hx];exact hm.lt q1 hV
  obtain⟨v',w',c',p1,p2,p3,p4⟩:=append_empty (c:={c with top:=w.heap.size}) (ks:=[r]) (ys:=(es.take 0).app ys) ht py hx hi hz fp uK AS Ip hb hR h0 sK (by rw[hl];rw[Eg]at oA;simpa using oA) GF (by rw[hl];exact hs)
  refine⟨v',w',c',p1,⟨p2.mem,?_,p2.fr,p2.fe,p2.om⟩,p3,p4⟩
  have g':ja (c.kill [r]) w (Ctx.kill {c with top:=w.heap.size} [r]) w:=⟨rfl,hm.top,λb hb=>⟨hb,rfl⟩,λr row hr=>⟨row,hr,rfl,rfl,rfl,rfl,rfl,Iff.rfl,λnv arr ha=>⟨arr,ha,rfl⟩⟩⟩
  exact g'.trans p2.cy
 ·obtain⟨M3,jC,_,By⟩:=hm.real q1 hV
  simp only at h3 h4 hv jC
  rw[h3]at jC;cases jC
  simp only[aA,if_false]at By
  have hE1:ik c.I w (es.take n).l cur 0 sz:=by rw[ai.iW];exact Mb By
  rw[hv,show((0:Nat)*sz)=0 from Nat.zero_mul _]
  have:=Zk1 (ty:=ty) (es:=es.take n) (cap:=cap) ht py hx hi hz fp uK AS hm hb hR h0 sK oA q1 rfl hV (by rw[hln];exact h1) h2 h3 (by rw[<-h4,bG]) hE1 hs
  rw[hln]at this
  exact this
end
theorem SH{E:ai}(h:IA E=true):E.l=[]:=by
 unfold IA at h
 split at h
 ·rfl
 ·cases h
theorem Zq5{T:iu}(hT:jg P T){x y:D}(h:Mc T M t tx x y R K):
    ∃ ks R',K ks (.all R.length) R'/\(∀k,da k ks=true->M<=k)/\ ∀c w vx vy,Mem c w->c.base<=w.heap.size->(∀r,c.R r=R.getD r none)->Rep c w x vx->Rep c w y vy->
      ∃v' w' c',(Builtin.append_ #[t,tx] ty #[vx,vy]).run P w= .ok v' w'/\jK ks c w c' w'/\(∀r,c'.R r=R'.getD r none)/\Rep c' w' (.all R.length) v':=by
  unfold Mc at h
  split at h
  . rename_i e iF _ _ _ _ _ ht
    have hk:=mK hT ht
    simp only at hk
    split at h
    . rename_i ke sz lL cs z q kx _ _ _ _ _ he htx
      obtain⟨i,u,hi,hu,w9,hs,hb,hc,hzero⟩:=Hl hT he
      have Uz:=mK hT htx
      split at h
      . rename_i sy ys jR
        simp only[dd,aE,Bool.or_eq_true]at h
        obtain⟨⟨⟨⟨h0,h1⟩,h2,h3⟩,h4,h5⟩,h⟩:=h
        have h0:0<sz:=lE h0
        have sK:0<lL:=lE h4
        have h2:=bE h2
        have h5:sy=sz\/ys.l=[]:=h5.imp bE SH
        have tM:u.cells.size=sz:=by have:=Md w9;simp at this;omega
        obtain⟨ux,py,nG⟩: ∃ux,P.underlying tx=some ux/\ ∀k,ux≠ .int k:=by
          unfold CG at jR
          split at jR
          . simp only at Uz;exact⟨_,Uz.1,λk e=>by cases e⟩
          . simp only at Uz;exact⟨_,Uz,λk e=>by cases e⟩
          . cases jR
        have wK: ∀(c:Ctx) (w:World) (vy:Value),Mem c w->(∀r,c.R r=R.getD r none)->Rep c w y vy->Src P c w vy ys.l sz:=λc w vy hm hR hy=>y7 h0 jR h5 hm (λr row ao g1 g2=>by rw[hR,g2]at g1;exact(Option.some.inj g1).symm) hy
        cases x<;>simp only at h
        case c7=>
          simp only[CJ,dd,decide_eq_true_eq,nm,<-ai.iq]at h
          refine⟨_,_,h.2,λk hk=>by simp [da]at hk,λc w vx vy hm rM hR hx hy=> ?_⟩
          rw[show vx=_ from hx]
          have hl:((ai.gen []).app ys).l=ys.l:=by rw[ai.j4];rfl
          exact append_empty (ks:=[]) (ys:=(ai.gen []).app ys) hk.1 py nG hi hu hs hb tM hm rM hR h0 sK (by rw[hl];have:=h.1;simpa [ai.l] using this) Nn (by rw[hl];exact wK c w vy hm hR hy)
        case emp=>
          simp only[CJ,dd,decide_eq_true_eq,nm,<-ai.iq]at h
          refine⟨_,_,h.2,λk hk=>by simp [da]at hk,λc w vx vy hm rM hR hx hy=> ?_⟩
          obtain⟨a,hx,CH⟩:=hx
          rw[hx]
          have hl:((ai.gen []).app ys).l=ys.l:=by rw[ai.j4];rfl
          exact append_empty (ks:=[]) (ys:=(ai.gen []).app ys) hk.1 py nG hi hu hs hb tM hm rM hR h0 sK (by rw[hl];have:=h.1;simpa [ai.l] using this) CH (by rw[hl];exact wK c w vy hm hR hy)
        case all r=>
          split at h
          . rename_i jS s es hr
            simp only[aE,CJ,dd,decide_eq_true_eq,nm,<-ai.iq]at h
            obtain⟨⟨⟨g1,g2⟩,g3⟩,g5,g6⟩:=h
            have g1:=bE g1
            have g2:=bE g2
            subst g1;subst g2
            refine⟨_,_,g6,λk hk=> ?_,λc w vx vy hm rM hR hx hy=> ?_⟩
            . have:=nU.1 hk
              simp at this
              rw[this];exact lE g3
            . exact Zs6 hk.1 py nG hi hu hs hb tM hm rM hR h0 sK g5 hr hx (wK c w vy hm hR hy)
          . exact h.elim
        case own r o n=>
          split at h
          . rename_i jS s es hr
            simp only[aE,CJ,dd,decide_eq_true_eq,nm,<-ai.iq]at h
            obtain⟨⟨⟨g1,g2⟩,g3,g4⟩,g5,g6⟩:=h
            have g1:=bE g1
            have g2:=bE g2
            have g4:=bE g4
            subst g1;subst g2;subst g4
            refine⟨_,_,g6,λk hk=> ?_,λc w vx vy hm rM hR hx hy=> ?_⟩
            . have:=nU.1 hk
              simp at this
              rw[this];exact lE g3
            . exact Zse hk.1 py nG hi hu hs hb tM hm rM hR h0 sK g5 hr hx (wK c w vy hm hR hy)
          . exact h.elim
      . exact h.elim
    . exact h.elim
  . exact h.elim
theorem Z4v{c:Ctx}(gq:∀f cs,d≠.gj f cs)(h:dc c w d v):dc {c with base:=0} w d v:=by
 cases d with
 |sl sz es fr=>
  obtain⟨a,cap,hv,hc,gy⟩:=h
  refine⟨a,cap,hv,hc,?_⟩
  rcases gy with gy|⟨b,off,arr,ty,fz,ha,hI,hf,hh,hE⟩
  ·exact .inl gy
  ·exact .inr ⟨b,off,arr,ty,fz,ha,hI,λ_=>Nat.zero_le _,hh,hE⟩
 |gj f cs=>exact absurd rfl (gq f cs)
 |_=>exact h
theorem YH{c:Ctx}(h:dc c w d v):dc {c with base:=0} w d v:=by
 by_cases e:∃g cs,d=.gj g cs
 ·obtain⟨g,cs,rfl⟩:=e
  obtain⟨us,hv,hu⟩:=h
  exact⟨us,hv,YA (c:=c) (w:=w) (c':={c with base:=0}) (w':=w) (S:=λ_=>True) (λd v q1 _ q2=>Z4v q1 q2) (λ_ hb=>⟨hb,rfl⟩) (λ_ _=>trivial) hu⟩
 ·exact Z4v (λf cs e'=>e ⟨f,cs,e'⟩) h
theorem Z4f{c:Ctx}{w:World}:∀{ds:List D} {vs:List Value},jk c w ds vs->jk {c with base:=0} w ds vs
 |[],[],_=>trivial
 |_::_,_::_,h=>⟨YH h.1,Z4f h.2⟩
 |[],_::_,h=>h.elim
 |_::_,[],h=>h.elim
theorem Zcd{c:Ctx}(h:VRep c w d v):VRep {c with base:=0} w d v:=by
 cases d with
 |agg cs=>obtain⟨vs,hv,hr⟩:=h;exact⟨vs,hv,Z4f hr⟩
 |_=>exact VRep.EA (YH (VRep.toC (λcs e=>by cases e) h))
theorem YI{c:Ctx}{w:World}:∀{ds:List D} {vs:List Value},kd c w ds vs->kd {c with base:=0} w ds vs
 |[],[],_=>trivial
 |_::_,_::_,h=>⟨Zcd h.1,YI h.2⟩
 |[],_::_,h=>h.elim
 |_::_,[],h=>h.elim
theorem Z10{c:Ctx}{w:World}:∀{ds:List D} {arr:Array Value} {off:Nat},kF c w ds arr off->kF {c with base:=0} w ds arr off
 |[],_,_,_=>trivial
 |_::_,_,_,⟨⟨v,hv,h1⟩,h2⟩=>⟨⟨v,hv,YH h1⟩,Z10 h2⟩
theorem Zlc{c:Ctx}(h:Mem c w):Mem {c with base:=0} w:=by
 refine⟨λr row hr=>?_,h.inj,h.fe,h.top,h.jU⟩
 rcases h.row r row hr with h0|⟨h0,arr,ha,hs,hx⟩
 ·exact .inl h0
 ·refine .inr ⟨h0,arr,ha,hs,?_⟩
  split
  ·rename_i hb
   rw[if_pos hb]at hx
   obtain⟨e,k1,k2,k3,k4⟩:=hx
   exact⟨e,k1,k2,k3,Z10 k4⟩
  ·rename_i hb
   rw[if_neg hb]at hx
   exact hx
theorem Z11{f:Nat->Nat}:∀{ids:List Nat} {rows:List Row} {R:Rows},ids.Nodup->ids.length<=rows.length->(∀r∈ids,r<R.length)->
 (Fv f ids rows R).length=R.length/\(∀(i r:Nat),ids[i]?=some r->∃row,rows[i]?=some row/\(Fv f ids rows R).getD r none=some (row.je f false))/\∀r,r∉ids->(Fv f ids rows R).getD r none=R.getD r none
 |[],rows,R,_,_,_=>by
  have:Fv f [] rows R=R:=by cases rows<;>rfl
  rw[this]
  exact⟨rfl,λi r h=>by simp at h,λ_ _=>rfl⟩
 |r::ids,[],R,_,hl,_=>by simp at hl
 |r ::ids,row::rows,R,kW,hl,bd=>by
  obtain⟨Ix,Ju⟩:=List.nodup_cons.1 kW
  obtain⟨g1,g2,g3⟩:=Z11 (f:=f) (ids:=ids) (rows:=rows) (R:=R.set r (some (row.je f false))) Ju (by simpa using hl) (λq hq=>by simpa using bd q (by simp[hq]))
  have hr:=bd r (by simp)
  have YJ:(R.set r (some (row.je f false))).getD r none=some (row.je f false):=by simp[aV,hr]
  have gq:∀q,q≠r->(R.set r (some (row.je f false))).getD q none=R.getD q none:=λq hq=>by simp[aV,List.getElem?_set_ne (Ne.symm hq)]
  simp only[Fv]
  refine⟨by simpa using g1,λi q hq=>?_,λq hq=>?_⟩
  ·cases i with
   |zero=>
    simp at hq;subst hq
    exact⟨row,rfl,by rw[g3 _ Ix];exact YJ⟩
   |succ i=>simpa using g2 i q (by simpa using hq)
  ·have h1:q≠r:=λe=>hq (by simp[e])
   rw[g3 q (λe=>hq (by simp[e])),gq q h1]
def Ctx.dz(c:Ctx)(c':Ctx)(kl n0:Nat)(R2:Rows):Ctx:=
 { ρ:=λr=>if n0<=r/\r<R2.length then c'.ρ (kl+(r-n0)) else c.ρ r,
   R:=λr=>R2.getD r none,
   V:=λr=>if n0<=r/\r<R2.length then c'.V (kl+(r-n0)) else c.V r,
   I:=c'.I,base:=c.base,top:=c'.top,X:=c.X}
theorem Me{i k n:Nat}:da i (bO k n)=true↔k<=i/\i<k+n:=by
 rw[nU,List.mem_range'_1]
theorem Zc4{c c':Ctx}{ids:List Nat}{dy aj:List Row}(hm:Mem c w)(hR:∀r,c.R r=R.getD r none)
 (kW:ids.Nodup) (db:Bm R (λr=>pos r ids 0) ids=some dy) (hle:(ids.take k).length<=aj.length)
 (hx:jK (bO k (dy.length-k)) {c.pass w ids dy false with base:=0} w c' w') (jZ:∀i,c'.R i=aj[i]?)
 {R2:Rows} (uL:R2=Fv (bk (ids.take k) R.length) (ids.take k) aj (rS (ids.drop k) R 0)++PS (bk (ids.take k) R.length) (aj.drop (ids.take k).length)):
 Eh (λ_=>True) (bk (ids.take k) R.length) false c' (c.dz c' (ids.take k).length R.length R2)/\
 jK (ids.drop k) c w (c.dz c' (ids.take k).length R.length R2) w':=by
 obtain⟨jm,Az⟩:=Fw db
 generalize hf:bk (ids.take k) R.length=f at*
 generalize YL:(ids.take k).length=kl at*
 have nZ:∀r row,R.getD r none=some row->c.R r=some row:=λr row e=>by rw[hR];exact e
 have bd:∀r∈ids,r<R.length:=λr hr=>by
  obtain⟨row,h1,_⟩:=Az _ r (Bn hr)
  by_cases hl:r<R.length
  ·exact hl
  ·rw[aV,aJ (by omega)]at h1;cases h1
 have htd:ids.take k++ids.drop k=ids:=List.take_append_drop k ids
 have YM:(ids.take k).Nodup:=by rw[<-htd]at kW;exact(List.nodup_append.1 kW).1
 have PU:∀r,r∈ids.take k->r∈ids.drop k->False:=λr h1 h2=>by
  rw[<-htd]at kW
  exact(List.nodup_append.1 kW).2.2 r h1 r h2 rfl
 have Jas:kl=min k ids.length:=by rw[<-YL];simp
 have CK:∀i,i<kl->(ids.take k)[i]?=ids[i]? :=λi hi=>by rw[aF,if_pos (by omega)]
 have sL:∀i r,ids[i]?=some r->kl<=i->r∈ids.drop k:=λi r hi gh=>by
  have mQ:=(List.getElem?_eq_some_iff.1 hi).1
  have:(ids.drop k)[i-k]?=some r:=by rw[fI,show k+(i-k)=i by omega];exact hi
  exact fL this
 obtain⟨k1,k2,k3⟩:=Z11 (f:=f) (ids:=ids.take k) (rows:=aj) (R:=rS (ids.drop k) R 0) YM (by rw[YL];exact hle) (λr hr=>by rw[Js];exact bd r (fM hr))
 rw[Js]at k1
 have wj:R2.length=R.length+(aj.length-kl):=by rw[uL];simp[k1,PS]
 have PV:∀r,r<R.length->R2.getD r none=(Fv f (ids.take k) aj (rS (ids.drop k) R 0)).getD r none:=λr hr=>by
  rw[uL,aV,aV,bI (by omega)]
 have YN:∀i,kl<=i->i<aj.length->R2.getD (R.length+(i-kl)) none=aj[i]?.map λrow=>row.je f false:=λi h1 h2=>by
  have:∀(l:List Row) (j:Nat),(PS f l)[j]?=l[j]?.map λrow=>some (row.je f false):=λl j=>by simp[PS]
  rw[uL,aV,bJ (by omega),this,k1,show R.length+(i-kl)-R.length=i-kl by omega,fI,show kl+(i-kl)=i by omega]
  rw[aI h2];rfl
 have jD:∀i r ao,i<kl->ids[i]?=some r->c'.R i=some ao->∃row,c.R r=some row/\ao.box=row.box/\ao.ty=row.ty/\ao.sz=row.sz/\ao.es.l.length=row.es.l.length/\c'.ρ i=c.ρ r/\(c'.V i↔c.V r)/\r<R.length/\R2.getD r none=some (ao.je f false)/\f i=r/\
  (¬c.V r->∀arr,w.heap[c.ρ r]?=some (.cells arr row.ty (0,0))->∃iG,w'.heap[c.ρ r]?=some (.cells iG row.ty (0,0))/\iG.size=arr.size):=by
  intro i r ao oh hi jj
  obtain⟨row,h1,h2⟩:=Az i r hi
  have mw:=fL hi
  have h3:=nZ r row h1
  have CL:(({c.pass w ids dy false with base:=0}:Ctx).kill (bO k (dy.length-k))).R i=some ((row.je (λr=>pos r ids 0) false).kill (bO k (dy.length-k))):=by
   simp only[Ctx.kill,Ctx.pass]
   rw[if_neg (λe=>by have:=Me.1 e;omega),h2];rfl
  obtain⟨sM,g1,g2,g3,g4,g5,g6,gV,g7⟩:=hx.cy.R i _ CL
  rw[jj]at g1;cases g1
  obtain⟨s1,s2,s3,s4⟩:=Jv (λr=>pos r ids 0) false row
  obtain⟨t1,t2,t3,t4⟩:=wq (bO k (dy.length-k)) (row.je (λr=>pos r ids 0) false)
  have iD:=(CK i oh).trans hi
  obtain⟨kR,q1,q2⟩:=k2 i r iD
  rw[jZ,q1]at jj;cases jj
  refine⟨row,h3,g2.trans (t1.trans s1),g3.trans (t2.trans s2),g4.trans (t3.trans s3),g5.trans (t4.trans s4),by simpa[Ctx.kill,Ctx.pass,hi]using g6,by simpa[Ctx.kill,Ctx.pass,hi]using gV,bd r mw,by rw[PV r (bd r mw)];exact q2,by rw[<-hf];simp[bk,iD],λnv arr ha=>?_⟩
  have:=g7 (by simpa[Ctx.kill,Ctx.pass,hi]using nv) arr (by simpa[Ctx.kill,Ctx.pass,hi,s2,t2]using ha)
  simpa[Ctx.kill,Ctx.pass,hi,s2,t2]using this
 have NZ:∀i ao,c'.R i=some ao->¬c'.V i->(∃j s row,ids[j]?=some s/\c.R s=some row/\¬c.V s/\c'.ρ i=c.ρ s/\(i<kl->j=i)/\(kl<=i->s∈ids.drop k))\/w.heap.size<=c'.ρ i:=by
  intro i ao h1 nv
  by_cases oh:i<kl
  ·have iD:ids[i]?=some ids[i]:=aI (by omega)
   obtain⟨row,g1,g2,g3,g4,g5,g6,g7,_⟩:=jD i _ ao oh iD h1
   exact .inl ⟨i,_,row,iD,g1,λe=>nv (g7.2 e),g6,λ_=>rfl,λh=>by omega⟩
  ·rcases hx.om i ao h1 nv with⟨⟨x,pd⟩,v,e⟩|⟨s,x,hs,pd,v,e⟩|e
   ·have I0:dy[i]?=some x:=pd
    have Hm:=(List.getElem?_eq_some_iff.1 I0).1
    have iD:ids[i]?=some ids[i]:=aI (by omega)
    obtain⟨row,g1,g2⟩:=Az i _ iD
    exact .inl ⟨i,_,row,iD,nZ _ _ g1,by simpa[Ctx.pass,iD]using v,by simpa[Ctx.pass,iD]using e,λh=>by omega,λ_=>sL i _ iD (by omega)⟩
   ·have I0:dy[s]?=some x:=pd
    have Hm:=(List.getElem?_eq_some_iff.1 I0).1
    have iD:ids[s]?=some ids[s]:=aI (by omega)
    obtain⟨row,g1,g2⟩:=Az s _ iD
    have hsk:=(Me.1 hs).1
    exact .inl ⟨s,_,row,iD,nZ _ _ g1,by simpa[Ctx.pass,iD]using v,by simpa[Ctx.pass,iD]using e,λh=>by omega,λ_=>sL s _ iD (by omega)⟩
   ·exact .inr e
 have new:∀i ao,kl<=i->c'.R i=some ao->i<aj.length/\R2.getD (R.length+(i-kl)) none=some (ao.je f false)/\f i=R.length+(i-kl):=by
  intro i ao hi jj
  have h1:aj[i]?=some ao:=by rw[<-jZ];exact jj
  have h2:=(List.getElem?_eq_some_iff.1 h1).1
  refine⟨h2,by rw[YN i hi h2,h1];rfl,?_⟩
  rw[<-hf]
  simp only[bk]
  rw[aJ (by omega),YL]
 have CM:Eh (λ_=>True) f false c' (c.dz c' kl R.length R2):=by
  refine⟨λi ao _ jj=>?_,(λh=>by cases h),aX _⟩
  obtain⟨s1,s2,s3,s4⟩:=Jv f false ao
  by_cases hi:i<kl
  ·have iD:ids[i]?=some ids[i]:=aI (by omega)
   obtain⟨row,g1,g2,g3,g4,g5,g6,g7,g8,g9,g10,_⟩:=jD i _ ao hi iD jj
   rw[g10]
   exact⟨_,g9,s1,s2,s3,s4,by simp only[Ctx.dz];rw[if_neg (by omega),g6],by simp only[Ctx.dz];rw[if_neg (by omega)];exact g7.symm⟩
  ·obtain⟨h1,h2,h3⟩:=new i ao (by omega) jj
   rw[h3]
   have hc:R.length<=R.length+(i-kl)/\R.length+(i-kl)<R2.length:=by omega
   have he:kl+(R.length+(i-kl)-R.length)=i:=by omega
   exact⟨_,h2,s1,s2,s3,s4,by simp only[Ctx.dz];rw[if_pos hc,he],by simp only[Ctx.dz];rw[if_pos hc,he]⟩
 have BX:Fr (λb=>∃r x,c.R r=some x/\¬c.V r/\r∈ids/\c.ρ r=b) w w':=hx.fr.mono λb _ ⟨i,x,h1,h2,h3⟩=>by
  have r5:dy[i]?=some x:=h1
  have hi:i<ids.length:=by have:=(List.getElem?_eq_some_iff.1 r5).1;omega
  have iD:ids[i]?=some ids[i]:=aI hi
  obtain⟨row,g1,g2⟩:=Az i _ iD
  exact⟨_,row,nZ _ row g1,by simpa[Ctx.pass,iD]using h2,fL iD,by simpa[Ctx.pass,iD]using h3⟩
 have rest:∀r,r∉ids->r<R.length->R2.getD r none=(R.getD r none).map (Row.kill (ids.drop k)):=λr h1 h2=>by
  rw[PV r h2,k3 r (λe=>h1 (fM e)),PR,bG,if_neg (λe=>h1 (fN (nU.1 e)))]
 have gone:∀r,r∈ids.drop k->R2.getD r none=none:=λr h=>by
  rw[PV r (bd r (fN h)),k3 r (λe=>PU r e h),PR,bG,if_pos (nU.2 h)]
 have inv:∀r x,(c.dz c' kl R.length R2).R r=some x->(∃i ao,c'.R i=some ao/\x=ao.je f false/\(c.dz c' kl R.length R2).ρ r=c'.ρ i/\((c.dz c' kl R.length R2).V r↔c'.V i)/\(i<kl/\ids[i]?=some r/\(c.dz c' kl R.length R2).ρ r=c.ρ r/\((c.dz c' kl R.length R2).V r↔c.V r)\/R.length<=r/\kl<=i/\r=R.length+(i-kl)))\/
  (∃row,c.R r=some row/\x=row.kill (ids.drop k)/\r∉ids/\(c.dz c' kl R.length R2).ρ r=c.ρ r/\((c.dz c' kl R.length R2).V r↔c.V r)):=by
  intro r x jJ
  have jJ:R2.getD r none=some x:=jJ
  by_cases mw:r∈ids
  ·by_cases hg:r∈ids.drop k
   ·rw[gone r hg]at jJ;cases jJ
   ·left
    have hp:=Bn mw
    have Bo:pos r ids 0<kl:=by
     by_cases h:pos r ids 0<kl
     ·exact h
     ·exact(hg (sL _ r hp (by omega))).elim
    obtain⟨kR,q1,q2⟩:=k2 _ r ((CK _ Bo).trans hp)
    have sN:c'.R (pos r ids 0)=some kR:=by rw[jZ];exact q1
    obtain⟨row,g1,g2,g3,g4,g5,g6,g7,g8,g9,g10,_⟩:=jD _ r kR Bo hp sN
    rw[g9]at jJ
    cases jJ
    have e1:(c.dz c' kl R.length R2).ρ r=c.ρ r:=by simp only[Ctx.dz];rw[if_neg (by omega)]
    have e2:(c.dz c' kl R.length R2).V r↔c.V r:=by simp only[Ctx.dz];rw[if_neg (by omega)]
    exact⟨_,kR,sN,rfl,by rw[e1,g6],by rw[e2,g7],.inl ⟨Bo,hp,e1,e2⟩⟩
  ·by_cases hc:R.length<=r
   ·left
    have UA:r<R2.length:=by
     by_cases h:r<R2.length
     ·exact h
     ·rw[aV,aJ (by omega)]at jJ;cases jJ
    have hi:kl+(r-R.length)<aj.length:=by omega
    have sN:c'.R (kl+(r-R.length))=some aj[kl+(r-R.length)]:=by rw[jZ];exact aI hi
    obtain⟨h1,h2,h3⟩:=new _ _ (by omega) sN
    rw[show R.length+(kl+(r-R.length)-kl)=r by omega]at h2
    rw[h2]at jJ
    cases jJ
    exact⟨_,_,sN,rfl,by simp only[Ctx.dz];rw[if_pos ⟨hc,UA⟩],by simp only[Ctx.dz];rw[if_pos ⟨hc,UA⟩],.inr ⟨hc,by omega,by omega⟩⟩
   ·right
    rw[rest r mw (by omega)]at jJ
    simp only[fF]at jJ
    obtain⟨row,h1,h2⟩:=jJ
    exact⟨row,nZ r row h1,h2.symm,mw,by simp only[Ctx.dz];rw[if_neg (by omega)],by simp only[Ctx.dz];rw[if_neg (by omega)]⟩
 have apart:∀r row i ao,c.R r=some row->r∉ids->¬c.V r->c'.R i=some ao->¬c'.V i->c'.ρ i≠c.ρ r:=λr row i ao h1 h2 h3 h4 h5 e=>by
  rcases NZ i ao h4 h5 with⟨j,s,jz,q1,q2,q3,q4,_⟩|q
  ·have:=hm.inj s r jz row q2 h1 q3 h3 (by rw[<-q4,e])
   subst this
   exact h2 (fL q1)
  ·have:=hm.lt h1 h3;omega
 have pS:ja (c.kill (ids.drop k)) w (c.dz c' kl R.length R2) w':=by
  refine⟨rfl,hx.cy.top,λb ie=>?_,λr x hr=>?_⟩
  ·have h1:(({c.pass w ids dy false with base:=0}:Ctx).kill (bO k (dy.length-k))).I b:=.inl ie
   exact⟨(hx.cy.I b h1).1,(hx.cy.I b h1).2⟩
  ·obtain⟨UB,row,cz,rfl⟩:=nj hr
   have UB:r∉ids.drop k:=λe=>by rw[nU.2 e]at UB;cases UB
   obtain⟨u1,u2,u3,u4⟩:=wq (ids.drop k) row
   by_cases mw:r∈ids
   ·have hp:=Bn mw
    have Bo:pos r ids 0<kl:=by
     by_cases h:pos r ids 0<kl
     ·exact h
     ·exact(UB (sL _ r hp (by omega))).elim
    obtain⟨kR,q1,q2⟩:=k2 _ r ((CK _ Bo).trans hp)
    have sN:c'.R (pos r ids 0)=some kR:=by rw[jZ];exact q1
    obtain⟨jH,g1,g2,g3,g4,g5,g6,g7,g8,g9,g10,g11⟩:=jD _ r kR Bo hp sN
    rw[cz]at g1;cases g1
    obtain⟨s1,s2,s3,s4⟩:=Jv f false kR
    refine⟨_,g9,s1.trans (g2.trans u1.symm),s2.trans (g3.trans u2.symm),s3.trans (g4.trans u3.symm),s4.trans (g5.trans u4.symm),by simp only[Ctx.dz];rw[if_neg (by omega)];rfl,by simp only[Ctx.dz];rw[if_neg (by omega)];rfl,λnv arr ha=>?_⟩
    rw[u2]at ha⊢
    exact g11 nv arr ha
   ·have rz:r<R.length:=by
     by_cases h:r<R.length
     ·exact h
     ·rw[hR,aV,aJ (by omega)]at cz;cases cz
    refine⟨row.kill (ids.drop k),?_,rfl,rfl,rfl,rfl,by simp only[Ctx.dz];rw[if_neg (by omega)];rfl,by simp only[Ctx.dz];rw[if_neg (by omega)];rfl,λnv arr ha=>⟨arr,?_,rfl⟩⟩
    ·show R2.getD r none=_
     rw[rest r mw rz,<-hR,cz];rfl
    ·have nv:¬c.V r:=nv
     show w'.heap[c.ρ r]?=_
     rw[BX.heap _ (hm.lt cz nv) fun⟨s,x,h1,h2,h3,h4⟩=>mw (by rw[<-hm.inj s r x row h1 cz h2 nv h4];exact h3)]
     exact ha
 refine⟨CM,⟨λr x jJ=>?_,λr s x y hr hs v1 v2 he=>?_,λb ie=>⟨(hx.mem.fe b ie).1,λr x hr v=>?_⟩,hx.mem.top,hx.mem.jU⟩,pS,BX.mono λb _ ⟨r,x,h1,h2,_,h4⟩=>⟨r,x,h1,h2,h4⟩,λb ie=>?_,λr x hr v=>?_⟩
 ·rcases inv r x jJ with⟨i,ao,h1,rfl,h3,h4,_⟩|⟨row,h1,rfl,h2,h3,h4⟩
  ·exact YO CM (flat:=False) (.inl λb hb=>hb) h3 h4 (λ_ _ _ _ _=>trivial) (λe=>e.elim) (hx.mem.row i ao h1)
  ·have hk:=Zog (ks:=ids.drop k) (hm.row r row h1)
   exact tz pS h3 h4 (λnv=>BX.heap _ (hm.lt h1 nv) fun⟨s,x',g1,g2,g3,g4⟩=>h2 (by rw[<-hm.inj s r x' row g1 h1 g2 nv g4];exact g3)) hk
 ·rcases inv r x hr with⟨i,x',h1,_,h3,h4,h5⟩|⟨row,h1,_,h2,h3,h4⟩<;>rcases inv s y hs with⟨j,y',g1,_,g3,g4,g5⟩|⟨jz,g1,_,g2,g3,g4⟩
  ·have:i=j:=hx.mem.inj i j x' y' h1 g1 (λe=>v1 (h4.2 e)) (λe=>v2 (g4.2 e)) (by rw[<-h3,<-g3];exact he)
   subst this
   rcases h5 with⟨q0,q1,_⟩|⟨_,q1,q2⟩<;>rcases g5 with⟨p0,p1,_⟩|⟨_,p1,p2⟩
   ·rw[q1]at p1;exact Option.some.inj p1
   ·omega
   ·omega
   ·omega
  ·exact(apart s jz i x' g1 g2 (λe=>v2 (g4.2 e)) h1 (λe=>v1 (h4.2 e)) (by rw[<-h3,<-g3];exact he)).elim
  ·exact(apart r row j y' h1 h2 (λe=>v1 (h4.2 e)) g1 (λe=>v2 (g4.2 e)) (by rw[<-h3,<-g3];exact he.symm)).elim
  ·exact hm.inj r s row jz h1 g1 (λe=>v1 (h4.2 e)) (λe=>v2 (g4.2 e)) (by rw[<-h3,<-g3];exact he)
 ·rcases inv r x hr with⟨i,x',h1,_,h3,h4,h5⟩|⟨row,h1,_,h2,h3,h4⟩
  ·rw[h3];exact(hx.mem.fe b ie).2 i x' h1 (λe=>v (h4.2 e))
  ·have nv:¬c.V r:=λe=>v (h4.2 e)
   rw[h3]
   rcases hx.fe b ie with q|⟨s,z,q1,q2,q3,q4⟩|q
   ·rcases q with q|⟨q,_⟩
    ·exact(hm.fe b q).2 r row h1 nv
    ·cases q
   ·intro e
    have hz:dy[s]?=some z:=q2
    have Hm:=(List.getElem?_eq_some_iff.1 hz).1
    have iD:ids[s]?=some ids[s]:=aI (by omega)
    obtain⟨jz,g1,g2⟩:=Az s _ iD
    have:=hm.inj _ r jz row (nZ _ _ g1) h1 (by simpa[Ctx.pass,iD]using q3) nv (by rw[e];simpa[Ctx.pass,iD]using q4)
    exact h2 (by rw[<-this];exact fL iD)
   ·have:=hm.lt h1 nv;omega
 ·rcases hx.fe b ie with q|⟨s,z,q1,q2,q3,q4⟩|q
  ·rcases q with q|⟨q,_⟩
   ·exact .inl q
   ·cases q
  ·have hz:dy[s]?=some z:=q2
   have Hm:=(List.getElem?_eq_some_iff.1 hz).1
   have iD:ids[s]?=some ids[s]:=aI (by omega)
   obtain⟨jz,g1,g2⟩:=Az s _ iD
   have hsk:=(Me.1 q1).1
   exact .inr (.inl ⟨_,jz,nU.2 (sL s _ iD (by omega)),nZ _ _ g1,by simpa[Ctx.pass,iD]using q3,by simpa[Ctx.pass,iD]using q4⟩)
  ·exact .inr (.inr q)
 ·rcases inv r x hr with⟨i,x',h1,_,h3,h4,h5⟩|⟨row,h1,_,h2,h3,h4⟩
  ·rcases h5 with⟨q0,q1,q2,q3⟩|⟨q0,q1,q2⟩
   ·obtain⟨row,g1,_⟩:=jD i r x' q0 q1 h1
    exact .inl ⟨⟨row,g1⟩,λe=>v (q3.2 e),q2⟩
   ·rcases NZ i x' h1 (λe=>v (h4.2 e))with⟨j,s,jz,p1,p2,p3,p4,_,p5⟩|p
    ·exact .inr (.inl ⟨s,jz,nU.2 (p5 q1),p2,p3,by rw[h3];exact p4⟩)
    ·exact .inr (.inr (by rw[h3];exact p))
  ·exact .inl ⟨⟨row,h1⟩,λe=>v (h4.2 e),h3⟩
def Hn(P:Program)(f:FuncId)(args:List Operand)(ev:Operand->D)(R:Rows)(ks:List Nat)(val:D)(R':Rows):Prop:=
 ∀ (c:Ctx) (w:World) (ρ:Operand->Value),Mem c w->c.base<=w.heap.size->(∀r,c.R r=R.getD r none)->(∀y∈args,Rep c w (ev y) (ρ y))->
  ∀K':Value->World->Prop,(∀v w' c',jK ks c w c' w'->(∀r,c'.R r=R'.getD r none)->Rep c' w' val v->K' v w')->Gn P c.I f (args.map ρ) w λe w'=>∃v,e=.returned v/\K' v w'
theorem Wp{P:Program}{G:List ba}{M:Nat}(hG:jA P G){f:FuncId}{k:Nat}{args:List Operand}{ev:Operand->D}{R:Rows}{K:List Nat->D->Rows->Prop}
 (lU:o6 G f=some k) (h:Ig G M f k (args.map ev) R K):∃ks val R' x,K ks val R'/\oO G f=some x/\(x.refs≠[])/\(∀j,da j ks=true->M<=j)/\Hn P f args ev R ks val R':=by
 unfold Ig at h
 split at h
 ·rename_i x hx
  have wu:x.gone=some k:=by simpa[o6,hx]using lU
  obtain⟨dx,hf⟩:=Gv hG hx
  split at h
  ·rename_i az dy has iQ
   simp only[dd,aE]at h
   obtain⟨⟨⟨⟨hv,mM⟩,h1,h2⟩,h3,h4⟩,h⟩:=h
   generalize Jw:mC R x.refs (args.map ev)=ids at*
   have uM:=Mf.1 h1
   have jm:=Mf.1 h2
   have kW:=Mg.1 h3
   have Ho:lQ x.refs (args.map ev)=[]:=by
    revert hv
    cases lQ x.refs (args.map ev)<;>simp
   have hrefs:x.refs≠[]:=λe=>by rw[e]at mM;simp at mM
   have main:∀res aj,Hp R (ids.take k) (ids.drop k) res aj K->tR P x.f k az dy res aj->
    ∃ks val R' y,K ks val R'/\oO G f=some y/\(y.refs≠[])/\(∀j,da j ks=true->M<=j)/\Hn P f args ev R ks val R':=by
    intro res aj hK hA
    simp only[Hp,dd,D.c6,nm]at hK
    obtain⟨hle,hK⟩:=hK
    have hle:=lE hle
    refine⟨_,_,_,x,hK,hx,hrefs,λj hj=>lE (List.all_eq_true.1 h4 j (nU.1 hj)),λc w ρ hm hb hR eh K' pZ=>?_⟩
    have nZ:∀r row,r∈ids->R.getD r none=some row->c.R r=some row:=λr row _ e=>by rw[hR];exact e
    have o5:mn c R:=λr row ao g1 g2=>by rw[hR,g2]at g1;exact(Option.some.inj g1).symm
    have hn:=UC (len:=false) (w:=w) nZ iQ
    have ft:=Mh (len:=false) (ρ:=ρ) hm o5 hn has (λe=>(e Ho).elim) (λr hr=>by rw[Ho]at hr;cases hr) uM eh
    have mr:=hA _ w _ (Zlc (YP (len:=false) hm nZ kW jm iQ)) rfl (λr=>rfl) (YI ft)
    rw[hf]at mr
    refine mr.mono (λb hb=>.inl hb) (λe w' sO=>?_)
    obtain⟨v,c',he,nG,jZ,kP⟩:=sO
    have:=Zc4 (k:=k) hm hR kW iQ hle nG jZ rfl
    exact⟨v,he,pZ v w' _ this.2 (λr=>rfl) (YQ this.1 (flat:=False) (.inl λb hb=>hb) (λ_=>trivial) (λe=>e.elim) kP)⟩
   split at h
   ·rename_i α v res aj hm
    exact main _ _ (h v rfl) (dx.PW k wu _ _ _ _ _ _ hm)
   ·rename_i p α v res aj hm
    exact main _ _ (h.2 v rfl) (dx.Hq k wu _ _ _ _ _ _ _ hm h.1)
   ·exact h.elim
  ·exact h.elim
 ·exact h.elim
theorem Zok(hG:jA P G)(hy:f<YB){guard:Option (Nat×Bool)}
 (lU:o6 G f=some k) (h:Ig G M f k (args.toList.map ev) R K):∃ks val R' x,K ks val R'/\oO G f=some x/\(x.refs≠[])/\(∀j,da j ks=true->M<=j)/\BM P ⟨dst,.call ⟨.value (.func f),args,dj⟩,type,pos',after,guard⟩ ev R ks val R':=by
 obtain⟨ks,val,R',x,h1,h2,h3,h4,h5⟩:=Wp hG lU h
 obtain⟨dx,hf⟩:=Gv hG h2
 refine⟨ks,val,R',x,h1,h2,h3,h4,λc w a hm hb hR eh K' Q pZ=>?_⟩
 subst hf
 exact YR dx rfl hy ((h5 c w a.eval hm hb hR (λy hy=>eh y (by simp[Op.operands,Call.operands];exact .inr (by simpa using hy))) (λv w'=>K' (a.put dst v) w') λv w' c'=>pZ v w' c').1 hy)
def Ctx.only(c:Ctx)(ks:List Nat):Ctx:={c with R:=λr=>if da r ks=true then(match c.R r with|some row=>if row.box=true then none else some row|none=>none)else none}
theorem Mi{c:Ctx}(h:(c.only ks).R r=some x):r∈ks/\c.R r=some x/\x.box=false:=by
 simp only[Ctx.only]at h
 split at h
 ·rename_i hm
  split at h
  ·rename_i row hr
   split at h
   ·cases h
   ·rename_i hb
    cases h
    exact⟨nU.1 hm,hr,by simpa using hb⟩
  ·cases h
 ·cases h
theorem xu{c:Ctx}(hm:r∈ks)(hr:c.R r=some x)(hb:x.box=false):(c.only ks).R r=some x:=by
 simp[Ctx.only,nU.2 hm,hr,hb]
theorem yR{c:Ctx}(hm:Mem c w)(ks:List Nat):Mem (c.only ks) w:=by
 refine⟨λr x hr=>?_,λr s x y hr hs=>?_,λb hb=>⟨(hm.fe b hb).1,λr x hr v=>?_⟩,hm.top,hm.jU⟩
 ·obtain⟨_,h1,h2⟩:=Mi hr
  rcases hm.row r x h1 with h|⟨h0,arr,ha,hs,hx⟩
  ·exact .inl h
  ·refine .inr ⟨h0,arr,ha,hs,?_⟩
   rw[if_neg (by rw[h2];simp)]at hx⊢
   exact hx
 ·exact hm.inj r s x y (Mi hr).2.1 (Mi hs).2.1
 ·exact(hm.fe b hb).2 r x (Mi hr).2.1 v
theorem Zjj{c:Ctx}(h:Fx R d=some d')(hl:∀r∈nO d,r∈ks)(hr:dc c w d v):dc (c.only ks) w d v:=by
 cases d<;>simp only[Fx]at h<;>try(cases h;done)
 case all r=>
  obtain⟨row,g1,g2,g3⟩:=hr
  exact⟨row,xu (hl r (by simp[nO])) g1 g2,g2,g3⟩
 case own r o n=>
  obtain⟨row,g1,g2,g3,g4⟩:=hr
  exact⟨row,xu (hl r (by simp[nO])) g1 g2,g2,g3,g4⟩
 all_goals exact hr
theorem Zjn{c:Ctx}{w:World}{R:Rows}{ks:List Nat}:∀{ds ot:List D} {vs:List Value},Jx R ds=some ot->(∀r∈pT ds,r∈ks)->jk c w ds vs->jk (c.only ks) w ds vs
 |[],_,[],_,_,_=>trivial
 |d ::ds,ot,v::vs,h,hl,hr=>by
  simp only[Jx]at h
  split at h
  ·rename_i x xs h1 h2
   exact⟨Zjj h1 (λr e=>hl r (by simp[pT,e])) hr.1,Zjn h2 (λr e=>hl r (by simp[pT,e])) hr.2⟩
  ·cases h
 |[],_,_::_,_,_,h=>h.elim
 |_::_,_,[],_,_,h=>h.elim
theorem vR{c:Ctx}(h:conv R d=some d')(hl:∀r∈Fy d,r∈ks)(hr:Rep c w d v):Rep (c.only ks) w d v:=by
 cases d with
 |agg cs=>
  simp only[conv,fF]at h
  obtain⟨xs,h1,_⟩:=h
  obtain⟨vs,hv,hx⟩:=hr
  exact⟨vs,hv,Zjn h1 hl hx⟩
 |dw ds=>simp[conv,Fx]at h
 |dead=>trivial
 |_=>
  simp only[conv]at h
  simp only[Rep,VRep]at hr⊢
  exact Zjj h hl hr
theorem Zb8{R:Rows}{f:Nat->Nat}{ev:Operand->D}:∀{xs:List Operand} {az:List D},sP R f [] (xs.map ev)=some az->∀x∈xs,∃y,conv R (ev x)=some y
 |[],_,_,x,hx=>by simp at hx
 |y ::xs,az,h,x,hx=>by
  simp only[fG,sP]at h
  split at h
  ·rename_i z zs h1 h2
   simp only[cQ]at hx
   rcases hx with rfl|hx
   ·exact⟨_,h1⟩
   ·exact Zb8 h2 x hx
  ·cases h
theorem Zcu{ev:Operand->D}{r:Nat}:∀{xs:List Operand} {x:Operand},x∈xs->r∈Fy (ev x)->r∈lQ [] (xs.map ev)
 |y::xs,x,hx,hr=>by
  simp only[fG,lQ,cB]
  simp only[cQ]at hx
  rcases hx with rfl|hx
  ·exact .inl hr
  ·exact .inr (Zcu hx hr)
theorem YS{r:Nat}:∀{l ids:List Nat},r∈lG ids l->r∈ids\/r∈l
 |[],ids,h=>.inl h
 |x ::l,ids,h=>by
  simp only[lG]at h
  split at h
  ·rcases YS h with h|h
   ·exact .inl h
   ·exact .inr (by simp[h])
  ·rcases YS h with h|h
   ·simp only[cB,List.mem_singleton]at h
    rcases h with h|h
    ·exact .inl h
    ·exact .inr (by simp[h])
   ·exact .inr (by simp[h])
theorem zu{c:Ctx}(h:Rep c w d v):Rep {c with base:=0} w d v:=by
 cases d with
 |dw ds=>obtain⟨vs,hv,hx⟩:=h;exact⟨vs,hv,YI hx⟩
 |dead=>trivial
 |_=>exact Rep.Ks (Zcd (Rep.toV (λds e=>by cases e) (λe=>by cases e) h))
theorem qS(hG:jA P G){guard:Option (Nat×Bool)}
 (lU:o6 G f=none) (h:CN G M f (args.toList.map ev) R K):∃ks val R' x,K ks val R'/\oO G f=some x/\(∀j,da j ks=true->M<=j)/\BM P ⟨dst,.call ⟨.value (.func f),args,dj⟩,type,pos',after,guard⟩ ev R ks val R':=by
 unfold CN at h
 split at h
 ·rename_i x hx
  have wu:x.gone=none:=by simpa[o6,hx]using lU
  obtain⟨dx,hf⟩:=Gv hG hx
  split at h
  ·rename_i az dy has iQ
   simp only[dd,aE]at h
   obtain⟨⟨⟨mM,wM⟩,h3,uM,h4⟩,h⟩:=h
   have Jat:∀r,r∈lG [] (lQ [] (args.toList.map ev))->r∈lQ [] (args.toList.map ev):=λr hr=>by
    rcases YS hr with h|h
    ·cases h
    ·exact h
   generalize Jw:lG [] (lQ [] (args.toList.map ev))=ids at*
   have kW:=Mg.1 h3
   have uM:=Mf.1 uM
   have main :∀res aj,Hp R [] ids res aj K->kq P x.f az [] res aj->
    ∃ks val R' y,K ks val R'/\oO G f=some y/\(∀j,da j ks=true->M<=j)/\BM P ⟨dst,.call ⟨.value (.func f),args,dj⟩,type,pos',after,guard⟩ ev R ks val R':=by
    intro res aj hK hA
    simp only[Hp,dd,D.c6,nm]at hK
    obtain⟨_,hK⟩:=hK
    refine⟨_,_,_,x,hK,hx,λj hj=>lE (List.all_eq_true.1 h4 j (nU.1 hj)),λc w a hm hb hR eh K' Q pZ=>?_⟩
    have o5:mn (c.only ids) R:=λr row ao g1 g2=>by
     have:=(Mi g1).2.1
     rw[hR,g2]at this;exact(Option.some.inj this).symm
    have hmo:=yR hm ids
    have hn:=UC (c:=c.only ids) (R:=R) (ids:=[]) (dy:=[]) (len:=true) (w:=w) (λr row e=>by cases e) rfl
    have YT:∀y∈args.toList,Rep (c.only ids) w (ev y) (a.eval y):=λy hy=>by
     obtain⟨z,hz⟩:=Zb8 has y hy
     exact vR hz (λr hr=>uM r (Zcu hy hr)) (eh y (by simp[Op.operands,Call.operands];exact .inr (by simpa using hy)))
    rw[YU (λr=>r) (λr=>pos r [] 0)]at has
    have ft:=Mh (len:=true) (ρ:=a.eval) hmo o5 hn has (λ_=>rfl) (λr _ e=>by cases e) (λr e=>by rw[YV]at e;cases e) YT
    have mr:=hA _ w _ (YP (R:=R) (len:=true) hmo (λr row e=>by cases e) (by simp) (λr e=>by simp[CO]at e) rfl) rfl (λr=>rfl) ft
    refine YR dx hf (dx.real wu) (mr.mono λe w' sO=>?_)
    obtain⟨v,c',he,nG,jZ,kP⟩:=sO
    have GM:∀r x,((c.only ids).pass w [] [] true).R r=some x->False:=λr x h=>by simp[Ctx.pass]at h
    obtain⟨jm,Az⟩:=Fw iQ
    have hxK:jK (bO 0 (dy.length-0)) {c.pass w ids dy false with base:=0} w {c' with base:=0} w':=by
     refine⟨Zlc nG.mem,⟨rfl,nG.cy.top,λb ie=>?_,λr x hr=>?_⟩,nG.fr.mono λb _ ⟨r,x,h1,_⟩=>(GM r x h1).elim,λb ie=>?_,λr x hr hv=>?_⟩
     ·have:c.I b:=by
       rcases ie with h|⟨h,_⟩
       ·exact h
       ·cases h
      exact⟨(nG.cy.I b (.inl this)).1,(nG.cy.I b (.inl this)).2⟩
     ·obtain⟨h1,row,h2,_⟩:=nj hr
      have h2':dy[r]?=some row:=h2
      have:=(List.getElem?_eq_some_iff.1 h2').1
      rw[Me.2 (by omega)]at h1;cases h1
     ·rcases nG.fe b ie with h|h
      ·rcases h with h|⟨_,r,row,g1,g2,g3,_,g5⟩
       ·exact .inl (.inl h)
       ·obtain⟨k1,k2,k3⟩:=Mi g1
        have hp:=Bn k1
        obtain⟨jz,q1,q2⟩:=Az _ r hp
        have hl:=(List.getElem?_eq_some_iff.1 q2).1
        exact .inr (.inl ⟨_,_,Me.2 (by omega),q2,by simpa[Ctx.pass,Ctx.only,hp]using g2,by simpa[Ctx.pass,Ctx.only,hp]using g5⟩)
      ·exact .inr (.inr h)
     ·rcases nG.om r x hr hv with⟨⟨y,h1⟩,_⟩|h
      ·exact(GM r y h1).elim
      ·exact .inr (.inr h)
    have:=Zc4 (k:=0) (c':={c' with base:=0}) hm hR kW iQ (by simp) hxK jZ rfl
    simp only[List.take_zero,List.drop_zero]at this
    exact⟨v,he,pZ v w' _ this.2 (λr=>rfl) (YQ this.1 (flat:=False) (.inl λb hb=>hb) (λ_=>trivial) (λe=>e.elim) (zu kP))⟩
   split at h
   ·rename_i α v res aj hm
    exact main _ _ (h v rfl) (dx.abs wu _ _ _ _ _ _ hm).1
   ·rename_i p α v res aj hm
    exact main _ _ (h.2 v rfl) (dx.lH wu _ _ _ _ _ _ _ hm h.1).1
   ·exact h.elim
  ·exact h.elim
 ·exact h.elim

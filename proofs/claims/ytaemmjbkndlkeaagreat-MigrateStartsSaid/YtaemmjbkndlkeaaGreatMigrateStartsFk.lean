import Derived.Test.YtaemmjbkndlkeaaGreatMigrateStartsFo
import Derived.Laws.Append
import Derived.Laws.CopyRow
import Derived.Laws.AppendOwn
open List renaming eq_nil_of_length_eq_zero->fH,map_cons->fJ,append_assoc->aM,getElem?_take->aF,getElem?_drop->fL,getElem?_toArray->bH,getD->aV,length_take->aD,length_drop->aG,getElem?_append_left->bI,size_toArray->aK,getElem?_append_right->bJ,getElem?_eq_none->aJ,take_of_length_le->fE,getElem?_eq_getElem->aI,range'->bO,mem_of_getElem?->fO,mem_of_mem_take->fP,mem_of_mem_drop->fQ,mem_cons->cQ,mem_append->cB
open Bool renaming false_eq_true->aA
open Option renaming map_eq_some_iff->fI
open Nat renaming add_zero->aB,succ_mul->bF,mul_le_mul_right->bD,zero_add->bG,mul_comm->fM,le_refl->aX,add_mul->bK,le_trans->bL,le_mul_of_pos_right->fN
open Array renaming ext'->fK
set_option linter.all false
namespace Go.GD
open Go
variable {G:List bb}{I:ab}{K:List Nat->D->Rows->Prop}{M k n r sy sz:Nat}{P:Program}{R:Rows}{after:Array Edge}{args:Array Operand}{arr:Array Value}{d d' y:D}{dst:Option Tmp}{ev:Operand->D}{f:FuncId}{i:TypeInfo}{ks:List Nat}{pos':String}{row x:Row}{t tx ty type:TypeId}{dj:Array TypeId}{ux:TypeDesc}{v z:Value}{w w':World}{ys:ai}
section
variable {c:Ctx} {w:World} {ks:List Nat}
theorem wh(ks:List Nat)(row:Row):(row.kill ks).box=row.box/\(row.kill ks).ty=row.ty/\(row.kill ks).sz=row.sz/\(row.kill ks).es.l.length=row.es.l.length:=by
 unfold Row.kill;split<;>exact⟨rfl,rfl,rfl,rfl⟩
theorem Z2s:∀{e:List D},(D.jk ks e).length=e.length
 |[]=>rfl
 |d::l=>by simp[D.jk,Z2s (e:=l)]
theorem Zer(gv:∀f cs,d≠.gm f cs)(h:dc c w d v):dc (c.kill ks) w (d.fe ks) v:=by
 have key:∀r row,da r ks=false->c.R r=some row->(c.kill ks).R r=some (row.kill ks):=λr row hr c6=>by simp[Ctx.kill,hr,c6]
 have h1:=dc.one h
 cases d with
 |all r=>
  simp only[D.fe]
  cases hr:da r ks with
  |true=>exact h1
  |false=>
   obtain⟨row,g1,g2,g3⟩:=h
   obtain⟨s1,s2,s3,s4⟩:=wh ks row
   exact⟨_,key r row hr g1,s1.trans g2,by rw[s2,s3,s4];exact g3⟩
 |own r o n=>
  simp only[D.fe]
  cases hr:da r ks with
  |true=>exact h1
  |false=>
   obtain⟨row,g1,g2,g3,g4⟩:=h
   obtain⟨s1,s2,s3,s4⟩:=wh ks row
   exact⟨_,key r row hr g1,s1.trans g2,by rw[s4];exact g3,by rw[s2,s3];exact g4⟩
 |ptr r i off=>
  simp only[D.fe]
  cases hr:da r ks with
  |true=>exact h1
  |false=>
   obtain⟨row,g1,g2,g3,g4⟩:=h
   obtain⟨s1,s2,s3,s4⟩:=wh ks row
   exact⟨_,key r row hr g1,g2,by rw[s4];exact g3,by rw[s3];exact g4⟩
 |pa r i off len k n=>
  simp only[D.fe]
  cases hr:da r ks with
  |true=>exact h1
  |false=>
   obtain⟨g0,row,g1,g2,g3,g4⟩:=h
   obtain⟨s1,s2,s3,s4⟩:=wh ks row
   exact⟨g0,_,key r row hr g1,g2,by rw[s4];exact g3,by rw[s3];exact g4⟩
 |gq r=>
  simp only[D.fe]
  cases hr:da r ks with
  |true=>exact h1
  |false=>
   rcases h with h|⟨row,g1,g2,g3,g4⟩
   ·exact .inl h
   ·obtain⟨s1,s2,s3,s4⟩:=wh ks row
    exact .inr ⟨_,key r row hr g1,g2,by rw[s4];exact g3,by rw[s3];exact g4⟩
 |gm f cs=>exact absurd rfl (gv f cs)
 |_=>exact h
theorem yu(gv:∀f cs,d≠.gm f cs)(h:∀r∈nL d,da r ks=false):d.fe ks=d:=by
 cases d<;>first|rfl|(simp only[D.fe];rw[h _ (by simp[nL])])|exact absurd rfl (gv _ _)
theorem Ta(h:dc c w d v):dc (c.kill ks) w (d.fe ks) v:=by
 by_cases e:∃g cs,d=.gm g cs
 ·obtain⟨g,cs,rfl⟩:=e
  have h1:=dc.one h
  simp only[D.fe]
  cases hd:pr (rp cs) ks with
  |false=>exact h1
  |true=>
   obtain⟨us,hv,hu⟩:=h
   exact⟨us,hv,Zx (c:=c) (w:=w) (c':=c.kill ks) (w':=w) (S:=λr=>da r ks=false) (λd v q1 q2 q3=>by have:=Zer (ks:=ks) q1 q3;rwa [yu q1 q2]at this) (λ_ hb=>⟨hb,rfl⟩) (λr hr=>by
    have:=UQ.1 hd r hr
    cases hm:da r ks with
    |false=>rfl
    |true=>exact(this (nO.1 hm)).elim) hu⟩
 ·exact Zer (λf cs e'=>e ⟨f,cs,e'⟩) h
theorem Zkq:∀{ds:List D} {vs:List Value},jm c w ds vs->jm (c.kill ks) w (D.jk ks ds) vs
 |[],[],_=>trivial
 |_::_,_::_,h=>⟨Ta h.1,Zkq h.2⟩
 |[],_::_,h=>h.elim
 |_::_,[],h=>h.elim
theorem Zs8(h:VRep c w d v):VRep (c.kill ks) w (d.kill ks) v:=by
 cases d with
 |agg cs=>obtain⟨vs,hv,hr⟩:=h;exact⟨vs,hv,Zkq hr⟩
 |_=>
  have:=Ta (ks:=ks) (VRep.toC (λcs e=>by cases e) h)
  exact VRep.Ep this
theorem Zl5:∀{ds:List D} {vs:List Value},kj c w ds vs->kj (c.kill ks) w (D.pK ks ds) vs
 |[],[],_=>trivial
 |_::_,_::_,h=>⟨Zs8 h.1,Zl5 h.2⟩
 |[],_::_,h=>h.elim
 |_::_,[],h=>h.elim
theorem WO(h:Rep c w d v):Rep (c.kill ks) w (d.j0 ks) v:=by
 cases d with
 |dw ds=>obtain⟨vs,hv,hr⟩:=h;exact⟨vs,hv,Zl5 hr⟩
 |dead=>trivial
 |_=>
  have:=Zs8 (ks:=ks) (Rep.toV (λds e=>by cases e) (λe=>by cases e) h)
  exact Rep.KC this
theorem Zd:∀{ds:List D} {arr:Array Value} {off:Nat},kG c w ds arr off->kG (c.kill ks) w (D.jk ks ds) arr off
 |[],_,_,_=>trivial
 |_::_,_,_,⟨⟨v,hv,h1⟩,h2⟩=>⟨⟨v,hv,Ta h1⟩,Zd h2⟩
theorem Zqz(h:Et c w r row):Et (c.kill ks) w r (row.kill ks):=by
 obtain⟨s1,s2,s3,s4⟩:=wh ks row
 rcases h with⟨h0,h1,h2,h3⟩|⟨h0,arr,ha,hs,hx⟩
 ·refine .inl ⟨h0,s1.trans h1,?_,by rw[s3];exact h3⟩
  rw[h2]at s4;exact fH s4
 ·refine .inr ⟨h0,arr,by rw[s2];exact ha,by rw[s3];exact hs,?_⟩
  rw[s1,s3]
  split
  ·rename_i hb
   simp only[hb,if_true]at hx
   obtain⟨e,k1,k2,k3,k4⟩:=hx
   obtain⟨box,ty,sz,es⟩:=row
   simp only at hb k1 k2 k3 k4
   subst hb;subst k1
   exact⟨D.jk ks e,rfl,by rw[Z2s];exact k2,k3,Zd k4⟩
  ·rename_i hb
   simp only[hb,aA,if_false]at hx
   have he:(row.kill ks).es=row.es:=by
    unfold Row.kill
    split
    ·simp at hb
    ·rfl
   rw[he];exact hx
theorem ng(h:(c.kill ks).R r=some x):da r ks=false/\∃row,c.R r=some row/\x=row.kill ks:=by
 simp only[Ctx.kill]at h
 cases hb:da r ks with
 |true=>rw[hb]at h;simp at h
 |false=>
  rw[hb]at h
  simp only[aA,if_false,fI]at h
  obtain⟨row,h1,h2⟩:=h
  exact⟨rfl,row,h1,h2.symm⟩
theorem SN(hm:Mem c w):Mem (c.kill ks) w:=by
 refine⟨λr x hx=>?_,λr s x y hx hy v1 v2 he=>?_,λb hb=>⟨(hm.fh b hb).1,λr x hx v=>?_⟩,hm.top,hm.jY⟩
 ·obtain⟨_,row,h1,rfl⟩:=ng hx
  exact Zqz (hm.row r row h1)
 ·obtain⟨_,row,h1,_⟩:=ng hx
  obtain⟨_,ao,h2,_⟩:=ng hy
  exact hm.inj r s row ao h1 h2 v1 v2 he
 ·obtain⟨_,row,h1,_⟩:=ng hx
  exact(hm.fh b hb).2 r row h1 v
end
theorem Zrd:∀{l:List Nat},pr l []=true
 |[]=>rfl
 |x::l=>by simp only[pr,da];exact Zrd
theorem WM(d:D):d.fe []=d:=by
 cases d with
 |gm f cs=>simp only[D.fe,Zrd]
 |_=>rfl
theorem WL:∀{ds:List D},D.jk [] ds=ds
 |[]=>rfl
 |d::l=>by simp only[D.jk,WM,WL (ds:=l)]
theorem Z9c(row:Row):row.kill []=row:=by
 unfold Row.kill;split
 ·simp[WL]
 ·rfl
theorem yT(c:Ctx):c.kill []=c:=by
 obtain⟨ρ,R,V,I,base,top,X⟩:=c
 simp only[Ctx.kill,da,aA,if_false]
 congr 1
 funext r
 cases R r<;>simp[Z9c]
theorem lM.toK{c c':Ctx}(h:lM c w c' w'):jL [] c w c' w':=
 ⟨h.mem,by rw[yT];exact h.cz,h.fr,λb hb=>(h.fh b hb).imp id .inr,λr ao h1 h2=>(h.oc r ao h1 h2).imp id .inr⟩
theorem QI{ks:List Nat}:∀{R:Rows} {i r:Nat},(rR ks R i).getD r none=if da (i+r) ks=true then none else(R.getD r none).map (Row.kill ks)
 |[],i,r=>by simp[rR]
 |x::l,i,0=>by
  simp only[rR,aB]
  cases da i ks<;>cases x<;>simp
 |x::l,i,r+1=>by
  have:=QI (ks:=ks) (R:=l) (i:=i+1) (r:=r)
  rw[show i+1+r=i+(r+1) by omega]at this
  simpa[rR]using this
theorem JB{ks:List Nat}:∀{R:Rows} {i:Nat},(rR ks R i).length=R.length
 |[],_=>rfl
 |x::l,i=>by simp[rR,JB (R:=l)]
def r4(ks:List Nat)(env:List (Nat×D)):List (Nat×D):=env.map λx=>(x.1,x.2.j0 ks)
theorem Ik{ks:List Nat}:∀{env:List (Nat×D)} {K:List (Nat×D)->Prop},Gp ks env K↔K (r4 ks env)
 |[],_=>Iff.rfl
 |(t,d)::l,K=>by
  simp only[Gp,D.c7]
  rw[Ik (env:=l) (K:=λl=>K ((t,d.j0 ks)::l))]
  rfl
theorem BK{ks:List Nat}:∀{env:List (Nat×D)} {t:Nat},look (r4 ks env) t=(look env t).j0 ks
 |[],_=>rfl
 |(u,d)::l,t=>by
  simp only[r4,fJ,look]
  cases Nat.beq u t with
  |true=>rfl
  |false=>exact BK (env:=l)
theorem Qqe(w:World){t tx ty e:TypeId}(ht:P.underlying t=some (.slice e))(pw:P.underlying tx=some ux)(hx:∀k,ux≠.int k)(hi:P.info? e=some i)
 {a:Option Addr} {n cap m:Nat} {x:Value} {news:List Value} (hl:(Builtin.lenOf x).run P w=.ok m w) (hf:(Builtin.firstCells i.size m x).run P w=.ok news.toArray w) (kI:n+m<=cap) {w':World}
 (jZ:∀b,a=some b->(storeCells (b.add (n*i.size)) news).run P w=.ok () w') (nf:a=none->w'=w):
 (Builtin.append_ #[t,tx] ty #[.slice a n cap,x]).run P w=.ok (.slice a (n+m) cap) w':=by
 have hz:(match ux with|.int _=>true|_=>false)=false:=by
  cases ux<;>first|rfl|exact absurd rfl (hx _)
 cases a with
 |none=>
  have:=nf rfl
  subst this
  simp[Builtin.append_,run_underlying ht,run_underlying pw,hz,sizeOf,typeInfo,hi,hl,kI,hf]
 |some b=>simp[Builtin.append_,run_underlying ht,run_underlying pw,hz,sizeOf,typeInfo,hi,hl,kI,hf,jZ b rfl]
theorem Qqo(w:World){t tx ty e:TypeId}(ht:P.underlying t=some (.slice e))(pw:P.underlying tx=some ux)(hx:∀k,ux≠.int k)(hi:P.info? e=some i)(hz:i.zero=some z)
 {a:Option Addr} {n cap m:Nat} {x:Value} {kK news:List Value} (hl:(Builtin.lenOf x).run P w=.ok m w) (hf:(Builtin.firstCells i.size m x).run P w.drew=.ok news.toArray w.drew) (hfo:(Builtin.firstCells i.size n (.slice a n cap)).run P w.drew=.ok kK.toArray w.drew)
 (hg:cap<n+m) (h63:((n+m:Nat):Int)<=9223372036854775807) (mL:Builtin.nextslicecap (n+m) cap*i.bytes<=281474976710656):
 (Builtin.append_ #[t,tx] ty #[.slice a n cap,x]).run P w=.ok (.slice (some ⟨w.heap.size,0,none⟩) (n+m) (grownCap w (n+m) cap e))
  (w.drew.alloc (.cells (kK.toArray++news.toArray++Builtin.zeroCells z.cells (grownCap w (n+m) cap e-(n+m))) e)):=by
 have hn:¬(n+m<=cap):=by omega
 have Zy:¬(9223372036854775807<((n:Int)+(m:Int))):=by omega
 have Zz:¬(281474976710656<Builtin.nextslicecap (n+m) cap*i.bytes):=by omega
 simp[Builtin.append_,run_underlying ht,run_underlying pw,sizeOf,typeInfo,zeroValue,hi,hz,hl,hn,Zy,Zz,Question.forced,hf,hfo,newRow,grownCap]
 congr 2
 apply fK
 simp[aM]
theorem vu{b o:Nat}{fz:Nat×Nat}(h:w.heap[b]?=some (.cells arr ty fz))(j:Nat):w.cell? ((⟨b,o,none⟩:Addr).add j)=arr[o+j]? :=by
 rw[Fj]
 unfold World.cell?
 simp[h]
theorem SO{es:List (List D)}{off sz:Nat}(h:iq I w es arr off sz)(h0:0<sz):∃news:List Value,news.length=es.length*sz/\(∀j u,news[j]?=some u->arr[off+j]?=some u)/\iq I w es news.toArray 0 sz:=by
 have ft:es.length*sz<=arr.size-off:=by
  by_cases he:es.length=0
  ·rw[he];omega
  ·obtain⟨h1,h2⟩:=tz.1 h (es.length-1) (by omega)
   obtain⟨v,hv,_⟩:=tY.1 h2 (sz-1) (by omega)
   have bd:=(Array.getElem?_eq_some_iff.1 hv).1
   have:es.length*sz=(es.length-1)*sz+sz:=by
    rw[show es.length*sz=(es.length-1+1)*sz by congr 1;omega,bF]
   omega
 refine⟨(arr.toList.drop off).take (es.length*sz),by simp;omega,λj u hj=>?_,?_⟩
 ·rw[aF]at hj
  split at hj
  ·rw[fL]at hj
   simpa using hj
  ·cases hj
 ·rw[tz]at h⊢
  intro i hi
  obtain⟨h1,h2⟩:=h i hi
  refine⟨h1,?_⟩
  rw[tY]at h2⊢
  intro j hj
  obtain⟨v,hv,hp⟩:=h2 j hj
  refine⟨v,?_,hp⟩
  have bd:i*sz+j<es.length*sz:=by
   have:=bD sz (show i+1<=es.length by omega)
   rw[bF]at this
   omega
  simp only[bG,bH]
  rw[aF,if_pos bd,fL,<-hv]
  simp[Nat.add_assoc]
theorem iq.one{es:List (List D)}{news:List Value}(h:iq I w es news.toArray 0 sz)(hl:news.length=es.length*sz):∀u∈news,u.oneCell'=true:=by
 intro u hu
 obtain⟨j,hj⟩:=List.getElem?_of_mem hu
 have bd:=(List.getElem?_eq_some_iff.1 hj).1
 have h0:0<sz:=by
  rcases Nat.eq_zero_or_pos sz with h0|h0
  ·subst h0;simp at hl;rw[hl]at bd;simp at bd
  ·exact h0
 have hi:j/sz<es.length:=by rw[Nat.div_lt_iff_lt_mul h0];omega
 obtain⟨h1,h2⟩:=tz.1 h (j/sz) hi
 obtain⟨v,hv,hp⟩:=tY.1 h2 (j%sz) (by rw[h1];exact Nat.mod_lt _ h0)
 have e:0+j/sz*sz+j%sz=j:=by rw[bG,fM];exact Nat.div_add_mod j sz
 rw[e,bH,hj]at hv
 cases hv
 exact ga.one hp
theorem Zpi(s:List UInt8):iq I w (ai.ints .u8 (o8 s)).l (s.map λb=>Value.int .u8 b.toNat).toArray 0 1:=by
 rw[tz]
 intro i hi
 have iG:i<s.length:=by simpa[o8,ai.l]using hi
 have he:(ai.ints .u8 (o8 s)).l.getD i []=[.int .u8 s[i].toNat]:=by simp[o8,ai.l,aV,iG]
 rw[he]
 refine⟨rfl,?_⟩
 simp only[DD,DE,Q5,sc,sd,se,si,sj,tB,ua,ub,uc,ud,ue,uf,ug,uh,Q9,and_true]
 exact⟨_,by simp[iG],rfl⟩
def Src(P:Program)(c:Ctx)(w:World)(v:Value)(ys:List (List D))(sz:Nat):Prop:=
 ∃news:List Value,news.length=ys.length*sz/\(Builtin.lenOf v).run P w=.ok ys.length w/\(∀k,k<=ys.length->∀w',w'.heap=w.heap->(Builtin.firstCells sz k v).run P w'=.ok (news.take (k*sz)).toArray w')/\iq c.I w ys news.toArray 0 sz
theorem JC{c:Ctx}(h0:0<sz){es:List (List D)}{a:Option Addr}{cap:Nat}(gu:es=[]\/sy=sz/\∃b off arr ty fz,a=some ⟨b,off,none⟩/\w.heap[b]?=some (.cells arr ty fz)/\iq c.I w es arr off sy):
 Src P c w (.slice a es.length cap) es sz:=by
 rcases gu with gu|⟨hss,b,off,arr,ty,fz,ha,hh,hE⟩
 ·subst gu
  refine⟨[],by simp,by simp[Builtin.lenOf],λk hk w' _=>?_,by simp[pX,pL]⟩
  have Ad:k=0:=by simpa using hk
  subst Ad
  cases a with
  |none=>simp[Builtin.firstCells]
  |some a=>
   have:=run_firstCells_some (P:=P) w' sz 0 a 0 cap [] (by simp) (λj v h=>by simp at h)
   simpa using this
 ·subst hss
  obtain⟨news,g1,g2,g3⟩:=SO hE h0
  refine⟨news,g1,by simp[Builtin.lenOf],λk hk w' ZA=>?_,g3⟩
  subst ha
  refine run_firstCells_some (P:=P) w' sy k ⟨b,off,none⟩ _ cap (news.take (k*sy)) ?_ λj u hj=>?_
  ·have:=bD sy hk
   simp;omega
  ·rw[vu (by rw[ZA];exact hh)]
   rw[aF]at hj
   split at hj
   ·exact g2 j u hj
   ·cases hj
theorem xab{c:Ctx}(h0:0<sz)(h:sn R y=some (sy,ys))(hs:sy=sz\/ys.l=[])(hm:Mem c w)(hA:mh c R)(hr:Rep c w y v):Src P c w v ys.l sz:=by
 cases y<;>simp only[sn]at h<;>try(cases h;done)
 case c8=>cases h;rw[show v=_ from hr];exact JC (sy:=sz) h0 (es:=[]) (.inl rfl)
 case emp=>cases h;obtain⟨a,hv,_⟩:=hr;rw[hv];exact JC (sy:=sz) h0 (es:=[]) (.inl rfl)
 case sl s es fr=>
  cases h
  obtain⟨a,cap,hv,hc,gu⟩:=hr
  rw[hv]
  refine JC (sy:=sy) h0 ?_
  rcases gu with gu|⟨b,off,arr,ty,fz,ha,hI,hf,hh,hE⟩
  ·exact .inl gu
  ·rcases hs with hs|hs
   ·exact .inr ⟨hs,b,off,arr,ty,fz,ha,hh,hE⟩
   ·exact .inl hs
 case all r=>
  split at h
  ·rename_i ty s es hR
   cases h
   obtain⟨row,g1,g2,hv⟩:=hr
   have:=hA r row _ g1 hR
   subst this
   rcases hv with⟨hV,a,hv,_⟩|⟨hV,cap,arr,hv,g3,g4,g5,g6⟩
   ·have he:=(hm.nz g1 hV).2.1
    simp only at he
    rw[hv,he]
    exact JC (sy:=sz) h0 (es:=[]) (.inl rfl)
   ·obtain⟨iK,jC,iT,hx⟩:=hm.real g1 hV
    simp only at g5 jC hx hv
    rw[g5]at jC;cases jC
    simp only[aA,if_false]at hx
    rw[hv]
    refine JC (sy:=sy) h0 ?_
    rcases hs with hs|hs
    ·exact .inr ⟨hs,_,0,arr,_,_,rfl,g5,hx⟩
    ·exact .inl hs
  ·cases h
 case own r o n=>
  split at h
  ·rename_i ty s es hR
   cases h
   obtain⟨row,g1,g2,g5,hv⟩:=hr
   have:=hA r row _ g1 hR
   subst this
   simp only at g5
   have hlen:((es.l.drop o).take n).length=n:=by simp only[aD,aG];omega
   rw[ai.iY,ai.kq]at hs⊢
   rcases hv with⟨g7,a,hv,_⟩|⟨hV,cap,arr,g3,g4,g6,hv,g7⟩
   ·subst g7
    rw[hv]
    have:=JC (P:=P) (c:=c) (w:=w) (sy:=sz) h0 (es:=(es.l.drop o).take 0) (a:=a) (cap:=0) (.inl (by simp))
    simpa using this
   ·obtain⟨iK,jC,iT,hx⟩:=hm.real g1 hV
    simp only at g6 jC hx hv
    rw[g6]at jC;cases jC
    simp only[aA,if_false]at hx
    have hE:=Ms (n:=n) (Kx (l:=o) hx)
    have:=JC (P:=P) (c:=c) (w:=w) (sy:=sy) h0 (es:=(es.l.drop o).take n) (a:=some ⟨c.ρ r,o*sy,none⟩) (cap:=cap) (by
     rcases hs with hs|hs
     ·exact .inr ⟨hs,_,o*sy,arr,_,_,rfl,g6,by simpa using hE⟩
     ·exact .inl hs)
    rw[hlen]at this
    rw[hv];exact this
  ·cases h
theorem qac{c:Ctx}{ke kx:TK}(h0:0<sz)(h:CC R ke kx y=some (sy,ys))(hs:sy=sz\/ys.l=[])(hm:Mem c w)(hA:mh c R)(hr:Rep c w y v):Src P c w v ys.l sz:=by
 unfold CC at h
 split at h
 ·exact xab h0 h hs hm hA hr
 ·split at h
  ·rename_i s
   cases h
   have hv:=Rep.str.1 hr
   subst hv
   have ft:(ByteArray.mk s.toArray).size=s.length:=by simp[ByteArray.size]
   have ext:∀k,((ByteArray.mk s.toArray).extract 0 k).data.toList=s.take k:=λk=>by
    simp[ByteArray.data_extract]
   have hf:∀k w',(Builtin.firstCells sz k (.string ⟨s.toArray⟩)).run P w'=.ok ((s.map λb=>Value.int .u8 b.toNat).take k).toArray w':=λk w'=>by
    simp only[Builtin.firstCells,Sem.run_pure]
    congr 1
    apply fK
    simp only[Array.toList_map,ext,List.map_take]
   rcases hs with hs|hs
   ·subst hs
    exact⟨s.map λb=>Value.int .u8 b.toNat,by simp[o8,ai.len],by simp[Builtin.lenOf,o8,ai.len,ft],λk hk w' _=>by rw[hf];simp,Zpi s⟩
   ·have:s=[]:=by simpa[o8,ai.l]using hs
    subst this
    exact⟨[],by simp[o8,ai.len],by simp[Builtin.lenOf,o8,ai.len,ft],λk hk w' _=>by rw[hf];simp,by simp[o8,ai.l,pX,pL]⟩
  ·cases h
 ·cases h
def Ctx.jv(c:Ctx)(k:Nat)(row:Row):Ctx:={c with R:=λr=>if r=k then some row else c.R r,V:=λr=>r=k\/c.V r}
theorem Tc{c:Ctx}(hk:c.R k=none)(row:Row):Q4 c w (c.jv k row) w:=by
 refine⟨rfl,aX _,λb hb=>⟨hb,rfl⟩,λr x hr=>?_⟩
 have gv:r≠k:=λe=>by rw[e,hk]at hr;cases hr
 exact⟨x,by simp[Ctx.jv,gv,hr],rfl,rfl,rfl,rfl,rfl,by simp[Ctx.jv,gv],λ_ arr ha=>⟨arr,ha,rfl⟩⟩
theorem Zg{c:Ctx}(hm:Mem c w)(hk:c.R k=none)(hb:row.box=false)(he:row.es.l=[])(h0:0<row.sz):Mem (c.jv k row) w:=by
 have hg:=Tc (w:=w) hk row
 have inv:∀r x,(c.jv k row).R r=some x->¬(c.jv k row).V r->c.R r=some x/\¬c.V r:=λr x hr hv=>by
  have h1:¬r=k:=λe=>hv (.inl e)
  exact⟨by simpa[Ctx.jv,h1]using hr,λe=>hv (.inr e)⟩
 refine⟨λr x hr=>?_,λr s x y hr hs v1 v2 h=>?_,λb ij=>⟨(hm.fh b ij).1,λr x hr v=>?_⟩,hm.top,hm.jY⟩
 ·by_cases e:r=k
  ·subst e
   simp only[Ctx.jv,if_true,Option.some.injEq]at hr
   subst hr
   exact .inl ⟨.inl rfl,hb,he,h0⟩
  ·have pF:c.R r=some x:=by simpa[Ctx.jv,e]using hr
   exact tw hg rfl (by simp[Ctx.jv,e]) (λ_=>rfl) (hm.row r x pF)
 ·obtain⟨h1,h2⟩:=inv r x hr v1
  obtain⟨h3,h4⟩:=inv s y hs v2
  exact hm.inj r s x y h1 h3 h2 h4 h
 ·obtain⟨h1,h2⟩:=inv r x hr v
  exact(hm.fh b ij).2 r x h1 h2
theorem Ks(c:Ctx)(w:World):Q4 c w c w.drew:=⟨rfl,aX _,λb hb=>⟨hb,rfl⟩,λr row hr=>⟨row,hr,rfl,rfl,rfl,rfl,rfl,Iff.rfl,λ_ arr ha=>⟨arr,ha,rfl⟩⟩⟩
theorem HX{c:Ctx}(h:Mem c w):Mem c w.drew:=
 ⟨λr row hr=>tw (Ks c w) rfl Iff.rfl (λ_=>rfl) (h.row r row hr),h.inj,h.fh,h.top,h.jY⟩
theorem SP{es ys:List (List D)}{A B C:List Value}(h1:iq I w es A.toArray 0 sz)(hA:A.length=es.length*sz)(h2:iq I w ys B.toArray 0 sz)(hB:B.length=ys.length*sz):iq I w (es++ys) (A++B++C).toArray 0 sz:=by
 rw[tz]at h1 h2⊢
 intro i hi
 by_cases bd:i<es.length
 ·have he:(es++ys).getD i []=es.getD i []:=by simp[aV,bI bd]
  rw[he]
  obtain⟨g1,g2⟩:=h1 i bd
  refine⟨g1,?_⟩
  rw[tY]at g2⊢
  intro j hj
  obtain⟨v,hv,hp⟩:=g2 j hj
  refine⟨v,?_,hp⟩
  have hl:=(Array.getElem?_eq_some_iff.1 hv).1
  simp only[bH,aK]at hv hl⊢
  rw[aM,bI hl];exact hv
 ·have iG:i-es.length<ys.length:=by simp at hi;omega
  have he:(es++ys).getD i []=ys.getD (i-es.length) []:=by simp[aV,bJ (show es.length<=i by omega)]
  rw[he]
  obtain⟨g1,g2⟩:=h2 _ iG
  refine⟨g1,?_⟩
  rw[tY]at g2⊢
  intro j hj
  obtain⟨v,hv,hp⟩:=g2 j hj
  refine⟨v,?_,hp⟩
  have hl:=(Array.getElem?_eq_some_iff.1 hv).1
  simp only[bH,aK]at hv hl⊢
  have e:0+i*sz+j=A.length+(0+(i-es.length)*sz+j):=by
   rw[hA,show i*sz=(es.length+(i-es.length))*sz by congr 1;omega,bK];omega
  rw[e,aM,bJ (by omega),bI (by omega)]
  rw[show A.length+(0+(i-es.length)*sz+j)-A.length=0+(i-es.length)*sz+j by omega]
  exact hv
theorem vT{c:Ctx}(hm:Mem c w){row ao:Row}{cur arr:Array Value}(hr:c.R r=some row)(hV:¬c.V r)(hk:c.R k=none)(hh:w.heap[c.ρ r]?=some (.cells cur row.ty (0,0)))(Kp:ao.ty=row.ty)(h0:0<ao.sz)(hb:ao.box=false)
 (hE:∀w',(∀b,c.I b->w'.heap[b]?=w.heap[b]?)->iq c.I w' ao.es.l arr 0 ao.sz):
 Q4 (c.kill [r]) w ((c.kill [r]).add k ao (c.ρ r)) (w.setRow (c.ρ r) arr)/\Mem ((c.kill [r]).add k ao (c.ρ r)) (w.setRow (c.ρ r) arr):=by
 have tS:=SN (ks:=[r]) hm
 have Bu:(c.kill [r]).R k=none:=by simp[Ctx.kill,hk]
 have nf:∀s x,(c.kill [r]).R s=some x->s≠r/\s≠k:=λs x hs=>by
  obtain⟨h1,jI,h2,_⟩:=ng hs
  refine⟨λe=>?_,λe=>by rw[e,Bu]at hs;cases hs⟩
  rw[e]at h1
  have:=nO (r:=r) (l:=[r])
  simp[h1]at this
 have ez:(w.setRow (c.ρ r) arr).heap[c.ρ r]?=some (.cells arr row.ty (0,0)):=setRow_heap w _ _ _ _ _ hh
 have rY:∀s x,(c.kill [r]).R s=some x->¬c.V s->(w.setRow (c.ρ r) arr).heap[c.ρ s]?=w.heap[c.ρ s]? :=λs x hs v=>setRow_other w _ _ _ λe=>by
  obtain⟨_,jI,h2,_⟩:=ng hs
  exact(nf s x hs).1 (hm.inj s r jI row h2 hr v hV e)
 have hI:∀b,c.I b->(w.setRow (c.ρ r) arr).heap[b]?=w.heap[b]? :=λb hb=>setRow_other w _ _ _ (λe=>(hm.fh b hb).2 r row hr hV e.symm)
 have hg:Q4 (c.kill [r]) w ((c.kill [r]).add k ao (c.ρ r)) (w.setRow (c.ρ r) arr):=by
  refine⟨rfl,aX _,λb hb=>⟨hb,hI b hb⟩,λs x hs=>?_⟩
  obtain⟨n1,n2⟩:=nf s x hs
  exact⟨x,by simp[Ctx.add,n2,hs],rfl,rfl,rfl,rfl,by simp[Ctx.add,n2],by simp[Ctx.add,n2],λv a ha=>⟨a,(rY s x hs v).trans ha,rfl⟩⟩
 have inv:∀s x,((c.kill [r]).add k ao (c.ρ r)).R s=some x->¬((c.kill [r]).add k ao (c.ρ r)).V s->(s=k/\((c.kill [r]).add k ao (c.ρ r)).ρ s=c.ρ r)\/(s≠k/\s≠r/\((c.kill [r]).add k ao (c.ρ r)).ρ s=c.ρ s/\¬c.V s/\∃y,c.R s=some y):=λs x hs v=>by
  by_cases e:s=k
  ·exact .inl ⟨e,by simp[Ctx.add,e]⟩
  ·have iT:(c.kill [r]).R s=some x:=by simpa[Ctx.add,e]using hs
   obtain⟨_,y,hy,_⟩:=ng iT
   have v':¬c.V s:=λh=>v (by simp only[Ctx.add];exact⟨e,h⟩)
   exact .inr ⟨e,(nf s x iT).1,by simp[Ctx.add,e,Ctx.kill],v',y,hy⟩
 refine⟨hg,⟨λs x hs=>?_,λs q x y hs hq v1 v2 he=>?_,λb ij=>?_,by show c.top<=(w.setRow _ _).heap.size;simpa[World.setRow]using hm.top,hm.jY.mono hg.I⟩⟩
 ·by_cases e:s=k
  ·subst e
   simp only[Ctx.add,if_true,Option.some.injEq]at hs
   subst hs
   refine .inr ⟨by simp[Ctx.add],arr,by simp only[Ctx.add,if_true];rw[Kp];exact ez,h0,?_⟩
   rw[hb]
   simp only[aA,if_false]
   exact hE _ hI
  ·have iT:(c.kill [r]).R s=some x:=by simpa[Ctx.add,e]using hs
   exact tw hg (by simp[Ctx.add,e]) (by simp[Ctx.add,e]) (λv=>rY s x iT v) (tS.row s x iT)
 ·rcases inv s x hs v1 with⟨e1,p1⟩|⟨e1,p1,p2,p3,y1,p4⟩<;>rcases inv q y hq v2 with⟨e2,q1⟩|⟨e2,q1,q2,q3,y2,q4⟩
  ·rw[e1,e2]
  ·rw[p1,q2]at he
   exact(q1 (hm.inj q r y2 row q4 hr q3 hV he.symm)).elim
  ·rw[p2,q1]at he
   exact(p1 (hm.inj s r y1 row p4 hr p3 hV he)).elim
  ·rw[p2,q2]at he
   exact hm.inj s q y1 y2 p4 q4 p3 q3 he
 ·refine⟨by simpa[World.setRow]using(hm.fh b ij).1,λs x hs v=>?_⟩
  rcases inv s x hs v with⟨e1,p1⟩|⟨e1,p1,p2,p3,y1,p4⟩
  ·rw[p1];exact(hm.fh b ij).2 r row hr hV
  ·rw[p2];exact(hm.fh b ij).2 s y1 p4 p3
def BJ(P:Program)(o:Oper)(ev:Operand->D)(R:Rows)(ks:List Nat)(val:D)(R':Rows):Prop:=
 ∀ (c:Ctx) (w:World) (a:Act),Mem c w->c.base<=w.heap.size->(∀r,c.R r=R.getD r none)->(∀x∈o.op.operands,Rep c w (ev x) (a.eval x))->
  ∀K Q,(∀v w' c',jL ks c w c' w'->(∀r,c'.R r=R'.getD r none)->Rep c' w' val v->K (a.put o.dst v) w')->o.nj P a w K Q
theorem Es.toK{o:Oper}{val:D}{R':Rows}(h:Es P o ev R val R'):BJ P o ev R [] val R':=
 λc w a hm hb hR ei K Q hK=>h c w a hm hb hR ei K Q λv w' c' hn j6 hv=>hK v w' c' hn.toK j6 hv
section
variable {P:Program} {c:Ctx} {w:World} {R:Rows} {ks:List Nat} {e sz lF:Nat} {es ys:ai}
theorem UR{ρ':Nat->Nat}{V':Nat->Prop}(hR:∀r,c.R r=R.getD r none):∀r,(if r=R.length then some row else(c.kill ks).R r)=(rR ks R 0++[some row]).getD r none:=by
 intro r
 by_cases e:r=R.length
 ·subst e
  simp[aV,bJ,JB]
 ·rw[if_neg e]
  by_cases bd:r<R.length
  ·rw[aV,bI (by rw[JB];exact bd),<-aV,QI]
   simp[Ctx.kill,hR]
  ·rw[aV,aJ (by simp[JB];omega)]
   simp[Ctx.kill,hR,aJ (show R.length<=r by omega)]
theorem append_empty(ht:P.underlying t=some (.slice e))(pw:P.underlying tx=some ux)(hx: ∀k,ux≠ .int k)(hi:P.info? e=some i)(hz:i.zero=some z)(ft:i.size=sz)(uG:i.bytes=lF)(AQ:z.cells.size=sz)
    (hm:Mem c w) (hb:c.base<=w.heap.size) (hR: ∀r,c.R r=R.getD r none) (h0:0<sz) (sJ:0<lF) (ou:lF*(0+ys.l.length)<=140737488355328) {a:Option Addr} (CD:CE c.top a) {vy:Value} (hs:Src P c w vy ys.l sz):
    ∃v' w' c',(Builtin.append_ #[t,tx] ty #[.slice a 0 0,vy]).run P w= .ok v' w'/\jL ks c w c' w'/\(∀r,c'.R r=(rR ks R 0++[some (⟨false,e,sz,ys⟩:Row)]).getD r none)/\Rep c' w' (.all R.length) v':=by
  obtain⟨news,g1,g2,g3,g4⟩:=hs
  have hk:c.R R.length=none:=by rw[hR];simp [aV]
  have Bu:(c.kill ks).R R.length=none:=by simp [Ctx.kill,hk]
  have tS:=SN (ks:=ks) hm
  subst ft
  by_cases hm0:ys.l.length=0
  . have Th:ys.l=[]:=fH hm0
    have hn:news=[]:=fH (by rw[g1,hm0];simp)
    subst hn
    rw[Th]at g2 g3
    have im:=Qqe (P:=P) w (ty:=ty) (n:=0) (cap:=0) (a:=a) (w':=w) ht pw hx hi g2 (by simpa using g3 0 (aX _) w rfl) (by simp) (λb _=>by simp [storeCells]) (λ_=>rfl)
    refine⟨_,w,(c.kill ks).jv R.length ⟨false,e,i.size,ys⟩,im,⟨Zg tS Bu rfl Th h0,Tc Bu _,Fr.refl _ w,λb hb=> .inl hb,λr ao h1 h2=> ?_⟩,UR (ρ':=c.ρ) (V':=c.V) hR,?_⟩
    . have gv:r≠R.length:=λe=>h2 (.inl e)
      have r3:(c.kill ks).R r=some ao:=by simpa [Ctx.jv,gv] using h1
      obtain⟨_,jI,h3,_⟩:=ng r3
      exact .inl ⟨⟨jI,h3⟩,λe=>h2 (.inr e),rfl⟩
    . exact⟨⟨false,e,i.size,ys⟩,by simp [Ctx.jv],rfl, .inl ⟨.inl rfl,a,rfl,CD⟩⟩
  . have hlen:(0+ys.l.length:Nat)*i.bytes<=140737488355328:=by rw[uG,fM];exact ou
    have IN:0+ys.l.length<=140737488355328:=bL (fN _ (by rw[uG];exact sJ)) hlen
    have ZB:0+ys.l.length<=maxLen:=by unfold maxLen;omega
    have im:=Qqo (P:=P) w (ty:=ty) (n:=0) (cap:=0) (a:=a) (kK:=[]) (news:=news) ht pw hx hi hz g2
      (by have:=g3 _ (aX _) w.drew rfl;rwa [fE (by omega)]at this)
      (by cases a with
          |none=>simp [Builtin.firstCells]
          |some a=>simpa using run_firstCells_some (P:=P) w.drew i.size 0 a 0 0 [] (by simp) (λj v h=>by simp at h)) (by omega) (by omega) (growslice_fits (by omega) hlen)
    have fx:=grownCap_ge w (0+ys.l.length) 0 e
    have Am:grownCap w (0+ys.l.length) 0 e<=maxLen:=grownCap_le_maxLen w _ _ e ZB
    generalize grownCap w (0+ys.l.length) 0 e=gc at im fx Am
    have px:(#[]++news.toArray++Builtin.zeroCells z.cells (gc-(0+ys.l.length))).size=gc*i.size:=by
      have e1:(#[]++news.toArray++Builtin.zeroCells z.cells (gc-(0+ys.l.length))).size=ys.l.length*i.size+(gc-(0+ys.l.length))*i.size:=by
        simp [size_zeroCells,AQ,g1]
      rw[e1,<-bK]
      congr 1;omega
    have hE: ∀(I:ab) (w':World),(∀b,c.I b->I b/\w'.heap[b]? =w.heap[b]?)->iq I w' ys.l (#[]++news.toArray++Builtin.zeroCells z.cells (gc-(0+ys.l.length))) 0 i.size:=λI w' h=>by
      have:=SP (I:=I) (w:=w') (es:=[]) (ys:=ys.l) (A:=[]) (B:=news) (C:=(Builtin.zeroCells z.cells (gc-(0+ys.l.length))).toList) (sz:=i.size) (by simp [pX,pL]) (by simp) (nB h _ _ _ _ g4) g1
      have h2:(#[]++news.toArray++Builtin.zeroCells z.cells (gc-(0+ys.l.length)))=([]++news++(Builtin.zeroCells z.cells (gc-(0+ys.l.length))).toList).toArray:=by apply fK;simp
      rw[h2];simpa using this
    have Hc:=Mem.alloc (w:=w.drew) (HX tS) Bu ⟨false,e,i.size,ys⟩ (#[]++news.toArray++Builtin.zeroCells z.cells (gc-(0+ys.l.length))) h0 (by
      simp only[aA,if_false]
      exact hE _ _ λb hb=>⟨hb,rfl⟩)
    have ov:=Zip (c:=c.kill ks) (w:=w.drew) (k:=R.length) (e:=e) (sz:=i.size) (cap:=gc) (es:=ys) (arr:= #[]++news.toArray++Builtin.zeroCells z.cells (gc-(0+ys.l.length))) (by omega) Am px.symm
    refine⟨_,_,(c.kill ks).add R.length ⟨false,e,i.size,ys⟩ w.heap.size,im,⟨Hc,(Ks _ w).trans (Q4.alloc (w:=w.drew) (HX tS) Bu _ _),?_,λb hb=> .inl hb,λr ao h1 h2=> ?_⟩,UR (ρ':=c.ρ) (V':=c.V) hR,by have h3:=ov;simp only[bG]at h3⊢;exact h3⟩
    . exact Fr.trans (w':=w.drew) ⟨rfl,rfl,rfl,aX _,λ_ _ _=>rfl⟩ (Fr.alloc _ w.drew _)
    . by_cases e1:r=R.length
      . subst e1
        right;right
        simp [Ctx.add]
      . have r3:(c.kill ks).R r=some ao:=by simpa [Ctx.add,e1] using h1
        obtain⟨_,jI,h3,_⟩:=ng r3
        exact .inl ⟨⟨jI,h3⟩,by simpa [Ctx.add,e1,Ctx.kill] using h2,by simp [Ctx.add,e1,Ctx.kill]⟩
theorem Zj2(ht:P.underlying t=some (.slice e))(pw:P.underlying tx=some ux)(hx:∀k,ux≠.int k)(hi:P.info? e=some i)(hz:i.zero=some z)(ft:i.size=sz)(uG:i.bytes=lF)(AQ:z.cells.size=sz)
 (hm:Mem c w) (hb:c.base<=w.heap.size) (hR:∀r,c.R r=R.getD r none) (h0:0<sz) (sJ:0<lF) (ou:lF*(es.l.length+ys.l.length)<=140737488355328) {r:Nat} {row:Row} (q1:c.R r=some row) (Kp:row.ty=e) (hV:¬c.V r) {cap:Nat} {cur:Array Value} (h1:es.l.length<=cap) (h2:cap<=maxLen) (h3:w.heap[c.ρ r]?=some (.cells cur e (0,0))) (h4:cap*sz=cur.size) (Bv:iq c.I w es.l cur 0 sz) {vy:Value} (hs:Src P c w vy ys.l sz):
 ∃v' w' c',(Builtin.append_ #[t,tx] ty #[.slice (some ⟨c.ρ r,0,none⟩) es.l.length cap,vy]).run P w=.ok v' w'/\jL [r] c w c' w'/\(∀q,c'.R q=(rR [r] R 0++[some (⟨false,e,sz,es.app ys⟩:Row)]).getD q none)/\Rep c' w' (.all R.length) v':=by
 obtain⟨news,g1,g2,g3,g4⟩:=hs
 have hk:c.R R.length=none:=by rw[hR];simp[aV]
 have Bu:(c.kill [r]).R R.length=none:=by simp[Ctx.kill,hk]
 have tS:=SN (ks:=[r]) hm
 subst ft
 have hlen:(es.l.length+ys.l.length)*i.bytes<=140737488355328:=by rw[uG,fM];exact ou
 have IN:es.l.length+ys.l.length<=140737488355328:=bL (fN _ (by rw[uG];exact sJ)) hlen
 have ZB:es.l.length+ys.l.length<=maxLen:=by unfold maxLen;omega
 obtain⟨kK,o1,o2,o3⟩:=SO Bv h0
 by_cases kI:es.l.length+ys.l.length<=cap
 ·have mL:es.l.length*i.size+0+news.length<=cur.size:=by rw[g1,<-h4,aB,<-bK];exact bD _ kI
  have jZ:=run_storeCells_at (P:=P) (c.ρ r) (es.l.length*i.size) e news 0 cur w h3 mL (iq.one g4 g1)
  simp only[aB]at jZ mL
  have im:=Qqe (P:=P) w (ty:=ty) (n:=es.l.length) (cap:=cap) (a:=some ⟨c.ρ r,0,none⟩) ht pw hx hi g2 (by have:=g3 _ (aX _) w rfl;rwa [fE (by omega)]at this) kI (λb hb=>by cases hb;rw[Addr.add_lit,bG];exact jZ) (λh=>by cases h)
  have hE:∀w',(∀b,c.I b->w'.heap[b]?=w.heap[b]?)->iq c.I w' (es.app ys).l (cur.toList.take (es.l.length*i.size)++news++cur.toList.drop (es.l.length*i.size+news.length)).toArray 0 i.size:=λw' h=>by
   rw[ai.j8]
   refine SP (A:=cur.toList.take (es.l.length*i.size)) (nB (λb hb=>⟨hb,h b hb⟩) _ _ _ _ ?_) (by rw[aD,show cur.toList.length=cur.size from rfl];omega) (nB (λb hb=>⟨hb,h b hb⟩) _ _ _ _ g4) g1
   have:cur.toList.take (es.l.length*i.size)=kK:=by
    apply List.ext_getElem?
    intro j
    by_cases hj:j<kK.length
    ·have:=o2 j _ (aI hj)
     rw[aF,if_pos (by omega),aI hj]
     simpa using this
    ·rw[aJ (by rw[aD];omega),aJ (by omega)]
   rw[this];exact o3
  obtain⟨k1,k2⟩:=vT hm (k:=R.length) (ao:=⟨false,e,i.size,es.app ys⟩) q1 hV hk (by rw[Kp];exact h3) Kp.symm h0 rfl hE
  refine⟨_,_,_,im,⟨k2,k1,(SQ w _ _).mono λb _ hb=>⟨r,_,q1,hV,hb.symm⟩,λb hb=>.inl hb,λq ao p1 p2=>?_⟩,UR (ρ':=c.ρ) (V':=c.V) hR,?_⟩
  ·by_cases e1:q=R.length
   ·subst e1
    exact .inr (.inl ⟨r,_,by simp[da],q1,hV,by simp[Ctx.add]⟩)
   ·have r3:(c.kill [r]).R q=some ao:=by simpa[Ctx.add,e1]using p1
    obtain⟨_,jI,Nk,_⟩:=ng r3
    exact .inl ⟨⟨jI,Nk⟩,by simpa[Ctx.add,e1,Ctx.kill]using p2,by simp[Ctx.add,e1,Ctx.kill]⟩
  ·refine⟨⟨false,e,i.size,es.app ys⟩,by simp[Ctx.add],rfl,.inr ⟨by simp[Ctx.add],cap,(cur.toList.take (es.l.length*i.size)++news++cur.toList.drop (es.l.length*i.size+news.length)).toArray,?_,by rw[ai.j8,lA];exact kI,h2,?_,?_⟩⟩
   ·simp only[Ctx.add,if_true,ai.j8,lA]
   ·simp only[Ctx.add,if_true];exact setRow_heap w _ _ _ _ _ h3
   ·simp only[aK,lA,aD,aG,Array.length_toList]
    rw[h4];omega
 ·have im:=Qqo (P:=P) w (ty:=ty) (n:=es.l.length) (cap:=cap) (a:=some ⟨c.ρ r,0,none⟩) (kK:=kK) (news:=news) ht pw hx hi hz g2
   (by have:=g3 _ (aX _) w.drew rfl;rwa [fE (by omega)]at this)
   (run_firstCells_some (P:=P) w.drew i.size es.l.length _ _ cap kK o1 λj v hj=>by
    rw[vu (w:=w.drew) h3];exact o2 j v hj) (by omega) (by omega) (growslice_fits (by omega) hlen)
  have fx:=grownCap_ge w (es.l.length+ys.l.length) cap e
  have Am:grownCap w (es.l.length+ys.l.length) cap e<=maxLen:=grownCap_le_maxLen w _ _ e ZB
  generalize grownCap w (es.l.length+ys.l.length) cap e=gc at im fx Am
  have px:(kK.toArray++news.toArray++Builtin.zeroCells z.cells (gc-(es.l.length+ys.l.length))).size=gc*i.size:=by
   have e1:(kK.toArray++news.toArray++Builtin.zeroCells z.cells (gc-(es.l.length+ys.l.length))).size=es.l.length*i.size+ys.l.length*i.size+(gc-(es.l.length+ys.l.length))*i.size:=by
    simp[size_zeroCells,AQ,g1,o1]
   rw[e1,<-bK,<-bK]
   congr 1;omega
  have hE:∀(I:ab) (w':World),(∀b,c.I b->I b/\w'.heap[b]?=w.heap[b]?)->iq I w' (es.app ys).l (kK.toArray++news.toArray++Builtin.zeroCells z.cells (gc-(es.l.length+ys.l.length))) 0 i.size:=λI w' h=>by
   rw[ai.j8]
   have:=SP (I:=I) (w:=w') (es:=es.l) (ys:=ys.l) (A:=kK) (B:=news) (C:=(Builtin.zeroCells z.cells (gc-(es.l.length+ys.l.length))).toList) (sz:=i.size) (nB h _ _ _ _ o3) o1 (nB h _ _ _ _ g4) g1
   have h2:(kK.toArray++news.toArray++Builtin.zeroCells z.cells (gc-(es.l.length+ys.l.length)))=(kK++news++(Builtin.zeroCells z.cells (gc-(es.l.length+ys.l.length))).toList).toArray:=by apply fK;simp
   rw[h2];exact this
  have Hc:=Mem.alloc (w:=w.drew) (HX tS) Bu ⟨false,e,i.size,es.app ys⟩ (kK.toArray++news.toArray++Builtin.zeroCells z.cells (gc-(es.l.length+ys.l.length))) h0 (by
   simp only[aA,if_false]
   exact hE _ _ λb hb=>⟨hb,rfl⟩)
  have ov:=Zip (c:=c.kill [r]) (w:=w.drew) (k:=R.length) (e:=e) (sz:=i.size) (cap:=gc) (es:=es.app ys) (arr:=kK.toArray++news.toArray++Builtin.zeroCells z.cells (gc-(es.l.length+ys.l.length))) (by rw[ai.j8,lA];omega) Am px.symm
  refine⟨_,_,(c.kill [r]).add R.length ⟨false,e,i.size,es.app ys⟩ w.heap.size,im,⟨Hc,(Ks _ w).trans (Q4.alloc (w:=w.drew) (HX tS) Bu _ _),?_,λb hb=>.inl hb,λq ao p1 p2=>?_⟩,UR (ρ':=c.ρ) (V':=c.V) hR,by rw[ai.j8,lA]at ov;exact ov⟩
  ·exact Fr.trans (w':=w.drew) ⟨rfl,rfl,rfl,aX _,λ_ _ _=>rfl⟩ (Fr.alloc _ w.drew _)
  ·by_cases e1:q=R.length
   ·subst e1
    right;right
    simp[Ctx.add]
   ·have r3:(c.kill [r]).R q=some ao:=by simpa[Ctx.add,e1]using p1
    obtain⟨_,jI,Nk,_⟩:=ng r3
    exact .inl ⟨⟨jI,Nk⟩,by simpa[Ctx.add,e1,Ctx.kill]using p2,by simp[Ctx.add,e1,Ctx.kill]⟩
theorem Zus(ht:P.underlying t=some (.slice e))(pw:P.underlying tx=some ux)(hx:∀k,ux≠.int k)(hi:P.info? e=some i)(hz:i.zero=some z)(ft:i.size=sz)(uG:i.bytes=lF)(AQ:z.cells.size=sz)
 (hm:Mem c w) (hb:c.base<=w.heap.size) (hR:∀r,c.R r=R.getD r none) (h0:0<sz) (sJ:0<lF) (ou:lF*(es.l.length+ys.l.length)<=140737488355328) {r:Nat} (hr:R.getD r none=some ⟨false,e,sz,es⟩) {vx vy:Value} (ZC:Rep c w (.all r) vx) (hs:Src P c w vy ys.l sz):
 ∃v' w' c',(Builtin.append_ #[t,tx] ty #[vx,vy]).run P w=.ok v' w'/\jL [r] c w c' w'/\(∀q,c'.R q=(rR [r] R 0++[some (⟨false,e,sz,es.app ys⟩:Row)]).getD q none)/\Rep c' w' (.all R.length) v':=by
 obtain⟨row,q1,q2,hv⟩:=ZC
 have c6:row=⟨false,e,sz,es⟩:=by rw[hR,hr]at q1;exact(Option.some.inj q1).symm
 subst c6
 rcases hv with⟨hV,a,hv,CD⟩|⟨hV,cap,cur,hv,h1,h2,h3,h4⟩
 ·have he:=(hm.nz q1 hV).2.1
  simp only at he
  subst hv
  have hl:(es.app ys).l=ys.l:=by rw[ai.j8,he];rfl
  exact append_empty (ks:=[r]) (ys:=es.app ys) ht pw hx hi hz ft uG AQ hm hb hR h0 sJ (by rw[hl];rw[he]at ou;simpa using ou) CD (by rw[hl];exact hs)
 ·have hl:=hm.real q1 hV
  obtain⟨Nf,jC,_,Bv⟩:=hl
  simp only at h1 h3 h4 hv jC
  subst hv
  rw[h3]at jC;cases jC
  simp only[aA,if_false]at Bv
  exact Zj2 ht pw hx hi hz ft uG AQ hm hb hR h0 sJ ou q1 rfl hV h1 h2 h3 h4 Bv hs
theorem Zt7(ht:P.underlying t=some (.slice e))(pw:P.underlying tx=some ux)(hx:∀k,ux≠.int k)(hi:P.info? e=some i)(hz:i.zero=some z)(ft:i.size=sz)(uG:i.bytes=lF)(AQ:z.cells.size=sz)
 (hm:Mem c w) (hb:c.base<=w.heap.size) (hR:∀r,c.R r=R.getD r none) (h0:0<sz) (sJ:0<lF) (ou:lF*((es.take n).l.length+ys.l.length)<=140737488355328) {r:Nat} (hr:R.getD r none=some ⟨false,e,sz,es⟩) {vx vy:Value} (ZC:Rep c w (.own r 0 n) vx) (hs:Src P c w vy ys.l sz):
 ∃v' w' c',(Builtin.append_ #[t,tx] ty #[vx,vy]).run P w=.ok v' w'/\jL [r] c w c' w'/\(∀q,c'.R q=(rR [r] R 0++[some (⟨false,e,sz,(es.take n).app ys⟩:Row)]).getD q none)/\Rep c' w' (.all R.length) v':=by
 obtain⟨row,q1,q2,hle,hv⟩:=ZC
 have c6:row=⟨false,e,sz,es⟩:=by rw[hR,hr]at q1;exact(Option.some.inj q1).symm
 subst c6
 have hln:(es.take n).l.length=n:=by rw[ai.iY,aD];simp only at hle;omega
 rcases hv with⟨h0',a,hv,CD⟩|⟨hV,cap,cur,h1,h2,h3,hv,h4⟩
 ·subst hv;subst h0'
  have Eb:(es.take 0).l=[]:=by rw[ai.iY];rfl
  have hl:((es.take 0).app ys).l=ys.l:=by rw[ai.j8,Eb];rfl
  have g:Q4 c w {c with top:=w.heap.size} w:=⟨rfl,hm.top,λb hb=>⟨hb,rfl⟩,λr row hr=>⟨row,hr,rfl,rfl,rfl,rfl,rfl,Iff.rfl,λnv arr ha=>⟨arr,ha,rfl⟩⟩⟩
  have Is:Mem {c with top:=w.heap.size} w:=⟨λr row hr=>tw g rfl Iff.rfl (λ_=>rfl) (hm.row r row hr),hm.inj,hm.fh,aX _,hm.jY⟩
  have Gs:CE w.heap.size a:=by
   rcases CD with h|⟨hV,h⟩
   ·exact h.mono hm.top
   ·exactλx hx=>by rw[h x hx];exact hm.lt q1 hV
  obtain⟨v',w',c',p1,p2,p3,p4⟩:=append_empty (c:={c with top:=w.heap.size}) (ks:=[r]) (ys:=(es.take 0).app ys) ht pw hx hi hz ft uG AQ Is hb hR h0 sJ (by rw[hl];rw[Eb]at ou;simpa using ou) Gs (by rw[hl];exact hs)
  refine⟨v',w',c',p1,⟨p2.mem,?_,p2.fr,p2.fh,p2.oc⟩,p3,p4⟩
  have g':Q4 (c.kill [r]) w (Ctx.kill {c with top:=w.heap.size} [r]) w:=⟨rfl,hm.top,λb hb=>⟨hb,rfl⟩,λr row hr=>⟨row,hr,rfl,rfl,rfl,rfl,rfl,Iff.rfl,λnv arr ha=>⟨arr,ha,rfl⟩⟩⟩
  exact g'.trans p2.cz
 ·obtain⟨Nf,jC,_,Bv⟩:=hm.real q1 hV
  simp only at h3 h4 hv jC
  rw[h3]at jC;cases jC
  simp only[aA,if_false]at Bv
  have hE1:iq c.I w (es.take n).l cur 0 sz:=by rw[ai.iY];exact Ms Bv
  rw[hv,show((0:Nat)*sz)=0 from Nat.zero_mul _]
  have:=Zj2 (ty:=ty) (es:=es.take n) (cap:=cap) ht pw hx hi hz ft uG AQ hm hb hR h0 sJ ou q1 rfl hV (by rw[hln];exact h1) h2 h3 (by rw[<-h4,bG]) hE1 hs
  rw[hln]at this
  exact this
end
theorem S3{E:ai}(h:ID E=true):E.l=[]:=by
 unfold ID at h
 split at h
 ·rfl
 ·cases h
theorem Zrv{T:iy}(hT:ji P T){x y:D}(h:Mt T M t tx x y R K):
    ∃ ks R',K ks (.all R.length) R'/\(∀k,da k ks=true->M<=k)/\ ∀c w vx vy,Mem c w->c.base<=w.heap.size->(∀r,c.R r=R.getD r none)->Rep c w x vx->Rep c w y vy->
      ∃v' w' c',(Builtin.append_ #[t,tx] ty #[vx,vy]).run P w= .ok v' w'/\jL ks c w c' w'/\(∀r,c'.R r=R'.getD r none)/\Rep c' w' (.all R.length) v':=by
  unfold Mt at h
  split at h
  . rename_i e iJ _ _ _ _ _ ht
    have hk:=mG hT ht
    simp only at hk
    split at h
    . rename_i ke sz lF cs z q kx _ _ _ _ _ he htx
      obtain⟨i,u,hi,hu,w4,hs,hb,hc,hzero⟩:=Hd hT he
      have US:=mG hT htx
      split at h
      . rename_i sy ys jU
        simp only[dd,aE,Bool.or_eq_true]at h
        obtain⟨⟨⟨⟨h0,h1⟩,h2,h3⟩,h4,h5⟩,h⟩:=h
        have h0:0<sz:=lE h0
        have sJ:0<lF:=lE h4
        have h2:=bE h2
        have h5:sy=sz\/ys.l=[]:=h5.imp bE S3
        have tO:u.cells.size=sz:=by have:=Mu w4;simp at this;omega
        obtain⟨ux,pw,nF⟩: ∃ux,P.underlying tx=some ux/\ ∀k,ux≠ .int k:=by
          unfold CC at jU
          split at jU
          . simp only at US;exact⟨_,US.1,λk e=>by cases e⟩
          . simp only at US;exact⟨_,US,λk e=>by cases e⟩
          . cases jU
        have wG: ∀(c:Ctx) (w:World) (vy:Value),Mem c w->(∀r,c.R r=R.getD r none)->Rep c w y vy->Src P c w vy ys.l sz:=λc w vy hm hR hy=>qac h0 jU h5 hm (λr row ao g1 g2=>by rw[hR,g2]at g1;exact(Option.some.inj g1).symm) hy
        cases x<;>simp only at h
        case c8=>
          simp only[Z8,dd,decide_eq_true_eq,nk,<-ai.iv]at h
          refine⟨_,_,h.2,λk hk=>by simp [da]at hk,λc w vx vy hm rJ hR hx hy=> ?_⟩
          rw[show vx=_ from hx]
          have hl:((ai.gen []).app ys).l=ys.l:=by rw[ai.j8];rfl
          exact append_empty (ks:=[]) (ys:=(ai.gen []).app ys) hk.1 pw nF hi hu hs hb tO hm rJ hR h0 sJ (by rw[hl];have:=h.1;simpa [ai.l] using this) Nz (by rw[hl];exact wG c w vy hm hR hy)
        case emp=>
          simp only[Z8,dd,decide_eq_true_eq,nk,<-ai.iv]at h
          refine⟨_,_,h.2,λk hk=>by simp [da]at hk,λc w vx vy hm rJ hR hx hy=> ?_⟩
          obtain⟨a,hx,CD⟩:=hx
          rw[hx]
          have hl:((ai.gen []).app ys).l=ys.l:=by rw[ai.j8];rfl
          exact append_empty (ks:=[]) (ys:=(ai.gen []).app ys) hk.1 pw nF hi hu hs hb tO hm rJ hR h0 sJ (by rw[hl];have:=h.1;simpa [ai.l] using this) CD (by rw[hl];exact wG c w vy hm hR hy)
        case all r=>
          split at h
          . rename_i jV s es hr
            simp only[aE,Z8,dd,decide_eq_true_eq,nk,<-ai.iv]at h
            obtain⟨⟨⟨g1,g2⟩,g3⟩,g5,g6⟩:=h
            have g1:=bE g1
            have g2:=bE g2
            subst g1;subst g2
            refine⟨_,_,g6,λk hk=> ?_,λc w vx vy hm rJ hR hx hy=> ?_⟩
            . have:=nO.1 hk
              simp at this
              rw[this];exact lE g3
            . exact Zus hk.1 pw nF hi hu hs hb tO hm rJ hR h0 sJ g5 hr hx (wG c w vy hm hR hy)
          . exact h.elim
        case own r o n=>
          split at h
          . rename_i jV s es hr
            simp only[aE,Z8,dd,decide_eq_true_eq,nk,<-ai.iv]at h
            obtain⟨⟨⟨g1,g2⟩,g3,g4⟩,g5,g6⟩:=h
            have g1:=bE g1
            have g2:=bE g2
            have g4:=bE g4
            subst g1;subst g2;subst g4
            refine⟨_,_,g6,λk hk=> ?_,λc w vx vy hm rJ hR hx hy=> ?_⟩
            . have:=nO.1 hk
              simp at this
              rw[this];exact lE g3
            . exact Zt7 hk.1 pw nF hi hu hs hb tO hm rJ hR h0 sJ g5 hr hx (wG c w vy hm hR hy)
          . exact h.elim
      . exact h.elim
    . exact h.elim
  . exact h.elim
theorem Z6z{c:Ctx}(gv:∀f cs,d≠.gm f cs)(h:dc c w d v):dc {c with base:=0} w d v:=by
 cases d with
 |sl sz es fr=>
  obtain⟨a,cap,hv,hc,gu⟩:=h
  refine⟨a,cap,hv,hc,?_⟩
  rcases gu with gu|⟨b,off,arr,ty,fz,ha,hI,hf,hh,hE⟩
  ·exact .inl gu
  ·exact .inr ⟨b,off,arr,ty,fz,ha,hI,λ_=>Nat.zero_le _,hh,hE⟩
 |gm f cs=>exact absurd rfl (gv f cs)
 |_=>exact h
theorem ZD{c:Ctx}(h:dc c w d v):dc {c with base:=0} w d v:=by
 by_cases e:∃g cs,d=.gm g cs
 ·obtain⟨g,cs,rfl⟩:=e
  obtain⟨us,hv,hu⟩:=h
  exact⟨us,hv,Zx (c:=c) (w:=w) (c':={c with base:=0}) (w':=w) (S:=λ_=>True) (λd v q1 _ q2=>Z6z q1 q2) (λ_ hb=>⟨hb,rfl⟩) (λ_ _=>trivial) hu⟩
 ·exact Z6z (λf cs e'=>e ⟨f,cs,e'⟩) h
theorem Z6y{c:Ctx}{w:World}:∀{ds:List D} {vs:List Value},jm c w ds vs->jm {c with base:=0} w ds vs
 |[],[],_=>trivial
 |_::_,_::_,h=>⟨ZD h.1,Z6y h.2⟩
 |[],_::_,h=>h.elim
 |_::_,[],h=>h.elim
theorem Zd2{c:Ctx}(h:VRep c w d v):VRep {c with base:=0} w d v:=by
 cases d with
 |agg cs=>obtain⟨vs,hv,hr⟩:=h;exact⟨vs,hv,Z6y hr⟩
 |_=>exact VRep.Ep (ZD (VRep.toC (λcs e=>by cases e) h))
theorem ZE{c:Ctx}{w:World}:∀{ds:List D} {vs:List Value},kj c w ds vs->kj {c with base:=0} w ds vs
 |[],[],_=>trivial
 |_::_,_::_,h=>⟨Zd2 h.1,ZE h.2⟩
 |[],_::_,h=>h.elim
 |_::_,[],h=>h.elim
theorem Z3k{c:Ctx}{w:World}:∀{ds:List D} {arr:Array Value} {off:Nat},kG c w ds arr off->kG {c with base:=0} w ds arr off
 |[],_,_,_=>trivial
 |_::_,_,_,⟨⟨v,hv,h1⟩,h2⟩=>⟨⟨v,hv,ZD h1⟩,Z3k h2⟩
theorem Zlc{c:Ctx}(h:Mem c w):Mem {c with base:=0} w:=by
 refine⟨λr row hr=>?_,h.inj,h.fh,h.top,h.jY⟩
 rcases h.row r row hr with h0|⟨h0,arr,ha,hs,hx⟩
 ·exact .inl h0
 ·refine .inr ⟨h0,arr,ha,hs,?_⟩
  split
  ·rename_i hb
   rw[if_pos hb]at hx
   obtain⟨e,k1,k2,k3,k4⟩:=hx
   exact⟨e,k1,k2,k3,Z3k k4⟩
  ·rename_i hb
   rw[if_neg hb]at hx
   exact hx
theorem Z3a{f:Nat->Nat}:∀{ids:List Nat} {rows:List Row} {R:Rows},ids.Nodup->ids.length<=rows.length->(∀r∈ids,r<R.length)->
 (Fl f ids rows R).length=R.length/\(∀(i r:Nat),ids[i]?=some r->∃row,rows[i]?=some row/\(Fl f ids rows R).getD r none=some (row.jg f false))/\∀r,r∉ids->(Fl f ids rows R).getD r none=R.getD r none
 |[],rows,R,_,_,_=>by
  have:Fl f [] rows R=R:=by cases rows<;>rfl
  rw[this]
  exact⟨rfl,λi r h=>by simp at h,λ_ _=>rfl⟩
 |r::ids,[],R,_,hl,_=>by simp at hl
 |r ::ids,row::rows,R,kU,hl,bd=>by
  obtain⟨IA,JD⟩:=List.nodup_cons.1 kU
  obtain⟨g1,g2,g3⟩:=Z3a (f:=f) (ids:=ids) (rows:=rows) (R:=R.set r (some (row.jg f false))) JD (by simpa using hl) (λq hq=>by simpa using bd q (by simp[hq]))
  have hr:=bd r (by simp)
  have ZF:(R.set r (some (row.jg f false))).getD r none=some (row.jg f false):=by simp[aV,hr]
  have gv:∀q,q≠r->(R.set r (some (row.jg f false))).getD q none=R.getD q none:=λq hq=>by simp[aV,List.getElem?_set_ne (Ne.symm hq)]
  simp only[Fl]
  refine⟨by simpa using g1,λi q hq=>?_,λq hq=>?_⟩
  ·cases i with
   |zero=>
    simp at hq;subst hq
    exact⟨row,rfl,by rw[g3 _ IA];exact ZF⟩
   |succ i=>simpa using g2 i q (by simpa using hq)
  ·have h1:q≠r:=λe=>hq (by simp[e])
   rw[g3 q (λe=>hq (by simp[e])),gv q h1]
def Ctx.ea(c:Ctx)(c':Ctx)(kl n0:Nat)(R2:Rows):Ctx:=
 { ρ:=λr=>if n0<=r/\r<R2.length then c'.ρ (kl+(r-n0)) else c.ρ r,
   R:=λr=>R2.getD r none,
   V:=λr=>if n0<=r/\r<R2.length then c'.V (kl+(r-n0)) else c.V r,
   I:=c'.I,base:=c.base,top:=c'.top,X:=c.X}
theorem Mv{i k n:Nat}:da i (bO k n)=true↔k<=i/\i<k+n:=by
 rw[nO,List.mem_range'_1]
theorem Zes{c c':Ctx}{ids:List Nat}{dz aj:List Row}(hm:Mem c w)(hR:∀r,c.R r=R.getD r none)
 (kU:ids.Nodup) (db:Bk R (λr=>pos r ids 0) ids=some dz) (hle:(ids.take k).length<=aj.length)
 (hx:jL (bO k (dz.length-k)) {c.pass w ids dz false with base:=0} w c' w') (j6:∀i,c'.R i=aj[i]?)
 {R2:Rows} (uH:R2=Fl (bk (ids.take k) R.length) (ids.take k) aj (rR (ids.drop k) R 0)++QJ (bk (ids.take k) R.length) (aj.drop (ids.take k).length)):
 Ec (λ_=>True) (bk (ids.take k) R.length) false c' (c.ea c' (ids.take k).length R.length R2)/\
 jL (ids.drop k) c w (c.ea c' (ids.take k).length R.length R2) w':=by
 obtain⟨jn,Ay⟩:=Fm db
 generalize hf:bk (ids.take k) R.length=f at*
 generalize ZG:(ids.take k).length=kl at*
 have nS:∀r row,R.getD r none=some row->c.R r=some row:=λr row e=>by rw[hR];exact e
 have bd:∀r∈ids,r<R.length:=λr hr=>by
  obtain⟨row,h1,_⟩:=Ay _ r (Bl hr)
  by_cases hl:r<R.length
  ·exact hl
  ·rw[aV,aJ (by omega)]at h1;cases h1
 have htd:ids.take k++ids.drop k=ids:=List.take_append_drop k ids
 have ZH:(ids.take k).Nodup:=by rw[<-htd]at kU;exact(List.nodup_append.1 kU).1
 have QK:∀r,r∈ids.take k->r∈ids.drop k->False:=λr h1 h2=>by
  rw[<-htd]at kU
  exact(List.nodup_append.1 kU).2.2 r h1 r h2 rfl
 have Jaw:kl=min k ids.length:=by rw[<-ZG];simp
 have CF:∀i,i<kl->(ids.take k)[i]?=ids[i]? :=λi hi=>by rw[aF,if_pos (by omega)]
 have sK:∀i r,ids[i]?=some r->kl<=i->r∈ids.drop k:=λi r hi fx=>by
  have mM:=(List.getElem?_eq_some_iff.1 hi).1
  have:(ids.drop k)[i-k]?=some r:=by rw[fL,show k+(i-k)=i by omega];exact hi
  exact fO this
 obtain⟨k1,k2,k3⟩:=Z3a (f:=f) (ids:=ids.take k) (rows:=aj) (R:=rR (ids.drop k) R 0) ZH (by rw[ZG];exact hle) (λr hr=>by rw[JB];exact bd r (fP hr))
 rw[JB]at k1
 have wc:R2.length=R.length+(aj.length-kl):=by rw[uH];simp[k1,QJ]
 have QL:∀r,r<R.length->R2.getD r none=(Fl f (ids.take k) aj (rR (ids.drop k) R 0)).getD r none:=λr hr=>by
  rw[uH,aV,aV,bI (by omega)]
 have ZI:∀i,kl<=i->i<aj.length->R2.getD (R.length+(i-kl)) none=aj[i]?.map λrow=>row.jg f false:=λi h1 h2=>by
  have:∀(l:List Row) (j:Nat),(QJ f l)[j]?=l[j]?.map λrow=>some (row.jg f false):=λl j=>by simp[QJ]
  rw[uH,aV,bJ (by omega),this,k1,show R.length+(i-kl)-R.length=i-kl by omega,fL,show kl+(i-kl)=i by omega]
  rw[aI h2];rfl
 have jD:∀i r ao,i<kl->ids[i]?=some r->c'.R i=some ao->∃row,c.R r=some row/\ao.box=row.box/\ao.ty=row.ty/\ao.sz=row.sz/\ao.es.l.length=row.es.l.length/\c'.ρ i=c.ρ r/\(c'.V i↔c.V r)/\r<R.length/\R2.getD r none=some (ao.jg f false)/\f i=r/\
  (¬c.V r->∀arr,w.heap[c.ρ r]?=some (.cells arr row.ty (0,0))->∃iK,w'.heap[c.ρ r]?=some (.cells iK row.ty (0,0))/\iK.size=arr.size):=by
  intro i r ao nZ hi jl
  obtain⟨row,h1,h2⟩:=Ay i r hi
  have mn:=fO hi
  have h3:=nS r row h1
  have CG:(({c.pass w ids dz false with base:=0}:Ctx).kill (bO k (dz.length-k))).R i=some ((row.jg (λr=>pos r ids 0) false).kill (bO k (dz.length-k))):=by
   simp only[Ctx.kill,Ctx.pass]
   rw[if_neg (λe=>by have:=Mv.1 e;omega),h2];rfl
  obtain⟨sL,g1,g2,g3,g4,g5,g6,gV,g7⟩:=hx.cz.R i _ CG
  rw[jl]at g1;cases g1
  obtain⟨s1,s2,s3,s4⟩:=JE (λr=>pos r ids 0) false row
  obtain⟨t1,t2,t3,t4⟩:=wh (bO k (dz.length-k)) (row.jg (λr=>pos r ids 0) false)
  have iG:=(CF i nZ).trans hi
  obtain⟨kL,q1,q2⟩:=k2 i r iG
  rw[j6,q1]at jl;cases jl
  refine⟨row,h3,g2.trans (t1.trans s1),g3.trans (t2.trans s2),g4.trans (t3.trans s3),g5.trans (t4.trans s4),by simpa[Ctx.kill,Ctx.pass,hi]using g6,by simpa[Ctx.kill,Ctx.pass,hi]using gV,bd r mn,by rw[QL r (bd r mn)];exact q2,by rw[<-hf];simp[bk,iG],λnv arr ha=>?_⟩
  have:=g7 (by simpa[Ctx.kill,Ctx.pass,hi]using nv) arr (by simpa[Ctx.kill,Ctx.pass,hi,s2,t2]using ha)
  simpa[Ctx.kill,Ctx.pass,hi,s2,t2]using this
 have Ob:∀i ao,c'.R i=some ao->¬c'.V i->(∃j s row,ids[j]?=some s/\c.R s=some row/\¬c.V s/\c'.ρ i=c.ρ s/\(i<kl->j=i)/\(kl<=i->s∈ids.drop k))\/w.heap.size<=c'.ρ i:=by
  intro i ao h1 nv
  by_cases nZ:i<kl
  ·have iG:ids[i]?=some ids[i]:=aI (by omega)
   obtain⟨row,g1,g2,g3,g4,g5,g6,g7,_⟩:=jD i _ ao nZ iG h1
   exact .inl ⟨i,_,row,iG,g1,λe=>nv (g7.2 e),g6,λ_=>rfl,λh=>by omega⟩
  ·rcases hx.oc i ao h1 nv with⟨⟨x,o7⟩,v,e⟩|⟨s,x,hs,o7,v,e⟩|e
   ·have I2:dz[i]?=some x:=o7
    have He:=(List.getElem?_eq_some_iff.1 I2).1
    have iG:ids[i]?=some ids[i]:=aI (by omega)
    obtain⟨row,g1,g2⟩:=Ay i _ iG
    exact .inl ⟨i,_,row,iG,nS _ _ g1,by simpa[Ctx.pass,iG]using v,by simpa[Ctx.pass,iG]using e,λh=>by omega,λ_=>sK i _ iG (by omega)⟩
   ·have I2:dz[s]?=some x:=o7
    have He:=(List.getElem?_eq_some_iff.1 I2).1
    have iG:ids[s]?=some ids[s]:=aI (by omega)
    obtain⟨row,g1,g2⟩:=Ay s _ iG
    have hsk:=(Mv.1 hs).1
    exact .inl ⟨s,_,row,iG,nS _ _ g1,by simpa[Ctx.pass,iG]using v,by simpa[Ctx.pass,iG]using e,λh=>by omega,λ_=>sK s _ iG (by omega)⟩
   ·exact .inr e
 have new:∀i ao,kl<=i->c'.R i=some ao->i<aj.length/\R2.getD (R.length+(i-kl)) none=some (ao.jg f false)/\f i=R.length+(i-kl):=by
  intro i ao hi jl
  have h1:aj[i]?=some ao:=by rw[<-j6];exact jl
  have h2:=(List.getElem?_eq_some_iff.1 h1).1
  refine⟨h2,by rw[ZI i hi h2,h1];rfl,?_⟩
  rw[<-hf]
  simp only[bk]
  rw[aJ (by omega),ZG]
 have CH:Ec (λ_=>True) f false c' (c.ea c' kl R.length R2):=by
  refine⟨λi ao _ jl=>?_,(λh=>by cases h),aX _⟩
  obtain⟨s1,s2,s3,s4⟩:=JE f false ao
  by_cases hi:i<kl
  ·have iG:ids[i]?=some ids[i]:=aI (by omega)
   obtain⟨row,g1,g2,g3,g4,g5,g6,g7,g8,g9,g10,_⟩:=jD i _ ao hi iG jl
   rw[g10]
   exact⟨_,g9,s1,s2,s3,s4,by simp only[Ctx.ea];rw[if_neg (by omega),g6],by simp only[Ctx.ea];rw[if_neg (by omega)];exact g7.symm⟩
  ·obtain⟨h1,h2,h3⟩:=new i ao (by omega) jl
   rw[h3]
   have hc:R.length<=R.length+(i-kl)/\R.length+(i-kl)<R2.length:=by omega
   have he:kl+(R.length+(i-kl)-R.length)=i:=by omega
   exact⟨_,h2,s1,s2,s3,s4,by simp only[Ctx.ea];rw[if_pos hc,he],by simp only[Ctx.ea];rw[if_pos hc,he]⟩
 have BT:Fr (λb=>∃r x,c.R r=some x/\¬c.V r/\r∈ids/\c.ρ r=b) w w':=hx.fr.mono λb _ ⟨i,x,h1,h2,h3⟩=>by
  have r3:dz[i]?=some x:=h1
  have hi:i<ids.length:=by have:=(List.getElem?_eq_some_iff.1 r3).1;omega
  have iG:ids[i]?=some ids[i]:=aI hi
  obtain⟨row,g1,g2⟩:=Ay i _ iG
  exact⟨_,row,nS _ row g1,by simpa[Ctx.pass,iG]using h2,fO iG,by simpa[Ctx.pass,iG]using h3⟩
 have rest:∀r,r∉ids->r<R.length->R2.getD r none=(R.getD r none).map (Row.kill (ids.drop k)):=λr h1 h2=>by
  rw[QL r h2,k3 r (λe=>h1 (fP e)),QI,bG,if_neg (λe=>h1 (fQ (nO.1 e)))]
 have gone:∀r,r∈ids.drop k->R2.getD r none=none:=λr h=>by
  rw[QL r (bd r (fQ h)),k3 r (λe=>QK r e h),QI,bG,if_pos (nO.2 h)]
 have inv:∀r x,(c.ea c' kl R.length R2).R r=some x->(∃i ao,c'.R i=some ao/\x=ao.jg f false/\(c.ea c' kl R.length R2).ρ r=c'.ρ i/\((c.ea c' kl R.length R2).V r↔c'.V i)/\(i<kl/\ids[i]?=some r/\(c.ea c' kl R.length R2).ρ r=c.ρ r/\((c.ea c' kl R.length R2).V r↔c.V r)\/R.length<=r/\kl<=i/\r=R.length+(i-kl)))\/
  (∃row,c.R r=some row/\x=row.kill (ids.drop k)/\r∉ids/\(c.ea c' kl R.length R2).ρ r=c.ρ r/\((c.ea c' kl R.length R2).V r↔c.V r)):=by
  intro r x jK
  have jK:R2.getD r none=some x:=jK
  by_cases mn:r∈ids
  ·by_cases hg:r∈ids.drop k
   ·rw[gone r hg]at jK;cases jK
   ·left
    have hp:=Bl mn
    have Bm:pos r ids 0<kl:=by
     by_cases h:pos r ids 0<kl
     ·exact h
     ·exact(hg (sK _ r hp (by omega))).elim
    obtain⟨kL,q1,q2⟩:=k2 _ r ((CF _ Bm).trans hp)
    have sM:c'.R (pos r ids 0)=some kL:=by rw[j6];exact q1
    obtain⟨row,g1,g2,g3,g4,g5,g6,g7,g8,g9,g10,_⟩:=jD _ r kL Bm hp sM
    rw[g9]at jK
    cases jK
    have e1:(c.ea c' kl R.length R2).ρ r=c.ρ r:=by simp only[Ctx.ea];rw[if_neg (by omega)]
    have e2:(c.ea c' kl R.length R2).V r↔c.V r:=by simp only[Ctx.ea];rw[if_neg (by omega)]
    exact⟨_,kL,sM,rfl,by rw[e1,g6],by rw[e2,g7],.inl ⟨Bm,hp,e1,e2⟩⟩
  ·by_cases hc:R.length<=r
   ·left
    have UT:r<R2.length:=by
     by_cases h:r<R2.length
     ·exact h
     ·rw[aV,aJ (by omega)]at jK;cases jK
    have hi:kl+(r-R.length)<aj.length:=by omega
    have sM:c'.R (kl+(r-R.length))=some aj[kl+(r-R.length)]:=by rw[j6];exact aI hi
    obtain⟨h1,h2,h3⟩:=new _ _ (by omega) sM
    rw[show R.length+(kl+(r-R.length)-kl)=r by omega]at h2
    rw[h2]at jK
    cases jK
    exact⟨_,_,sM,rfl,by simp only[Ctx.ea];rw[if_pos ⟨hc,UT⟩],by simp only[Ctx.ea];rw[if_pos ⟨hc,UT⟩],.inr ⟨hc,by omega,by omega⟩⟩
   ·right
    rw[rest r mn (by omega)]at jK
    simp only[fI]at jK
    obtain⟨row,h1,h2⟩:=jK
    exact⟨row,nS r row h1,h2.symm,mn,by simp only[Ctx.ea];rw[if_neg (by omega)],by simp only[Ctx.ea];rw[if_neg (by omega)]⟩
 have apart:∀r row i ao,c.R r=some row->r∉ids->¬c.V r->c'.R i=some ao->¬c'.V i->c'.ρ i≠c.ρ r:=λr row i ao h1 h2 h3 h4 h5 e=>by
  rcases Ob i ao h4 h5 with⟨j,s,jA,q1,q2,q3,q4,_⟩|q
  ·have:=hm.inj s r jA row q2 h1 q3 h3 (by rw[<-q4,e])
   subst this
   exact h2 (fO q1)
  ·have:=hm.lt h1 h3;omega
 have pQ:Q4 (c.kill (ids.drop k)) w (c.ea c' kl R.length R2) w':=by
  refine⟨rfl,hx.cz.top,λb ij=>?_,λr x hr=>?_⟩
  ·have h1:(({c.pass w ids dz false with base:=0}:Ctx).kill (bO k (dz.length-k))).I b:=.inl ij
   exact⟨(hx.cz.I b h1).1,(hx.cz.I b h1).2⟩
  ·obtain⟨UU,row,c6,rfl⟩:=ng hr
   have UU:r∉ids.drop k:=λe=>by rw[nO.2 e]at UU;cases UU
   obtain⟨u1,u2,u3,u4⟩:=wh (ids.drop k) row
   by_cases mn:r∈ids
   ·have hp:=Bl mn
    have Bm:pos r ids 0<kl:=by
     by_cases h:pos r ids 0<kl
     ·exact h
     ·exact(UU (sK _ r hp (by omega))).elim
    obtain⟨kL,q1,q2⟩:=k2 _ r ((CF _ Bm).trans hp)
    have sM:c'.R (pos r ids 0)=some kL:=by rw[j6];exact q1
    obtain⟨jI,g1,g2,g3,g4,g5,g6,g7,g8,g9,g10,g11⟩:=jD _ r kL Bm hp sM
    rw[c6]at g1;cases g1
    obtain⟨s1,s2,s3,s4⟩:=JE f false kL
    refine⟨_,g9,s1.trans (g2.trans u1.symm),s2.trans (g3.trans u2.symm),s3.trans (g4.trans u3.symm),s4.trans (g5.trans u4.symm),by simp only[Ctx.ea];rw[if_neg (by omega)];rfl,by simp only[Ctx.ea];rw[if_neg (by omega)];rfl,λnv arr ha=>?_⟩
    rw[u2]at ha⊢
    exact g11 nv arr ha
   ·have rr:r<R.length:=by
     by_cases h:r<R.length
     ·exact h
     ·rw[hR,aV,aJ (by omega)]at c6;cases c6
    refine⟨row.kill (ids.drop k),?_,rfl,rfl,rfl,rfl,by simp only[Ctx.ea];rw[if_neg (by omega)];rfl,by simp only[Ctx.ea];rw[if_neg (by omega)];rfl,λnv arr ha=>⟨arr,?_,rfl⟩⟩
    ·show R2.getD r none=_
     rw[rest r mn rr,<-hR,c6];rfl
    ·have nv:¬c.V r:=nv
     show w'.heap[c.ρ r]?=_
     rw[BT.heap _ (hm.lt c6 nv) fun⟨s,x,h1,h2,h3,h4⟩=>mn (by rw[<-hm.inj s r x row h1 c6 h2 nv h4];exact h3)]
     exact ha
 refine⟨CH,⟨λr x jK=>?_,λr s x y hr hs v1 v2 he=>?_,λb ij=>⟨(hx.mem.fh b ij).1,λr x hr v=>?_⟩,hx.mem.top,hx.mem.jY⟩,pQ,BT.mono λb _ ⟨r,x,h1,h2,_,h4⟩=>⟨r,x,h1,h2,h4⟩,λb ij=>?_,λr x hr v=>?_⟩
 ·rcases inv r x jK with⟨i,ao,h1,rfl,h3,h4,_⟩|⟨row,h1,rfl,h2,h3,h4⟩
  ·exact ZJ CH (flat:=False) (.inl λb hb=>hb) h3 h4 (λ_ _ _ _ _=>trivial) (λe=>e.elim) (hx.mem.row i ao h1)
  ·have hk:=Zqz (ks:=ids.drop k) (hm.row r row h1)
   exact tw pQ h3 h4 (λnv=>BT.heap _ (hm.lt h1 nv) fun⟨s,x',g1,g2,g3,g4⟩=>h2 (by rw[<-hm.inj s r x' row g1 h1 g2 nv g4];exact g3)) hk
 ·rcases inv r x hr with⟨i,x',h1,_,h3,h4,h5⟩|⟨row,h1,_,h2,h3,h4⟩<;>rcases inv s y hs with⟨j,y',g1,_,g3,g4,g5⟩|⟨jA,g1,_,g2,g3,g4⟩
  ·have:i=j:=hx.mem.inj i j x' y' h1 g1 (λe=>v1 (h4.2 e)) (λe=>v2 (g4.2 e)) (by rw[<-h3,<-g3];exact he)
   subst this
   rcases h5 with⟨q0,q1,_⟩|⟨_,q1,q2⟩<;>rcases g5 with⟨p0,p1,_⟩|⟨_,p1,p2⟩
   ·rw[q1]at p1;exact Option.some.inj p1
   ·omega
   ·omega
   ·omega
  ·exact(apart s jA i x' g1 g2 (λe=>v2 (g4.2 e)) h1 (λe=>v1 (h4.2 e)) (by rw[<-h3,<-g3];exact he)).elim
  ·exact(apart r row j y' h1 h2 (λe=>v1 (h4.2 e)) g1 (λe=>v2 (g4.2 e)) (by rw[<-h3,<-g3];exact he.symm)).elim
  ·exact hm.inj r s row jA h1 g1 (λe=>v1 (h4.2 e)) (λe=>v2 (g4.2 e)) (by rw[<-h3,<-g3];exact he)
 ·rcases inv r x hr with⟨i,x',h1,_,h3,h4,h5⟩|⟨row,h1,_,h2,h3,h4⟩
  ·rw[h3];exact(hx.mem.fh b ij).2 i x' h1 (λe=>v (h4.2 e))
  ·have nv:¬c.V r:=λe=>v (h4.2 e)
   rw[h3]
   rcases hx.fh b ij with q|⟨s,z,q1,q2,q3,q4⟩|q
   ·rcases q with q|⟨q,_⟩
    ·exact(hm.fh b q).2 r row h1 nv
    ·cases q
   ·intro e
    have hz:dz[s]?=some z:=q2
    have He:=(List.getElem?_eq_some_iff.1 hz).1
    have iG:ids[s]?=some ids[s]:=aI (by omega)
    obtain⟨jA,g1,g2⟩:=Ay s _ iG
    have:=hm.inj _ r jA row (nS _ _ g1) h1 (by simpa[Ctx.pass,iG]using q3) nv (by rw[e];simpa[Ctx.pass,iG]using q4)
    exact h2 (by rw[<-this];exact fO iG)
   ·have:=hm.lt h1 nv;omega
 ·rcases hx.fh b ij with q|⟨s,z,q1,q2,q3,q4⟩|q
  ·rcases q with q|⟨q,_⟩
   ·exact .inl q
   ·cases q
  ·have hz:dz[s]?=some z:=q2
   have He:=(List.getElem?_eq_some_iff.1 hz).1
   have iG:ids[s]?=some ids[s]:=aI (by omega)
   obtain⟨jA,g1,g2⟩:=Ay s _ iG
   have hsk:=(Mv.1 q1).1
   exact .inr (.inl ⟨_,jA,nO.2 (sK s _ iG (by omega)),nS _ _ g1,by simpa[Ctx.pass,iG]using q3,by simpa[Ctx.pass,iG]using q4⟩)
  ·exact .inr (.inr q)
 ·rcases inv r x hr with⟨i,x',h1,_,h3,h4,h5⟩|⟨row,h1,_,h2,h3,h4⟩
  ·rcases h5 with⟨q0,q1,q2,q3⟩|⟨q0,q1,q2⟩
   ·obtain⟨row,g1,_⟩:=jD i r x' q0 q1 h1
    exact .inl ⟨⟨row,g1⟩,λe=>v (q3.2 e),q2⟩
   ·rcases Ob i x' h1 (λe=>v (h4.2 e))with⟨j,s,jA,p1,p2,p3,p4,_,p5⟩|p
    ·exact .inr (.inl ⟨s,jA,nO.2 (p5 q1),p2,p3,by rw[h3];exact p4⟩)
    ·exact .inr (.inr (by rw[h3];exact p))
  ·exact .inl ⟨⟨row,h1⟩,λe=>v (h4.2 e),h3⟩
def Hf(P:Program)(f:FuncId)(args:List Operand)(ev:Operand->D)(R:Rows)(ks:List Nat)(val:D)(R':Rows):Prop:=
 ∀ (c:Ctx) (w:World) (ρ:Operand->Value),Mem c w->c.base<=w.heap.size->(∀r,c.R r=R.getD r none)->(∀y∈args,Rep c w (ev y) (ρ y))->
  ∀K':Value->World->Prop,(∀v w' c',jL ks c w c' w'->(∀r,c'.R r=R'.getD r none)->Rep c' w' val v->K' v w')->Gb P c.I f (args.map ρ) w λe w'=>∃v,e=.returned v/\K' v w'
theorem WK{P:Program}{G:List bb}{M:Nat}(hG:jB P G){f:FuncId}{k:Nat}{args:List Operand}{ev:Operand->D}{R:Rows}{K:List Nat->D->Rows->Prop}
 (lN:oX G f=some k) (h:Ij G M f k (args.map ev) R K):∃ks val R' x,K ks val R'/\oJ G f=some x/\(x.refs≠[])/\(∀j,da j ks=true->M<=j)/\Hf P f args ev R ks val R':=by
 unfold Ij at h
 split at h
 ·rename_i x hx
  have wj:x.gone=some k:=by simpa[oX,hx]using lN
  obtain⟨dy,hf⟩:=Gj hG hx
  split at h
  ·rename_i az dz has iR
   simp only[dd,aE]at h
   obtain⟨⟨⟨⟨hv,mI⟩,h1,h2⟩,h3,h4⟩,h⟩:=h
   generalize JF:mw R x.refs (args.map ev)=ids at*
   have uJ:=Mw.1 h1
   have jn:=Mw.1 h2
   have kU:=Mx.1 h3
   have Hg:lJ x.refs (args.map ev)=[]:=by
    revert hv
    cases lJ x.refs (args.map ev)<;>simp
   have hrefs:x.refs≠[]:=λe=>by rw[e]at mI;simp at mI
   have main:∀res aj,Hh R (ids.take k) (ids.drop k) res aj K->Qd P x.f k az dz res aj->
    ∃ks val R' y,K ks val R'/\oJ G f=some y/\(y.refs≠[])/\(∀j,da j ks=true->M<=j)/\Hf P f args ev R ks val R':=by
    intro res aj hK hA
    simp only[Hh,dd,D.c7,nk]at hK
    obtain⟨hle,hK⟩:=hK
    have hle:=lE hle
    refine⟨_,_,_,x,hK,hx,hrefs,λj hj=>lE (List.all_eq_true.1 h4 j (nO.1 hj)),λc w ρ hm hb hR ei K' pW=>?_⟩
    have nS:∀r row,r∈ids->R.getD r none=some row->c.R r=some row:=λr row _ e=>by rw[hR];exact e
    have oW:mh c R:=λr row ao g1 g2=>by rw[hR,g2]at g1;exact(Option.some.inj g1).symm
    have hn:=UW (len:=false) (w:=w) nS iR
    have fv:=My (len:=false) (ρ:=ρ) hm oW hn has (λe=>(e Hg).elim) (λr hr=>by rw[Hg]at hr;cases hr) uJ ei
    have mm:=hA _ w _ (Zlc (ZK (len:=false) hm nS kU jn iR)) rfl (λr=>rfl) (ZE fv)
    rw[hf]at mm
    refine mm.mono (λb hb=>.inl hb) (λe w' sN=>?_)
    obtain⟨v,c',he,nF,j6,kJ⟩:=sN
    have:=Zes (k:=k) hm hR kU iR hle nF j6 rfl
    exact⟨v,he,pW v w' _ this.2 (λr=>rfl) (ZL this.1 (flat:=False) (.inl λb hb=>hb) (λ_=>trivial) (λe=>e.elim) kJ)⟩
   split at h
   ·rename_i α v res aj hm
    exact main _ _ (h v rfl) (dy.QM k wj _ _ _ _ _ _ hm)
   ·rename_i p α v res aj hm
    exact main _ _ (h.2 v rfl) (dy.Hi k wj _ _ _ _ _ _ _ hm h.1)
   ·exact h.elim
  ·exact h.elim
 ·exact h.elim
theorem Zrb(hG:jB P G)(hy:f<YB){guard:Option (Nat×Bool)}
 (lN:oX G f=some k) (h:Ij G M f k (args.toList.map ev) R K):∃ks val R' x,K ks val R'/\oJ G f=some x/\(x.refs≠[])/\(∀j,da j ks=true->M<=j)/\BJ P ⟨dst,.call ⟨.value (.func f),args,dj⟩,type,pos',after,guard⟩ ev R ks val R':=by
 obtain⟨ks,val,R',x,h1,h2,h3,h4,h5⟩:=WK hG lN h
 obtain⟨dy,hf⟩:=Gj hG h2
 refine⟨ks,val,R',x,h1,h2,h3,h4,λc w a hm hb hR ei K' Q pW=>?_⟩
 subst hf
 exact ZM dy rfl hy ((h5 c w a.eval hm hb hR (λy hy=>ei y (by simp[Op.operands,Call.operands];exact .inr (by simpa using hy))) (λv w'=>K' (a.put dst v) w') λv w' c'=>pW v w' c').1 hy)
def Ctx.only(c:Ctx)(ks:List Nat):Ctx:={c with R:=λr=>if da r ks=true then(match c.R r with|some row=>if row.box=true then none else some row|none=>none)else none}
theorem Mz{c:Ctx}(h:(c.only ks).R r=some x):r∈ks/\c.R r=some x/\x.box=false:=by
 simp only[Ctx.only]at h
 split at h
 ·rename_i hm
  split at h
  ·rename_i row hr
   split at h
   ·cases h
   ·rename_i hb
    cases h
    exact⟨nO.1 hm,hr,by simpa using hb⟩
  ·cases h
 ·cases h
theorem qv{c:Ctx}(hm:r∈ks)(hr:c.R r=some x)(hb:x.box=false):(c.only ks).R r=some x:=by
 simp[Ctx.only,nO.2 hm,hr,hb]
theorem qU{c:Ctx}(hm:Mem c w)(ks:List Nat):Mem (c.only ks) w:=by
 refine⟨λr x hr=>?_,λr s x y hr hs=>?_,λb hb=>⟨(hm.fh b hb).1,λr x hr v=>?_⟩,hm.top,hm.jY⟩
 ·obtain⟨_,h1,h2⟩:=Mz hr
  rcases hm.row r x h1 with h|⟨h0,arr,ha,hs,hx⟩
  ·exact .inl h
  ·refine .inr ⟨h0,arr,ha,hs,?_⟩
   rw[if_neg (by rw[h2];simp)]at hx⊢
   exact hx
 ·exact hm.inj r s x y (Mz hr).2.1 (Mz hs).2.1
 ·exact(hm.fh b hb).2 r x (Mz hr).2.1 v
theorem Zjm{c:Ctx}(h:Fo R d=some d')(hl:∀r∈nL d,r∈ks)(hr:dc c w d v):dc (c.only ks) w d v:=by
 cases d<;>simp only[Fo]at h<;>try(cases h;done)
 case all r=>
  obtain⟨row,g1,g2,g3⟩:=hr
  exact⟨row,qv (hl r (by simp[nL])) g1 g2,g2,g3⟩
 case own r o n=>
  obtain⟨row,g1,g2,g3,g4⟩:=hr
  exact⟨row,qv (hl r (by simp[nL])) g1 g2,g2,g3,g4⟩
 all_goals exact hr
theorem Zk3{c:Ctx}{w:World}{R:Rows}{ks:List Nat}:∀{ds od:List D} {vs:List Value},JG R ds=some od->(∀r∈pR ds,r∈ks)->jm c w ds vs->jm (c.only ks) w ds vs
 |[],_,[],_,_,_=>trivial
 |d ::ds,od,v::vs,h,hl,hr=>by
  simp only[JG]at h
  split at h
  ·rename_i x xs h1 h2
   exact⟨Zjm h1 (λr e=>hl r (by simp[pR,e])) hr.1,Zk3 h2 (λr e=>hl r (by simp[pR,e])) hr.2⟩
  ·cases h
 |[],_,_::_,_,_,h=>h.elim
 |_::_,_,[],_,_,h=>h.elim
theorem xU{c:Ctx}(h:conv R d=some d')(hl:∀r∈Fp d,r∈ks)(hr:Rep c w d v):Rep (c.only ks) w d v:=by
 cases d with
 |agg cs=>
  simp only[conv,fI]at h
  obtain⟨xs,h1,_⟩:=h
  obtain⟨vs,hv,hx⟩:=hr
  exact⟨vs,hv,Zk3 h1 hl hx⟩
 |dw ds=>simp[conv,Fo]at h
 |dead=>trivial
 |_=>
  simp only[conv]at h
  simp only[Rep,VRep]at hr⊢
  exact Zjm h hl hr
theorem Zd3{R:Rows}{f:Nat->Nat}{ev:Operand->D}:∀{xs:List Operand} {az:List D},sO R f [] (xs.map ev)=some az->∀x∈xs,∃y,conv R (ev x)=some y
 |[],_,_,x,hx=>by simp at hx
 |y ::xs,az,h,x,hx=>by
  simp only[fJ,sO]at h
  split at h
  ·rename_i z zs h1 h2
   simp only[cQ]at hx
   rcases hx with rfl|hx
   ·exact⟨_,h1⟩
   ·exact Zd3 h2 x hx
  ·cases h
theorem Zdx{ev:Operand->D}{r:Nat}:∀{xs:List Operand} {x:Operand},x∈xs->r∈Fp (ev x)->r∈lJ [] (xs.map ev)
 |y::xs,x,hx,hr=>by
  simp only[fJ,lJ,cB]
  simp only[cQ]at hx
  rcases hx with rfl|hx
  ·exact .inl hr
  ·exact .inr (Zdx hx hr)
theorem ZN{r:Nat}:∀{l ids:List Nat},r∈lz ids l->r∈ids\/r∈l
 |[],ids,h=>.inl h
 |x ::l,ids,h=>by
  simp only[lz]at h
  split at h
  ·rcases ZN h with h|h
   ·exact .inl h
   ·exact .inr (by simp[h])
  ·rcases ZN h with h|h
   ·simp only[cB,List.mem_singleton]at h
    rcases h with h|h
    ·exact .inl h
    ·exact .inr (by simp[h])
   ·exact .inr (by simp[h])
theorem xv{c:Ctx}(h:Rep c w d v):Rep {c with base:=0} w d v:=by
 cases d with
 |dw ds=>obtain⟨vs,hv,hx⟩:=h;exact⟨vs,hv,ZE hx⟩
 |dead=>trivial
 |_=>exact Rep.KC (Zd2 (Rep.toV (λds e=>by cases e) (λe=>by cases e) h))
theorem zU(hG:jB P G){guard:Option (Nat×Bool)}
 (lN:oX G f=none) (h:CI G M f (args.toList.map ev) R K):∃ks val R' x,K ks val R'/\oJ G f=some x/\(∀j,da j ks=true->M<=j)/\BJ P ⟨dst,.call ⟨.value (.func f),args,dj⟩,type,pos',after,guard⟩ ev R ks val R':=by
 unfold CI at h
 split at h
 ·rename_i x hx
  have wj:x.gone=none:=by simpa[oX,hx]using lN
  obtain⟨dy,hf⟩:=Gj hG hx
  split at h
  ·rename_i az dz has iR
   simp only[dd,aE]at h
   obtain⟨⟨⟨mI,wH⟩,h3,uJ,h4⟩,h⟩:=h
   have Jax:∀r,r∈lz [] (lJ [] (args.toList.map ev))->r∈lJ [] (args.toList.map ev):=λr hr=>by
    rcases ZN hr with h|h
    ·cases h
    ·exact h
   generalize JF:lz [] (lJ [] (args.toList.map ev))=ids at*
   have kU:=Mx.1 h3
   have uJ:=Mw.1 uJ
   have main :∀res aj,Hh R [] ids res aj K->kr P x.f az [] res aj->
    ∃ks val R' y,K ks val R'/\oJ G f=some y/\(∀j,da j ks=true->M<=j)/\BJ P ⟨dst,.call ⟨.value (.func f),args,dj⟩,type,pos',after,guard⟩ ev R ks val R':=by
    intro res aj hK hA
    simp only[Hh,dd,D.c7,nk]at hK
    obtain⟨_,hK⟩:=hK
    refine⟨_,_,_,x,hK,hx,λj hj=>lE (List.all_eq_true.1 h4 j (nO.1 hj)),λc w a hm hb hR ei K' Q pW=>?_⟩
    have oW:mh (c.only ids) R:=λr row ao g1 g2=>by
     have:=(Mz g1).2.1
     rw[hR,g2]at this;exact(Option.some.inj this).symm
    have hmo:=qU hm ids
    have hn:=UW (c:=c.only ids) (R:=R) (ids:=[]) (dz:=[]) (len:=true) (w:=w) (λr row e=>by cases e) rfl
    have ZO:∀y∈args.toList,Rep (c.only ids) w (ev y) (a.eval y):=λy hy=>by
     obtain⟨z,hz⟩:=Zd3 has y hy
     exact xU hz (λr hr=>uJ r (Zdx hy hr)) (ei y (by simp[Op.operands,Call.operands];exact .inr (by simpa using hy)))
    rw[ZP (λr=>r) (λr=>pos r [] 0)]at has
    have fv:=My (len:=true) (ρ:=a.eval) hmo oW hn has (λ_=>rfl) (λr _ e=>by cases e) (λr e=>by rw[ZQ]at e;cases e) ZO
    have mm:=hA _ w _ (ZK (R:=R) (len:=true) hmo (λr row e=>by cases e) (by simp) (λr e=>by simp[CJ]at e) rfl) rfl (λr=>rfl) fv
    refine ZM dy hf (dy.real wj) (mm.mono λe w' sN=>?_)
    obtain⟨v,c',he,nF,j6,kJ⟩:=sN
    have Gz:∀r x,((c.only ids).pass w [] [] true).R r=some x->False:=λr x h=>by simp[Ctx.pass]at h
    obtain⟨jn,Ay⟩:=Fm iR
    have hxK:jL (bO 0 (dz.length-0)) {c.pass w ids dz false with base:=0} w {c' with base:=0} w':=by
     refine⟨Zlc nF.mem,⟨rfl,nF.cz.top,λb ij=>?_,λr x hr=>?_⟩,nF.fr.mono λb _ ⟨r,x,h1,_⟩=>(Gz r x h1).elim,λb ij=>?_,λr x hr hv=>?_⟩
     ·have:c.I b:=by
       rcases ij with h|⟨h,_⟩
       ·exact h
       ·cases h
      exact⟨(nF.cz.I b (.inl this)).1,(nF.cz.I b (.inl this)).2⟩
     ·obtain⟨h1,row,h2,_⟩:=ng hr
      have h2':dz[r]?=some row:=h2
      have:=(List.getElem?_eq_some_iff.1 h2').1
      rw[Mv.2 (by omega)]at h1;cases h1
     ·rcases nF.fh b ij with h|h
      ·rcases h with h|⟨_,r,row,g1,g2,g3,_,g5⟩
       ·exact .inl (.inl h)
       ·obtain⟨k1,k2,k3⟩:=Mz g1
        have hp:=Bl k1
        obtain⟨jA,q1,q2⟩:=Ay _ r hp
        have hl:=(List.getElem?_eq_some_iff.1 q2).1
        exact .inr (.inl ⟨_,_,Mv.2 (by omega),q2,by simpa[Ctx.pass,Ctx.only,hp]using g2,by simpa[Ctx.pass,Ctx.only,hp]using g5⟩)
      ·exact .inr (.inr h)
     ·rcases nF.oc r x hr hv with⟨⟨y,h1⟩,_⟩|h
      ·exact(Gz r y h1).elim
      ·exact .inr (.inr h)
    have:=Zes (k:=0) (c':={c' with base:=0}) hm hR kU iR (by simp) hxK j6 rfl
    simp only[List.take_zero,List.drop_zero]at this
    exact⟨v,he,pW v w' _ this.2 (λr=>rfl) (ZL this.1 (flat:=False) (.inl λb hb=>hb) (λ_=>trivial) (λe=>e.elim) (xv kJ))⟩
   split at h
   ·rename_i α v res aj hm
    exact main _ _ (h v rfl) (dy.abs wj _ _ _ _ _ _ hm).1
   ·rename_i p α v res aj hm
    exact main _ _ (h.2 v rfl) (dy.lB wj _ _ _ _ _ _ _ hm h.1).1
   ·exact h.elim
  ·exact h.elim
 ·exact h.elim

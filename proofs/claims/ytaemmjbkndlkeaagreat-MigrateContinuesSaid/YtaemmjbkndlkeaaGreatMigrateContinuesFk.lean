import Derived.Test.YtaemmjbkndlkeaaGreatMigrateContinuesFo
import Derived.Laws.Append
import Derived.Laws.CopyRow
import Derived.Laws.AppendOwn
open List renaming eq_nil_of_length_eq_zero->fE,map_cons->fG,append_assoc->aM,getElem?_take->aF,getElem?_drop->fI,getElem?_toArray->bH,getD->aV,length_take->aD,length_drop->aG,getElem?_append_left->bI,size_toArray->aK,getElem?_append_right->bJ,getElem?_eq_none->aJ,take_of_length_le->fC,getElem?_eq_getElem->aI,range'->bO,mem_of_getElem?->fL,mem_of_mem_take->fM,mem_of_mem_drop->fN,mem_cons->cQ,mem_append->cB
open Bool renaming false_eq_true->aA
open Option renaming map_eq_some_iff->fF
open Nat renaming add_zero->aB,succ_mul->bF,mul_le_mul_right->bD,zero_add->bG,mul_comm->fJ,le_refl->aX,add_mul->bK,le_trans->bL,le_mul_of_pos_right->fK
open Array renaming ext'->fH
set_option linter.all false
namespace Go.GD
open Go
variable {G:List bc}{I:ae}{K:List Nat->D->Rows->Prop}{M k n r sy sz:Nat}{P:Program}{R:Rows}{after:Array Edge}{args:Array Operand}{arr:Array Value}{d d' y:D}{dst:Option Tmp}{ev:Operand->D}{f:FuncId}{i:TypeInfo}{ks:List Nat}{pos':String}{row x:Row}{t tx ty type:TypeId}{dj:Array TypeId}{ux:TypeDesc}{v z:Value}{w w':World}{ys:ai}
section
variable {c:Ctx} {w:World} {ks:List Nat}
theorem uT(ks:List Nat)(row:Row):(row.kill ks).box=row.box/\(row.kill ks).ty=row.ty/\(row.kill ks).sz=row.sz/\(row.kill ks).es.l.length=row.es.l.length:=by
 unfold Row.kill;split<;>exact⟨rfl,rfl,rfl,rfl⟩
theorem Z25:∀{e:List D},(D.kf ks e).length=e.length
 |[]=>rfl
 |d::l=>by simp[D.kf,Z25 (e:=l)]
theorem Zbq(gm:∀f cs,d≠.gj f cs)(h:dc c w d v):dc (c.kill ks) w (d.ed ks) v:=by
 have key:∀r row,cv r ks=false->c.R r=some row->(c.kill ks).R r=some (row.kill ks):=λr row hr c6=>by simp[Ctx.kill,hr,c6]
 have h1:=dc.one h
 cases d with
 |all r=>
  simp only[D.ed]
  cases hr:cv r ks with
  |true=>exact h1
  |false=>
   obtain⟨row,g1,g2,g3⟩:=h
   obtain⟨s1,s2,s3,s4⟩:=uT ks row
   exact⟨_,key r row hr g1,s1.trans g2,by rw[s2,s3,s4];exact g3⟩
 |own r o n=>
  simp only[D.ed]
  cases hr:cv r ks with
  |true=>exact h1
  |false=>
   obtain⟨row,g1,g2,g3,g4⟩:=h
   obtain⟨s1,s2,s3,s4⟩:=uT ks row
   exact⟨_,key r row hr g1,s1.trans g2,by rw[s4];exact g3,by rw[s2,s3];exact g4⟩
 |ptr r i off=>
  simp only[D.ed]
  cases hr:cv r ks with
  |true=>exact h1
  |false=>
   obtain⟨row,g1,g2,g3,g4⟩:=h
   obtain⟨s1,s2,s3,s4⟩:=uT ks row
   exact⟨_,key r row hr g1,g2,by rw[s4];exact g3,by rw[s3];exact g4⟩
 |pa r i off len k n=>
  simp only[D.ed]
  cases hr:cv r ks with
  |true=>exact h1
  |false=>
   obtain⟨g0,row,g1,g2,g3,g4⟩:=h
   obtain⟨s1,s2,s3,s4⟩:=uT ks row
   exact⟨g0,_,key r row hr g1,g2,by rw[s4];exact g3,by rw[s3];exact g4⟩
 |ga r=>
  simp only[D.ed]
  cases hr:cv r ks with
  |true=>exact h1
  |false=>
   rcases h with h|⟨row,g1,g2,g3,g4⟩
   ·exact .inl h
   ·obtain⟨s1,s2,s3,s4⟩:=uT ks row
    exact .inr ⟨_,key r row hr g1,g2,by rw[s4];exact g3,by rw[s3];exact g4⟩
 |gj f cs=>exact absurd rfl (gm f cs)
 |_=>exact h
theorem qu(gm:∀f cs,d≠.gj f cs)(h:∀r∈nA d,cv r ks=false):d.ed ks=d:=by
 cases d<;>first|rfl|(simp only[D.ed];rw[h _ (by simp[nA])])|exact absurd rfl (gm _ _)
theorem Sf(h:dc c w d v):dc (c.kill ks) w (d.ed ks) v:=by
 by_cases e:∃g cs,d=.gj g cs
 ·obtain⟨g,cs,rfl⟩:=e
  have h1:=dc.one h
  simp only[D.ed]
  cases hd:nB (od cs) ks with
  |false=>exact h1
  |true=>
   obtain⟨us,hv,hu⟩:=h
   exact⟨us,hv,Yd (c:=c) (w:=w) (c':=c.kill ks) (w':=w) (S:=λr=>cv r ks=false) (λd v q1 q2 q3=>by have:=Zbq (ks:=ks) q1 q3;rwa [qu q1 q2]at this) (λ_ hb=>⟨hb,rfl⟩) (λr hr=>by
    have:=TU.1 hd r hr
    cases hm:cv r ks with
    |false=>rfl
    |true=>exact(this (nF.1 hm)).elim) hu⟩
 ·exact Zbq (λf cs e'=>e ⟨f,cs,e'⟩) h
theorem Zia:∀{ds:List D} {vs:List Value},je c w ds vs->je (c.kill ks) w (D.kf ks ds) vs
 |[],[],_=>trivial
 |_::_,_::_,h=>⟨Sf h.1,Zia h.2⟩
 |[],_::_,h=>h.elim
 |_::_,[],h=>h.elim
theorem Zqj(h:VRep c w d v):VRep (c.kill ks) w (d.kill ks) v:=by
 cases d with
 |agg cs=>obtain⟨vs,hv,hr⟩:=h;exact⟨vs,hv,Zia hr⟩
 |_=>
  have:=Sf (ks:=ks) (VRep.toC (λcs e=>by cases e) h)
  exact VRep.DT this
theorem Zjj:∀{ds:List D} {vs:List Value},j5 c w ds vs->j5 (c.kill ks) w (D.pA ks ds) vs
 |[],[],_=>trivial
 |_::_,_::_,h=>⟨Zqj h.1,Zjj h.2⟩
 |[],_::_,h=>h.elim
 |_::_,[],h=>h.elim
theorem V2(h:Rep c w d v):Rep (c.kill ks) w (d.gk ks) v:=by
 cases d with
 |dv ds=>obtain⟨vs,hv,hr⟩:=h;exact⟨vs,hv,Zjj hr⟩
 |dead=>trivial
 |_=>
  have:=Zqj (ks:=ks) (Rep.toV (λds e=>by cases e) (λe=>by cases e) h)
  exact Rep.JV this
theorem Zcm:∀{ds:List D} {arr:Array Value} {off:Nat},ku c w ds arr off->ku (c.kill ks) w (D.kf ks ds) arr off
 |[],_,_,_=>trivial
 |_::_,_,_,⟨⟨v,hv,h1⟩,h2⟩=>⟨⟨v,hv,Sf h1⟩,Zcm h2⟩
theorem Zpj(h:DW c w r row):DW (c.kill ks) w r (row.kill ks):=by
 obtain⟨s1,s2,s3,s4⟩:=uT ks row
 rcases h with⟨h0,h1,h2,h3⟩|⟨h0,arr,ha,hs,hx⟩
 ·refine .inl ⟨h0,s1.trans h1,?_,by rw[s3];exact h3⟩
  rw[h2]at s4;exact fE s4
 ·refine .inr ⟨h0,arr,by rw[s2];exact ha,by rw[s3];exact hs,?_⟩
  rw[s1,s3]
  split
  ·rename_i hb
   simp only[hb,if_true]at hx
   obtain⟨e,k1,k2,k3,k4⟩:=hx
   obtain⟨box,ty,sz,es⟩:=row
   simp only at hb k1 k2 k3 k4
   subst hb;subst k1
   exact⟨D.kf ks e,rfl,by rw[Z25];exact k2,k3,Zcm k4⟩
  ·rename_i hb
   simp only[hb,aA,if_false]at hx
   have he:(row.kill ks).es=row.es:=by
    unfold Row.kill
    split
    ·simp at hb
    ·rfl
   rw[he];exact hx
theorem mU(h:(c.kill ks).R r=some x):cv r ks=false/\∃row,c.R r=some row/\x=row.kill ks:=by
 simp only[Ctx.kill]at h
 cases hb:cv r ks with
 |true=>rw[hb]at h;simp at h
 |false=>
  rw[hb]at h
  simp only[aA,if_false,fF]at h
  obtain⟨row,h1,h2⟩:=h
  exact⟨rfl,row,h1,h2.symm⟩
theorem RR(hm:Mem c w):Mem (c.kill ks) w:=by
 refine⟨λr x hx=>?_,λr s x y hx hy v1 v2 he=>?_,λb hb=>⟨(hm.fe b hb).1,λr x hx v=>?_⟩,hm.top,hm.jQ⟩
 ·obtain⟨_,row,h1,rfl⟩:=mU hx
  exact Zpj (hm.row r row h1)
 ·obtain⟨_,row,h1,_⟩:=mU hx
  obtain⟨_,ao,h2,_⟩:=mU hy
  exact hm.inj r s row ao h1 h2 v1 v2 he
 ·obtain⟨_,row,h1,_⟩:=mU hx
  exact(hm.fe b hb).2 r row h1 v
end
theorem Zq:∀{l:List Nat},nB l []=true
 |[]=>rfl
 |x::l=>by simp only[nB,cv];exact Zq
theorem V0(d:D):d.ed []=d:=by
 cases d with
 |gj f cs=>simp only[D.ed,Zq]
 |_=>rfl
theorem VZ:∀{ds:List D},D.kf [] ds=ds
 |[]=>rfl
 |d::l=>by simp only[D.kf,V0,VZ (ds:=l)]
theorem Z7k(row:Row):row.kill []=row:=by
 unfold Row.kill;split
 ·simp[VZ]
 ·rfl
theorem yR(c:Ctx):c.kill []=c:=by
 obtain⟨ρ,R,V,I,base,top,X⟩:=c
 simp only[Ctx.kill,cv,aA,if_false]
 congr 1
 funext r
 cases R r<;>simp[Z7k]
theorem lB.toK{c c':Ctx}(h:lB c w c' w'):jE [] c w c' w':=
 ⟨h.mem,by rw[yR];exact h.cz,h.fr,λb hb=>(h.fe b hb).imp id .inr,λr ao h1 h2=>(h.nT r ao h1 h2).imp id .inr⟩
theorem Qr{ks:List Nat}:∀{R:Rows} {i r:Nat},(rD ks R i).getD r none=if cv (i+r) ks=true then none else(R.getD r none).map (Row.kill ks)
 |[],i,r=>by simp[rD]
 |x::l,i,0=>by
  simp only[rD,aB]
  cases cv i ks<;>cases x<;>simp
 |x::l,i,r+1=>by
  have:=Qr (ks:=ks) (R:=l) (i:=i+1) (r:=r)
  rw[show i+1+r=i+(r+1) by omega]at this
  simpa[rD]using this
theorem IQ{ks:List Nat}:∀{R:Rows} {i:Nat},(rD ks R i).length=R.length
 |[],_=>rfl
 |x::l,i=>by simp[rD,IQ (R:=l)]
def rL(ks:List Nat)(env:List (Nat×D)):List (Nat×D):=env.map λx=>(x.1,x.2.gk ks)
theorem HF{ks:List Nat}:∀{env:List (Nat×D)} {K:List (Nat×D)->Prop},FQ ks env K↔K (rL ks env)
 |[],_=>Iff.rfl
 |(t,d)::l,K=>by
  simp only[FQ,D.c8]
  rw[HF (env:=l) (K:=λl=>K ((t,d.gk ks)::l))]
  rfl
theorem Br{ks:List Nat}:∀{env:List (Nat×D)} {t:Nat},look (rL ks env) t=(look env t).gk ks
 |[],_=>rfl
 |(u,d)::l,t=>by
  simp only[rL,fG,look]
  cases Nat.beq u t with
  |true=>rfl
  |false=>exact Br (env:=l)
theorem Qpz(w:World){t tx ty e:TypeId}(ht:P.underlying t=some (.slice e))(o8:P.underlying tx=some ux)(hx:∀k,ux≠.int k)(hi:P.info? e=some i)
 {a:Option Addr} {n cap m:Nat} {x:Value} {news:List Value} (hl:(Builtin.lenOf x).run P w=.ok m w) (hf:(Builtin.firstCells i.size m x).run P w=.ok news.toArray w) (kC:n+m<=cap) {w':World}
 (jR:∀b,a=some b->(storeCells (b.add (n*i.size)) news).run P w=.ok () w') (mQ:a=none->w'=w):
 (Builtin.append_ #[t,tx] ty #[.slice a n cap,x]).run P w=.ok (.slice a (n+m) cap) w':=by
 have hz:(match ux with|.int _=>true|_=>false)=false:=by
  cases ux<;>first|rfl|exact absurd rfl (hx _)
 cases a with
 |none=>
  have:=mQ rfl
  subst this
  simp[Builtin.append_,run_underlying ht,run_underlying o8,hz,sizeOf,typeInfo,hi,hl,kC,hf]
 |some b=>simp[Builtin.append_,run_underlying ht,run_underlying o8,hz,sizeOf,typeInfo,hi,hl,kC,hf,jR b rfl]
theorem Qpu(w:World){t tx ty e:TypeId}(ht:P.underlying t=some (.slice e))(o8:P.underlying tx=some ux)(hx:∀k,ux≠.int k)(hi:P.info? e=some i)(hz:i.zero=some z)
 {a:Option Addr} {n cap m:Nat} {x:Value} {kF news:List Value} (hl:(Builtin.lenOf x).run P w=.ok m w) (hf:(Builtin.firstCells i.size m x).run P w.drew=.ok news.toArray w.drew) (hfo:(Builtin.firstCells i.size n (.slice a n cap)).run P w.drew=.ok kF.toArray w.drew)
 (hg:cap<n+m) (h63:((n+m:Nat):Int)<=9223372036854775807) (mA:Builtin.nextslicecap (n+m) cap*i.bytes<=281474976710656):
 (Builtin.append_ #[t,tx] ty #[.slice a n cap,x]).run P w=.ok (.slice (some ⟨w.heap.size,0,none⟩) (n+m) (grownCap w (n+m) cap e))
  (w.drew.alloc (.cells (kF.toArray++news.toArray++Builtin.zeroCells z.cells (grownCap w (n+m) cap e-(n+m))) e)):=by
 have hn:¬(n+m<=cap):=by omega
 have Ye:¬(9223372036854775807<((n:Int)+(m:Int))):=by omega
 have Yf:¬(281474976710656<Builtin.nextslicecap (n+m) cap*i.bytes):=by omega
 simp[Builtin.append_,run_underlying ht,run_underlying o8,sizeOf,typeInfo,zeroValue,hi,hz,hl,hn,Ye,Yf,Question.forced,hf,hfo,newRow,grownCap]
 congr 2
 apply fH
 simp[aM]
theorem xu{b o:Nat}{fz:Nat×Nat}(h:w.heap[b]?=some (.cells arr ty fz))(j:Nat):w.cell? ((⟨b,o,none⟩:Addr).add j)=arr[o+j]? :=by
 rw[EI]
 unfold World.cell?
 simp[h]
theorem RS{es:List (List D)}{off sz:Nat}(h:ij I w es arr off sz)(h0:0<sz):∃news:List Value,news.length=es.length*sz/\(∀j u,news[j]?=some u->arr[off+j]?=some u)/\ij I w es news.toArray 0 sz:=by
 have fp:es.length*sz<=arr.size-off:=by
  by_cases he:es.length=0
  ·rw[he];omega
  ·obtain⟨h1,h2⟩:=sX.1 h (es.length-1) (by omega)
   obtain⟨v,hv,_⟩:=tI.1 h2 (sz-1) (by omega)
   have bg:=(Array.getElem?_eq_some_iff.1 hv).1
   have:es.length*sz=(es.length-1)*sz+sz:=by
    rw[show es.length*sz=(es.length-1+1)*sz by congr 1;omega,bF]
   omega
 refine⟨(arr.toList.drop off).take (es.length*sz),by simp;omega,λj u hj=>?_,?_⟩
 ·rw[aF]at hj
  split at hj
  ·rw[fI]at hj
   simpa using hj
  ·cases hj
 ·rw[sX]at h⊢
  intro i hi
  obtain⟨h1,h2⟩:=h i hi
  refine⟨h1,?_⟩
  rw[tI]at h2⊢
  intro j hj
  obtain⟨v,hv,hp⟩:=h2 j hj
  refine⟨v,?_,hp⟩
  have bg:i*sz+j<es.length*sz:=by
   have:=bD sz (show i+1<=es.length by omega)
   rw[bF]at this
   omega
  simp only[bG,bH]
  rw[aF,if_pos bg,fI,<-hv]
  simp[Nat.add_assoc]
theorem ij.one{es:List (List D)}{news:List Value}(h:ij I w es news.toArray 0 sz)(hl:news.length=es.length*sz):∀u∈news,u.oneCell'=true:=by
 intro u hu
 obtain⟨j,hj⟩:=List.getElem?_of_mem hu
 have bg:=(List.getElem?_eq_some_iff.1 hj).1
 have h0:0<sz:=by
  rcases Nat.eq_zero_or_pos sz with h0|h0
  ·subst h0;simp at hl;rw[hl]at bg;simp at bg
  ·exact h0
 have hi:j/sz<es.length:=by rw[Nat.div_lt_iff_lt_mul h0];omega
 obtain⟨h1,h2⟩:=sX.1 h (j/sz) hi
 obtain⟨v,hv,hp⟩:=tI.1 h2 (j%sz) (by rw[h1];exact Nat.mod_lt _ h0)
 have e:0+j/sz*sz+j%sz=j:=by rw[bG,fJ];exact Nat.div_add_mod j sz
 rw[e,bH,hj]at hv
 cases hv
 exact fx.one hp
theorem Zlp(s:List UInt8):ij I w (ai.ints .u8 (oR s)).l (s.map λb=>Value.int .u8 b.toNat).toArray 0 1:=by
 rw[sX]
 intro i hi
 have iA:i<s.length:=by simpa[oR,ai.l]using hi
 have he:(ai.ints .u8 (oR s)).l.getD i []=[.int .u8 s[i].toNat]:=by simp[oR,ai.l,aV,iA]
 rw[he]
 refine⟨rfl,?_⟩
 simp only[Df,Dg,rS,rT,rU,rV,rW,rY,sZ,tK,tL,tM,tN,tO,tP,tQ,tR,tS,and_true]
 exact⟨_,by simp[iA],rfl⟩
def Src(P:Program)(c:Ctx)(w:World)(v:Value)(ys:List (List D))(sz:Nat):Prop:=
 ∃news:List Value,news.length=ys.length*sz/\(Builtin.lenOf v).run P w=.ok ys.length w/\(∀k,k<=ys.length->∀w',w'.heap=w.heap->(Builtin.firstCells sz k v).run P w'=.ok (news.take (k*sz)).toArray w')/\ij c.I w ys news.toArray 0 sz
theorem IS{c:Ctx}(h0:0<sz){es:List (List D)}{a:Option Addr}{cap:Nat}(gx:es=[]\/sy=sz/\∃b off arr ty fz,a=some ⟨b,off,none⟩/\w.heap[b]?=some (.cells arr ty fz)/\ij c.I w es arr off sy):
 Src P c w (.slice a es.length cap) es sz:=by
 rcases gx with gx|⟨hss,b,off,arr,ty,fz,ha,hh,hE⟩
 ·subst gx
  refine⟨[],by simp,by simp[Builtin.lenOf],λk hk w' _=>?_,by simp[pR,pB]⟩
  have wR:k=0:=by simpa using hk
  subst wR
  cases a with
  |none=>simp[Builtin.firstCells]
  |some a=>
   have:=run_firstCells_some (P:=P) w' sz 0 a 0 cap [] (by simp) (λj v h=>by simp at h)
   simpa using this
 ·subst hss
  obtain⟨news,g1,g2,g3⟩:=RS hE h0
  refine⟨news,g1,by simp[Builtin.lenOf],λk hk w' Yg=>?_,g3⟩
  subst ha
  refine run_firstCells_some (P:=P) w' sy k ⟨b,off,none⟩ _ cap (news.take (k*sy)) ?_ λj u hj=>?_
  ·have:=bD sy hk
   simp;omega
  ·rw[xu (by rw[Yg];exact hh)]
   rw[aF]at hj
   split at hj
   ·exact g2 j u hj
   ·cases hj
theorem z8{c:Ctx}(h0:0<sz)(h:r3 R y=some (sy,ys))(hs:sy=sz\/ys.l=[])(hm:Mem c w)(hA:lU c R)(hr:Rep c w y v):Src P c w v ys.l sz:=by
 cases y<;>simp only[r3]at h<;>try(cases h;done)
 case c9=>cases h;rw[show v=_ from hr];exact IS (sy:=sz) h0 (es:=[]) (.inl rfl)
 case emp=>cases h;obtain⟨a,hv,_⟩:=hr;rw[hv];exact IS (sy:=sz) h0 (es:=[]) (.inl rfl)
 case sl s es fr=>
  cases h
  obtain⟨a,cap,hv,hc,gx⟩:=hr
  rw[hv]
  refine IS (sy:=sy) h0 ?_
  rcases gx with gx|⟨b,off,arr,ty,fz,ha,hI,hf,hh,hE⟩
  ·exact .inl gx
  ·rcases hs with hs|hs
   ·exact .inr ⟨hs,b,off,arr,ty,fz,ha,hh,hE⟩
   ·exact .inl hs
 case all r=>
  split at h
  ·rename_i ty s es hR
   cases h
   obtain⟨row,g1,g2,hv⟩:=hr
   have:=hA r row _ g1 hR
   subst this
   rcases hv with⟨hV,a,hv,_⟩|⟨hV,cap,arr,hv,g3,g4,g5,g6⟩
   ·have he:=(hm.nd g1 hV).2.1
    simp only at he
    rw[hv,he]
    exact IS (sy:=sz) h0 (es:=[]) (.inl rfl)
   ·obtain⟨iE,ju,iP,hx⟩:=hm.real g1 hV
    simp only at g5 ju hx hv
    rw[g5]at ju;cases ju
    simp only[aA,if_false]at hx
    rw[hv]
    refine IS (sy:=sy) h0 ?_
    rcases hs with hs|hs
    ·exact .inr ⟨hs,_,0,arr,_,_,rfl,g5,hx⟩
    ·exact .inl hs
  ·cases h
 case own r o n=>
  split at h
  ·rename_i ty s es hR
   cases h
   obtain⟨row,g1,g2,g5,hv⟩:=hr
   have:=hA r row _ g1 hR
   subst this
   simp only at g5
   have hlen:((es.l.drop o).take n).length=n:=by simp only[aD,aG];omega
   rw[ai.iU,ai.j8]at hs⊢
   rcases hv with⟨g7,a,hv,_⟩|⟨hV,cap,arr,g3,g4,g6,hv,g7⟩
   ·subst g7
    rw[hv]
    have:=IS (P:=P) (c:=c) (w:=w) (sy:=sz) h0 (es:=(es.l.drop o).take 0) (a:=a) (cap:=0) (.inl (by simp))
    simpa using this
   ·obtain⟨iE,ju,iP,hx⟩:=hm.real g1 hV
    simp only at g6 ju hx hv
    rw[g6]at ju;cases ju
    simp only[aA,if_false]at hx
    have hE:=LD (n:=n) (JQ (l:=o) hx)
    have:=IS (P:=P) (c:=c) (w:=w) (sy:=sy) h0 (es:=(es.l.drop o).take n) (a:=some ⟨c.ρ r,o*sy,none⟩) (cap:=cap) (by
     rcases hs with hs|hs
     ·exact .inr ⟨hs,_,o*sy,arr,_,_,rfl,g6,by simpa using hE⟩
     ·exact .inl hs)
    rw[hlen]at this
    rw[hv];exact this
  ·cases h
theorem y8{c:Ctx}{ke kx:TK}(h0:0<sz)(h:Ce R ke kx y=some (sy,ys))(hs:sy=sz\/ys.l=[])(hm:Mem c w)(hA:lU c R)(hr:Rep c w y v):Src P c w v ys.l sz:=by
 unfold Ce at h
 split at h
 ·exact z8 h0 h hs hm hA hr
 ·split at h
  ·rename_i s
   cases h
   have hv:=Rep.str.1 hr
   subst hv
   have fp:(ByteArray.mk s.toArray).size=s.length:=by simp[ByteArray.size]
   have ext:∀k,((ByteArray.mk s.toArray).extract 0 k).data.toList=s.take k:=λk=>by
    simp[ByteArray.data_extract]
   have hf:∀k w',(Builtin.firstCells sz k (.string ⟨s.toArray⟩)).run P w'=.ok ((s.map λb=>Value.int .u8 b.toNat).take k).toArray w':=λk w'=>by
    simp only[Builtin.firstCells,Sem.run_pure]
    congr 1
    apply fH
    simp only[Array.toList_map,ext,List.map_take]
   rcases hs with hs|hs
   ·subst hs
    exact⟨s.map λb=>Value.int .u8 b.toNat,by simp[oR,ai.len],by simp[Builtin.lenOf,oR,ai.len,fp],λk hk w' _=>by rw[hf];simp,Zlp s⟩
   ·have:s=[]:=by simpa[oR,ai.l]using hs
    subst this
    exact⟨[],by simp[oR,ai.len],by simp[Builtin.lenOf,oR,ai.len,fp],λk hk w' _=>by rw[hf];simp,by simp[oR,ai.l,pR,pB]⟩
  ·cases h
 ·cases h
def Ctx.jl(c:Ctx)(k:Nat)(row:Row):Ctx:={c with R:=λr=>if r=k then some row else c.R r,V:=λr=>r=k\/c.V r}
theorem Sh{c:Ctx}(hk:c.R k=none)(row:Row):iX c w (c.jl k row) w:=by
 refine⟨rfl,aX _,λb hb=>⟨hb,rfl⟩,λr x hr=>?_⟩
 have gm:r≠k:=λe=>by rw[e,hk]at hr;cases hr
 exact⟨x,by simp[Ctx.jl,gm,hr],rfl,rfl,rfl,rfl,rfl,by simp[Ctx.jl,gm],λ_ arr ha=>⟨arr,ha,rfl⟩⟩
theorem V5{c:Ctx}(hm:Mem c w)(hk:c.R k=none)(hb:row.box=false)(he:row.es.l=[])(h0:0<row.sz):Mem (c.jl k row) w:=by
 have hg:=Sh (w:=w) hk row
 have inv:∀r x,(c.jl k row).R r=some x->¬(c.jl k row).V r->c.R r=some x/\¬c.V r:=λr x hr hv=>by
  have h1:¬r=k:=λe=>hv (.inl e)
  exact⟨by simpa[Ctx.jl,h1]using hr,λe=>hv (.inr e)⟩
 refine⟨λr x hr=>?_,λr s x y hr hs v1 v2 h=>?_,λb ib=>⟨(hm.fe b ib).1,λr x hr v=>?_⟩,hm.top,hm.jQ⟩
 ·by_cases e:r=k
  ·subst e
   simp only[Ctx.jl,if_true,Option.some.injEq]at hr
   subst hr
   exact .inl ⟨.inl rfl,hb,he,h0⟩
  ·have pw:c.R r=some x:=by simpa[Ctx.jl,e]using hr
   exact sW hg rfl (by simp[Ctx.jl,e]) (λ_=>rfl) (hm.row r x pw)
 ·obtain⟨h1,h2⟩:=inv r x hr v1
  obtain⟨h3,h4⟩:=inv s y hs v2
  exact hm.inj r s x y h1 h3 h2 h4 h
 ·obtain⟨h1,h2⟩:=inv r x hr v
  exact(hm.fe b ib).2 r x h1 h2
theorem JL(c:Ctx)(w:World):iX c w c w.drew:=⟨rfl,aX _,λb hb=>⟨hb,rfl⟩,λr row hr=>⟨row,hr,rfl,rfl,rfl,rfl,rfl,Iff.rfl,λ_ arr ha=>⟨arr,ha,rfl⟩⟩⟩
theorem Hu{c:Ctx}(h:Mem c w):Mem c w.drew:=
 ⟨λr row hr=>sW (JL c w) rfl Iff.rfl (λ_=>rfl) (h.row r row hr),h.inj,h.fe,h.top,h.jQ⟩
theorem RU{es ys:List (List D)}{A B C:List Value}(h1:ij I w es A.toArray 0 sz)(hA:A.length=es.length*sz)(h2:ij I w ys B.toArray 0 sz)(hB:B.length=ys.length*sz):ij I w (es++ys) (A++B++C).toArray 0 sz:=by
 rw[sX]at h1 h2⊢
 intro i hi
 by_cases bg:i<es.length
 ·have he:(es++ys).getD i []=es.getD i []:=by simp[aV,bI bg]
  rw[he]
  obtain⟨g1,g2⟩:=h1 i bg
  refine⟨g1,?_⟩
  rw[tI]at g2⊢
  intro j hj
  obtain⟨v,hv,hp⟩:=g2 j hj
  refine⟨v,?_,hp⟩
  have hl:=(Array.getElem?_eq_some_iff.1 hv).1
  simp only[bH,aK]at hv hl⊢
  rw[aM,bI hl];exact hv
 ·have iA:i-es.length<ys.length:=by simp at hi;omega
  have he:(es++ys).getD i []=ys.getD (i-es.length) []:=by simp[aV,bJ (show es.length<=i by omega)]
  rw[he]
  obtain⟨g1,g2⟩:=h2 _ iA
  refine⟨g1,?_⟩
  rw[tI]at g2⊢
  intro j hj
  obtain⟨v,hv,hp⟩:=g2 j hj
  refine⟨v,?_,hp⟩
  have hl:=(Array.getElem?_eq_some_iff.1 hv).1
  simp only[bH,aK]at hv hl⊢
  have e:0+i*sz+j=A.length+(0+(i-es.length)*sz+j):=by
   rw[hA,show i*sz=(es.length+(i-es.length))*sz by congr 1;omega,bK];omega
  rw[e,aM,bJ (by omega),bI (by omega)]
  rw[show A.length+(0+(i-es.length)*sz+j)-A.length=0+(i-es.length)*sz+j by omega]
  exact hv
theorem vR{c:Ctx}(hm:Mem c w){row ao:Row}{cur arr:Array Value}(hr:c.R r=some row)(hV:¬c.V r)(hk:c.R k=none)(hh:w.heap[c.ρ r]?=some (.cells cur row.ty (0,0)))(JI:ao.ty=row.ty)(h0:0<ao.sz)(hb:ao.box=false)
 (hE:∀w',(∀b,c.I b->w'.heap[b]?=w.heap[b]?)->ij c.I w' ao.es.l arr 0 ao.sz):
 iX (c.kill [r]) w ((c.kill [r]).add k ao (c.ρ r)) (w.setRow (c.ρ r) arr)/\Mem ((c.kill [r]).add k ao (c.ρ r)) (w.setRow (c.ρ r) arr):=by
 have tB:=RR (ks:=[r]) hm
 have Ba:(c.kill [r]).R k=none:=by simp[Ctx.kill,hk]
 have mQ:∀s x,(c.kill [r]).R s=some x->s≠r/\s≠k:=λs x hs=>by
  obtain⟨h1,jB,h2,_⟩:=mU hs
  refine⟨λe=>?_,λe=>by rw[e,Ba]at hs;cases hs⟩
  rw[e]at h1
  have:=nF (r:=r) (l:=[r])
  simp[h1]at this
 have e6:(w.setRow (c.ρ r) arr).heap[c.ρ r]?=some (.cells arr row.ty (0,0)):=setRow_heap w _ _ _ _ _ hh
 have rJ:∀s x,(c.kill [r]).R s=some x->¬c.V s->(w.setRow (c.ρ r) arr).heap[c.ρ s]?=w.heap[c.ρ s]? :=λs x hs v=>setRow_other w _ _ _ λe=>by
  obtain⟨_,jB,h2,_⟩:=mU hs
  exact(mQ s x hs).1 (hm.inj s r jB row h2 hr v hV e)
 have hI:∀b,c.I b->(w.setRow (c.ρ r) arr).heap[b]?=w.heap[b]? :=λb hb=>setRow_other w _ _ _ (λe=>(hm.fe b hb).2 r row hr hV e.symm)
 have hg:iX (c.kill [r]) w ((c.kill [r]).add k ao (c.ρ r)) (w.setRow (c.ρ r) arr):=by
  refine⟨rfl,aX _,λb hb=>⟨hb,hI b hb⟩,λs x hs=>?_⟩
  obtain⟨n1,n2⟩:=mQ s x hs
  exact⟨x,by simp[Ctx.add,n2,hs],rfl,rfl,rfl,rfl,by simp[Ctx.add,n2],by simp[Ctx.add,n2],λv a ha=>⟨a,(rJ s x hs v).trans ha,rfl⟩⟩
 have inv:∀s x,((c.kill [r]).add k ao (c.ρ r)).R s=some x->¬((c.kill [r]).add k ao (c.ρ r)).V s->(s=k/\((c.kill [r]).add k ao (c.ρ r)).ρ s=c.ρ r)\/(s≠k/\s≠r/\((c.kill [r]).add k ao (c.ρ r)).ρ s=c.ρ s/\¬c.V s/\∃y,c.R s=some y):=λs x hs v=>by
  by_cases e:s=k
  ·exact .inl ⟨e,by simp[Ctx.add,e]⟩
  ·have iP:(c.kill [r]).R s=some x:=by simpa[Ctx.add,e]using hs
   obtain⟨_,y,hy,_⟩:=mU iP
   have v':¬c.V s:=λh=>v (by simp only[Ctx.add];exact⟨e,h⟩)
   exact .inr ⟨e,(mQ s x iP).1,by simp[Ctx.add,e,Ctx.kill],v',y,hy⟩
 refine⟨hg,⟨λs x hs=>?_,λs q x y hs hq v1 v2 he=>?_,λb ib=>?_,by show c.top<=(w.setRow _ _).heap.size;simpa[World.setRow]using hm.top,hm.jQ.mono hg.I⟩⟩
 ·by_cases e:s=k
  ·subst e
   simp only[Ctx.add,if_true,Option.some.injEq]at hs
   subst hs
   refine .inr ⟨by simp[Ctx.add],arr,by simp only[Ctx.add,if_true];rw[JI];exact e6,h0,?_⟩
   rw[hb]
   simp only[aA,if_false]
   exact hE _ hI
  ·have iP:(c.kill [r]).R s=some x:=by simpa[Ctx.add,e]using hs
   exact sW hg (by simp[Ctx.add,e]) (by simp[Ctx.add,e]) (λv=>rJ s x iP v) (tB.row s x iP)
 ·rcases inv s x hs v1 with⟨e1,p1⟩|⟨e1,p1,p2,p3,y1,p4⟩<;>rcases inv q y hq v2 with⟨e2,q1⟩|⟨e2,q1,q2,q3,y2,q4⟩
  ·rw[e1,e2]
  ·rw[p1,q2]at he
   exact(q1 (hm.inj q r y2 row q4 hr q3 hV he.symm)).elim
  ·rw[p2,q1]at he
   exact(p1 (hm.inj s r y1 row p4 hr p3 hV he)).elim
  ·rw[p2,q2]at he
   exact hm.inj s q y1 y2 p4 q4 p3 q3 he
 ·refine⟨by simpa[World.setRow]using(hm.fe b ib).1,λs x hs v=>?_⟩
  rcases inv s x hs v with⟨e1,p1⟩|⟨e1,p1,p2,p3,y1,p4⟩
  ·rw[p1];exact(hm.fe b ib).2 r row hr hV
  ·rw[p2];exact(hm.fe b ib).2 s y1 p4 p3
def Bp(P:Program)(o:Oper)(ev:Operand->D)(R:Rows)(ks:List Nat)(val:D)(R':Rows):Prop:=
 ∀ (c:Ctx) (w:World) (a:Act),Mem c w->c.base<=w.heap.size->(∀r,c.R r=R.getD r none)->(∀x∈o.op.operands,Rep c w (ev x) (a.eval x))->
  ∀K Q,(∀v w' c',jE ks c w c' w'->(∀r,c'.R r=R'.getD r none)->Rep c' w' val v->K (a.put o.dst v) w')->o.mW P a w K Q
theorem DV.toK{o:Oper}{val:D}{R':Rows}(h:DV P o ev R val R'):Bp P o ev R [] val R':=
 λc w a hm hb hR ei K Q hK=>h c w a hm hb hR ei K Q λv w' c' hn jV hv=>hK v w' c' hn.toK jV hv
section
variable {P:Program} {c:Ctx} {w:World} {R:Rows} {ks:List Nat} {e sz ll:Nat} {es ys:ai}
theorem TV{ρ':Nat->Nat}{V':Nat->Prop}(hR:∀r,c.R r=R.getD r none):∀r,(if r=R.length then some row else(c.kill ks).R r)=(rD ks R 0++[some row]).getD r none:=by
 intro r
 by_cases e:r=R.length
 ·subst e
  simp[aV,bJ,IQ]
 ·rw[if_neg e]
  by_cases bg:r<R.length
  ·rw[aV,bI (by rw[IQ];exact bg),<-aV,Qr]
   simp[Ctx.kill,hR]
  ·rw[aV,aJ (by simp[IQ];omega)]
   simp[Ctx.kill,hR,aJ (show R.length<=r by omega)]
theorem append_empty(ht:P.underlying t=some (.slice e))(o8:P.underlying tx=some ux)(hx: ∀k,ux≠ .int k)(hi:P.info? e=some i)(hz:i.zero=some z)(fp:i.size=sz)(uk:i.bytes=ll)(Aw:z.cells.size=sz)
    (hm:Mem c w) (hb:c.base<=w.heap.size) (hR: ∀r,c.R r=R.getD r none) (h0:0<sz) (sq:0<ll) (oe:ll*(0+ys.l.length)<=140737488355328) {a:Option Addr} (Cf:Cg c.top a) {vy:Value} (hs:Src P c w vy ys.l sz):
    ∃v' w' c',(Builtin.append_ #[t,tx] ty #[.slice a 0 0,vy]).run P w= .ok v' w'/\jE ks c w c' w'/\(∀r,c'.R r=(rD ks R 0++[some (⟨false,e,sz,ys⟩:Row)]).getD r none)/\Rep c' w' (.all R.length) v':=by
  obtain⟨news,g1,g2,g3,g4⟩:=hs
  have hk:c.R R.length=none:=by rw[hR];simp [aV]
  have Ba:(c.kill ks).R R.length=none:=by simp [Ctx.kill,hk]
  have tB:=RR (ks:=ks) hm
  subst fp
  by_cases hm0:ys.l.length=0
  . have Sm:ys.l=[]:=fE hm0
    have hn:news=[]:=fE (by rw[g1,hm0];simp)
    subst hn
    rw[Sm]at g2 g3
    have ie:=Qpz (P:=P) w (ty:=ty) (n:=0) (cap:=0) (a:=a) (w':=w) ht o8 hx hi g2 (by simpa using g3 0 (aX _) w rfl) (by simp) (λb _=>by simp [storeCells]) (λ_=>rfl)
    refine⟨_,w,(c.kill ks).jl R.length ⟨false,e,i.size,ys⟩,ie,⟨V5 tB Ba rfl Sm h0,Sh Ba _,Fr.refl _ w,λb hb=> .inl hb,λr ao h1 h2=> ?_⟩,TV (ρ':=c.ρ) (V':=c.V) hR,?_⟩
    . have gm:r≠R.length:=λe=>h2 (.inl e)
      have rK:(c.kill ks).R r=some ao:=by simpa [Ctx.jl,gm] using h1
      obtain⟨_,jB,h3,_⟩:=mU rK
      exact .inl ⟨⟨jB,h3⟩,λe=>h2 (.inr e),rfl⟩
    . exact⟨⟨false,e,i.size,ys⟩,by simp [Ctx.jl],rfl, .inl ⟨.inl rfl,a,rfl,Cf⟩⟩
  . have hlen:(0+ys.l.length:Nat)*i.bytes<=140737488355328:=by rw[uk,fJ];exact oe
    have H8:0+ys.l.length<=140737488355328:=bL (fK _ (by rw[uk];exact sq)) hlen
    have Yh:0+ys.l.length<=maxLen:=by unfold maxLen;omega
    have ie:=Qpu (P:=P) w (ty:=ty) (n:=0) (cap:=0) (a:=a) (kF:=[]) (news:=news) ht o8 hx hi hz g2
      (by have:=g3 _ (aX _) w.drew rfl;rwa [fC (by omega)]at this)
      (by cases a with
          |none=>simp [Builtin.firstCells]
          |some a=>simpa using run_firstCells_some (P:=P) w.drew i.size 0 a 0 0 [] (by simp) (λj v h=>by simp at h)) (by omega) (by omega) (growslice_fits (by omega) hlen)
    have gr:=grownCap_ge w (0+ys.l.length) 0 e
    have wZ:grownCap w (0+ys.l.length) 0 e<=maxLen:=grownCap_le_maxLen w _ _ e Yh
    generalize grownCap w (0+ys.l.length) 0 e=gc at ie gr wZ
    have o9:(#[]++news.toArray++Builtin.zeroCells z.cells (gc-(0+ys.l.length))).size=gc*i.size:=by
      have e1:(#[]++news.toArray++Builtin.zeroCells z.cells (gc-(0+ys.l.length))).size=ys.l.length*i.size+(gc-(0+ys.l.length))*i.size:=by
        simp [size_zeroCells,Aw,g1]
      rw[e1,<-bK]
      congr 1;omega
    have hE: ∀(I:ae) (w':World),(∀b,c.I b->I b/\w'.heap[b]? =w.heap[b]?)->ij I w' ys.l (#[]++news.toArray++Builtin.zeroCells z.cells (gc-(0+ys.l.length))) 0 i.size:=λI w' h=>by
      have:=RU (I:=I) (w:=w') (es:=[]) (ys:=ys.l) (A:=[]) (B:=news) (C:=(Builtin.zeroCells z.cells (gc-(0+ys.l.length))).toList) (sz:=i.size) (by simp [pR,pB]) (by simp) (ng h _ _ _ _ g4) g1
      have h2:(#[]++news.toArray++Builtin.zeroCells z.cells (gc-(0+ys.l.length)))=([]++news++(Builtin.zeroCells z.cells (gc-(0+ys.l.length))).toList).toArray:=by apply fH;simp
      rw[h2];simpa using this
    have GH:=Mem.alloc (w:=w.drew) (Hu tB) Ba ⟨false,e,i.size,ys⟩ (#[]++news.toArray++Builtin.zeroCells z.cells (gc-(0+ys.l.length))) h0 (by
      simp only[aA,if_false]
      exact hE _ _ λb hb=>⟨hb,rfl⟩)
    have og:=TW (c:=c.kill ks) (w:=w.drew) (k:=R.length) (e:=e) (sz:=i.size) (cap:=gc) (es:=ys) (arr:= #[]++news.toArray++Builtin.zeroCells z.cells (gc-(0+ys.l.length))) (by omega) wZ o9.symm
    refine⟨_,_,(c.kill ks).add R.length ⟨false,e,i.size,ys⟩ w.heap.size,ie,⟨GH,(JL _ w).trans (iX.alloc (w:=w.drew) (Hu tB) Ba _ _),?_,λb hb=> .inl hb,λr ao h1 h2=> ?_⟩,TV (ρ':=c.ρ) (V':=c.V) hR,by have h3:=og;simp only[bG]at h3⊢;exact h3⟩
    . exact Fr.trans (w':=w.drew) ⟨rfl,rfl,rfl,aX _,λ_ _ _=>rfl⟩ (Fr.alloc _ w.drew _)
    . by_cases e1:r=R.length
      . subst e1
        right;right
        simp [Ctx.add]
      . have rK:(c.kill ks).R r=some ao:=by simpa [Ctx.add,e1] using h1
        obtain⟨_,jB,h3,_⟩:=mU rK
        exact .inl ⟨⟨jB,h3⟩,by simpa [Ctx.add,e1,Ctx.kill] using h2,by simp [Ctx.add,e1,Ctx.kill]⟩
theorem Ziv(ht:P.underlying t=some (.slice e))(o8:P.underlying tx=some ux)(hx:∀k,ux≠.int k)(hi:P.info? e=some i)(hz:i.zero=some z)(fp:i.size=sz)(uk:i.bytes=ll)(Aw:z.cells.size=sz)
 (hm:Mem c w) (hb:c.base<=w.heap.size) (hR:∀r,c.R r=R.getD r none) (h0:0<sz) (sq:0<ll) (oe:ll*(es.l.length+ys.l.length)<=140737488355328) {r:Nat} {row:Row} (q1:c.R r=some row) (JI:row.ty=e) (hV:¬c.V r) {cap:Nat} {cur:Array Value} (h1:es.l.length<=cap) (h2:cap<=maxLen) (h3:w.heap[c.ρ r]?=some (.cells cur e (0,0))) (h4:cap*sz=cur.size) (Bb:ij c.I w es.l cur 0 sz) {vy:Value} (hs:Src P c w vy ys.l sz):
 ∃v' w' c',(Builtin.append_ #[t,tx] ty #[.slice (some ⟨c.ρ r,0,none⟩) es.l.length cap,vy]).run P w=.ok v' w'/\jE [r] c w c' w'/\(∀q,c'.R q=(rD [r] R 0++[some (⟨false,e,sz,es.app ys⟩:Row)]).getD q none)/\Rep c' w' (.all R.length) v':=by
 obtain⟨news,g1,g2,g3,g4⟩:=hs
 have hk:c.R R.length=none:=by rw[hR];simp[aV]
 have Ba:(c.kill [r]).R R.length=none:=by simp[Ctx.kill,hk]
 have tB:=RR (ks:=[r]) hm
 subst fp
 have hlen:(es.l.length+ys.l.length)*i.bytes<=140737488355328:=by rw[uk,fJ];exact oe
 have H8:es.l.length+ys.l.length<=140737488355328:=bL (fK _ (by rw[uk];exact sq)) hlen
 have Yh:es.l.length+ys.l.length<=maxLen:=by unfold maxLen;omega
 obtain⟨kF,o1,o2,o3⟩:=RS Bb h0
 by_cases kC:es.l.length+ys.l.length<=cap
 ·have mA:es.l.length*i.size+0+news.length<=cur.size:=by rw[g1,<-h4,aB,<-bK];exact bD _ kC
  have jR:=run_storeCells_at (P:=P) (c.ρ r) (es.l.length*i.size) e news 0 cur w h3 mA (ij.one g4 g1)
  simp only[aB]at jR mA
  have ie:=Qpz (P:=P) w (ty:=ty) (n:=es.l.length) (cap:=cap) (a:=some ⟨c.ρ r,0,none⟩) ht o8 hx hi g2 (by have:=g3 _ (aX _) w rfl;rwa [fC (by omega)]at this) kC (λb hb=>by cases hb;rw[Addr.add_lit,bG];exact jR) (λh=>by cases h)
  have hE:∀w',(∀b,c.I b->w'.heap[b]?=w.heap[b]?)->ij c.I w' (es.app ys).l (cur.toList.take (es.l.length*i.size)++news++cur.toList.drop (es.l.length*i.size+news.length)).toArray 0 i.size:=λw' h=>by
   rw[ai.jW]
   refine RU (A:=cur.toList.take (es.l.length*i.size)) (ng (λb hb=>⟨hb,h b hb⟩) _ _ _ _ ?_) (by rw[aD,show cur.toList.length=cur.size from rfl];omega) (ng (λb hb=>⟨hb,h b hb⟩) _ _ _ _ g4) g1
   have:cur.toList.take (es.l.length*i.size)=kF:=by
    apply List.ext_getElem?
    intro j
    by_cases hj:j<kF.length
    ·have:=o2 j _ (aI hj)
     rw[aF,if_pos (by omega),aI hj]
     simpa using this
    ·rw[aJ (by rw[aD];omega),aJ (by omega)]
   rw[this];exact o3
  obtain⟨k1,k2⟩:=vR hm (k:=R.length) (ao:=⟨false,e,i.size,es.app ys⟩) q1 hV hk (by rw[JI];exact h3) JI.symm h0 rfl hE
  refine⟨_,_,_,ie,⟨k2,k1,(RV w _ _).mono λb _ hb=>⟨r,_,q1,hV,hb.symm⟩,λb hb=>.inl hb,λq ao p1 p2=>?_⟩,TV (ρ':=c.ρ) (V':=c.V) hR,?_⟩
  ·by_cases e1:q=R.length
   ·subst e1
    exact .inr (.inl ⟨r,_,by simp[cv],q1,hV,by simp[Ctx.add]⟩)
   ·have rK:(c.kill [r]).R q=some ao:=by simpa[Ctx.add,e1]using p1
    obtain⟨_,jB,My,_⟩:=mU rK
    exact .inl ⟨⟨jB,My⟩,by simpa[Ctx.add,e1,Ctx.kill]using p2,by simp[Ctx.add,e1,Ctx.kill]⟩
  ·refine⟨⟨false,e,i.size,es.app ys⟩,by simp[Ctx.add],rfl,.inr ⟨by simp[Ctx.add],cap,(cur.toList.take (es.l.length*i.size)++news++cur.toList.drop (es.l.length*i.size+news.length)).toArray,?_,by rw[ai.jW,lA];exact kC,h2,?_,?_⟩⟩
   ·simp only[Ctx.add,if_true,ai.jW,lA]
   ·simp only[Ctx.add,if_true];exact setRow_heap w _ _ _ _ _ h3
   ·simp only[aK,lA,aD,aG,Array.length_toList]
    rw[h4];omega
 ·have ie:=Qpu (P:=P) w (ty:=ty) (n:=es.l.length) (cap:=cap) (a:=some ⟨c.ρ r,0,none⟩) (kF:=kF) (news:=news) ht o8 hx hi hz g2
   (by have:=g3 _ (aX _) w.drew rfl;rwa [fC (by omega)]at this)
   (run_firstCells_some (P:=P) w.drew i.size es.l.length _ _ cap kF o1 λj v hj=>by
    rw[xu (w:=w.drew) h3];exact o2 j v hj) (by omega) (by omega) (growslice_fits (by omega) hlen)
  have gr:=grownCap_ge w (es.l.length+ys.l.length) cap e
  have wZ:grownCap w (es.l.length+ys.l.length) cap e<=maxLen:=grownCap_le_maxLen w _ _ e Yh
  generalize grownCap w (es.l.length+ys.l.length) cap e=gc at ie gr wZ
  have o9:(kF.toArray++news.toArray++Builtin.zeroCells z.cells (gc-(es.l.length+ys.l.length))).size=gc*i.size:=by
   have e1:(kF.toArray++news.toArray++Builtin.zeroCells z.cells (gc-(es.l.length+ys.l.length))).size=es.l.length*i.size+ys.l.length*i.size+(gc-(es.l.length+ys.l.length))*i.size:=by
    simp[size_zeroCells,Aw,g1,o1]
   rw[e1,<-bK,<-bK]
   congr 1;omega
  have hE:∀(I:ae) (w':World),(∀b,c.I b->I b/\w'.heap[b]?=w.heap[b]?)->ij I w' (es.app ys).l (kF.toArray++news.toArray++Builtin.zeroCells z.cells (gc-(es.l.length+ys.l.length))) 0 i.size:=λI w' h=>by
   rw[ai.jW]
   have:=RU (I:=I) (w:=w') (es:=es.l) (ys:=ys.l) (A:=kF) (B:=news) (C:=(Builtin.zeroCells z.cells (gc-(es.l.length+ys.l.length))).toList) (sz:=i.size) (ng h _ _ _ _ o3) o1 (ng h _ _ _ _ g4) g1
   have h2:(kF.toArray++news.toArray++Builtin.zeroCells z.cells (gc-(es.l.length+ys.l.length)))=(kF++news++(Builtin.zeroCells z.cells (gc-(es.l.length+ys.l.length))).toList).toArray:=by apply fH;simp
   rw[h2];exact this
  have GH:=Mem.alloc (w:=w.drew) (Hu tB) Ba ⟨false,e,i.size,es.app ys⟩ (kF.toArray++news.toArray++Builtin.zeroCells z.cells (gc-(es.l.length+ys.l.length))) h0 (by
   simp only[aA,if_false]
   exact hE _ _ λb hb=>⟨hb,rfl⟩)
  have og:=TW (c:=c.kill [r]) (w:=w.drew) (k:=R.length) (e:=e) (sz:=i.size) (cap:=gc) (es:=es.app ys) (arr:=kF.toArray++news.toArray++Builtin.zeroCells z.cells (gc-(es.l.length+ys.l.length))) (by rw[ai.jW,lA];omega) wZ o9.symm
  refine⟨_,_,(c.kill [r]).add R.length ⟨false,e,i.size,es.app ys⟩ w.heap.size,ie,⟨GH,(JL _ w).trans (iX.alloc (w:=w.drew) (Hu tB) Ba _ _),?_,λb hb=>.inl hb,λq ao p1 p2=>?_⟩,TV (ρ':=c.ρ) (V':=c.V) hR,by rw[ai.jW,lA]at og;exact og⟩
  ·exact Fr.trans (w':=w.drew) ⟨rfl,rfl,rfl,aX _,λ_ _ _=>rfl⟩ (Fr.alloc _ w.drew _)
  ·by_cases e1:q=R.length
   ·subst e1
    right;right
    simp[Ctx.add]
   ·have rK:(c.kill [r]).R q=some ao:=by simpa[Ctx.add,e1]using p1
    obtain⟨_,jB,My,_⟩:=mU rK
    exact .inl ⟨⟨jB,My⟩,by simpa[Ctx.add,e1,Ctx.kill]using p2,by simp[Ctx.add,e1,Ctx.kill]⟩
theorem Zta(ht:P.underlying t=some (.slice e))(o8:P.underlying tx=some ux)(hx:∀k,ux≠.int k)(hi:P.info? e=some i)(hz:i.zero=some z)(fp:i.size=sz)(uk:i.bytes=ll)(Aw:z.cells.size=sz)
 (hm:Mem c w) (hb:c.base<=w.heap.size) (hR:∀r,c.R r=R.getD r none) (h0:0<sz) (sq:0<ll) (oe:ll*(es.l.length+ys.l.length)<=140737488355328) {r:Nat} (hr:R.getD r none=some ⟨false,e,sz,es⟩) {vx vy:Value} (Yi:Rep c w (.all r) vx) (hs:Src P c w vy ys.l sz):
 ∃v' w' c',(Builtin.append_ #[t,tx] ty #[vx,vy]).run P w=.ok v' w'/\jE [r] c w c' w'/\(∀q,c'.R q=(rD [r] R 0++[some (⟨false,e,sz,es.app ys⟩:Row)]).getD q none)/\Rep c' w' (.all R.length) v':=by
 obtain⟨row,q1,q2,hv⟩:=Yi
 have c6:row=⟨false,e,sz,es⟩:=by rw[hR,hr]at q1;exact(Option.some.inj q1).symm
 subst c6
 rcases hv with⟨hV,a,hv,Cf⟩|⟨hV,cap,cur,hv,h1,h2,h3,h4⟩
 ·have he:=(hm.nd q1 hV).2.1
  simp only at he
  subst hv
  have hl:(es.app ys).l=ys.l:=by rw[ai.jW,he];rfl
  exact append_empty (ks:=[r]) (ys:=es.app ys) ht o8 hx hi hz fp uk Aw hm hb hR h0 sq (by rw[hl];rw[he]at oe;simpa using oe) Cf (by rw[hl];exact hs)
 ·have hl:=hm.real q1 hV
  obtain⟨Mt,ju,_,Bb⟩:=hl
  simp only at h1 h3 h4 hv ju
  subst hv
  rw[h3]at ju;cases ju
  simp only[aA,if_false]at Bb
  exact Ziv ht o8 hx hi hz fp uk Aw hm hb hR h0 sq oe q1 rfl hV h1 h2 h3 h4 Bb hs
theorem Zr2(ht:P.underlying t=some (.slice e))(o8:P.underlying tx=some ux)(hx:∀k,ux≠.int k)(hi:P.info? e=some i)(hz:i.zero=some z)(fp:i.size=sz)(uk:i.bytes=ll)(Aw:z.cells.size=sz)
 (hm:Mem c w) (hb:c.base<=w.heap.size) (hR:∀r,c.R r=R.getD r none) (h0:0<sz) (sq:0<ll) (oe:ll*((es.take n).l.length+ys.l.length)<=140737488355328) {r:Nat} (hr:R.getD r none=some ⟨false,e,sz,es⟩) {vx vy:Value} (Yi:Rep c w (.own r 0 n) vx) (hs:Src P c w vy ys.l sz):
 ∃v' w' c',(Builtin.append_ #[t,tx] ty #[vx,vy]).run P w=.ok v' w'/\jE [r] c w c' w'/\(∀q,c'.R q=(rD [r] R 0++[some (⟨false,e,sz,(es.take n).app ys⟩:Row)]).getD q none)/\Rep c' w' (.all R.length) v':=by
 obtain⟨row,q1,q2,hle,hv⟩:=Yi
 have c6:row=⟨false,e,sz,es⟩:=by rw[hR,hr]at q1;exact(Option.some.inj q1).symm
 subst c6
 have hln:(es.take n).l.length=n:=by rw[ai.iU,aD];simp only at hle;omega
 rcases hv with⟨h0',a,hv,Cf⟩|⟨hV,cap,cur,h1,h2,h3,hv,h4⟩
 ·subst hv;subst h0'
  have DE:(es.take 0).l=[]:=by rw[ai.iU];rfl
  have hl:((es.take 0).app ys).l=ys.l:=by rw[ai.jW,DE];rfl
  have g:iX c w {c with top:=w.heap.size} w:=⟨rfl,hm.top,λb hb=>⟨hb,rfl⟩,λr row hr=>⟨row,hr,rfl,rfl,rfl,rfl,rfl,Iff.rfl,λnv arr ha=>⟨arr,ha,rfl⟩⟩⟩
  have HM:Mem {c with top:=w.heap.size} w:=⟨λr row hr=>sW g rfl Iff.rfl (λ_=>rfl) (hm.row r row hr),hm.inj,hm.fe,aX _,hm.jQ⟩
  have FU:Cg w.heap.size a:=by
   rcases Cf with h|⟨hV,h⟩
   ·exact h.mono hm.top
   ·exactλx hx=>by rw[h x hx];exact hm.lt q1 hV
  obtain⟨v',w',c',p1,p2,p3,p4⟩:=append_empty (c:={c with top:=w.heap.size}) (ks:=[r]) (ys:=(es.take 0).app ys) ht o8 hx hi hz fp uk Aw HM hb hR h0 sq (by rw[hl];rw[DE]at oe;simpa using oe) FU (by rw[hl];exact hs)
  refine⟨v',w',c',p1,⟨p2.mem,?_,p2.fr,p2.fe,p2.nT⟩,p3,p4⟩
  have g':iX (c.kill [r]) w (Ctx.kill {c with top:=w.heap.size} [r]) w:=⟨rfl,hm.top,λb hb=>⟨hb,rfl⟩,λr row hr=>⟨row,hr,rfl,rfl,rfl,rfl,rfl,Iff.rfl,λnv arr ha=>⟨arr,ha,rfl⟩⟩⟩
  exact g'.trans p2.cz
 ·obtain⟨Mt,ju,_,Bb⟩:=hm.real q1 hV
  simp only at h3 h4 hv ju
  rw[h3]at ju;cases ju
  simp only[aA,if_false]at Bb
  have hE1:ij c.I w (es.take n).l cur 0 sz:=by rw[ai.iU];exact LD Bb
  rw[hv,show((0:Nat)*sz)=0 from Nat.zero_mul _]
  have:=Ziv (ty:=ty) (es:=es.take n) (cap:=cap) ht o8 hx hi hz fp uk Aw hm hb hR h0 sq oe q1 rfl hV (by rw[hln];exact h1) h2 h3 (by rw[<-h4,bG]) hE1 hs
  rw[hln]at this
  exact this
end
theorem R9{E:ai}(h:HX E=true):E.l=[]:=by
 unfold HX at h
 split at h
 ·rfl
 ·cases h
theorem Zq4{T:iu}(hT:Q4 P T){x y:D}(h:LF T M t tx x y R K):
    ∃ ks R',K ks (.all R.length) R'/\(∀k,cv k ks=true->M<=k)/\ ∀c w vx vy,Mem c w->c.base<=w.heap.size->(∀r,c.R r=R.getD r none)->Rep c w x vx->Rep c w y vy->
      ∃v' w' c',(Builtin.append_ #[t,tx] ty #[vx,vy]).run P w= .ok v' w'/\jE ks c w c' w'/\(∀r,c'.R r=R'.getD r none)/\Rep c' w' (.all R.length) v':=by
  unfold LF at h
  split at h
  . rename_i e iD _ _ _ _ _ ht
    have hk:=mo hT ht
    simp only at hk
    split at h
    . rename_i ke sz ll cs z q kx _ _ _ _ _ he htx
      obtain⟨i,u,hi,hu,wJ,hs,hb,hc,hzero⟩:=GI hT he
      have TX:=mo hT htx
      split at h
      . rename_i sy ys jM
        simp only[dd,aE,Bool.or_eq_true]at h
        obtain⟨⟨⟨⟨h0,h1⟩,h2,h3⟩,h4,h5⟩,h⟩:=h
        have h0:0<sz:=lE h0
        have sq:0<ll:=lE h4
        have h2:=bE h2
        have h5:sy=sz\/ys.l=[]:=h5.imp bE R9
        have tv:u.cells.size=sz:=by have:=LG wJ;simp at this;omega
        obtain⟨ux,o8,nm⟩: ∃ux,P.underlying tx=some ux/\ ∀k,ux≠ .int k:=by
          unfold Ce at jM
          split at jM
          . simp only at TX;exact⟨_,TX.1,λk e=>by cases e⟩
          . simp only at TX;exact⟨_,TX,λk e=>by cases e⟩
          . cases jM
        have wh: ∀(c:Ctx) (w:World) (vy:Value),Mem c w->(∀r,c.R r=R.getD r none)->Rep c w y vy->Src P c w vy ys.l sz:=λc w vy hm hR hy=>y8 h0 jM h5 hm (λr row ao g1 g2=>by rw[hR,g2]at g1;exact(Option.some.inj g1).symm) hy
        cases x<;>simp only at h
        case c9=>
          simp only[Ch,dd,decide_eq_true_eq,mX,<-ai.iq]at h
          refine⟨_,_,h.2,λk hk=>by simp [cv]at hk,λc w vx vy hm rr hR hx hy=> ?_⟩
          rw[show vx=_ from hx]
          have hl:((ai.gen []).app ys).l=ys.l:=by rw[ai.jW];rfl
          exact append_empty (ks:=[]) (ys:=(ai.gen []).app ys) hk.1 o8 nm hi hu hs hb tv hm rr hR h0 sq (by rw[hl];have:=h.1;simpa [ai.l] using this) ML (by rw[hl];exact wh c w vy hm hR hy)
        case emp=>
          simp only[Ch,dd,decide_eq_true_eq,mX,<-ai.iq]at h
          refine⟨_,_,h.2,λk hk=>by simp [cv]at hk,λc w vx vy hm rr hR hx hy=> ?_⟩
          obtain⟨a,hx,Cf⟩:=hx
          rw[hx]
          have hl:((ai.gen []).app ys).l=ys.l:=by rw[ai.jW];rfl
          exact append_empty (ks:=[]) (ys:=(ai.gen []).app ys) hk.1 o8 nm hi hu hs hb tv hm rr hR h0 sq (by rw[hl];have:=h.1;simpa [ai.l] using this) Cf (by rw[hl];exact wh c w vy hm hR hy)
        case all r=>
          split at h
          . rename_i jN s es hr
            simp only[aE,Ch,dd,decide_eq_true_eq,mX,<-ai.iq]at h
            obtain⟨⟨⟨g1,g2⟩,g3⟩,g5,g6⟩:=h
            have g1:=bE g1
            have g2:=bE g2
            subst g1;subst g2
            refine⟨_,_,g6,λk hk=> ?_,λc w vx vy hm rr hR hx hy=> ?_⟩
            . have:=nF.1 hk
              simp at this
              rw[this];exact lE g3
            . exact Zta hk.1 o8 nm hi hu hs hb tv hm rr hR h0 sq g5 hr hx (wh c w vy hm hR hy)
          . exact h.elim
        case own r o n=>
          split at h
          . rename_i jN s es hr
            simp only[aE,Ch,dd,decide_eq_true_eq,mX,<-ai.iq]at h
            obtain⟨⟨⟨g1,g2⟩,g3,g4⟩,g5,g6⟩:=h
            have g1:=bE g1
            have g2:=bE g2
            have g4:=bE g4
            subst g1;subst g2;subst g4
            refine⟨_,_,g6,λk hk=> ?_,λc w vx vy hm rr hR hx hy=> ?_⟩
            . have:=nF.1 hk
              simp at this
              rw[this];exact lE g3
            . exact Zr2 hk.1 o8 nm hi hu hs hb tv hm rr hR h0 sq g5 hr hx (wh c w vy hm hR hy)
          . exact h.elim
      . exact h.elim
    . exact h.elim
  . exact h.elim
theorem Z5c{c:Ctx}(gm:∀f cs,d≠.gj f cs)(h:dc c w d v):dc {c with base:=0} w d v:=by
 cases d with
 |sl sz es fr=>
  obtain⟨a,cap,hv,hc,gx⟩:=h
  refine⟨a,cap,hv,hc,?_⟩
  rcases gx with gx|⟨b,off,arr,ty,fz,ha,hI,hf,hh,hE⟩
  ·exact .inl gx
  ·exact .inr ⟨b,off,arr,ty,fz,ha,hI,λ_=>Nat.zero_le _,hh,hE⟩
 |gj f cs=>exact absurd rfl (gm f cs)
 |_=>exact h
theorem Yj{c:Ctx}(h:dc c w d v):dc {c with base:=0} w d v:=by
 by_cases e:∃g cs,d=.gj g cs
 ·obtain⟨g,cs,rfl⟩:=e
  obtain⟨us,hv,hu⟩:=h
  exact⟨us,hv,Yd (c:=c) (w:=w) (c':={c with base:=0}) (w':=w) (S:=λ_=>True) (λd v q1 _ q2=>Z5c q1 q2) (λ_ hb=>⟨hb,rfl⟩) (λ_ _=>trivial) hu⟩
 ·exact Z5c (λf cs e'=>e ⟨f,cs,e'⟩) h
theorem Z7u{c:Ctx}{w:World}:∀{ds:List D} {vs:List Value},je c w ds vs->je {c with base:=0} w ds vs
 |[],[],_=>trivial
 |_::_,_::_,h=>⟨Yj h.1,Z7u h.2⟩
 |[],_::_,h=>h.elim
 |_::_,[],h=>h.elim
theorem Zb2{c:Ctx}(h:VRep c w d v):VRep {c with base:=0} w d v:=by
 cases d with
 |agg cs=>obtain⟨vs,hv,hr⟩:=h;exact⟨vs,hv,Z7u hr⟩
 |_=>exact VRep.DT (Yj (VRep.toC (λcs e=>by cases e) h))
theorem Yk{c:Ctx}{w:World}:∀{ds:List D} {vs:List Value},j5 c w ds vs->j5 {c with base:=0} w ds vs
 |[],[],_=>trivial
 |_::_,_::_,h=>⟨Zb2 h.1,Yk h.2⟩
 |[],_::_,h=>h.elim
 |_::_,[],h=>h.elim
theorem Z1q{c:Ctx}{w:World}:∀{ds:List D} {arr:Array Value} {off:Nat},ku c w ds arr off->ku {c with base:=0} w ds arr off
 |[],_,_,_=>trivial
 |_::_,_,_,⟨⟨v,hv,h1⟩,h2⟩=>⟨⟨v,hv,Yj h1⟩,Z1q h2⟩
theorem Zi1{c:Ctx}(h:Mem c w):Mem {c with base:=0} w:=by
 refine⟨λr row hr=>?_,h.inj,h.fe,h.top,h.jQ⟩
 rcases h.row r row hr with h0|⟨h0,arr,ha,hs,hx⟩
 ·exact .inl h0
 ·refine .inr ⟨h0,arr,ha,hs,?_⟩
  split
  ·rename_i hb
   rw[if_pos hb]at hx
   obtain⟨e,k1,k2,k3,k4⟩:=hx
   exact⟨e,k1,k2,k3,Z1q k4⟩
  ·rename_i hb
   rw[if_neg hb]at hx
   exact hx
theorem Z13{f:Nat->Nat}:∀{ids:List Nat} {rows:List Row} {R:Rows},ids.Nodup->ids.length<=rows.length->(∀r∈ids,r<R.length)->
 (EJ f ids rows R).length=R.length/\(∀(i r:Nat),ids[i]?=some r->∃row,rows[i]?=some row/\(EJ f ids rows R).getD r none=some (row.jb f false))/\∀r,r∉ids->(EJ f ids rows R).getD r none=R.getD r none
 |[],rows,R,_,_,_=>by
  have:EJ f [] rows R=R:=by cases rows<;>rfl
  rw[this]
  exact⟨rfl,λi r h=>by simp at h,λ_ _=>rfl⟩
 |r::ids,[],R,_,hl,_=>by simp at hl
 |r ::ids,row::rows,R,kJ,hl,bg=>by
  obtain⟨HU,IT⟩:=List.nodup_cons.1 kJ
  obtain⟨g1,g2,g3⟩:=Z13 (f:=f) (ids:=ids) (rows:=rows) (R:=R.set r (some (row.jb f false))) IT (by simpa using hl) (λq hq=>by simpa using bg q (by simp[hq]))
  have hr:=bg r (by simp)
  have Yl:(R.set r (some (row.jb f false))).getD r none=some (row.jb f false):=by simp[aV,hr]
  have gm:∀q,q≠r->(R.set r (some (row.jb f false))).getD q none=R.getD q none:=λq hq=>by simp[aV,List.getElem?_set_ne (Ne.symm hq)]
  simp only[EJ]
  refine⟨by simpa using g1,λi q hq=>?_,λq hq=>?_⟩
  ·cases i with
   |zero=>
    simp at hq;subst hq
    exact⟨row,rfl,by rw[g3 _ HU];exact Yl⟩
   |succ i=>simpa using g2 i q (by simpa using hq)
  ·have h1:q≠r:=λe=>hq (by simp[e])
   rw[g3 q (λe=>hq (by simp[e])),gm q h1]
def Ctx.dz(c:Ctx)(c':Ctx)(kl n0:Nat)(R2:Rows):Ctx:=
 { ρ:=λr=>if n0<=r/\r<R2.length then c'.ρ (kl+(r-n0)) else c.ρ r,
   R:=λr=>R2.getD r none,
   V:=λr=>if n0<=r/\r<R2.length then c'.V (kl+(r-n0)) else c.V r,
   I:=c'.I,base:=c.base,top:=c'.top,X:=c.X}
theorem LH{i k n:Nat}:cv i (bO k n)=true↔k<=i/\i<k+n:=by
 rw[nF,List.mem_range'_1]
theorem Zav{c c':Ctx}{ids:List Nat}{dy aj:List Row}(hm:Mem c w)(hR:∀r,c.R r=R.getD r none)
 (kJ:ids.Nodup) (db:AR R (λr=>pos r ids 0) ids=some dy) (hle:(ids.take k).length<=aj.length)
 (hx:jE (bO k (dy.length-k)) {c.pass w ids dy false with base:=0} w c' w') (jV:∀i,c'.R i=aj[i]?)
 {R2:Rows} (um:R2=EJ (bk (ids.take k) R.length) (ids.take k) aj (rD (ids.drop k) R 0)++Pm (bk (ids.take k) R.length) (aj.drop (ids.take k).length)):
 DF (λ_=>True) (bk (ids.take k) R.length) false c' (c.dz c' (ids.take k).length R.length R2)/\
 jE (ids.drop k) c w (c.dz c' (ids.take k).length R.length R2) w':=by
 obtain⟨jg,Ac⟩:=EK db
 generalize hf:bk (ids.take k) R.length=f at*
 generalize Ym:(ids.take k).length=kl at*
 have nI:∀r row,R.getD r none=some row->c.R r=some row:=λr row e=>by rw[hR];exact e
 have bg:∀r∈ids,r<R.length:=λr hr=>by
  obtain⟨row,h1,_⟩:=Ac _ r (AS hr)
  by_cases hl:r<R.length
  ·exact hl
  ·rw[aV,aJ (by omega)]at h1;cases h1
 have htd:ids.take k++ids.drop k=ids:=List.take_append_drop k ids
 have Yn:(ids.take k).Nodup:=by rw[<-htd]at kJ;exact(List.nodup_append.1 kJ).1
 have Pn:∀r,r∈ids.take k->r∈ids.drop k->False:=λr h1 h2=>by
  rw[<-htd]at kJ
  exact(List.nodup_append.1 kJ).2.2 r h1 r h2 rfl
 have Jam:kl=min k ids.length:=by rw[<-Ym];simp
 have Ci:∀i,i<kl->(ids.take k)[i]?=ids[i]? :=λi hi=>by rw[aF,if_pos (by omega)]
 have sr:∀i r,ids[i]?=some r->kl<=i->r∈ids.drop k:=λi r hi gr=>by
  have mC:=(List.getElem?_eq_some_iff.1 hi).1
  have:(ids.drop k)[i-k]?=some r:=by rw[fI,show k+(i-k)=i by omega];exact hi
  exact fL this
 obtain⟨k1,k2,k3⟩:=Z13 (f:=f) (ids:=ids.take k) (rows:=aj) (R:=rD (ids.drop k) R 0) Yn (by rw[Ym];exact hle) (λr hr=>by rw[IQ];exact bg r (fM hr))
 rw[IQ]at k1
 have uQ:R2.length=R.length+(aj.length-kl):=by rw[um];simp[k1,Pm]
 have Po:∀r,r<R.length->R2.getD r none=(EJ f (ids.take k) aj (rD (ids.drop k) R 0)).getD r none:=λr hr=>by
  rw[um,aV,aV,bI (by omega)]
 have Yo:∀i,kl<=i->i<aj.length->R2.getD (R.length+(i-kl)) none=aj[i]?.map λrow=>row.jb f false:=λi h1 h2=>by
  have:∀(l:List Row) (j:Nat),(Pm f l)[j]?=l[j]?.map λrow=>some (row.jb f false):=λl j=>by simp[Pm]
  rw[um,aV,bJ (by omega),this,k1,show R.length+(i-kl)-R.length=i-kl by omega,fI,show kl+(i-kl)=i by omega]
  rw[aI h2];rfl
 have jv:∀i r ao,i<kl->ids[i]?=some r->c'.R i=some ao->∃row,c.R r=some row/\ao.box=row.box/\ao.ty=row.ty/\ao.sz=row.sz/\ao.es.l.length=row.es.l.length/\c'.ρ i=c.ρ r/\(c'.V i↔c.V r)/\r<R.length/\R2.getD r none=some (ao.jb f false)/\f i=r/\
  (¬c.V r->∀arr,w.heap[c.ρ r]?=some (.cells arr row.ty (0,0))->∃iE,w'.heap[c.ρ r]?=some (.cells iE row.ty (0,0))/\iE.size=arr.size):=by
  intro i r ao nP hi jd
  obtain⟨row,h1,h2⟩:=Ac i r hi
  have lY:=fL hi
  have h3:=nI r row h1
  have Cj:(({c.pass w ids dy false with base:=0}:Ctx).kill (bO k (dy.length-k))).R i=some ((row.jb (λr=>pos r ids 0) false).kill (bO k (dy.length-k))):=by
   simp only[Ctx.kill,Ctx.pass]
   rw[if_neg (λe=>by have:=LH.1 e;omega),h2];rfl
  obtain⟨ss,g1,g2,g3,g4,g5,g6,gV,g7⟩:=hx.cz.R i _ Cj
  rw[jd]at g1;cases g1
  obtain⟨s1,s2,s3,s4⟩:=IU (λr=>pos r ids 0) false row
  obtain⟨t1,t2,t3,t4⟩:=uT (bO k (dy.length-k)) (row.jb (λr=>pos r ids 0) false)
  have iA:=(Ci i nP).trans hi
  obtain⟨kG,q1,q2⟩:=k2 i r iA
  rw[jV,q1]at jd;cases jd
  refine⟨row,h3,g2.trans (t1.trans s1),g3.trans (t2.trans s2),g4.trans (t3.trans s3),g5.trans (t4.trans s4),by simpa[Ctx.kill,Ctx.pass,hi]using g6,by simpa[Ctx.kill,Ctx.pass,hi]using gV,bg r lY,by rw[Po r (bg r lY)];exact q2,by rw[<-hf];simp[bk,iA],λnv arr ha=>?_⟩
  have:=g7 (by simpa[Ctx.kill,Ctx.pass,hi]using nv) arr (by simpa[Ctx.kill,Ctx.pass,hi,s2,t2]using ha)
  simpa[Ctx.kill,Ctx.pass,hi,s2,t2]using this
 have No:∀i ao,c'.R i=some ao->¬c'.V i->(∃j s row,ids[j]?=some s/\c.R s=some row/\¬c.V s/\c'.ρ i=c.ρ s/\(i<kl->j=i)/\(kl<=i->s∈ids.drop k))\/w.heap.size<=c'.ρ i:=by
  intro i ao h1 nv
  by_cases nP:i<kl
  ·have iA:ids[i]?=some ids[i]:=aI (by omega)
   obtain⟨row,g1,g2,g3,g4,g5,g6,g7,_⟩:=jv i _ ao nP iA h1
   exact .inl ⟨i,_,row,iA,g1,λe=>nv (g7.2 e),g6,λ_=>rfl,λh=>by omega⟩
  ·rcases hx.nT i ao h1 nv with⟨⟨x,oQ⟩,v,e⟩|⟨s,x,hs,oQ,v,e⟩|e
   ·have Io:dy[i]?=some x:=oQ
    have GJ:=(List.getElem?_eq_some_iff.1 Io).1
    have iA:ids[i]?=some ids[i]:=aI (by omega)
    obtain⟨row,g1,g2⟩:=Ac i _ iA
    exact .inl ⟨i,_,row,iA,nI _ _ g1,by simpa[Ctx.pass,iA]using v,by simpa[Ctx.pass,iA]using e,λh=>by omega,λ_=>sr i _ iA (by omega)⟩
   ·have Io:dy[s]?=some x:=oQ
    have GJ:=(List.getElem?_eq_some_iff.1 Io).1
    have iA:ids[s]?=some ids[s]:=aI (by omega)
    obtain⟨row,g1,g2⟩:=Ac s _ iA
    have hsk:=(LH.1 hs).1
    exact .inl ⟨s,_,row,iA,nI _ _ g1,by simpa[Ctx.pass,iA]using v,by simpa[Ctx.pass,iA]using e,λh=>by omega,λ_=>sr s _ iA (by omega)⟩
   ·exact .inr e
 have new:∀i ao,kl<=i->c'.R i=some ao->i<aj.length/\R2.getD (R.length+(i-kl)) none=some (ao.jb f false)/\f i=R.length+(i-kl):=by
  intro i ao hi jd
  have h1:aj[i]?=some ao:=by rw[<-jV];exact jd
  have h2:=(List.getElem?_eq_some_iff.1 h1).1
  refine⟨h2,by rw[Yo i hi h2,h1];rfl,?_⟩
  rw[<-hf]
  simp only[bk]
  rw[aJ (by omega),Ym]
 have Cl:DF (λ_=>True) f false c' (c.dz c' kl R.length R2):=by
  refine⟨λi ao _ jd=>?_,(λh=>by cases h),aX _⟩
  obtain⟨s1,s2,s3,s4⟩:=IU f false ao
  by_cases hi:i<kl
  ·have iA:ids[i]?=some ids[i]:=aI (by omega)
   obtain⟨row,g1,g2,g3,g4,g5,g6,g7,g8,g9,g10,_⟩:=jv i _ ao hi iA jd
   rw[g10]
   exact⟨_,g9,s1,s2,s3,s4,by simp only[Ctx.dz];rw[if_neg (by omega),g6],by simp only[Ctx.dz];rw[if_neg (by omega)];exact g7.symm⟩
  ·obtain⟨h1,h2,h3⟩:=new i ao (by omega) jd
   rw[h3]
   have hc:R.length<=R.length+(i-kl)/\R.length+(i-kl)<R2.length:=by omega
   have he:kl+(R.length+(i-kl)-R.length)=i:=by omega
   exact⟨_,h2,s1,s2,s3,s4,by simp only[Ctx.dz];rw[if_pos hc,he],by simp only[Ctx.dz];rw[if_pos hc,he]⟩
 have Bz:Fr (λb=>∃r x,c.R r=some x/\¬c.V r/\r∈ids/\c.ρ r=b) w w':=hx.fr.mono λb _ ⟨i,x,h1,h2,h3⟩=>by
  have rK:dy[i]?=some x:=h1
  have hi:i<ids.length:=by have:=(List.getElem?_eq_some_iff.1 rK).1;omega
  have iA:ids[i]?=some ids[i]:=aI hi
  obtain⟨row,g1,g2⟩:=Ac i _ iA
  exact⟨_,row,nI _ row g1,by simpa[Ctx.pass,iA]using h2,fL iA,by simpa[Ctx.pass,iA]using h3⟩
 have rest:∀r,r∉ids->r<R.length->R2.getD r none=(R.getD r none).map (Row.kill (ids.drop k)):=λr h1 h2=>by
  rw[Po r h2,k3 r (λe=>h1 (fM e)),Qr,bG,if_neg (λe=>h1 (fN (nF.1 e)))]
 have gone:∀r,r∈ids.drop k->R2.getD r none=none:=λr h=>by
  rw[Po r (bg r (fN h)),k3 r (λe=>Pn r e h),Qr,bG,if_pos (nF.2 h)]
 have inv:∀r x,(c.dz c' kl R.length R2).R r=some x->(∃i ao,c'.R i=some ao/\x=ao.jb f false/\(c.dz c' kl R.length R2).ρ r=c'.ρ i/\((c.dz c' kl R.length R2).V r↔c'.V i)/\(i<kl/\ids[i]?=some r/\(c.dz c' kl R.length R2).ρ r=c.ρ r/\((c.dz c' kl R.length R2).V r↔c.V r)\/R.length<=r/\kl<=i/\r=R.length+(i-kl)))\/
  (∃row,c.R r=some row/\x=row.kill (ids.drop k)/\r∉ids/\(c.dz c' kl R.length R2).ρ r=c.ρ r/\((c.dz c' kl R.length R2).V r↔c.V r)):=by
  intro r x jD
  have jD:R2.getD r none=some x:=jD
  by_cases lY:r∈ids
  ·by_cases hg:r∈ids.drop k
   ·rw[gone r hg]at jD;cases jD
   ·left
    have hp:=AS lY
    have AT:pos r ids 0<kl:=by
     by_cases h:pos r ids 0<kl
     ·exact h
     ·exact(hg (sr _ r hp (by omega))).elim
    obtain⟨kG,q1,q2⟩:=k2 _ r ((Ci _ AT).trans hp)
    have su:c'.R (pos r ids 0)=some kG:=by rw[jV];exact q1
    obtain⟨row,g1,g2,g3,g4,g5,g6,g7,g8,g9,g10,_⟩:=jv _ r kG AT hp su
    rw[g9]at jD
    cases jD
    have e1:(c.dz c' kl R.length R2).ρ r=c.ρ r:=by simp only[Ctx.dz];rw[if_neg (by omega)]
    have e2:(c.dz c' kl R.length R2).V r↔c.V r:=by simp only[Ctx.dz];rw[if_neg (by omega)]
    exact⟨_,kG,su,rfl,by rw[e1,g6],by rw[e2,g7],.inl ⟨AT,hp,e1,e2⟩⟩
  ·by_cases hc:R.length<=r
   ·left
    have TY:r<R2.length:=by
     by_cases h:r<R2.length
     ·exact h
     ·rw[aV,aJ (by omega)]at jD;cases jD
    have hi:kl+(r-R.length)<aj.length:=by omega
    have su:c'.R (kl+(r-R.length))=some aj[kl+(r-R.length)]:=by rw[jV];exact aI hi
    obtain⟨h1,h2,h3⟩:=new _ _ (by omega) su
    rw[show R.length+(kl+(r-R.length)-kl)=r by omega]at h2
    rw[h2]at jD
    cases jD
    exact⟨_,_,su,rfl,by simp only[Ctx.dz];rw[if_pos ⟨hc,TY⟩],by simp only[Ctx.dz];rw[if_pos ⟨hc,TY⟩],.inr ⟨hc,by omega,by omega⟩⟩
   ·right
    rw[rest r lY (by omega)]at jD
    simp only[fF]at jD
    obtain⟨row,h1,h2⟩:=jD
    exact⟨row,nI r row h1,h2.symm,lY,by simp only[Ctx.dz];rw[if_neg (by omega)],by simp only[Ctx.dz];rw[if_neg (by omega)]⟩
 have apart:∀r row i ao,c.R r=some row->r∉ids->¬c.V r->c'.R i=some ao->¬c'.V i->c'.ρ i≠c.ρ r:=λr row i ao h1 h2 h3 h4 h5 e=>by
  rcases No i ao h4 h5 with⟨j,s,jq,q1,q2,q3,q4,_⟩|q
  ·have:=hm.inj s r jq row q2 h1 q3 h3 (by rw[<-q4,e])
   subst this
   exact h2 (fL q1)
  ·have:=hm.lt h1 h3;omega
 have pH:iX (c.kill (ids.drop k)) w (c.dz c' kl R.length R2) w':=by
  refine⟨rfl,hx.cz.top,λb ib=>?_,λr x hr=>?_⟩
  ·have h1:(({c.pass w ids dy false with base:=0}:Ctx).kill (bO k (dy.length-k))).I b:=.inl ib
   exact⟨(hx.cz.I b h1).1,(hx.cz.I b h1).2⟩
  ·obtain⟨TZ,row,c6,rfl⟩:=mU hr
   have TZ:r∉ids.drop k:=λe=>by rw[nF.2 e]at TZ;cases TZ
   obtain⟨u1,u2,u3,u4⟩:=uT (ids.drop k) row
   by_cases lY:r∈ids
   ·have hp:=AS lY
    have AT:pos r ids 0<kl:=by
     by_cases h:pos r ids 0<kl
     ·exact h
     ·exact(TZ (sr _ r hp (by omega))).elim
    obtain⟨kG,q1,q2⟩:=k2 _ r ((Ci _ AT).trans hp)
    have su:c'.R (pos r ids 0)=some kG:=by rw[jV];exact q1
    obtain⟨jB,g1,g2,g3,g4,g5,g6,g7,g8,g9,g10,g11⟩:=jv _ r kG AT hp su
    rw[c6]at g1;cases g1
    obtain⟨s1,s2,s3,s4⟩:=IU f false kG
    refine⟨_,g9,s1.trans (g2.trans u1.symm),s2.trans (g3.trans u2.symm),s3.trans (g4.trans u3.symm),s4.trans (g5.trans u4.symm),by simp only[Ctx.dz];rw[if_neg (by omega)];rfl,by simp only[Ctx.dz];rw[if_neg (by omega)];rfl,λnv arr ha=>?_⟩
    rw[u2]at ha⊢
    exact g11 nv arr ha
   ·have pZ:r<R.length:=by
     by_cases h:r<R.length
     ·exact h
     ·rw[hR,aV,aJ (by omega)]at c6;cases c6
    refine⟨row.kill (ids.drop k),?_,rfl,rfl,rfl,rfl,by simp only[Ctx.dz];rw[if_neg (by omega)];rfl,by simp only[Ctx.dz];rw[if_neg (by omega)];rfl,λnv arr ha=>⟨arr,?_,rfl⟩⟩
    ·show R2.getD r none=_
     rw[rest r lY pZ,<-hR,c6];rfl
    ·have nv:¬c.V r:=nv
     show w'.heap[c.ρ r]?=_
     rw[Bz.heap _ (hm.lt c6 nv) fun⟨s,x,h1,h2,h3,h4⟩=>lY (by rw[<-hm.inj s r x row h1 c6 h2 nv h4];exact h3)]
     exact ha
 refine⟨Cl,⟨λr x jD=>?_,λr s x y hr hs v1 v2 he=>?_,λb ib=>⟨(hx.mem.fe b ib).1,λr x hr v=>?_⟩,hx.mem.top,hx.mem.jQ⟩,pH,Bz.mono λb _ ⟨r,x,h1,h2,_,h4⟩=>⟨r,x,h1,h2,h4⟩,λb ib=>?_,λr x hr v=>?_⟩
 ·rcases inv r x jD with⟨i,ao,h1,rfl,h3,h4,_⟩|⟨row,h1,rfl,h2,h3,h4⟩
  ·exact Yp Cl (flat:=False) (.inl λb hb=>hb) h3 h4 (λ_ _ _ _ _=>trivial) (λe=>e.elim) (hx.mem.row i ao h1)
  ·have hk:=Zpj (ks:=ids.drop k) (hm.row r row h1)
   exact sW pH h3 h4 (λnv=>Bz.heap _ (hm.lt h1 nv) fun⟨s,x',g1,g2,g3,g4⟩=>h2 (by rw[<-hm.inj s r x' row g1 h1 g2 nv g4];exact g3)) hk
 ·rcases inv r x hr with⟨i,x',h1,_,h3,h4,h5⟩|⟨row,h1,_,h2,h3,h4⟩<;>rcases inv s y hs with⟨j,y',g1,_,g3,g4,g5⟩|⟨jq,g1,_,g2,g3,g4⟩
  ·have:i=j:=hx.mem.inj i j x' y' h1 g1 (λe=>v1 (h4.2 e)) (λe=>v2 (g4.2 e)) (by rw[<-h3,<-g3];exact he)
   subst this
   rcases h5 with⟨q0,q1,_⟩|⟨_,q1,q2⟩<;>rcases g5 with⟨p0,p1,_⟩|⟨_,p1,p2⟩
   ·rw[q1]at p1;exact Option.some.inj p1
   ·omega
   ·omega
   ·omega
  ·exact(apart s jq i x' g1 g2 (λe=>v2 (g4.2 e)) h1 (λe=>v1 (h4.2 e)) (by rw[<-h3,<-g3];exact he)).elim
  ·exact(apart r row j y' h1 h2 (λe=>v1 (h4.2 e)) g1 (λe=>v2 (g4.2 e)) (by rw[<-h3,<-g3];exact he.symm)).elim
  ·exact hm.inj r s row jq h1 g1 (λe=>v1 (h4.2 e)) (λe=>v2 (g4.2 e)) (by rw[<-h3,<-g3];exact he)
 ·rcases inv r x hr with⟨i,x',h1,_,h3,h4,h5⟩|⟨row,h1,_,h2,h3,h4⟩
  ·rw[h3];exact(hx.mem.fe b ib).2 i x' h1 (λe=>v (h4.2 e))
  ·have nv:¬c.V r:=λe=>v (h4.2 e)
   rw[h3]
   rcases hx.fe b ib with q|⟨s,z,q1,q2,q3,q4⟩|q
   ·rcases q with q|⟨q,_⟩
    ·exact(hm.fe b q).2 r row h1 nv
    ·cases q
   ·intro e
    have hz:dy[s]?=some z:=q2
    have GJ:=(List.getElem?_eq_some_iff.1 hz).1
    have iA:ids[s]?=some ids[s]:=aI (by omega)
    obtain⟨jq,g1,g2⟩:=Ac s _ iA
    have:=hm.inj _ r jq row (nI _ _ g1) h1 (by simpa[Ctx.pass,iA]using q3) nv (by rw[e];simpa[Ctx.pass,iA]using q4)
    exact h2 (by rw[<-this];exact fL iA)
   ·have:=hm.lt h1 nv;omega
 ·rcases hx.fe b ib with q|⟨s,z,q1,q2,q3,q4⟩|q
  ·rcases q with q|⟨q,_⟩
   ·exact .inl q
   ·cases q
  ·have hz:dy[s]?=some z:=q2
   have GJ:=(List.getElem?_eq_some_iff.1 hz).1
   have iA:ids[s]?=some ids[s]:=aI (by omega)
   obtain⟨jq,g1,g2⟩:=Ac s _ iA
   have hsk:=(LH.1 q1).1
   exact .inr (.inl ⟨_,jq,nF.2 (sr s _ iA (by omega)),nI _ _ g1,by simpa[Ctx.pass,iA]using q3,by simpa[Ctx.pass,iA]using q4⟩)
  ·exact .inr (.inr q)
 ·rcases inv r x hr with⟨i,x',h1,_,h3,h4,h5⟩|⟨row,h1,_,h2,h3,h4⟩
  ·rcases h5 with⟨q0,q1,q2,q3⟩|⟨q0,q1,q2⟩
   ·obtain⟨row,g1,_⟩:=jv i r x' q0 q1 h1
    exact .inl ⟨⟨row,g1⟩,λe=>v (q3.2 e),q2⟩
   ·rcases No i x' h1 (λe=>v (h4.2 e))with⟨j,s,jq,p1,p2,p3,p4,_,p5⟩|p
    ·exact .inr (.inl ⟨s,jq,nF.2 (p5 q1),p2,p3,by rw[h3];exact p4⟩)
    ·exact .inr (.inr (by rw[h3];exact p))
  ·exact .inl ⟨⟨row,h1⟩,λe=>v (h4.2 e),h3⟩
def GK(P:Program)(f:FuncId)(args:List Operand)(ev:Operand->D)(R:Rows)(ks:List Nat)(val:D)(R':Rows):Prop:=
 ∀ (c:Ctx) (w:World) (ρ:Operand->Value),Mem c w->c.base<=w.heap.size->(∀r,c.R r=R.getD r none)->(∀y∈args,Rep c w (ev y) (ρ y))->
  ∀K':Value->World->Prop,(∀v w' c',jE ks c w c' w'->(∀r,c'.R r=R'.getD r none)->Rep c' w' val v->K' v w')->FC P c.I f (args.map ρ) w λe w'=>∃v,e=.returned v/\K' v w'
theorem VY{P:Program}{G:List bc}{M:Nat}(hG:jr P G){f:FuncId}{k:Nat}{args:List Operand}{ev:Operand->D}{R:Rows}{K:List Nat->D->Rows->Prop}
 (lD:Qc G f=some k) (h:HE G M f k (args.map ev) R K):∃ks val R' x,K ks val R'/\oA G f=some x/\(x.refs≠[])/\(∀j,cv j ks=true->M<=j)/\GK P f args ev R ks val R':=by
 unfold HE at h
 split at h
 ·rename_i x hx
  have uU:x.gone=some k:=by simpa[Qc,hx]using lD
  obtain⟨dx,hf⟩:=FL hG hx
  split at h
  ·rename_i az dy has iN
   simp only[dd,aE]at h
   obtain⟨⟨⟨⟨hv,mr⟩,h1,h2⟩,h3,h4⟩,h⟩:=h
   generalize IV:mf R x.refs (args.map ev)=ids at*
   have uo:=LI.1 h1
   have jg:=LI.1 h2
   have kJ:=LJ.1 h3
   have GL:ly x.refs (args.map ev)=[]:=by
    revert hv
    cases ly x.refs (args.map ev)<;>simp
   have hrefs:x.refs≠[]:=λe=>by rw[e]at mr;simp at mr
   have main:∀res aj,GM R (ids.take k) (ids.drop k) res aj K->tC P x.f k az dy res aj->
    ∃ks val R' y,K ks val R'/\oA G f=some y/\(y.refs≠[])/\(∀j,cv j ks=true->M<=j)/\GK P f args ev R ks val R':=by
    intro res aj hK hA
    simp only[GM,dd,D.c8,mX]at hK
    obtain⟨hle,hK⟩:=hK
    have hle:=lE hle
    refine⟨_,_,_,x,hK,hx,hrefs,λj hj=>lE (List.all_eq_true.1 h4 j (nF.1 hj)),λc w ρ hm hb hR ei K' pQ=>?_⟩
    have nI:∀r row,r∈ids->R.getD r none=some row->c.R r=some row:=λr row _ e=>by rw[hR];exact e
    have oK:lU c R:=λr row ao g1 g2=>by rw[hR,g2]at g1;exact(Option.some.inj g1).symm
    have hn:=T0 (len:=false) (w:=w) nI iN
    have fq:=LK (len:=false) (ρ:=ρ) hm oK hn has (λe=>(e GL).elim) (λr hr=>by rw[GL]at hr;cases hr) uo ei
    have lX:=hA _ w _ (Zi1 (Yq (len:=false) hm nI kJ jg iN)) rfl (λr=>rfl) (Yk fq)
    rw[hf]at lX
    refine lX.mono (λb hb=>.inl hb) (λe w' sw=>?_)
    obtain⟨v,c',he,nm,jV,kE⟩:=sw
    have:=Zav (k:=k) hm hR kJ iN hle nm jV rfl
    exact⟨v,he,pQ v w' _ this.2 (λr=>rfl) (Yr this.1 (flat:=False) (.inl λb hb=>hb) (λ_=>trivial) (λe=>e.elim) kE)⟩
   split at h
   ·rename_i α v res aj hm
    exact main _ _ (h v rfl) (dx.Pp k uU _ _ _ _ _ _ hm)
   ·rename_i p α v res aj hm
    exact main _ _ (h.2 v rfl) (dx.GN k uU _ _ _ _ _ _ _ hm h.1)
   ·exact h.elim
  ·exact h.elim
 ·exact h.elim
theorem Zq8(hG:jr P G)(hy:f<YB){guard:Option (Nat×Bool)}
 (lD:Qc G f=some k) (h:HE G M f k (args.toList.map ev) R K):∃ks val R' x,K ks val R'/\oA G f=some x/\(x.refs≠[])/\(∀j,cv j ks=true->M<=j)/\Bp P ⟨dst,.call ⟨.value (.func f),args,dj⟩,type,pos',after,guard⟩ ev R ks val R':=by
 obtain⟨ks,val,R',x,h1,h2,h3,h4,h5⟩:=VY hG lD h
 obtain⟨dx,hf⟩:=FL hG h2
 refine⟨ks,val,R',x,h1,h2,h3,h4,λc w a hm hb hR ei K' Q pQ=>?_⟩
 subst hf
 exact Ys dx rfl hy ((h5 c w a.eval hm hb hR (λy hy=>ei y (by simp[Op.operands,Call.operands];exact .inr (by simpa using hy))) (λv w'=>K' (a.put dst v) w') λv w' c'=>pQ v w' c').1 hy)
def Ctx.only(c:Ctx)(ks:List Nat):Ctx:={c with R:=λr=>if cv r ks=true then(match c.R r with|some row=>if row.box=true then none else some row|none=>none)else none}
theorem LM{c:Ctx}(h:(c.only ks).R r=some x):r∈ks/\c.R r=some x/\x.box=false:=by
 simp only[Ctx.only]at h
 split at h
 ·rename_i hm
  split at h
  ·rename_i row hr
   split at h
   ·cases h
   ·rename_i hb
    cases h
    exact⟨nF.1 hm,hr,by simpa using hb⟩
  ·cases h
 ·cases h
theorem zu{c:Ctx}(hm:r∈ks)(hr:c.R r=some x)(hb:x.box=false):(c.only ks).R r=some x:=by
 simp[Ctx.only,nF.2 hm,hr,hb]
theorem qS{c:Ctx}(hm:Mem c w)(ks:List Nat):Mem (c.only ks) w:=by
 refine⟨λr x hr=>?_,λr s x y hr hs=>?_,λb hb=>⟨(hm.fe b hb).1,λr x hr v=>?_⟩,hm.top,hm.jQ⟩
 ·obtain⟨_,h1,h2⟩:=LM hr
  rcases hm.row r x h1 with h|⟨h0,arr,ha,hs,hx⟩
  ·exact .inl h
  ·refine .inr ⟨h0,arr,ha,hs,?_⟩
   rw[if_neg (by rw[h2];simp)]at hx⊢
   exact hx
 ·exact hm.inj r s x y (LM hr).2.1 (LM hs).2.1
 ·exact(hm.fe b hb).2 r x (LM hr).2.1 v
theorem Zj3{c:Ctx}(h:EL R d=some d')(hl:∀r∈nA d,r∈ks)(hr:dc c w d v):dc (c.only ks) w d v:=by
 cases d<;>simp only[EL]at h<;>try(cases h;done)
 case all r=>
  obtain⟨row,g1,g2,g3⟩:=hr
  exact⟨row,zu (hl r (by simp[nA])) g1 g2,g2,g3⟩
 case own r o n=>
  obtain⟨row,g1,g2,g3,g4⟩:=hr
  exact⟨row,zu (hl r (by simp[nA])) g1 g2,g2,g3,g4⟩
 all_goals exact hr
theorem Zjx{c:Ctx}{w:World}{R:Rows}{ks:List Nat}:∀{ds nV:List D} {vs:List Value},IW R ds=some nV->(∀r∈pI ds,r∈ks)->je c w ds vs->je (c.only ks) w ds vs
 |[],_,[],_,_,_=>trivial
 |d ::ds,nV,v::vs,h,hl,hr=>by
  simp only[IW]at h
  split at h
  ·rename_i x xs h1 h2
   exact⟨Zj3 h1 (λr e=>hl r (by simp[pI,e])) hr.1,Zjx h2 (λr e=>hl r (by simp[pI,e])) hr.2⟩
  ·cases h
 |[],_,_::_,_,_,h=>h.elim
 |_::_,_,[],_,_,h=>h.elim
theorem xS{c:Ctx}(h:conv R d=some d')(hl:∀r∈Zf d,r∈ks)(hr:Rep c w d v):Rep (c.only ks) w d v:=by
 cases d with
 |agg cs=>
  simp only[conv,fF]at h
  obtain⟨xs,h1,_⟩:=h
  obtain⟨vs,hv,hx⟩:=hr
  exact⟨vs,hv,Zjx h1 hl hx⟩
 |dv ds=>simp[conv,EL]at h
 |dead=>trivial
 |_=>
  simp only[conv]at h
  simp only[Rep,VRep]at hr⊢
  exact Zj3 h hl hr
theorem Zci{R:Rows}{f:Nat->Nat}{ev:Operand->D}:∀{xs:List Operand} {az:List D},sx R f [] (xs.map ev)=some az->∀x∈xs,∃y,conv R (ev x)=some y
 |[],_,_,x,hx=>by simp at hx
 |y ::xs,az,h,x,hx=>by
  simp only[fG,sx]at h
  split at h
  ·rename_i z zs h1 h2
   simp only[cQ]at hx
   rcases hx with rfl|hx
   ·exact⟨_,h1⟩
   ·exact Zci h2 x hx
  ·cases h
theorem Zca{ev:Operand->D}{r:Nat}:∀{xs:List Operand} {x:Operand},x∈xs->r∈Zf (ev x)->r∈ly [] (xs.map ev)
 |y::xs,x,hx,hr=>by
  simp only[fG,ly,cB]
  simp only[cQ]at hx
  rcases hx with rfl|hx
  ·exact .inl hr
  ·exact .inr (Zca hx hr)
theorem Yt{r:Nat}:∀{l ids:List Nat},r∈kX ids l->r∈ids\/r∈l
 |[],ids,h=>.inl h
 |x ::l,ids,h=>by
  simp only[kX]at h
  split at h
  ·rcases Yt h with h|h
   ·exact .inl h
   ·exact .inr (by simp[h])
  ·rcases Yt h with h|h
   ·simp only[cB,List.mem_singleton]at h
    rcases h with h|h
    ·exact .inl h
    ·exact .inr (by simp[h])
   ·exact .inr (by simp[h])
theorem yu{c:Ctx}(h:Rep c w d v):Rep {c with base:=0} w d v:=by
 cases d with
 |dv ds=>obtain⟨vs,hv,hx⟩:=h;exact⟨vs,hv,Yk hx⟩
 |dead=>trivial
 |_=>exact Rep.JV (Zb2 (Rep.toV (λds e=>by cases e) (λe=>by cases e) h))
theorem zS(hG:jr P G){guard:Option (Nat×Bool)}
 (lD:Qc G f=none) (h:Cm G M f (args.toList.map ev) R K):∃ks val R' x,K ks val R'/\oA G f=some x/\(∀j,cv j ks=true->M<=j)/\Bp P ⟨dst,.call ⟨.value (.func f),args,dj⟩,type,pos',after,guard⟩ ev R ks val R':=by
 unfold Cm at h
 split at h
 ·rename_i x hx
  have uU:x.gone=none:=by simpa[Qc,hx]using lD
  obtain⟨dx,hf⟩:=FL hG hx
  split at h
  ·rename_i az dy has iN
   simp only[dd,aE]at h
   obtain⟨⟨⟨mr,wj⟩,h3,uo,h4⟩,h⟩:=h
   have Jan:∀r,r∈kX [] (ly [] (args.toList.map ev))->r∈ly [] (args.toList.map ev):=λr hr=>by
    rcases Yt hr with h|h
    ·cases h
    ·exact h
   generalize IV:kX [] (ly [] (args.toList.map ev))=ids at*
   have kJ:=LJ.1 h3
   have uo:=LI.1 uo
   have main :∀res aj,GM R [] ids res aj K->kg P x.f az [] res aj->
    ∃ks val R' y,K ks val R'/\oA G f=some y/\(∀j,cv j ks=true->M<=j)/\Bp P ⟨dst,.call ⟨.value (.func f),args,dj⟩,type,pos',after,guard⟩ ev R ks val R':=by
    intro res aj hK hA
    simp only[GM,dd,D.c8,mX]at hK
    obtain⟨_,hK⟩:=hK
    refine⟨_,_,_,x,hK,hx,λj hj=>lE (List.all_eq_true.1 h4 j (nF.1 hj)),λc w a hm hb hR ei K' Q pQ=>?_⟩
    have oK:lU (c.only ids) R:=λr row ao g1 g2=>by
     have:=(LM g1).2.1
     rw[hR,g2]at this;exact(Option.some.inj this).symm
    have hmo:=qS hm ids
    have hn:=T0 (c:=c.only ids) (R:=R) (ids:=[]) (dy:=[]) (len:=true) (w:=w) (λr row e=>by cases e) rfl
    have Yu:∀y∈args.toList,Rep (c.only ids) w (ev y) (a.eval y):=λy hy=>by
     obtain⟨z,hz⟩:=Zci has y hy
     exact xS hz (λr hr=>uo r (Zca hy hr)) (ei y (by simp[Op.operands,Call.operands];exact .inr (by simpa using hy)))
    rw[Yv (λr=>r) (λr=>pos r [] 0)]at has
    have fq:=LK (len:=true) (ρ:=a.eval) hmo oK hn has (λ_=>rfl) (λr _ e=>by cases e) (λr e=>by rw[Yw]at e;cases e) Yu
    have lX:=hA _ w _ (Yq (R:=R) (len:=true) hmo (λr row e=>by cases e) (by simp) (λr e=>by simp[Cn]at e) rfl) rfl (λr=>rfl) fq
    refine Ys dx hf (dx.real uU) (lX.mono λe w' sw=>?_)
    obtain⟨v,c',he,nm,jV,kE⟩:=sw
    have Gb:∀r x,((c.only ids).pass w [] [] true).R r=some x->False:=λr x h=>by simp[Ctx.pass]at h
    obtain⟨jg,Ac⟩:=EK iN
    have hxK:jE (bO 0 (dy.length-0)) {c.pass w ids dy false with base:=0} w {c' with base:=0} w':=by
     refine⟨Zi1 nm.mem,⟨rfl,nm.cz.top,λb ib=>?_,λr x hr=>?_⟩,nm.fr.mono λb _ ⟨r,x,h1,_⟩=>(Gb r x h1).elim,λb ib=>?_,λr x hr hv=>?_⟩
     ·have:c.I b:=by
       rcases ib with h|⟨h,_⟩
       ·exact h
       ·cases h
      exact⟨(nm.cz.I b (.inl this)).1,(nm.cz.I b (.inl this)).2⟩
     ·obtain⟨h1,row,h2,_⟩:=mU hr
      have h2':dy[r]?=some row:=h2
      have:=(List.getElem?_eq_some_iff.1 h2').1
      rw[LH.2 (by omega)]at h1;cases h1
     ·rcases nm.fe b ib with h|h
      ·rcases h with h|⟨_,r,row,g1,g2,g3,_,g5⟩
       ·exact .inl (.inl h)
       ·obtain⟨k1,k2,k3⟩:=LM g1
        have hp:=AS k1
        obtain⟨jq,q1,q2⟩:=Ac _ r hp
        have hl:=(List.getElem?_eq_some_iff.1 q2).1
        exact .inr (.inl ⟨_,_,LH.2 (by omega),q2,by simpa[Ctx.pass,Ctx.only,hp]using g2,by simpa[Ctx.pass,Ctx.only,hp]using g5⟩)
      ·exact .inr (.inr h)
     ·rcases nm.nT r x hr hv with⟨⟨y,h1⟩,_⟩|h
      ·exact(Gb r y h1).elim
      ·exact .inr (.inr h)
    have:=Zav (k:=0) (c':={c' with base:=0}) hm hR kJ iN (by simp) hxK jV rfl
    simp only[List.take_zero,List.drop_zero]at this
    exact⟨v,he,pQ v w' _ this.2 (λr=>rfl) (Yr this.1 (flat:=False) (.inl λb hb=>hb) (λ_=>trivial) (λe=>e.elim) (yu kE))⟩
   split at h
   ·rename_i α v res aj hm
    exact main _ _ (h v rfl) (dx.abs uU _ _ _ _ _ _ hm).1
   ·rename_i p α v res aj hm
    exact main _ _ (h.2 v rfl) (dx.kY uU _ _ _ _ _ _ _ hm h.1).1
   ·exact h.elim
  ·exact h.elim
 ·exact h.elim

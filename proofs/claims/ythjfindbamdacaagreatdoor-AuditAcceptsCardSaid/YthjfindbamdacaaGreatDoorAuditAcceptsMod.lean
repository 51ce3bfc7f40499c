import Derived.Test.YthjfindbamdacaaGreatDoorAuditAcceptsFc
open Nat renaming blt->bJ,beq->bT,le_refl->aO
open List renaming map_cons->fQ,getD->aK,getElem?_eq_getElem->cG,range'->bK,all_cons->iE,all_nil->iF,length_cons->dI,length_nil->dJ,length_set->dH,length_replicate->cV
open Bool renaming false_eq_true->aN,or_eq_true->aI,and_eq_false_iff->hZ,or_eq_false_iff->iA,not_eq_true'->aS,not_eq_false'->iB,not_eq_true->iC,not_eq_false->iD
open Sum renaming elim->iG
set_option linter.all false
namespace Go.GD
open Go
open Go.IntKind(i64 u32 u64 wrap_i64 wrap_u32 wrap_u64 wrap_u8 wrap_i32)
variable {P:Program}{T:iM}{a b k s:Nat}{args rm:List D}{d res:D}{ds:List pS}{f:FuncId}{flat fr:Bool}{fn:Func}{refs:List Bool}
def lk(st:St)(t:Nat):D:=look st.env t
def rN(st:St)(t:Nat):Nat:=kP (look st.env t) 1000000
def cT(st:St)(t j:Nat):D:=iV st.rows (kP (look st.env t) 1000000) j
def rX(st:St)(t k:Nat):Nat:=kP (look st.env t) (st.rows.length+k)
theorem Qg5{α:Type}{l:List α}(h:l≠[]):0<l.length:=by cases l<;>simp_all
theorem Q4l{a b:Nat}:bJ a b=true↔a<b:=by simp[bJ,Nat.lt_iff_add_one_le]
theorem Q2s:bJ a b=false↔ ¬a<b:=by have:= @Q4l a b;cases h:bJ a b<;>simp_all
theorem Q4j{a b:Nat}:bT a b=true↔a=b:=iff_of_eq Nat.beq_eq
theorem Q2r:bT a b=false↔ ¬a=b:=by have:= @Q4j a b;cases h:bT a b<;>simp_all
def h8(d e:D):Prop:=∀c w v,cz c w d v->cz c w e v
def jK:List D->List D->Prop
 |[],[]=>True
 |d::l,e::m=>h8 d e/\jK l m
 |_,_=>False
def tE:D->D->Prop
 |.agg cs,.agg ds=>jK cs ds
 |.agg _,_=>False
 |d,e=>h8 d e
def DL:List D->List D->Prop
 |[],[]=>True
 |d::l,e::m=>tE d e/\DL l m
 |_,_=>False
theorem h8.rfl:h8 d d:=λ_ _ _ h=>h
theorem h8.ints{k:IntKind}{E:ak}{l:List Int}(h:E.toI k=some l):h8 (.sl s E fr) (.sl 1 (.ints k l) false):=by
 intro c w v hv
 have he:=ak.toI_l h
 obtain⟨a,cap,hv,hc,iq⟩:=hv
 rw[he]at hv hc iq
 refine⟨a,cap,hv,hc,?_⟩
 rcases iq with iq|⟨b,off,arr,ty,fz,ha,hI,hf,hh,hE⟩
 ·exact .inl iq
 ·cases l with
  |nil=>exact .inl (by simp[ak.l])
  |cons n l=>
   have h1:s=1:=by
    simp only[ak.l,fQ,pY,oz]at hE
    exact hE.1.symm
   subst h1
   exact .inr ⟨b,off,arr,ty,fz,ha,hI,(λe=>by cases e),hh,hE⟩
theorem h8.bw{E:ak}{l:List Bool}(h:E.toB=some l):h8 (.sl s E fr) (.sl 1 (.bw l) false):=by
 intro c w v hv
 have he:=ak.toB_l h
 obtain⟨a,cap,hv,hc,iq⟩:=hv
 rw[he]at hv hc iq
 refine⟨a,cap,hv,hc,?_⟩
 rcases iq with iq|⟨b,off,arr,ty,fz,ha,hI,hf,hh,hE⟩
 ·exact .inl iq
 ·cases l with
  |nil=>exact .inl (by simp[ak.l])
  |cons n l=>
   have h1:s=1:=by
    simp only[ak.l,fQ,pY,oz]at hE
    exact hE.1.symm
   subst h1
   exact .inr ⟨b,off,arr,ty,fz,ha,hI,(λe=>by cases e),hh,hE⟩
theorem jK.rep{c:Ctx}{w:World}:∀{ds es:List D} {vs:List Value},jK ds es->jq c w ds vs->jq c w es vs
 |[],[],[],_,_=>trivial
 |d::l,e::m,v::vs,h,hr=>⟨h.1 _ _ _ hr.1,jK.rep h.2 hr.2⟩
 |[],_::_,_,h,_=>h.elim
 |_::_,[],_,h,_=>h.elim
 |[],[],_::_,_,hr=>hr.elim
 |_::_,_::_,[],_,hr=>hr.elim
theorem tE.rep{c:Ctx}{w:World}{d e:D}{v:Value}(h:tE d e)(hr:VRep c w d v):VRep c w e v:=by
 cases d with
 |agg cs=>
  cases e with
  |agg ds=>obtain⟨vs,hv,hx⟩:=hr;exact⟨vs,hv,jK.rep h hx⟩
  |_=>exact h.elim
 |_=>
  have h1:=VRep.toC (λcs e=>by cases e) hr
  have h2:h8 _ e:=h
  exact VRep.Fi (h2 _ _ _ h1)
theorem DL.rep{c:Ctx}{w:World}:∀{ds es:List D} {vs:List Value},DL ds es->kp c w ds vs->kp c w es vs
 |[],[],[],_,_=>trivial
 |d::l,e::m,v::vs,h,hr=>⟨tE.rep h.1 hr.1,DL.rep h.2 hr.2⟩
 |[],_::_,_,h,_=>h.elim
 |_::_,[],_,h,_=>h.elim
 |[],[],_::_,_,hr=>hr.elim
 |_::_,_::_,[],_,hr=>hr.elim
theorem kr.sub{rows:List Row}{aj:List Row}(hs:DL args rm)(h:kr P f rm rows res aj):kr P f args rows res aj:=
 λc w vs hm hb hR ha=>h c w vs hm hb hR (DL.rep hs ha)
theorem h8.ax{k:RK}{E:ak}{l:List (RK.T k)}(h:E.toR k=some l):h8 (.sl s E fr) (.sl k.size (.ax k l) false):=by
 intro c w v hv
 have he:=ak.toR_l h
 obtain⟨a,cap,hv,hc,iq⟩:=hv
 rw[he]at hv hc iq
 refine⟨a,cap,hv,hc,?_⟩
 rcases iq with iq|⟨b,off,arr,ty,fz,ha,hI,hf,hh,hE⟩
 ·exact .inl iq
 ·cases l with
  |nil=>exact .inl (by simp[ak.l])
  |cons x l=>
   have h1:s=k.size:=by
    simp only[ak.l,fQ,oz]at hE
    rw[<-hE.1];exact RK.rS k x
   subst h1
   exact .inr ⟨b,off,arr,ty,fz,ha,hI,(λe=>by cases e),hh,hE⟩
theorem h8.DM{E:ak}(h:E.l=[]):h8 .dx (.sl s E false):=by
 intro c w v hv
 exact⟨none,0,by rw[h];exact hv,by rw[h];exact aO _,.inl h⟩
theorem h8.Kx{E:ak}(h:E.l=[]):h8 .emp (.sl s E false):=by
 intro c w v hv
 obtain⟨a,hv,_⟩:=hv
 exact⟨a,0,by rw[h];exact hv,by rw[h];exact aO _,.inl h⟩
def Bu:List (Nat×Nat×Nat)->List (Nat×Nat×Nat)->Bool
 |[],[]=>true
 |(a,b,c)::l,(x,y,z)::m=>bT a x&&(bT b y&&(bT c z&&Bu l m))
 |_,_=>false
def tF:List iJ->List iJ->Bool
 |[],[]=>true
 |.ptr a b c::l,.ptr x y z::m=>bT a x&&(bT b y&&(bT c z&&tF l m))
 |.fn f ps::l,.fn g qs::m=>bT f g&&(Bu ps qs&&tF l m)
 |_,_=>false
theorem yC:∀{l m:List (Nat×Nat×Nat)},Bu l m=true->l=m
 |[],[],_=>rfl
 |(a,b,c)::l,(x,y,z)::m,h=>by
  simp only[Bu,aE]at h
  rw[bE h.1,bE h.2.1,bE h.2.2.1,yC h.2.2.2]
 |[],_::_,h=>by simp[Bu]at h
 |_::_,[],h=>by simp[Bu]at h
theorem vC:∀{l m:List iJ},tF l m=true->l=m:=by
 intro l
 induction l with
 |nil=>intro m h;cases m with
  |nil=>rfl
  |cons _ _=>simp[tF]at h
 |cons a l ih=>
  intro m h
  cases m with
  |nil=>cases a<;>simp[tF]at h
  |cons b m=>
   cases a<;>cases b<;>simp only[tF,aE,aN]at h
   ·rw[bE h.1,bE h.2.1,bE h.2.2.1,ih h.2.2.2]
   ·rw[bE h.1,yC h.2.1,ih h.2.2]
def Bv:CT->D->Bool
 |.int k,.int j _=>decide (j=k)
 |.bool,.bool _=>true
 |.str,.str _=>true
 |.ints k,.sl _ E _=>(match E.toI k with|some _=>true|none=>false)
 |.bw,.sl _ E _=>(match E.toB with|some _=>true|none=>false)
 |.ax k,.sl _ E _=>(match E.toR k with|some _=>true|none=>false)
 |.ints _,.dx=>true
 |.bw,.dx=>true
 |.ax _,.dx=>true
 |.ints _,.emp=>true
 |.bw,.emp=>true
 |.ax _,.emp=>true
 |.row i,.all r=>bT r i
 |.nil,.sl s (.gen []) false=>bT s 0
 |.IA,.dx=>true
 |.self _,.iO=>true
 |.gq f cs,.gq g ds=>bT g f&&tF ds cs
 |.self i,.c9 r=>bT r i
 |.self i,.ptr r o f=>bT r i&&(bT o 0&&bT f 0)
 |.pt i a b,.ptr r o f=>bT r i&&(bT o a&&bT f b)
 |_,_=>false
inductive PT where
 |one (t:CT)
 |agg (ts:List CT)
 |ptr (i:Nat)
 |gq (f:Nat) (cs:List iJ)
inductive RT where
 |box (ty sz:Nat) (ts:List CT)
 |arr (ty sz:Nat) (t:CT)
def Ky:List CT->List D->Bool
 |[],[]=>true
 |t::ts,d::ds=>Bv t d&&Ky ts ds
 |_,_=>false
def wj:PT->D->Bool
 |.agg ts,.agg cs=>Ky ts cs
 |.one t,d=>Bv t d
 |.ptr i,.ptr r j o=>bT r i&&(bT j 0&&bT o 0)
 |.gq f cs,.gq g ds=>bT g f&&tF ds cs
 |_,_=>false
def Ic:PT->D->D
 |.agg ts,d=>.agg (wE ts d.cells 0)
 |.one t,d=>DZ t d
 |.ptr i,_=>.ptr i 0 0
 |.gq f cs,_=>.gq f cs
def BN:List PT->List D->Bool
 |[],[]=>true
 |s::l,d::ds=>wj s d&&BN l ds
 |_,_=>false
def mw:List PT->List D->Nat->List D
 |[],_,_=>[]
 |s::l,args,i=>Ic s (args.getD i .dead)::mw l args (i+1)
def Row.cs(r:Row):List D:=match r.es with|.gen [e]=>e|_=>[]
def wm:RT->Row->Bool
 |.box ty sz ts,⟨true,j6,kJ,.gen [e]⟩=>bT j6 ty&&(bT kJ sz&&Ky ts e)
 |.arr ty sz t,⟨false,j6,kJ,E⟩=>bT j6 ty&&(bT kJ sz&&(match toCT t E with|some _=>true|none=>false))
 |_,_=>false
def Sd(t:CT)(E:ak):ak:=match t with
 |.ints k=>.ints k (match E.toI k with|some l=>l|none=>[])
 |.bw=>.bw (match E.toB with|some l=>l|none=>[])
 |.ax k=>.ax k (match E.toR k with|some l=>l|none=>[])
 |_=>.gen []
theorem xaC{t:CT}{E E':ak}(h:toCT t E=some E'):Sd t E=E':=by
 cases t with
 |ints k=>
  simp only[toCT]at h
  split at h
  ·rename_i l hl
   cases h
   show ak.ints k (match E.toI k with|some l=>l|none=>[])=_
   rw[hl]
  ·cases h
 |bw=>
  simp only[toCT]at h
  split at h
  ·rename_i l hl
   cases h
   show ak.bw (match E.toB with|some l=>l|none=>[])=_
   rw[hl]
  ·cases h
 |ax k=>
  simp only[toCT]at h
  split at h
  ·rename_i l hl
   cases h
   show ak.ax k (match E.toR k with|some l=>l|none=>[])=_
   rw[hl]
  ·cases h
 |_=>simp[toCT]at h
def An:RT->Row->Row
 |.box ty sz ts,r=>⟨true,ty,sz,.gen [wE ts r.cs 0]⟩
 |.arr ty sz t,r=>⟨false,ty,sz,Sd t r.es⟩
def BO:List RT->List Row->Bool
 |[],[]=>true
 |s::l,r::rs=>wm s r&&BO l rs
 |_,_=>false
def lH:List RT->List Row->Nat->List Row
 |[],_,_=>[]
 |s::l,rows,i=>An s (rows.getD i default)::lH l rows (i+1)
def ar(args:List D)(i:Nat):Int:=(args.getD i .dead).toInt
def tG(args:List D)(i:Nat):Bool:=(args.getD i .dead).toBool
def gm(args:List D)(i:Nat):List UInt8:=(args.getD i .dead).toStr
def eg(k:IntKind)(args:List D)(i:Nat):List Int:=nI k (args.getD i .dead)
def iI(k:RK)(args:List D)(i:Nat):List (RK.T k):=sJ k (args.getD i .dead)
def oe(rows:List Row)(i j:Nat):D:=((rows.getD i default).cs.getD j .dead)
def gj(k:IntKind)(rows:List Row)(i:Nat):List Int:=match(rows.getD i default).es.toI k with|some l=>l|none=>[]
def jV(k:RK)(rows:List Row)(i:Nat):List (RK.T k):=match(rows.getD i default).es.toR k with|some l=>l|none=>[]
theorem Zaq{t:CT}(h:Bv t d=true):h8 d (DZ t d):=by
 cases t<;>cases d<;>(try(simp[Bv]at h;done))
 case int.int=>simp[Bv]at h;subst h;exact h8.rfl
 case nil.sl s E fr=>
  unfold Bv at h
  split at h<;>simp_all
  exact h8.rfl
 case IA.dx=>exact h8.rfl
 case bool.bool=>exact h8.rfl
 case str.str=>exact h8.rfl
 case ints.sl k sz E fr=>
  simp only[Bv]at h
  split at h
  ·rename_i l hl
   simp only[DZ,nI,hl]
   exact h8.ints hl
  ·cases h
 case ints.dx=>exact h8.DM rfl
 case ints.emp=>exact h8.Kx rfl
 case bw.sl sz E fr=>
  simp only[Bv]at h
  split at h
  ·rename_i l hl
   simp only[DZ,S1,hl]
   exact h8.bw hl
  ·cases h
 case bw.dx=>exact h8.DM rfl
 case bw.emp=>exact h8.Kx rfl
 case ax.sl k sz E fr=>
  simp only[Bv]at h
  split at h
  ·rename_i l hl
   simp only[DZ,sJ,hl]
   exact h8.ax hl
  ·cases h
 case ax.dx=>exact h8.DM rfl
 case ax.emp=>exact h8.Kx rfl
 case row.all i r=>rw[bE h];exact h8.rfl
 case gq.gq f cs g ds=>
  simp only[Bv,aE]at h
  rw[bE h.1,vC h.2]
  exact h8.rfl
 case self.iO i=>exactλc w v hv=>.inl hv
 case self.c9 i r=>rw[bE h];exact h8.rfl
 case self.ptr i r o f=>
  simp only[Bv,aE]at h
  rw[bE h.1,bE h.2.1,bE h.2.2]
  exactλc w v hv=>.inr hv
 case pt.ptr i a b r o f=>
  simp only[Bv,aE]at h
  rw[bE h.1,bE h.2.1,bE h.2.2]
  exact h8.rfl
theorem Qyx:∀{ts:List CT} {pre ds:List D},Ky ts ds=true->jK ds (wE ts (pre++ds) pre.length)
 |[],pre,[],_=>trivial
 |t::ts,pre,d::ds,h=>by
  simp only[Ky,aE]at h
  have h2:=Qyx (pre:=pre++[d]) h.2
  simp only[wE]
  refine⟨?_,by simpa using h2⟩
  have:(pre++d::ds).getD pre.length .dead=d:=by simp[aK]
  rw[this];exact Zaq h.1
 |[],_,_::_,h=>by simp[Ky]at h
 |_::_,_,[],h=>by simp[Ky]at h
theorem tE.of1{d e:D}(hd:∀cs,d≠.agg cs)(h:h8 d e):tE d e:=by
 cases d<;>first|exact h|exact absurd rfl (hd _)
theorem Zqo{s:PT}(h:wj s d=true):tE d (Ic s d):=by
 unfold wj at h
 split at h
 ·rename_i ts cs
  exact Qyx (pre:=[]) h
 ·rename_i t d
  refine tE.of1 (λcs e=>?_) (Zaq h)
  subst e
  cases t<;>simp[Bv]at h
 ·rename_i i r j o
  simp only[aE]at h
  rw[bE h.1,bE h.2.1,bE h.2.2]
  exact h8.rfl
 ·rename_i f cs g ds
  simp only[aE]at h
  rw[bE h.1,vC h.2]
  exact h8.rfl
 ·cases h
theorem Qzw:∀{l:List PT} {pre ds:List D},BN l ds=true->DL ds (mw l (pre++ds) pre.length)
 |[],pre,[],_=>trivial
 |s::l,pre,d::ds,h=>by
  simp only[BN,aE]at h
  have h2:=Qzw (pre:=pre++[d]) h.2
  simp only[mw]
  refine⟨?_,by simpa using h2⟩
  have:(pre++d::ds).getD pre.length .dead=d:=by simp[aK]
  rw[this];exact Zqo h.1
 |[],_,_::_,h=>by simp[BN]at h
 |_::_,_,[],h=>by simp[BN]at h
def tH(a b:Row):Prop:=b.box=a.box/\b.ty=a.ty/\b.sz=a.sz/\b.es.l.length=a.es.l.length/\match a.box with
 |true=>∃e e',a.es=.gen [e]/\b.es=.gen [e']/\e'.length=e.length/\jK e e'
 |false=>b.es.l=a.es.l
theorem jK.length:∀{ds es:List D},jK ds es->ds.length=es.length
 |[],[],_=>rfl
 |_::_,_::_,h=>by simp[jK.length h.2]
 |[],_::_,h=>h.elim
 |_::_,[],h=>h.elim
theorem Zrh{s:RT}{r:Row}(h:wm s r=true):tH r (An s r):=by
 unfold wm at h
 split at h
 ·rename_i ty sz ts j6 kJ e
  simp only[aE]at h
  have h3:=Qyx (pre:=[]) h.2.2
  have hl:=h3.length
  exact⟨rfl,(bE h.1).symm,(bE h.2.1).symm,rfl,_,_,rfl,rfl,hl.symm,h3⟩
 ·rename_i ty sz t j6 kJ E
  simp only[aE]at h
  obtain⟨h1,h2,h3⟩:=h
  split at h3
  ·rename_i E' hE
   have he:=ak.AI (NT hE)
   have hc:An (.arr ty sz t) ⟨false,j6,kJ,E⟩=⟨false,ty,sz,E'⟩:=by simp[An,xaC hE]
   rw[hc]
   exact⟨rfl,(bE h1).symm,(bE h2).symm,by simp only[he],he.symm⟩
  ·cases h3
 ·cases h
theorem Qu9:∀{l:List RT} {pre rs:List Row},BO l rs=true->rs.length=l.length/\∀(i:Nat) r,rs[i]?=some r->∃r',(lH l (pre++rs) pre.length)[i]?=some r'/\tH r r'
 |[],pre,[],_=>⟨rfl,λi r h=>by simp at h⟩
 |s ::l,pre,r::rs,h=>by
  simp only[BO,aE]at h
  obtain⟨h1,h2⟩:=Qu9 (pre:=pre++[r]) h.2
  refine⟨by simp[h1],λi q hq=>?_⟩
  cases i with
  |zero=>
   simp at hq;subst hq
   have:(pre++r::rs).getD pre.length default=r:=by simp[aK]
   exact⟨_,by simp only[lH,this];rfl,Zrh h.1⟩
  |succ i=>
   obtain⟨q',g1,g2⟩:=h2 i q (by simpa using hq)
   refine⟨q',?_,g2⟩
   simp only[lH,List.getElem?_cons_succ]
   simpa using g1
 |[],_,_::_,h=>by simp[BO]at h
 |_::_,_,[],h=>by simp[BO]at h
theorem VP:∀{l:List RT} {rows:List Row} {i:Nat},(lH l rows i).length=l.length
 |[],_,_=>rfl
 |s::l,rows,i=>by simp[lH,VP]
theorem qD:d.mM (λr=>r) true=d:=by
 cases d with
 |gq f cs=>simp only[D.mM,Z5n]
 |_=>simp[D.mM]
theorem VQ:∀{ds:List D},D.mN (λr=>r) true ds=ds
 |[]=>rfl
 |d::l=>by simp[D.mN,qD,VQ (ds:=l)]
theorem xaS:d.jk (λr=>r) true=d:=by
 cases d with
 |agg cs=>show D.agg (D.mN _ true cs)=_;rw[VQ]
 |gq f cs=>exact qD (d:=.gq f cs)
 |_=>simp[D.jk,D.mM]
theorem jK.cells{c:Ctx}{w:World}:∀{ds es:List D} {arr:Array Value} {off:Nat},jK ds es->kU c w ds arr off->kU c w es arr off
 |[],[],_,_,_,_=>trivial
 |d::l,e::m,_,_,h,⟨⟨v,hv,h1⟩,h2⟩=>⟨⟨v,hv,h.1 _ _ _ h1⟩,jK.cells h.2 h2⟩
 |[],_::_,_,_,h,_=>h.elim
 |_::_,[],_,_,h,_=>h.elim
theorem Zd0{c1 c2:Ctx}{w:World}(hn:EK (λ_=>True) (λr=>r) true c1 c2)(hI:∀b,c1.I b->c2.I b):∀{ds:List D} {vs:List Value},kp c1 w ds vs->kp c2 w ds vs
 |[],[],_=>trivial
 |d::ds,v::vs,h=>⟨by have:=QW hn (flat:=False) (.inl hI) (λ_ _=>trivial) (λe=>e.elim) h.1;rwa [xaS]at this,Zd0 hn hI h.2⟩
 |[],_::_,h=>h.elim
 |_::_,[],h=>h.elim
theorem kr.Kz{rows lu:List Row}{aj:List Row}(hs:DL args rm)(hl:lu.length=rows.length)(hr:∀(i:Nat) r,rows[i]?=some r->∃r',lu[i]?=some r'/\tH r r')(h:kr P f rm lu res aj):kr P f args rows res aj:=by
 intro c w vs hm hb hR ha
 let c2:Ctx:={c with R:=λr=>lu[r]? }
 have Se:∀r row,c.R r=some row->∃ao,c2.R r=some ao/\tH row ao:=λr row cq=>by
  rw[hR]at cq;exact hr r row cq
 have wo:∀r ao,c2.R r=some ao->∃row,c.R r=some row/\tH row ao:=λr ao cq=>by
  have cq:lu[r]?=some ao:=cq
  have bz:=(List.getElem?_eq_some_iff.1 cq).1
  have h1:rows[r]?=some rows[r]:=cG (by omega)
  obtain⟨jC,g1,g2⟩:=hr r _ h1
  rw[cq]at g1;cases g1
  exact⟨_,by rw[hR];exact h1,g2⟩
 have hn:EK (λ_=>True) (λr=>r) true c c2:=⟨λi row _ cq=>by
  obtain⟨ao,g1,g2,g3,g4,g5,_⟩:=Se i row cq
  exact⟨ao,g1,g2,g3,g4,g5,rfl,Iff.rfl⟩,λ_=>aO _,aO _⟩
 have Cn:Mem c2 w:=by
  refine⟨λr ao cq=>?_,λr s x y h1 h2 v1 v2 he=>?_,λb iH=>⟨(hm.fu b iH).1,λr x h1 v=>?_⟩,hm.top,hm.kY⟩
  ·obtain⟨row,g1,g2,g3,g4,g5,g6⟩:=wo r ao cq
   rcases hm.row r row g1 with⟨k1,k2,k3,k4⟩|⟨k1,arr,k2,k3,k4⟩
   ·refine .inl ⟨k1,g2.trans k2,?_,by rw[g4];exact k4⟩
    rw[k2]at g6;simp only at g6;rw[g6,k3]
   ·refine .inr ⟨k1,arr,by rw[g3];exact k2,by rw[g4];exact k3,?_⟩
    rw[g2,g4]
    cases Ad:row.box with
    |false=>
     simp only[Ad,aN,if_false]at k4 g6⊢
     rw[g6];exact k4
    |true=>
     simp only[Ad,if_true]at k4 g6⊢
     obtain⟨e,e',q1,q2,q3,q4⟩:=g6
     obtain⟨e0,p1,p2,p3,p4⟩:=k4
     rw[q1]at p1;cases p1
     refine⟨e',q2,by rw[q3];exact p2,p3,?_⟩
     have:=Vk hn (flat:=False) (.inl λb hb=>hb) (λ_ _=>trivial) (λe=>e.elim) (jK.cells q4 p4)
     rwa [VQ]at this
  ·obtain⟨x',g1,_⟩:=wo r x h1
   obtain⟨y',g2,_⟩:=wo s y h2
   exact hm.inj r s x' y' g1 g2 v1 v2 he
  ·obtain⟨x',g1,_⟩:=wo r x h1
   exact(hm.fu b iH).2 r x' g1 v
 refine(h c2 w vs Cn hb (λr=>rfl) (Zd0 hn (λb h=>h) (DL.rep hs ha))).mono λe w' hq=>?_
 obtain⟨v,c',he,hx,j7,hv⟩:=hq
 refine⟨v,c',he,⟨hx.mem,⟨hx.cg.base,hx.cg.top,hx.cg.I,λr row cq=>?_⟩,hx.fr.mono λb _ ⟨r,x,h1,h2,h3⟩=>?_,hx.fu,λr ao h1 h2=>?_⟩,j7,hv⟩
 ·obtain⟨jC,g1,g2,g3,g4,g5,g6⟩:=Se r row cq
  obtain⟨ao,k1,k2,k3,k4,k5,k6,k7,k8⟩:=hx.cg.R r jC g1
  exact⟨ao,k1,k2.trans g2,k3.trans g3,k4.trans g4,k5.trans g5,k6,k7,λnv arr ha=>by rw[<-g3]at ha⊢;exact k8 nv arr ha⟩
 ·obtain⟨x',g1,_⟩:=wo r x h1
  exact⟨r,x',g1,h2,h3⟩
 ·rcases hx.oy r ao h1 h2 with⟨⟨x,nP⟩,h3,h4⟩|h3
  ·obtain⟨x',g1,_⟩:=wo r x nP
   exact .inl ⟨⟨x',g1⟩,h3,h4⟩
  ·exact .inr h3
theorem sV.Kz{rows lu:List Row}{aj:List Row}(hs:DL args rm)(hl:lu.length=rows.length)(hr:∀(i:Nat) r,rows[i]?=some r->∃r',lu[i]?=some r'/\tH r r')(h:sV P f k rm lu res aj):sV P f k args rows res aj:=by
 intro c w vs hm hb hR ha
 let c2:Ctx:={c with R:=λr=>lu[r]? }
 have Se:∀r row,c.R r=some row->∃ao,c2.R r=some ao/\tH row ao:=λr row cq=>by
  rw[hR]at cq;exact hr r row cq
 have wo:∀r ao,c2.R r=some ao->∃row,c.R r=some row/\tH row ao:=λr ao cq=>by
  have cq:lu[r]?=some ao:=cq
  have bz:=(List.getElem?_eq_some_iff.1 cq).1
  have h1:rows[r]?=some rows[r]:=cG (by omega)
  obtain⟨jC,g1,g2⟩:=hr r _ h1
  rw[cq]at g1;cases g1
  exact⟨_,by rw[hR];exact h1,g2⟩
 have hn:EK (λ_=>True) (λr=>r) true c c2:=⟨λi row _ cq=>by
  obtain⟨ao,g1,g2,g3,g4,g5,_⟩:=Se i row cq
  exact⟨ao,g1,g2,g3,g4,g5,rfl,Iff.rfl⟩,λ_=>aO _,aO _⟩
 have Cn:Mem c2 w:=by
  refine⟨λr ao cq=>?_,λr s x y h1 h2 v1 v2 he=>?_,λb iH=>⟨(hm.fu b iH).1,λr x h1 v=>?_⟩,hm.top,hm.kY⟩
  ·obtain⟨row,g1,g2,g3,g4,g5,g6⟩:=wo r ao cq
   rcases hm.row r row g1 with⟨k1,k2,k3,k4⟩|⟨k1,arr,k2,k3,k4⟩
   ·refine .inl ⟨k1,g2.trans k2,?_,by rw[g4];exact k4⟩
    rw[k2]at g6;simp only at g6;rw[g6,k3]
   ·refine .inr ⟨k1,arr,by rw[g3];exact k2,by rw[g4];exact k3,?_⟩
    rw[g2,g4]
    cases Ad:row.box with
    |false=>
     simp only[Ad,aN,if_false]at k4 g6⊢
     rw[g6];exact k4
    |true=>
     simp only[Ad,if_true]at k4 g6⊢
     obtain⟨e,e',q1,q2,q3,q4⟩:=g6
     obtain⟨e0,p1,p2,p3,p4⟩:=k4
     rw[q1]at p1;cases p1
     refine⟨e',q2,by rw[q3];exact p2,p3,?_⟩
     have:=Vk hn (flat:=False) (.inl λb hb=>hb) (λ_ _=>trivial) (λe=>e.elim) (jK.cells q4 p4)
     rwa [VQ]at this
  ·obtain⟨x',g1,_⟩:=wo r x h1
   obtain⟨y',g2,_⟩:=wo s y h2
   exact hm.inj r s x' y' g1 g2 v1 v2 he
  ·obtain⟨x',g1,_⟩:=wo r x h1
   exact(hm.fu b iH).2 r x' g1 v
 refine(h c2 w vs Cn hb (λr=>rfl) (Zd0 hn (λb h=>h) (DL.rep hs ha))).mono (λb hb=>hb) λe w' hq=>?_
 obtain⟨v,c',he,hx,j7,hv⟩:=hq
 rw[hl]at hx
 refine⟨v,c',he,⟨hx.mem,⟨hx.cg.base,hx.cg.top,hx.cg.I,λr row cq=>?_⟩,hx.fr.mono λb _ ⟨r,x,h1,h2,h3⟩=>?_,λb hb=>?_,λr ao h1 h2=>?_⟩,j7,hv⟩
 ·obtain⟨q,ka,DA,rfl⟩:=Q3 cq
  obtain⟨jC,g1,g2,g3,g4,g5,g6⟩:=Se r ka DA
  obtain⟨ao,k1,k2,k3,k4,k5,k6,k7,k8⟩:=hx.cg.R r (jC.kill _) (by simp only[Ctx.kill];rw[if_neg (by rw[q];simp),g1];rfl)
  obtain⟨s1,s2,s3,s4⟩:=wJ (bK k (rows.length-k)) ka
  obtain⟨t1,t2,t3,t4⟩:=wJ (bK k (rows.length-k)) jC
  refine⟨ao,k1,k2.trans (t1.trans (g2.trans s1.symm)),k3.trans (t2.trans (g3.trans s2.symm)),k4.trans (t3.trans (g4.trans s3.symm)),k5.trans (t4.trans (g5.trans s4.symm)),k6,k7,λnv arr ha=>?_⟩
  rw[s2]at ha⊢
  have:=k8 nv arr (by rw[t2,g3];exact ha)
  rw[t2,g3]at this
  exact this
 ·obtain⟨x',g1,_⟩:=wo r x h1
  exact⟨r,x',g1,h2,h3⟩
 ·rcases hx.fu b hb with h|⟨s,x,h1,h2,h3,h4⟩|h
  ·exact .inl h
  ·obtain⟨x',g1,_⟩:=wo s x h2
   exact .inr (.inl ⟨s,x',h1,g1,h3,h4⟩)
  ·exact .inr (.inr h)
 ·rcases hx.oy r ao h1 h2 with⟨⟨x,nP⟩,h3,h4⟩|⟨s,x,q1,q2,q3,q4⟩|h3
  ·obtain⟨x',g1,_⟩:=wo r x nP
   exact .inl ⟨⟨x',g1⟩,h3,h4⟩
  ·obtain⟨x',g1,_⟩:=wo s x q2
   exact .inr (.inl ⟨s,x',q1,g1,q3,q4⟩)
  ·exact .inr (.inr h3)
def EZ(f:FuncId)(refs:List Bool)(flat:Bool)(sig:List PT)(dw:List RT){α:Type}(v:List D->List Row->α)(enc:α->D)(out:α->List Row):bf:=
 ⟨f,refs,flat,λargs rows=>match BN sig args&&BO dw rows with|true=>.abs α (v args rows) enc out|false=>.no,none,false⟩
def mP(f:FuncId)(refs:List Bool)(flat:Bool)(sig:List PT)(dw:List RT)(pre:List D->List Row->Prop){α:Type}(v:List D->List Row->α)(enc:α->D)(out:α->List Row):bf:=
 ⟨f,refs,flat,λargs rows=>match BN sig args&&BO dw rows with|true=>.lX (pre args rows) α (v args rows) enc out|false=>.no,none,false⟩
def bf.fz(x:bf):bf:={x with pw:=true}
theorem Nb{x:bf}(h:bj P x):bj P x.fz:=⟨h.enters,h.real,h.ok,h.when,h.abs,h.lX,h.QL,h.HI⟩
def VR(k:Nat)(f:FuncId)(refs:List Bool)(sig:List PT)(dw:List RT){α:Type}(v:List D->List Row->α)(enc:α->D)(out:α->List Row):bf:=
 ⟨f,refs,false,λargs rows=>match BN sig args&&BO dw rows with|true=>.abs α (v args rows) enc out|false=>.no,some k,false⟩
def mi(k:Nat)(f:FuncId)(refs:List Bool)(sig:List PT)(dw:List RT)(pre:List D->List Row->Prop){α:Type}(v:List D->List Row->α)(enc:α->D)(out:α->List Row):bf:=
 ⟨f,refs,false,λargs rows=>match BN sig args&&BO dw rows with|true=>.lX (pre args rows) α (v args rows) enc out|false=>.no,some k,false⟩
def ak.Ao:ak->Bool
 |.gen _=>false
 |.ax k _=>k.lh
 |_=>true
theorem ak.tI{E:ak}(h:E.Ao=true):E.Ge:=by
 cases E with
 |gen es=>simp[ak.Ao]at h
 |ax k l=>exact h
 |_=>trivial
def DN:D->Bool|.sl _ E fr=>fr&&E.Ao|.iv _ _ _ _=>false|.gq _ _=>false|_=>true
def DO:List D->Bool|[]=>true|d::l=>DN d&&DO l
def KA:D->Bool|.agg cs=>DO cs|d=>DN d
def Gs:List D->Bool|[]=>true|d::l=>KA d&&Gs l
def wA:D->Bool|.dt ds=>Gs ds|d=>KA d
def jO:List Row->Bool
 |[]=>true
 |⟨true,_,_,.gen [e]⟩::l=>DO e&&jO l
 |⟨false,_,_,E⟩::l=>E.Ao&&jO l
 |_=>false
theorem Sf(h:DN d=true):QV d:=by
 cases d<;>first|trivial|(simp[DN]at h;done)|skip
 case sl sz E fr=>simp only[DN,aE]at h;exact⟨.inr h.1,ak.tI h.2⟩
theorem VS:∀{ds:List D},DO ds=true->MV ds
 |[],_=>trivial
 |d::l,h=>by simp only[DO,aE]at h;exact⟨Sf h.1,VS h.2⟩
theorem qaD(h:KA d=true):Vj d:=by
 cases d with
 |agg cs=>exact VS h
 |sl a b c=>exact Sf (d:=.sl a b c) h
 |iv a b c e=>exact Sf (d:=.iv a b c e) h
 |_=>trivial
theorem xD:∀{ds:List D},Gs ds=true->Gf ds
 |[],_=>trivial
 |d::l,h=>by simp only[Gs,aE]at h;exact⟨qaD h.1,xD h.2⟩
theorem qae(h:wA d=true):FF d:=by
 cases d with
 |dt ds=>exact xD h
 |agg cs=>exact VS h
 |sl a b c=>exact Sf (d:=.sl a b c) h
 |iv a b c e=>exact Sf (d:=.iv a b c e) h
 |_=>trivial
theorem VT:∀{rs:List Row},jO rs=true->rR rs
 |[],_=>trivial
 |⟨true,_,_,.gen [e]⟩::l,h=>by
  simp only[jO,aE]at h
  refine⟨?_,VT h.2⟩
  simp only[J7,if_true,ak.l,List.mem_singleton,forall_eq]
  exact VS h.1
 |⟨false,_,_,E⟩::l,h=>by
  simp only[jO,aE]at h
  refine⟨?_,VT h.2⟩
  simp only[J7,aN,if_false]
  exact ak.tI h.1
 |⟨true,_,_,.gen []⟩::l,h=>by simp[jO]at h
 |⟨true,_,_,.gen (_::_::_)⟩::l,h=>by simp[jO]at h
 |⟨true,_,_,.ints _ _⟩::l,h=>by simp[jO]at h
 |⟨true,_,_,.bw _⟩::l,h=>by simp[jO]at h
 |⟨true,_,_,.ax _ _⟩::l,h=>by simp[jO]at h
theorem zae{sig:List PT}{dw:List RT}{rows:List Row}{out:List Row}(hs:(BN sig args&&BO dw rows)=true)(h:kr P f (mw sig args 0) (lH dw rows 0) res out):kr P f args rows res out:=by
 simp only[aE]at hs
 obtain⟨h1,h2⟩:=Qu9 (pre:=[]) hs.2
 exact kr.Kz (Qzw (pre:=[]) hs.1) (by rw[VP,h1]) h2 h
theorem xae{sig:List PT}{dw:List RT}{α:Type}{v:List D->List Row->α}{enc:α->D}{out:α->List Row}(he:∀args w,(callFunc f args).run P w=.ok (.enter f args) w)(h:∀args rows,kr P f (mw sig args 0) (lH dw rows 0) (enc (v args rows)) (out (v args rows)))
 (hf:flat=true->∀X,(wA (enc X)&&jO (out X))=true) (hy:bJ f YB=true:=by rfl):bj P (EZ f refs flat sig dw v enc out):=by
 refine⟨λ_=>he,λ_=>lE hy,λ_ args rows r r' hm=>?_,λ_ args rows p r r' hm=>?_,λ_ args rows α' v' r r' hm=>?_,λ_ args rows p α' v' r r' hm=>?_,λk hk=>(by cases hk),λk hk=>(by cases hk)⟩
 ·simp only[EZ]at hm
  split at hm<;>cases hm
 ·simp only[EZ]at hm
  split at hm<;>cases hm
 ·simp only[EZ]at hm
  split at hm
  ·rename_i hs
   cases hm
   exact⟨zae hs (h args rows),λe=>by have:=hf e (v args rows);simp only[aE]at this;exact⟨qae this.1,VT this.2⟩⟩
  ·cases hm
 ·simp only[EZ]at hm
  split at hm<;>cases hm
theorem Nc{sig:List PT}{dw:List RT}{pre:List D->List Row->Prop}{α:Type}{v:List D->List Row->α}{enc:α->D}{out:α->List Row}(he:∀args w,(callFunc f args).run P w=.ok (.enter f args) w)(h:∀args rows,pre args rows->kr P f (mw sig args 0) (lH dw rows 0) (enc (v args rows)) (out (v args rows)))
 (hf:flat=true->∀X,(wA (enc X)&&jO (out X))=true) (hy:bJ f YB=true:=by rfl):bj P (mP f refs flat sig dw pre v enc out):=by
 refine⟨λ_=>he,λ_=>lE hy,λ_ args rows r r' hm=>?_,λ_ args rows p r r' hm=>?_,λ_ args rows α' v' r r' hm=>?_,λ_ args rows p α' v' r r' hm hp=>?_,λk hk=>(by cases hk),λk hk=>(by cases hk)⟩
 ·simp only[mP]at hm
  split at hm<;>cases hm
 ·simp only[mP]at hm
  split at hm<;>cases hm
 ·simp only[mP]at hm
  split at hm<;>cases hm
 ·simp only[mP]at hm
  split at hm
  ·rename_i hs
   cases hm
   exact⟨zae hs (h args rows hp),λe=>by have:=hf e (v args rows);simp only[aE]at this;exact⟨qae this.1,VT this.2⟩⟩
  ·cases hm
theorem zD{sig:List PT}{dw:List RT}{rows:List Row}{out:List Row}(hs:(BN sig args&&BO dw rows)=true)(h:sV P f k (mw sig args 0) (lH dw rows 0) res out):sV P f k args rows res out:=by
 simp only[aE]at hs
 obtain⟨h1,h2⟩:=Qu9 (pre:=[]) hs.2
 exact sV.Kz (Qzw (pre:=[]) hs.1) (by rw[VP,h1]) h2 h
theorem qaT{sig:List PT}{dw:List RT}{α:Type}{v:List D->List Row->α}{enc:α->D}{out:α->List Row}(he:f<YB->∀args w,(callFunc f args).run P w=.ok (.enter f args) w)(h:∀args rows,sV P f k (mw sig args 0) (lH dw rows 0) (enc (v args rows)) (out (v args rows))):
 bj P (VR k f refs sig dw v enc out):=by
 refine⟨he,λhk=>(by cases hk),λhk=>(by cases hk),λhk=>(by cases hk),λhk=>(by cases hk),λhk=>(by cases hk),λk' hk args rows α' v' r r' hm=>?_,λk' hk args rows p α' v' r r' hm hp=>?_⟩
 ·cases hk
  simp only[VR]at hm
  split at hm
  ·rename_i hs
   cases hm
   exact zD hs (h args rows)
  ·cases hm
 ·simp only[VR]at hm
  split at hm<;>cases hm
theorem zaD{sig:List PT}{dw:List RT}{pre:List D->List Row->Prop}{α:Type}{v:List D->List Row->α}{enc:α->D}{out:α->List Row}(he:f<YB->∀args w,(callFunc f args).run P w=.ok (.enter f args) w)(h:∀args rows,pre args rows->sV P f k (mw sig args 0) (lH dw rows 0) (enc (v args rows)) (out (v args rows))):
 bj P (mi k f refs sig dw pre v enc out):=by
 refine⟨he,λhk=>(by cases hk),λhk=>(by cases hk),λhk=>(by cases hk),λhk=>(by cases hk),λhk=>(by cases hk),λk' hk args rows α' v' r r' hm=>?_,λk' hk args rows p α' v' r r' hm hp=>?_⟩
 ·simp only[mi]at hm
  split at hm<;>cases hm
 ·cases hk
  simp only[mi]at hm
  split at hm
  ·rename_i hs
   cases hm
   exact zD hs (h args rows hp)
  ·cases hm
def df{α β:Type}(v:α)(m:α->β):β:=m v
def nX(α:Type)(x y:α):Prop:=x=y
abbrev rE{α:Type}(x:α):Prop:=x=x
abbrev zM:av:={B0:={X:={a0:=0,a1:=0,a2:=0,a3:=0,a4:=0,a5:=0,a6:=0,a7:=0,a8:=0,a9:=0,kv:=0,ky:=0,a12:=0,kz:=0,kA:=0,kB:=0},Pc:=0,B3:={a0:=0,a1:=0,a2:=0,a3:=0,a4:=0,a5:=0,a6:=0,a7:=0}},Mem:=[],A3:={C9:=[]},A9:={D3:=false,C3:=0,D2:=false},A7:={ag:=0,C2:=0,Frame:=0,B8:=0,D5:=0,B6:=0,B2:=0,B7:=[]},C1:={Frame:=0,D9:=0,C5:=false,B9:=0,B5:=false,F0:=0},A2:={C7:=0,C4:=0},A1:=0,A4:=false,A6:=false}
abbrev mE(m:av)(P Q:Prop):Prop:=rE m.B0.X.a0/\rE m.B0.X.a1/\rE m.B0.X.a2/\rE m.B0.X.a3/\rE m.B0.X.a4/\rE m.B0.X.a5/\rE m.B0.X.a6/\rE m.B0.X.a7/\rE m.B0.X.a8/\rE m.B0.X.a9/\rE m.B0.X.kv/\rE m.B0.X.ky/\rE m.B0.X.a12/\rE m.B0.X.kz/\rE m.B0.X.kA/\rE m.B0.X.kB/\rE m.B0.Pc/\rE m.B0.B3.a0/\rE m.B0.B3.a1/\rE m.B0.B3.a2/\rE m.B0.B3.a3/\rE m.B0.B3.a4/\rE m.B0.B3.a5/\rE m.B0.B3.a6/\rE m.B0.B3.a7/\P/\rE m.A3.C9/\rE m.A9.D3/\rE m.A9.C3/\rE m.A9.D2/\rE m.A7.ag/\rE m.A7.C2/\rE m.A7.Frame/\rE m.A7.B8/\rE m.A7.D5/\rE m.A7.B6/\rE m.A7.B2/\rE m.A7.B7/\rE m.C1.Frame/\rE m.C1.D9/\rE m.C1.C5/\rE m.C1.B9/\rE m.C1.B5/\rE m.C1.F0/\rE m.A2.C7/\rE m.A2.C4/\rE m.A1/\rE m.A4/\rE m.A6/\Q
abbrev mR(f:Nat->D)(M:List Int):av:=(⟨(⟨(⟨(f 0).toInt,(f 1).toInt,(f 2).toInt,(f 3).toInt,(f 4).toInt,(f 5).toInt,(f 6).toInt,(f 7).toInt,(f 8).toInt,(f 9).toInt,(f 10).toInt,(f 11).toInt,(f 12).toInt,(f 13).toInt,(f 14).toInt,(f 15).toInt⟩:(gn Int)),(f 16).toInt,(⟨(f 17).toInt,(f 18).toInt,(f 19).toInt,(f 20).toInt,(f 21).toInt,(f 22).toInt,(f 23).toInt,(f 24).toInt⟩:(A8 Int))⟩:bm),M,(⟨(f 26).toStr⟩:iY),(⟨(f 27).toBool,(f 28).toInt,(f 29).toBool⟩:iZ),(⟨(f 30).toInt,(f 31).toInt,(f 32).toInt,(f 33).toInt,(f 34).toInt,(f 35).toInt,(f 36).toInt,(f 37).toStr⟩:fv),(⟨(f 38).toInt,(f 39).toInt,(f 40).toBool,(f 41).toInt,(f 42).toBool,(f 43).toInt⟩:ik),(⟨(f 44).toInt,(f 45).toInt⟩:iu),(f 46).toInt,(f 47).toBool,(f 48).toBool⟩:av)
abbrev mD(x:av)(d:D):List D:=[.int u32 x.B0.X.a0,.int u32 x.B0.X.a1,.int u32 x.B0.X.a2,.int u32 x.B0.X.a3,.int u32 x.B0.X.a4,.int u32 x.B0.X.a5,.int u32 x.B0.X.a6,.int u32 x.B0.X.a7,.int u32 x.B0.X.a8,.int u32 x.B0.X.a9,.int u32 x.B0.X.kv,.int u32 x.B0.X.ky,.int u32 x.B0.X.a12,.int u32 x.B0.X.kz,.int u32 x.B0.X.kA,.int u32 x.B0.X.kB,.int u32 x.B0.Pc,.int u32 x.B0.B3.a0,.int u32 x.B0.B3.a1,.int u32 x.B0.B3.a2,.int u32 x.B0.B3.a3,.int u32 x.B0.B3.a4,.int u32 x.B0.B3.a5,.int u32 x.B0.B3.a6,.int u32 x.B0.B3.a7,d,.str x.A3.C9,.bool x.A9.D3,.int u32 x.A9.C3,.bool x.A9.D2,.int u32 x.A7.ag,.int u32 x.A7.C2,.int u32 x.A7.Frame,.int i64 x.A7.B8,.int i64 x.A7.D5,.int u32 x.A7.B6,.int u32 x.A7.B2,.str x.A7.B7,.int u32 x.C1.Frame,.int u32 x.C1.D9,.bool x.C1.C5,.int u32 x.C1.B9,.bool x.C1.B5,.int u32 x.C1.F0,.int u32 x.A2.C7,.int u32 x.A2.C4,.int u64 x.A1,.bool x.A4,.bool x.A6]
abbrev mB(f:Nat->D):List D:=[f 0,f 1,f 2,f 3,f 4,f 5,f 6,f 7,f 8,f 9,f 10,f 11,f 12,f 13,f 14,f 15,f 16,f 17,f 18,f 19,f 20,f 21,f 22,f 23,f 24,f 25,f 26,f 27,f 28,f 29,f 30,f 31,f 32,f 33,f 34,f 35,f 36,f 37,f 38,f 39,f 40,f 41,f 42,f 43,f 44,f 45,f 46,f 47,f 48]
abbrev rZ:Prop:=rE (0:Nat)/\rE (0:Nat)
abbrev nR(k:RK)(n:Nat)(x:List (RK.T k)):Prop:=(ak.Nil (ak.ax k x)\/rE n)/\rE x
abbrev aC(l:List D)(n:Nat):List D:=(l.getD n .dead).cells
theorem nY{p:Prop}(h:p:=by((subst_vars;first|trivial|assumption|omega|((simp(config:={decide:=true,failIfUnchanged:=false}) only[aE,Bool.or_eq_true,Bool.and_eq_false_iff,Bool.or_eq_false_iff,Bool.not_eq_true',Bool.not_eq_false',Bool.not_eq_true,Bool.not_eq_false,decide_eq_true_eq,decide_eq_false_iff_not,Q4l,Q2s,Q4j,Q2r,beq_iff_eq,beq_eq_false_iff_ne,bne_iff_ne,bne_eq_false_iff_eq,ne_eq,List.all_cons,List.all_nil,D.plain,List.length_cons,List.length_nil,lA,List.length_set,List.length_replicate,wrap_i64,wrap_u64,wrap_u32,wrap_i32,wrap_u8,true_and,and_true,or_false,false_or,or_true,true_or,not_true_eq_false,not_false_eq_true,Prod.fst,Prod.snd]at*);first|done|assumption|omega)|((simp(config:={decide:=true,failIfUnchanged:=false}) only[aE,Bool.or_eq_true,Bool.and_eq_false_iff,Bool.or_eq_false_iff,Bool.not_eq_true',Bool.not_eq_false',Bool.not_eq_true,Bool.not_eq_false,decide_eq_true_eq,decide_eq_false_iff_not,Q4l,Q2s,Q4j,Q2r,beq_iff_eq,beq_eq_false_iff_ne,bne_iff_ne,bne_eq_false_iff_eq,ne_eq,List.all_cons,List.all_nil,D.plain,List.length_cons,List.length_nil,lA,List.length_set,List.length_replicate,wrap_i64,wrap_u64,wrap_u32,wrap_i32,wrap_u8,true_and,and_true,or_false,false_or,or_true,true_or,not_true_eq_false,not_false_eq_true,Prod.fst,Prod.snd]at*);simp only[<-List.length_pos_iff]at*;omega)|(simp_all;done)|(have:= @Qg5;simp_all;try omega)))):p:=h
def run{α β:Type}[Inhabited β](F:α->α⊕β):Nat->α->β
 |0,_=>default
 |k+1,a=>match F a with|.inl a'=>run F k a'|.inr b=>b
theorem xaD{α β:Type}[Inhabited β]{F:α->α⊕β}{P:α->Prop}{R:β->Prop}{μ:α->Nat}(h:∀a,P a->match F a with|.inl a'=>P a'/\μ a'<μ a|.inr b=>R b):∀k a,P a->μ a<k->R (run F k a):=by
 intro k
 induction k with
 |zero=>intro a _ hk;omega
 |succ k ih=>
  intro a ha hk
  have:=h a ha
  unfold run
  split at this
  ·rename_i a' he;exact ih a' this.1 (by omega)
  ·exact this
inductive Tree:Type->Type 1 where
 |lf {β:Type} (x:β):Tree β
 |nx {β:Type} (f:Prop) (x:β) (h:f:=by first|trivial|(simp[nX];done)|decide|(simp only[and_true,true_and,or_true,true_or,and_self];done)|((repeat'(first|exact True.intro|apply And.intro|exact rfl|exact Or.inr rfl));done)):Tree β
 |br {β:Type} (c:Bool) (t e:Tree β):Tree β
 |cn {β:Type} (c:Bool) (t:Tree β):Tree β
 |fl {β:Type} (c:Bool) (t:Tree β):Tree β
 |an {β:Type} (p:Prop) (t:Tree β):Tree β
 |lv {α β:Type} (x:α) (k:α->Tree β):Tree β
 |lp {α β:Type} (d:Inhabited β) (n:Nat) (f:Prop) (x:α) (t:α->Tree (α⊕β)) (h:f:=by first|trivial|(simp[nX];done)|decide|(simp only[and_true,true_and,or_true,true_or,and_self];done)|((repeat'(first|exact True.intro|apply And.intro|exact rfl|exact Or.inr rfl));done)):Tree β
def Tree.m{β:Type}:Tree β->β
 |.lf x=>x
 |.nx _ x _=>x
 |.br c t e=>cond c t.m e.m
 |.cn _ t=>t.m
 |.fl _ t=>t.m
 |.an _ t=>t.m
 |.lv x k=>df x λy=>(k y).m
 |.lp _ n _ x t _=>run (λy=>(t y).m) n x
def my{α β:Type}(B:α->(α⊕β->Prop)->Prop)(W:β->Prop)(n:Nat)(y:α):Prop:=
 match n with
 |0=>False
 |k+1=>B y (iG (λz=>my B W k z) W)
termination_by n
theorem Z51{α β:Type}{B:α->(α⊕β->Prop)->Prop}{W:β->Prop}{y:α}:my B W 0 y=False:=by rw[my]
theorem Ns{α β:Type}{B:α->(α⊕β->Prop)->Prop}{W:β->Prop}{y:α}:my B W (k+1) y=B y (iG (λz=>my B W k z) W):=by rw[my]
def Tree.w{β:Type}:Tree β->(β->Prop)->Prop
 |.lf x,W=>W x
 |.nx _ x _,W=>W x
 |.br c t e,W=>Ec c (t.w W) (e.w W)
 |.cn c t,W=>cv c (t.w W)
 |.fl c t,W=>Ec c False (t.w W)
 |.an p t,W=>p/\t.w W
 |.lv x k,W=>∀y,y=x->(k y).w W
 |.lp _ n _ x t _,W=>my (λy V=>(t y).w V) W n x
def Tree.q{β:Type}:Tree β->(β->Prop)->Prop
 |.lf x,L=>L x
 |.nx f x _,L=>L x/\f
 |.br c t e,L=>Ec c (t.q L) (e.q L)
 |.cn c t,L=>cv c (t.q L)
 |.fl c t,L=>Ec c False (t.q L)
 |.an p t,L=>p/\t.q L
 |.lv x k,L=>∀y,y=x->(k y).q L
 |.lp (α:=α) _ _ f x t _,L=>∃(wM:α->Prop),∃(ν:α->Nat),wM x/\f/\∀y,wM y->(t y).q (iG (λz=>wM z/\ν z<ν y) L)
theorem Tree.main{β:Type}(t:Tree β):∀{W L E:β->Prop},(∀x,W x->E x->L x)->t.w W->E t.m->t.q L:=by
 induction t with
 |lf x=>intro W L E h hw he;exact h x hw he
 |nx f x hf=>intro W L E h hw he;exact⟨h x hw he,hf⟩
 |br c t e KB KC=>
  intro W L E h hw he
  cases c with
  |true=>exact KB h hw he
  |false=>exact KC h hw he
 |cn c t ih=>intro W L E h hw he;exact db.2 ⟨(db.1 hw).1,ih h (db.1 hw).2 he⟩
 |fl c t ih=>
  intro W L E h hw he
  cases c with
  |true=>exact hw.elim
  |false=>exact ih h hw he
 |an p t ih=>intro W L E h hw he;exact⟨hw.1,ih h hw.2 he⟩
 |lv x k ih=>intro W L E h hw he y hy;subst hy;exact ih y h (hw y rfl) he
 |lp d n f x t hf ih=>
  intro W L E h hw he
  have H:∀k y,my (λy V=>(t y).w V) W k y->E (@run _ _ d (λy=>(t y).m) k y)->∃j,j<k/\k=j+1:=by
   intro k y h1 _
   cases k with
   |zero=>rw[Z51]at h1;exact h1.elim
   |succ k=>exact⟨k,Nat.lt_succ_self k,rfl⟩
  let P:Nat->_->Prop:=λk y=>my (λy V=>(t y).w V) W k y/\E (@run _ _ d (λy=>(t y).m) k y)
  have least:∀y,(∃k,P k y)->∃k,P k y/\∀j,P j y->k<=j:=by
   intro y ⟨k,hk⟩
   induction k using Nat.strongRecOn with
   |ind k ihk=>
    by_cases hj:∃j,j<k/\P j y
    ·obtain⟨j,h1,h2⟩:=hj;exact ihk j h1 h2
    ·exact⟨k,hk,λj h2=>Nat.le_of_not_lt λh1=>hj ⟨j,h1,h2⟩⟩
  have ch:∃ν:_->Nat,∀y,(∃k,P k y)->P (ν y) y/\∀j,P j y->ν y<=j:=Classical.axiomOfChoice (r:=λy k=>(∃k,P k y)->P k y/\∀j,P j y->k<=j) λy=>by
   by_cases hy:∃k,P k y
   ·obtain⟨k,hk⟩:=least y hy;exact⟨k,λ_=>hk⟩
   ·exact⟨0,λh=>absurd h hy⟩
  obtain⟨ν,hν⟩:=ch
  refine⟨λy=>∃k,P k y,ν,⟨n,hw,he⟩,hf,λy hy=>?_⟩
  have Sg:=hν y hy
  generalize AD:ν y=k0 at Sg
  obtain⟨⟨h1,h2⟩,_⟩:=Sg
  obtain⟨j,_,rfl⟩:=H k0 y h1 h2
  rw[Ns]at h1
  refine ih y (E:=iG (λz=>E (@run _ _ d (λy=>(t y).m) j z)) E) ?_ h1 ?_
  ·intro z hz1 hz2
   cases z with
   |inl z=>
    have hz:∃k,P k z:=⟨j,hz1,hz2⟩
    refine⟨hz,?_⟩
    have:=(hν z hz).2 j ⟨hz1,hz2⟩
    show ν z<j+1
    omega
   |inr z=>exact h z hz1 hz2
  ·unfold run at h2
   cases hF:(t y).m with
   |inl z=>rw[hF]at h2;exact h2
   |inr z=>rw[hF]at h2;exact h2
abbrev Tree.p{β:Type}(t:Tree β):Prop:=t.w λ_=>True
theorem Tree.main'{β:Type}{t:Tree β}{L:β->Prop}(hw:t.p)(h:L t.m):t.q L:=t.main (λ_ _ h=>h) hw h
theorem Tree.mono{β:Type}(t:Tree β):∀{W V:β->Prop},(∀x,W x->V x)->t.w W->t.w V:=by
 induction t with
 |lf x=>intro W V h hw;exact h x hw
 |nx f x hf=>intro W V h hw;exact h x hw
 |br c t e KB KC=>
  intro W V h hw
  cases c with
  |true=>exact KB h hw
  |false=>exact KC h hw
 |cn c t ih=>intro W V h hw;exact db.2 ⟨(db.1 hw).1,ih h (db.1 hw).2⟩
 |fl c t ih=>
  intro W V h hw
  cases c with
  |true=>exact hw.elim
  |false=>exact ih h hw
 |an p t ih=>intro W V h hw;exact⟨hw.1,ih h hw.2⟩
 |lv x k ih=>intro W V h hw y hy;exact ih y h (hw y hy)
 |lp d n f x t hf ih=>
  intro W V h hw
  revert x
  show∀x,my (λy V=>(t y).w V) W n x->my (λy V=>(t y).w V) V n x
  induction n with
  |zero=>intro x hw;rw[Z51]at hw;exact hw.elim
  |succ n ihn=>
   intro x hw
   rw[Ns]at hw⊢
   refine ih x (λz hz=>?_) hw
   cases z with
   |inl z=>exact ihn z hz
   |inr z=>exact h z hz
theorem Tree.post{β:Type}(t:Tree β):∀{W:β->Prop},t.w W->W t.m:=by
 induction t with
 |lf x=>intro W hw;exact hw
 |nx f x hf=>intro W hw;exact hw
 |br c t e KB KC=>
  intro W hw
  cases c with
  |true=>exact KB hw
  |false=>exact KC hw
 |cn c t ih=>intro W hw;exact ih (db.1 hw).2
 |fl c t ih=>
  intro W hw
  cases c with
  |true=>exact hw.elim
  |false=>exact ih hw
 |an p t ih=>intro W hw;exact ih hw.2
 |lv x k ih=>intro W hw;exact ih x (hw x rfl)
 |lp d n f x t hf ih=>
  intro W hw
  revert x
  show∀x,my (λy V=>(t y).w V) W n x->W (@run _ _ d (λy=>(t y).m) n x)
  induction n with
  |zero=>intro x hw;rw[Z51]at hw;exact hw.elim
  |succ n ihn=>
   intro x hw
   rw[Ns]at hw
   have:=ih x hw
   unfold run
   cases hF:(t x).m with
   |inl z=>rw[hF]at this;exact ihn z this
   |inr z=>rw[hF]at this;exact this
theorem Tree.pp{β:Type}{t:Tree β}{W:β->Prop}(h:t.w W):t.p/\W t.m:=⟨t.mono (λ_ _=>trivial) h,t.post h⟩
section
variable {α β:Type} {W:β->Prop} {c:Bool} {t e:Tree β}
theorem dc{x:β}(h:W x):(Tree.lf x).w W:=h
theorem ea{f:Prop}{x:β}{hf:f}(h:W x):(Tree.nx f x hf).w W:=h
theorem aa(h:c=true->t.w W)(g:c=false->e.w W):(Tree.br c t e).w W:=Zhh.2 ⟨h,g⟩
theorem au(h:c=true)(g:t.w W):(Tree.cn c t).w W:=db.2 ⟨h,g⟩
theorem Ww(h:c=false)(g:t.w W):(Tree.fl c t).w W:=Zhh.2 ⟨λe=>(by rw[h]at e;cases e),λ_=>g⟩
theorem cj{p:Prop}(h:p)(g:t.w W):(Tree.an p t).w W:=⟨h,g⟩
theorem aq{x:α}{k:α->Tree β}(h:∀y,y=x->(k y).w W):(Tree.lv x k).w W:=h
theorem fi{d:Inhabited β}{n:Nat}{f:Prop}{x:α}{k:α->Tree (α⊕β)}{hf:f}{inv:α->Prop}{μ:α->Nat}(h:inv x)(hn:μ x<n)(g:∀y,inv y->(k y).w (iG (λz=>inv z/\μ z<μ y) W)):(Tree.lp d n f x k hf).w W:=by
 show my (λy V=>(k y).w V) W n x
 revert x
 induction n with
 |zero=>intro x h hn;omega
 |succ n ih=>
  intro x h hn
  rw[Ns]
  refine(k x).mono (λz hz=>?_) (g x h)
  cases z with
  |inl z=>exact ih hz.1 (by have:=hz.2;omega)
  |inr z=>exact hz
end
theorem wL{β:Type}{x:β}:(Tree.lf x).p:=trivial
theorem wB{β:Type}{c:Bool}{t e:Tree β}(h:t.p)(g:e.p):(Tree.br c t e).p:=by cases c<;>assumption
structure wq(T:iM)(G:List bf)(L:Code->St->(Ex->St->Prop)->Prop)(fn:Func)(args:List D)(rows:List Row)(ds:List pS)(Q:D->List Row->Prop):Prop where
 h:nD T G L fn args rows λd R=>sC rows.length ds d R Q
theorem wq.of{G:List bf}{L:Code->St->(Ex->St->Prop)->Prop}{rows:List Row}{Q:D->List Row->Prop}{p:Prop}(e:(nD T G L fn args rows λd R=>sC rows.length ds d R Q)=p)(hl:p):wq T G L fn args rows ds Q:=⟨by rw[e];exact hl⟩
theorem wq.calls(hD:sB P)(hT:jD P T){G:List bf}(hG:j5 P G)(hf:P.funcs[f]?=some fn){rows:List Row}{aj:List Row}
 {rf:Option Nat} (nA:∀code,fn.body=some code->RF rf fn.ntmps code) {L:Code->St->(Ex->St->Prop)->Prop} (hL:∀code st Q,RF rf fn.ntmps code->L code st Q->Tr P fn.ntmps rows.length code st Q) {ds:List pS} (h:wq T G L fn args rows ds λr o=>r=res/\o=aj):kr P f args rows res aj:=
 qaR hD hT hG hf nA hL (λd R hQ=>by obtain⟨r,o,⟨rfl,rfl⟩,hE⟩:=Zal hQ;exact hE) h.h
structure tJ(T:iM)(G:List bf)(L:Code->St->(Ex->St->Prop)->Prop)(fn:Func)(args:List D)(rows:List Row)(k:Nat)(ds:List pS)(Q:D->List Row->Prop):Prop where
 h:Kh T G L fn args rows (λd R=>sC k ds d R Q) k
theorem tJ.of{G:List bf}{L:Code->St->(Ex->St->Prop)->Prop}{rows:List Row}{Q:D->List Row->Prop}{p:Prop}(e:(Kh T G L fn args rows (λd R=>sC k ds d R Q) k)=p)(hl:p):tJ T G L fn args rows k ds Q:=⟨by rw[e];exact hl⟩
theorem tJ.calls(hD:sB P)(hT:jD P T){G:List bf}(hG:j5 P G){rows:List Row}{aj:List Row}{rf:Option Nat}(hf:we P f fn (sQ (pN args++lr rows)=true/\rf=none))(nA:∀code,fn.body=some code->RF rf fn.ntmps code)
 {L:Code->St->(Ex->St->Prop)->Prop} (hL:∀ro,(ro=none\/rf=none)->∀code st Q,RF rf fn.ntmps code->L code st Q->ui ro P fn.ntmps k code st Q) {ds:List pS} (h:tJ T G L fn args rows k ds λr o=>r=res/\o=aj):sV P f k args rows res aj:=
 zaR hD hT hG hf nA hL (λd R hQ=>by obtain⟨r,o,⟨rfl,rfl⟩,hE⟩:=Zal hQ;exact hE) h.h
section
variable {P:Program} {T:iM} {G:List bf} {f:FuncId} {fn:Func} {refs:List Bool} {flat:Bool} {sig:List PT} {dw:List RT} {pre:List D->List Row->Prop} {β:Type} {v:List D->List Row->β} {enc:β->D} {out:β->List Row}
theorem we.imp{cl cl':Prop}(h:we P f fn cl)(g:cl->cl'):we P f fn cl':=by
 cases h with
 |real a b c=>exact .real a b c
 |yield a y d b c e f g1 g2 h i=>exact .yield a y d b c e f g1 g2 h (g i)
 |wg a y q b c e f g1 h i j k=>exact .wg a y q b c e f g1 h i j (g k)
theorem Zb6(rf:Option Nat)(nA:∀code,fn.body=some code->RF rf fn.ntmps code)(hD:sB P)(hT:jD P T)(hG:j5 P G)(hf:P.funcs[f]?=some fn)(t:List D->List Row->Tree β)(ds:List pS)(ia:List (Nat×bn))(dep:Nat)
 (hn:∀args rows Q,(nD T G (Cs T G fn.ntmps dw.length ia rf dep) fn (mw sig args 0) (lH dw rows 0) λd R=>sC dw.length ds d R Q)=(t args rows).q λX=>Q (enc X) (out X)) (hv:∀args rows,(t args rows).m=v args rows) {args:List D} {rows:List Row} (hp:(t args rows).p):
 kr P f (mw sig args 0) (lH dw rows 0) (enc (v args rows)) (out (v args rows)):=by
 have e:(lH dw rows 0).length=dw.length:=VP
 refine wq.calls hD hT hG hf nA (L:=Cs T G fn.ntmps dw.length ia rf dep) (λcode st Q hc hl=>by rw[e];exact wO hD hT hG (.inl rfl) dep _ _ _ hc hl) (ds:=ds) ⟨?_⟩
 rw[e,hn]
 refine Tree.main' hp ?_
 rw[hv]
 exact⟨rfl,rfl⟩
theorem Zm1(rf:Option Nat)(nA:∀code,fn.body=some code->RF rf fn.ntmps code)(hD:sB P)(hT:jD P T)(hG:j5 P G)(hf:we P f fn ((∀args rows,sQ (pN (mw sig args 0)++lr (lH dw rows 0))=true)/\rf=none))(t:List D->List Row->Tree β)(ds:List pS)(ia:List (Nat×bn))(dep:Nat)
 (hn:∀args rows Q,(Kh T G (Cs T G fn.ntmps k ia rf dep) fn (mw sig args 0) (lH dw rows 0) (λd R=>sC k ds d R Q) k)=(t args rows).q λX=>Q (enc X) (out X)) (hv:∀args rows,(t args rows).m=v args rows) {args:List D} {rows:List Row} (hp:(t args rows).p):
 sV P f k (mw sig args 0) (lH dw rows 0) (enc (v args rows)) (out (v args rows)):=by
 refine tJ.calls hD hT hG (hf.imp λh=>⟨h.1 args rows,h.2⟩) nA (L:=Cs T G fn.ntmps k ia rf dep) (λro Ee=>wO hD hT hG Ee dep) (ds:=ds) ⟨?_⟩
 rw[hn]
 refine Tree.main' hp ?_
 rw[hv]
 exact⟨rfl,rfl⟩
theorem qaE(rf:Option Nat)(nA:∀code,fn.body=some code->RF rf fn.ntmps code)(hD:sB P)(hT:jD P T)(hG:j5 P G)(hf:P.funcs[f]?=some fn)(he:∀args w,(callFunc f args).run P w=.ok (.enter f args) w)(t:List D->List Row->Tree β)(ds:List pS)(ia:List (Nat×bn))(dep:Nat)
 (hn:∀args rows Q,(nD T G (Cs T G fn.ntmps dw.length ia rf dep) fn (mw sig args 0) (lH dw rows 0) λd R=>sC dw.length ds d R Q)=(t args rows).q λX=>Q (enc X) (out X)) (hv:∀args rows,(t args rows).m=v args rows)
 (hp:∀args rows,pre args rows->(t args rows).p) (jY:flat=true->∀X,(wA (enc X)&&jO (out X))=true) (hy:bJ f YB=true:=by rfl):bj P (mP f refs flat sig dw pre v enc out):=
 Nc he (λargs rows hw=>Zb6 rf nA hD hT hG hf t ds ia dep hn hv (hp _ _ hw)) jY hy
theorem ue(hD:sB P)(hT:jD P T)(hG:j5 P G)(hf:P.funcs[f]?=some fn)(he:∀args w,(callFunc f args).run P w=.ok (.enter f args) w)(t:List D->List Row->Tree β)(ds:List pS)(ia:List (Nat×bn))(dep:Nat)
 (hn:∀args rows Q,(nD T G (LL T G fn.ntmps dw.length ia dep) fn (mw sig args 0) (lH dw rows 0) λd R=>sC dw.length ds d R Q)=(t args rows).q λX=>Q (enc X) (out X):=by intro _ _ _;kernel_rfl) (hv:∀args rows,(t args rows).m=v args rows:=by exactλ_ _=>rfl)
 (hp:∀args rows,pre args rows->(t args rows).p:=by exactλ_ _ h=>h) (jY:flat=true->∀X,(wA (enc X)&&jO (out X))=true:=by intro _ _;kernel_rfl) (hy:bJ f YB=true:=by rfl):bj P (mP f refs flat sig dw pre v enc out):=
 qaE none (λ_ _=>trivial) hD hT hG hf he t ds ia dep hn hv hp jY hy
theorem zaE(rf:Option Nat)(nA:∀code,fn.body=some code->RF rf fn.ntmps code)(hD:sB P)(hT:jD P T)(hG:j5 P G)(hf:P.funcs[f]?=some fn)(he:∀args w,(callFunc f args).run P w=.ok (.enter f args) w)(t:List D->List Row->Tree β)(ds:List pS)(ia:List (Nat×bn))(dep:Nat)
 (hn:∀args rows Q,(nD T G (Cs T G fn.ntmps dw.length ia rf dep) fn (mw sig args 0) (lH dw rows 0) λd R=>sC dw.length ds d R Q)=(t args rows).q λX=>Q (enc X) (out X)) (hv:∀args rows,(t args rows).m=v args rows)
 (hp:∀args rows,(t args rows).p) (jY:flat=true->∀X,(wA (enc X)&&jO (out X))=true) (hy:bJ f YB=true:=by rfl):bj P (EZ f refs flat sig dw v enc out):=
 xae he (λargs rows=>Zb6 rf nA hD hT hG hf t ds ia dep hn hv (hp _ _)) jY hy
theorem Q11(hD:sB P)(hT:jD P T)(hG:j5 P G)(hf:P.funcs[f]?=some fn)(he:∀args w,(callFunc f args).run P w=.ok (.enter f args) w)(t:List D->List Row->Tree β)(ds:List pS)(ia:List (Nat×bn))(dep:Nat)
 (hn:∀args rows Q,(nD T G (LL T G fn.ntmps dw.length ia dep) fn (mw sig args 0) (lH dw rows 0) λd R=>sC dw.length ds d R Q)=(t args rows).q λX=>Q (enc X) (out X):=by intro _ _ _;kernel_rfl) (hv:∀args rows,(t args rows).m=v args rows:=by exactλ_ _=>rfl)
 (hp:∀args rows,(t args rows).p:=by intro _ _;exact Tree.wC (by kernel_rfl)) (jY:flat=true->∀X,(wA (enc X)&&jO (out X))=true:=by intro _ _;kernel_rfl) (hy:bJ f YB=true:=by rfl):bj P (EZ f refs flat sig dw v enc out):=
 zaE none (λ_ _=>trivial) hD hT hG hf he t ds ia dep hn hv hp jY hy
theorem qW(rf:Option Nat)(nA:∀code,fn.body=some code->RF rf fn.ntmps code)(hD:sB P)(hT:jD P T)(hG:j5 P G)(hf:we P f fn ((∀args rows,sQ (pN (mw sig args 0)++lr (lH dw rows 0))=true)/\rf=none))(he:f<YB->∀args w,(callFunc f args).run P w=.ok (.enter f args) w)(t:List D->List Row->Tree β)(ds:List pS)(ia:List (Nat×bn))(dep:Nat)
 (hn:∀args rows Q,(Kh T G (Cs T G fn.ntmps k ia rf dep) fn (mw sig args 0) (lH dw rows 0) (λd R=>sC k ds d R Q) k)=(t args rows).q λX=>Q (enc X) (out X)) (hv:∀args rows,(t args rows).m=v args rows)
 (hp:∀args rows,pre args rows->(t args rows).p):bj P (mi k f refs sig dw pre v enc out):=
 zaD he (λargs rows hw=>Zm1 rf nA hD hT hG hf t ds ia dep hn hv (hp _ _ hw))
theorem ES(hD:sB P)(hT:jD P T)(hG:j5 P G)(hf:P.funcs[f]?=some fn)(he:∀args w,(callFunc f args).run P w=.ok (.enter f args) w)(t:List D->List Row->Tree β)(ds:List pS)(ia:List (Nat×bn))(dep:Nat)
 (hn:∀args rows Q,(Kh T G (LL T G fn.ntmps k ia dep) fn (mw sig args 0) (lH dw rows 0) (λd R=>sC k ds d R Q) k)=(t args rows).q λX=>Q (enc X) (out X)) (hv:∀args rows,(t args rows).m=v args rows)
 (hp:∀args rows,pre args rows->(t args rows).p) (hy:bJ f YB=true:=by rfl) (hb:Nat.ble YB fn.nfree=false:=by rfl):bj P (mi k f refs sig dw pre v enc out):=
 qW none (λ_ _=>trivial) hD hT hG (.real (lE hy) hf hb) (λ_=>he) t ds ia dep hn hv hp
theorem yD(h:bj P (mP f refs flat sig dw pre v enc out)){rows:List Row}(hs:(BN sig args&&BO dw rows)=true)(hw:pre args rows):kr P f args rows (enc (v args rows)) (out (v args rows)):=
 (h.lX rfl args rows (pre args rows) β (v args rows) enc out (by simp only[mP,hs]) hw).1
end
def Tree.rp{β:Type}:Tree β->Bool
 |.lf _=>true
 |.br _ t e=>t.rp&&e.rp
 |.lv x k=>(k x).rp
 |_=>false
theorem Tree.wC{β:Type}{t:Tree β}(h:t.rp=true):t.p:=by
 induction t with
 |lf x=>trivial
 |br c t e KB KC=>
  simp only[Tree.rp,aE]at h
  cases c with
  |true=>exact KB h.1
  |false=>exact KC h.2
 |lv x k ih=>intro y hy;subst hy;exact ih _ h
 |_=>simp[Tree.rp]at h
theorem j5.nil:j5 P []:=λx hx=>by cases hx
theorem j5.cons{x:bf}{G:List bf}(h:bj P x)(g:j5 P G):j5 P (x::G):=λy hy=>by
 simp only[List.mem_cons]at hy
 rcases hy with rfl|hy
 ·exact h
 ·exact g y hy

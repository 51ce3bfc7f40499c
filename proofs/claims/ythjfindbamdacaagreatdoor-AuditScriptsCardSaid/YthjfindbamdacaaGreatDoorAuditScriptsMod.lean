import Derived.Test.YthjfindbamdacaaGreatDoorAuditScriptsFc
open Nat renaming blt->bJ,beq->bT,le_refl->aO
open List renaming map_cons->fR,getD->aK,getElem?_eq_getElem->cG,range'->bK,all_cons->iF,all_nil->iG,length_cons->dI,length_nil->dJ,length_set->dH,length_replicate->cV
open Bool renaming false_eq_true->aN,or_eq_true->aI,and_eq_false_iff->iA,or_eq_false_iff->iB,not_eq_true'->aS,not_eq_false'->iC,not_eq_true->iD,not_eq_false->iE
open Sum renaming elim->iH
set_option linter.all false
namespace Go.GD
open Go
open Go.IntKind(i64 u32 u64 wrap_i64 wrap_u32 wrap_u64 wrap_u8 wrap_i32)
def lk(st:St)(t:Nat):D:=look st.env t
def rN(st:St)(t:Nat):Nat:=lz (look st.env t) 1000000
def cT(st:St)(t j:Nat):D:=iS st.rows (lz (look st.env t) 1000000) j
def rX(st:St)(t k:Nat):Nat:=lz (look st.env t) (st.rows.length+k)
theorem Qhi{α:Type}{l:List α}(h:l≠[]):0<l.length:=by cases l<;>simp_all
theorem Q5b{a b:Nat}:bJ a b=true↔a<b:=by simp[bJ,Nat.lt_iff_add_one_le]
theorem Q3a{a b:Nat}:bJ a b=false↔ ¬a<b:=by have:= @Q5b a b;cases h:bJ a b<;>simp_all
theorem Q57{a b:Nat}:bT a b=true↔a=b:=iff_of_eq Nat.beq_eq
theorem Q39{a b:Nat}:bT a b=false↔ ¬a=b:=by have:= @Q57 a b;cases h:bT a b<;>simp_all
def gz(d e:D):Prop:=∀c w v,cv c w d v->cv c w e v
def jG:List D->List D->Prop
 |[],[]=>True
 |d::l,e::m=>gz d e/\jG l m
 |_,_=>False
def tp:D->D->Prop
 |.agg cs,.agg ds=>jG cs ds
 |.agg _,_=>False
 |d,e=>gz d e
def Dr:List D->List D->Prop
 |[],[]=>True
 |d::l,e::m=>tp d e/\Dr l m
 |_,_=>False
theorem gz.rfl{d:D}:gz d d:=λ_ _ _ h=>h
theorem gz.ints{k:IntKind}{s:Nat}{E:ao}{fr:Bool}{l:List Int}(h:E.toI k=some l):gz (.sl s E fr) (.sl 1 (.ints k l) false):=by
 intro c w v hv
 have he:=ao.toI_l h
 obtain⟨a,cap,hv,hc,ij⟩:=hv
 rw[he]at hv hc ij
 refine⟨a,cap,hv,hc,?_⟩
 rcases ij with ij|⟨b,off,arr,ty,fz,ha,hI,hf,hh,hE⟩
 ·exact .inl ij
 ·cases l with
  |nil=>exact .inl (by simp[ao.l])
  |cons n l=>
   have h1:s=1:=by
    simp only[ao.l,fR,pN,oi]at hE
    exact hE.1.symm
   subst h1
   exact .inr ⟨b,off,arr,ty,fz,ha,hI,(λe=>by cases e),hh,hE⟩
theorem gz.bo{s:Nat}{E:ao}{fr:Bool}{l:List Bool}(h:E.toB=some l):gz (.sl s E fr) (.sl 1 (.bo l) false):=by
 intro c w v hv
 have he:=ao.toB_l h
 obtain⟨a,cap,hv,hc,ij⟩:=hv
 rw[he]at hv hc ij
 refine⟨a,cap,hv,hc,?_⟩
 rcases ij with ij|⟨b,off,arr,ty,fz,ha,hI,hf,hh,hE⟩
 ·exact .inl ij
 ·cases l with
  |nil=>exact .inl (by simp[ao.l])
  |cons n l=>
   have h1:s=1:=by
    simp only[ao.l,fR,pN,oi]at hE
    exact hE.1.symm
   subst h1
   exact .inr ⟨b,off,arr,ty,fz,ha,hI,(λe=>by cases e),hh,hE⟩
theorem jG.rep{c:Ctx}{w:World}:∀{ds es:List D} {vs:List Value},jG ds es->jm c w ds vs->jm c w es vs
 |[],[],[],_,_=>trivial
 |d::l,e::m,v::vs,h,hr=>⟨h.1 _ _ _ hr.1,jG.rep h.2 hr.2⟩
 |[],_::_,_,h,_=>h.elim
 |_::_,[],_,h,_=>h.elim
 |[],[],_::_,_,hr=>hr.elim
 |_::_,_::_,[],_,hr=>hr.elim
theorem tp.rep{c:Ctx}{w:World}{d e:D}{v:Value}(h:tp d e)(hr:VRep c w d v):VRep c w e v:=by
 cases d with
 |agg cs=>
  cases e with
  |agg ds=>obtain⟨vs,hv,hx⟩:=hr;exact⟨vs,hv,jG.rep h hx⟩
  |_=>exact h.elim
 |_=>
  have h1:=VRep.toC (λcs e=>by cases e) hr
  have h2:gz _ e:=h
  exact VRep.EK (h2 _ _ _ h1)
theorem Dr.rep{c:Ctx}{w:World}:∀{ds es:List D} {vs:List Value},Dr ds es->j8 c w ds vs->j8 c w es vs
 |[],[],[],_,_=>trivial
 |d::l,e::m,v::vs,h,hr=>⟨tp.rep h.1 hr.1,Dr.rep h.2 hr.2⟩
 |[],_::_,_,h,_=>h.elim
 |_::_,[],_,h,_=>h.elim
 |[],[],_::_,_,hr=>hr.elim
 |_::_,_::_,[],_,hr=>hr.elim
theorem j9.sub{P:Program}{f:FuncId}{args ny:List D}{rows:List Row}{res:D}{aj:List Row}(hs:Dr args ny)(h:j9 P f ny rows res aj):j9 P f args rows res aj:=
 λc w vs hm hb hR ha=>h c w vs hm hb hR (Dr.rep hs ha)
theorem gz.av{k:RK}{s:Nat}{E:ao}{fr:Bool}{l:List (RK.T k)}(h:E.toR k=some l):gz (.sl s E fr) (.sl k.size (.av k l) false):=by
 intro c w v hv
 have he:=ao.toR_l h
 obtain⟨a,cap,hv,hc,ij⟩:=hv
 rw[he]at hv hc ij
 refine⟨a,cap,hv,hc,?_⟩
 rcases ij with ij|⟨b,off,arr,ty,fz,ha,hI,hf,hh,hE⟩
 ·exact .inl ij
 ·cases l with
  |nil=>exact .inl (by simp[ao.l])
  |cons x l=>
   have h1:s=k.size:=by
    simp only[ao.l,fR,oi]at hE
    rw[<-hE.1];exact RK.rH k x
   subst h1
   exact .inr ⟨b,off,arr,ty,fz,ha,hI,(λe=>by cases e),hh,hE⟩
theorem gz.Dt{s:Nat}{E:ao}(h:E.l=[]):gz .du (.sl s E false):=by
 intro c w v hv
 exact⟨none,0,by rw[h];exact hv,by rw[h];exact aO _,.inl h⟩
theorem gz.Kf{s:Nat}{E:ao}(h:E.l=[]):gz .emp (.sl s E false):=by
 intro c w v hv
 obtain⟨a,hv,_⟩:=hv
 exact⟨a,0,by rw[h];exact hv,by rw[h];exact aO _,.inl h⟩
def Bi:List (Nat×Nat×Nat)->List (Nat×Nat×Nat)->Bool
 |[],[]=>true
 |(a,b,c)::l,(x,y,z)::m=>bT a x&&(bT b y&&(bT c z&&Bi l m))
 |_,_=>false
def tq:List iv->List iv->Bool
 |[],[]=>true
 |.ptr a b c::l,.ptr x y z::m=>bT a x&&(bT b y&&(bT c z&&tq l m))
 |.fn f ps::l,.fn g qs::m=>bT f g&&(Bi ps qs&&tq l m)
 |_,_=>false
theorem zB:∀{l m:List (Nat×Nat×Nat)},Bi l m=true->l=m
 |[],[],_=>rfl
 |(a,b,c)::l,(x,y,z)::m,h=>by
  simp only[Bi,aE]at h
  rw[bE h.1,bE h.2.1,bE h.2.2.1,zB h.2.2.2]
 |[],_::_,h=>by simp[Bi]at h
 |_::_,[],h=>by simp[Bi]at h
theorem yB:∀{l m:List iv},tq l m=true->l=m:=by
 intro l
 induction l with
 |nil=>intro m h;cases m with
  |nil=>rfl
  |cons _ _=>simp[tq]at h
 |cons a l ih=>
  intro m h
  cases m with
  |nil=>cases a<;>simp[tq]at h
  |cons b m=>
   cases a<;>cases b<;>simp only[tq,aE,aN]at h
   ·rw[bE h.1,bE h.2.1,bE h.2.2.1,ih h.2.2.2]
   ·rw[bE h.1,zB h.2.1,ih h.2.2]
def Bj:CT->D->Bool
 |.int k,.int j _=>decide (j=k)
 |.bool,.bool _=>true
 |.str,.str _=>true
 |.ints k,.sl _ E _=>(match E.toI k with|some _=>true|none=>false)
 |.bo,.sl _ E _=>(match E.toB with|some _=>true|none=>false)
 |.av k,.sl _ E _=>(match E.toR k with|some _=>true|none=>false)
 |.ints _,.du=>true
 |.bo,.du=>true
 |.av _,.du=>true
 |.ints _,.emp=>true
 |.bo,.emp=>true
 |.av _,.emp=>true
 |.row i,.all r=>bT r i
 |.nil,.sl s (.gen []) false=>bT s 0
 |.Il,.du=>true
 |.self _,.iM=>true
 |.gq f cs,.gq g ds=>bT g f&&tq ds cs
 |.self i,.c8 r=>bT r i
 |.self i,.ptr r o f=>bT r i&&(bT o 0&&bT f 0)
 |.pt i a b,.ptr r o f=>bT r i&&(bT o a&&bT f b)
 |_,_=>false
inductive PT where
 |one (t:CT)
 |agg (ts:List CT)
 |ptr (i:Nat)
 |gq (f:Nat) (cs:List iv)
inductive RT where
 |box (ty sz:Nat) (ts:List CT)
 |arr (ty sz:Nat) (t:CT)
def Kg:List CT->List D->Bool
 |[],[]=>true
 |t::ts,d::ds=>Bj t d&&Kg ts ds
 |_,_=>false
def uW:PT->D->Bool
 |.agg ts,.agg cs=>Kg ts cs
 |.one t,d=>Bj t d
 |.ptr i,.ptr r j o=>bT r i&&(bT j 0&&bT o 0)
 |.gq f cs,.gq g ds=>bT g f&&tq ds cs
 |_,_=>false
def HX:PT->D->D
 |.agg ts,d=>.agg (wg ts d.cells 0)
 |.one t,d=>DG t d
 |.ptr i,_=>.ptr i 0 0
 |.gq f cs,_=>.gq f cs
def BB:List PT->List D->Bool
 |[],[]=>true
 |s::l,d::ds=>uW s d&&BB l ds
 |_,_=>false
def Qe:List PT->List D->Nat->List D
 |[],_,_=>[]
 |s::l,args,i=>HX s (args.getD i .dead)::Qe l args (i+1)
def Row.cs(r:Row):List D:=match r.es with|.gen [e]=>e|_=>[]
def uX:RT->Row->Bool
 |.box ty sz ts,⟨true,jU,kB,.gen [e]⟩=>bT jU ty&&(bT kB sz&&Kg ts e)
 |.arr ty sz t,⟨false,jU,kB,E⟩=>bT jU ty&&(bT kB sz&&(match toCT t E with|some _=>true|none=>false))
 |_,_=>false
def RO(t:CT)(E:ao):ao:=match t with
 |.ints k=>.ints k (match E.toI k with|some l=>l|none=>[])
 |.bo=>.bo (match E.toB with|some l=>l|none=>[])
 |.av k=>.av k (match E.toR k with|some l=>l|none=>[])
 |_=>.gen []
theorem zaC{t:CT}{E E':ao}(h:toCT t E=some E'):RO t E=E':=by
 cases t with
 |ints k=>
  simp only[toCT]at h
  split at h
  ·rename_i l hl
   cases h
   show ao.ints k (match E.toI k with|some l=>l|none=>[])=_
   rw[hl]
  ·cases h
 |bo=>
  simp only[toCT]at h
  split at h
  ·rename_i l hl
   cases h
   show ao.bo (match E.toB with|some l=>l|none=>[])=_
   rw[hl]
  ·cases h
 |av k=>
  simp only[toCT]at h
  split at h
  ·rename_i l hl
   cases h
   show ao.av k (match E.toR k with|some l=>l|none=>[])=_
   rw[hl]
  ·cases h
 |_=>simp[toCT]at h
def Ac:RT->Row->Row
 |.box ty sz ts,r=>⟨true,ty,sz,.gen [wg ts r.cs 0]⟩
 |.arr ty sz t,r=>⟨false,ty,sz,RO t r.es⟩
def BC:List RT->List Row->Bool
 |[],[]=>true
 |s::l,r::rs=>uX s r&&BC l rs
 |_,_=>false
def lr:List RT->List Row->Nat->List Row
 |[],_,_=>[]
 |s::l,rows,i=>Ac s (rows.getD i default)::lr l rows (i+1)
def aq(args:List D)(i:Nat):Int:=(args.getD i .dead).toInt
def uY(args:List D)(i:Nat):Bool:=(args.getD i .dead).toBool
def iq(args:List D)(i:Nat):List UInt8:=(args.getD i .dead).toStr
def eh(k:IntKind)(args:List D)(i:Nat):List Int:=nE k (args.getD i .dead)
def jh(k:RK)(args:List D)(i:Nat):List (RK.T k):=tB k (args.getD i .dead)
def nV(rows:List Row)(i j:Nat):D:=((rows.getD i default).cs.getD j .dead)
def gj(k:IntKind)(rows:List Row)(i:Nat):List Int:=match(rows.getD i default).es.toI k with|some l=>l|none=>[]
def jM(k:RK)(rows:List Row)(i:Nat):List (RK.T k):=match(rows.getD i default).es.toR k with|some l=>l|none=>[]
theorem Z9w{t:CT}{d:D}(h:Bj t d=true):gz d (DG t d):=by
 cases t<;>cases d<;>(try(simp[Bj]at h;done))
 case int.int=>simp[Bj]at h;subst h;exact gz.rfl
 case nil.sl s E fr=>
  unfold Bj at h
  split at h<;>simp_all
  exact gz.rfl
 case Il.du=>exact gz.rfl
 case bool.bool=>exact gz.rfl
 case str.str=>exact gz.rfl
 case ints.sl k sz E fr=>
  simp only[Bj]at h
  split at h
  ·rename_i l hl
   simp only[DG,nE,hl]
   exact gz.ints hl
  ·cases h
 case ints.du=>exact gz.Dt rfl
 case ints.emp=>exact gz.Kf rfl
 case bo.sl sz E fr=>
  simp only[Bj]at h
  split at h
  ·rename_i l hl
   simp only[DG,SE,hl]
   exact gz.bo hl
  ·cases h
 case bo.du=>exact gz.Dt rfl
 case bo.emp=>exact gz.Kf rfl
 case av.sl k sz E fr=>
  simp only[Bj]at h
  split at h
  ·rename_i l hl
   simp only[DG,tB,hl]
   exact gz.av hl
  ·cases h
 case av.du=>exact gz.Dt rfl
 case av.emp=>exact gz.Kf rfl
 case row.all i r=>rw[bE h];exact gz.rfl
 case gq.gq f cs g ds=>
  simp only[Bj,aE]at h
  rw[bE h.1,yB h.2]
  exact gz.rfl
 case self.iM i=>exactλc w v hv=>.inl hv
 case self.c8 i r=>rw[bE h];exact gz.rfl
 case self.ptr i r o f=>
  simp only[Bj,aE]at h
  rw[bE h.1,bE h.2.1,bE h.2.2]
  exactλc w v hv=>.inr hv
 case pt.ptr i a b r o f=>
  simp only[Bj,aE]at h
  rw[bE h.1,bE h.2.1,bE h.2.2]
  exact gz.rfl
theorem Qx8:∀{ts:List CT} {pre ds:List D},Kg ts ds=true->jG ds (wg ts (pre++ds) pre.length)
 |[],pre,[],_=>trivial
 |t::ts,pre,d::ds,h=>by
  simp only[Kg,aE]at h
  have h2:=Qx8 (pre:=pre++[d]) h.2
  simp only[wg]
  refine⟨?_,by simpa using h2⟩
  have:(pre++d::ds).getD pre.length .dead=d:=by simp[aK]
  rw[this];exact Z9w h.1
 |[],_,_::_,h=>by simp[Kg]at h
 |_::_,_,[],h=>by simp[Kg]at h
theorem tp.of1{d e:D}(hd:∀cs,d≠.agg cs)(h:gz d e):tp d e:=by
 cases d<;>first|exact h|exact absurd rfl (hd _)
theorem Zo5{s:PT}{d:D}(h:uW s d=true):tp d (HX s d):=by
 unfold uW at h
 split at h
 ·rename_i ts cs
  exact Qx8 (pre:=[]) h
 ·rename_i t d
  refine tp.of1 (λcs e=>?_) (Z9w h)
  subst e
  cases t<;>simp[Bj]at h
 ·rename_i i r j o
  simp only[aE]at h
  rw[bE h.1,bE h.2.1,bE h.2.2]
  exact gz.rfl
 ·rename_i f cs g ds
  simp only[aE]at h
  rw[bE h.1,yB h.2]
  exact gz.rfl
 ·cases h
theorem Qwc:∀{l:List PT} {pre ds:List D},BB l ds=true->Dr ds (Qe l (pre++ds) pre.length)
 |[],pre,[],_=>trivial
 |s::l,pre,d::ds,h=>by
  simp only[BB,aE]at h
  have h2:=Qwc (pre:=pre++[d]) h.2
  simp only[Qe]
  refine⟨?_,by simpa using h2⟩
  have:(pre++d::ds).getD pre.length .dead=d:=by simp[aK]
  rw[this];exact Zo5 h.1
 |[],_,_::_,h=>by simp[BB]at h
 |_::_,_,[],h=>by simp[BB]at h
def tt(a b:Row):Prop:=b.box=a.box/\b.ty=a.ty/\b.sz=a.sz/\b.es.l.length=a.es.l.length/\match a.box with
 |true=>∃e e',a.es=.gen [e]/\b.es=.gen [e']/\e'.length=e.length/\jG e e'
 |false=>b.es.l=a.es.l
theorem jG.length:∀{ds es:List D},jG ds es->ds.length=es.length
 |[],[],_=>rfl
 |_::_,_::_,h=>by simp[jG.length h.2]
 |[],_::_,h=>h.elim
 |_::_,[],h=>h.elim
theorem Zqa{s:RT}{r:Row}(h:uX s r=true):tt r (Ac s r):=by
 unfold uX at h
 split at h
 ·rename_i ty sz ts jU kB e
  simp only[aE]at h
  have h3:=Qx8 (pre:=[]) h.2.2
  have hl:=h3.length
  exact⟨rfl,(bE h.1).symm,(bE h.2.1).symm,rfl,_,_,rfl,rfl,hl.symm,h3⟩
 ·rename_i ty sz t jU kB E
  simp only[aE]at h
  obtain⟨h1,h2,h3⟩:=h
  split at h3
  ·rename_i E' hE
   have he:=ao.Aw (NB hE)
   have hc:Ac (.arr ty sz t) ⟨false,jU,kB,E⟩=⟨false,ty,sz,E'⟩:=by simp[Ac,zaC hE]
   rw[hc]
   exact⟨rfl,(bE h1).symm,(bE h2).symm,by simp only[he],he.symm⟩
  ·cases h3
 ·cases h
theorem Qsa:∀{l:List RT} {pre rs:List Row},BC l rs=true->rs.length=l.length/\∀(i:Nat) r,rs[i]?=some r->∃r',(lr l (pre++rs) pre.length)[i]?=some r'/\tt r r'
 |[],pre,[],_=>⟨rfl,λi r h=>by simp at h⟩
 |s ::l,pre,r::rs,h=>by
  simp only[BC,aE]at h
  obtain⟨h1,h2⟩:=Qsa (pre:=pre++[r]) h.2
  refine⟨by simp[h1],λi q hq=>?_⟩
  cases i with
  |zero=>
   simp at hq;subst hq
   have:(pre++r::rs).getD pre.length default=r:=by simp[aK]
   exact⟨_,by simp only[lr,this];rfl,Zqa h.1⟩
  |succ i=>
   obtain⟨q',g1,g2⟩:=h2 i q (by simpa using hq)
   refine⟨q',?_,g2⟩
   simp only[lr,List.getElem?_cons_succ]
   simpa using g1
 |[],_,_::_,h=>by simp[BC]at h
 |_::_,_,[],h=>by simp[BC]at h
theorem Vv:∀{l:List RT} {rows:List Row} {i:Nat},(lr l rows i).length=l.length
 |[],_,_=>rfl
 |s::l,rows,i=>by simp[lr,Vv]
theorem vB{d:D}:d.mF (λr=>r) true=d:=by
 cases d with
 |gq f cs=>simp only[D.mF,Zy]
 |_=>simp[D.mF]
theorem Vw:∀{ds:List D},D.mG (λr=>r) true ds=ds
 |[]=>rfl
 |d::l=>by simp[D.mG,vB,Vw (ds:=l)]
theorem xaR{d:D}:d.jg (λr=>r) true=d:=by
 cases d with
 |agg cs=>show D.agg (D.mG _ true cs)=_;rw[Vw]
 |gq f cs=>exact vB (d:=.gq f cs)
 |_=>simp[D.jg,D.mF]
theorem jG.cells{c:Ctx}{w:World}:∀{ds es:List D} {arr:Array Value} {off:Nat},jG ds es->kK c w ds arr off->kK c w es arr off
 |[],[],_,_,_,_=>trivial
 |d::l,e::m,_,_,h,⟨⟨v,hv,h1⟩,h2⟩=>⟨⟨v,hv,h.1 _ _ _ h1⟩,jG.cells h.2 h2⟩
 |[],_::_,_,_,h,_=>h.elim
 |_::_,[],_,_,h,_=>h.elim
theorem Zbp{c1 c2:Ctx}{w:World}(hn:Em (λ_=>True) (λr=>r) true c1 c2)(hI:∀b,c1.I b->c2.I b):∀{ds:List D} {vs:List Value},j8 c1 w ds vs->j8 c2 w ds vs
 |[],[],_=>trivial
 |d::ds,v::vs,h=>⟨by have:=QA hn (flat:=False) (.inl hI) (λ_ _=>trivial) (λe=>e.elim) h.1;rwa [xaR]at this,Zbp hn hI h.2⟩
 |[],_::_,h=>h.elim
 |_::_,[],h=>h.elim
theorem j9.Kh{P:Program}{f:FuncId}{args ny:List D}{rows kY:List Row}{res:D}{aj:List Row}(hs:Dr args ny)(hl:kY.length=rows.length)(hr:∀(i:Nat) r,rows[i]?=some r->∃r',kY[i]?=some r'/\tt r r')(h:j9 P f ny kY res aj):j9 P f args rows res aj:=by
 intro c w vs hm hb hR ha
 let c2:Ctx:={c with R:=λr=>kY[r]? }
 have RP:∀r row,c.R r=some row->∃ak,c2.R r=some ak/\tt row ak:=λr row cb=>by
  rw[hR]at cb;exact hr r row cb
 have uZ:∀r ak,c2.R r=some ak->∃row,c.R r=some row/\tt row ak:=λr ak cb=>by
  have cb:kY[r]?=some ak:=cb
  have cg:=(List.getElem?_eq_some_iff.1 cb).1
  have h1:rows[r]?=some rows[r]:=cG (by omega)
  obtain⟨jy,g1,g2⟩:=hr r _ h1
  rw[cb]at g1;cases g1
  exact⟨_,by rw[hR];exact h1,g2⟩
 have hn:Em (λ_=>True) (λr=>r) true c c2:=⟨λi row _ cb=>by
  obtain⟨ak,g1,g2,g3,g4,g5,_⟩:=RP i row cb
  exact⟨ak,g1,g2,g3,g4,g5,rfl,Iff.rfl⟩,λ_=>aO _,aO _⟩
 have Ca:Mem c2 w:=by
  refine⟨λr ak cb=>?_,λr s x y h1 h2 v1 v2 he=>?_,λb iI=>⟨(hm.fu b iI).1,λr x h1 v=>?_⟩,hm.top,hm.kN⟩
  ·obtain⟨row,g1,g2,g3,g4,g5,g6⟩:=uZ r ak cb
   rcases hm.row r row g1 with⟨k1,k2,k3,k4⟩|⟨k1,arr,k2,k3,k4⟩
   ·refine .inl ⟨k1,g2.trans k2,?_,by rw[g4];exact k4⟩
    rw[k2]at g6;simp only at g6;rw[g6,k3]
   ·refine .inr ⟨k1,arr,by rw[g3];exact k2,by rw[g4];exact k3,?_⟩
    rw[g2,g4]
    cases wX:row.box with
    |false=>
     simp only[wX,aN,if_false]at k4 g6⊢
     rw[g6];exact k4
    |true=>
     simp only[wX,if_true]at k4 g6⊢
     obtain⟨e,e',q1,q2,q3,q4⟩:=g6
     obtain⟨e0,p1,p2,p3,p4⟩:=k4
     rw[q1]at p1;cases p1
     refine⟨e',q2,by rw[q3];exact p2,p3,?_⟩
     have:=UY hn (flat:=False) (.inl λb hb=>hb) (λ_ _=>trivial) (λe=>e.elim) (jG.cells q4 p4)
     rwa [Vw]at this
  ·obtain⟨x',g1,_⟩:=uZ r x h1
   obtain⟨y',g2,_⟩:=uZ s y h2
   exact hm.inj r s x' y' g1 g2 v1 v2 he
  ·obtain⟨x',g1,_⟩:=uZ r x h1
   exact(hm.fu b iI).2 r x' g1 v
 refine(h c2 w vs Ca hb (λr=>rfl) (Zbp hn (λb h=>h) (Dr.rep hs ha))).mono λe w' hq=>?_
 obtain⟨v,c',he,hx,jV,hv⟩:=hq
 refine⟨v,c',he,⟨hx.mem,⟨hx.bz.base,hx.bz.top,hx.bz.I,λr row cb=>?_⟩,hx.fr.mono λb _ ⟨r,x,h1,h2,h3⟩=>?_,hx.fu,λr ak h1 h2=>?_⟩,jV,hv⟩
 ·obtain⟨jy,g1,g2,g3,g4,g5,g6⟩:=RP r row cb
  obtain⟨ak,k1,k2,k3,k4,k5,k6,k7,k8⟩:=hx.bz.R r jy g1
  exact⟨ak,k1,k2.trans g2,k3.trans g3,k4.trans g4,k5.trans g5,k6,k7,λnv arr ha=>by rw[<-g3]at ha⊢;exact k8 nv arr ha⟩
 ·obtain⟨x',g1,_⟩:=uZ r x h1
  exact⟨r,x',g1,h2,h3⟩
 ·rcases hx.og r ak h1 h2 with⟨⟨x,nK⟩,h3,h4⟩|h3
  ·obtain⟨x',g1,_⟩:=uZ r x nK
   exact .inl ⟨⟨x',g1⟩,h3,h4⟩
  ·exact .inr h3
theorem sI.Kh{P:Program}{f:FuncId}{k:Nat}{args ny:List D}{rows kY:List Row}{res:D}{aj:List Row}(hs:Dr args ny)(hl:kY.length=rows.length)(hr:∀(i:Nat) r,rows[i]?=some r->∃r',kY[i]?=some r'/\tt r r')(h:sI P f k ny kY res aj):sI P f k args rows res aj:=by
 intro c w vs hm hb hR ha
 let c2:Ctx:={c with R:=λr=>kY[r]? }
 have RP:∀r row,c.R r=some row->∃ak,c2.R r=some ak/\tt row ak:=λr row cb=>by
  rw[hR]at cb;exact hr r row cb
 have uZ:∀r ak,c2.R r=some ak->∃row,c.R r=some row/\tt row ak:=λr ak cb=>by
  have cb:kY[r]?=some ak:=cb
  have cg:=(List.getElem?_eq_some_iff.1 cb).1
  have h1:rows[r]?=some rows[r]:=cG (by omega)
  obtain⟨jy,g1,g2⟩:=hr r _ h1
  rw[cb]at g1;cases g1
  exact⟨_,by rw[hR];exact h1,g2⟩
 have hn:Em (λ_=>True) (λr=>r) true c c2:=⟨λi row _ cb=>by
  obtain⟨ak,g1,g2,g3,g4,g5,_⟩:=RP i row cb
  exact⟨ak,g1,g2,g3,g4,g5,rfl,Iff.rfl⟩,λ_=>aO _,aO _⟩
 have Ca:Mem c2 w:=by
  refine⟨λr ak cb=>?_,λr s x y h1 h2 v1 v2 he=>?_,λb iI=>⟨(hm.fu b iI).1,λr x h1 v=>?_⟩,hm.top,hm.kN⟩
  ·obtain⟨row,g1,g2,g3,g4,g5,g6⟩:=uZ r ak cb
   rcases hm.row r row g1 with⟨k1,k2,k3,k4⟩|⟨k1,arr,k2,k3,k4⟩
   ·refine .inl ⟨k1,g2.trans k2,?_,by rw[g4];exact k4⟩
    rw[k2]at g6;simp only at g6;rw[g6,k3]
   ·refine .inr ⟨k1,arr,by rw[g3];exact k2,by rw[g4];exact k3,?_⟩
    rw[g2,g4]
    cases wX:row.box with
    |false=>
     simp only[wX,aN,if_false]at k4 g6⊢
     rw[g6];exact k4
    |true=>
     simp only[wX,if_true]at k4 g6⊢
     obtain⟨e,e',q1,q2,q3,q4⟩:=g6
     obtain⟨e0,p1,p2,p3,p4⟩:=k4
     rw[q1]at p1;cases p1
     refine⟨e',q2,by rw[q3];exact p2,p3,?_⟩
     have:=UY hn (flat:=False) (.inl λb hb=>hb) (λ_ _=>trivial) (λe=>e.elim) (jG.cells q4 p4)
     rwa [Vw]at this
  ·obtain⟨x',g1,_⟩:=uZ r x h1
   obtain⟨y',g2,_⟩:=uZ s y h2
   exact hm.inj r s x' y' g1 g2 v1 v2 he
  ·obtain⟨x',g1,_⟩:=uZ r x h1
   exact(hm.fu b iI).2 r x' g1 v
 refine(h c2 w vs Ca hb (λr=>rfl) (Zbp hn (λb h=>h) (Dr.rep hs ha))).mono (λb hb=>hb) λe w' hq=>?_
 obtain⟨v,c',he,hx,jV,hv⟩:=hq
 rw[hl]at hx
 refine⟨v,c',he,⟨hx.mem,⟨hx.bz.base,hx.bz.top,hx.bz.I,λr row cb=>?_⟩,hx.fr.mono λb _ ⟨r,x,h1,h2,h3⟩=>?_,λb hb=>?_,λr ak h1 h2=>?_⟩,jV,hv⟩
 ·obtain⟨q,jY,Df,rfl⟩:=oh cb
  obtain⟨jy,g1,g2,g3,g4,g5,g6⟩:=RP r jY Df
  obtain⟨ak,k1,k2,k3,k4,k5,k6,k7,k8⟩:=hx.bz.R r (jy.kill _) (by simp only[Ctx.kill];rw[if_neg (by rw[q];simp),g1];rfl)
  obtain⟨s1,s2,s3,s4⟩:=wq (bK k (rows.length-k)) jY
  obtain⟨t1,t2,t3,t4⟩:=wq (bK k (rows.length-k)) jy
  refine⟨ak,k1,k2.trans (t1.trans (g2.trans s1.symm)),k3.trans (t2.trans (g3.trans s2.symm)),k4.trans (t3.trans (g4.trans s3.symm)),k5.trans (t4.trans (g5.trans s4.symm)),k6,k7,λnv arr ha=>?_⟩
  rw[s2]at ha⊢
  have:=k8 nv arr (by rw[t2,g3];exact ha)
  rw[t2,g3]at this
  exact this
 ·obtain⟨x',g1,_⟩:=uZ r x h1
  exact⟨r,x',g1,h2,h3⟩
 ·rcases hx.fu b hb with h|⟨s,x,h1,h2,h3,h4⟩|h
  ·exact .inl h
  ·obtain⟨x',g1,_⟩:=uZ s x h2
   exact .inr (.inl ⟨s,x',h1,g1,h3,h4⟩)
  ·exact .inr (.inr h)
 ·rcases hx.og r ak h1 h2 with⟨⟨x,nK⟩,h3,h4⟩|⟨s,x,q1,q2,q3,q4⟩|h3
  ·obtain⟨x',g1,_⟩:=uZ r x nK
   exact .inl ⟨⟨x',g1⟩,h3,h4⟩
  ·obtain⟨x',g1,_⟩:=uZ s x q2
   exact .inr (.inl ⟨s,x',q1,g1,q3,q4⟩)
  ·exact .inr (.inr h3)
def EC(f:FuncId)(refs:List Bool)(flat:Bool)(sig:List PT)(dr:List RT){α:Type}(v:List D->List Row->α)(enc:α->D)(out:α->List Row):bc:=
 ⟨f,refs,flat,λargs rows=>match BB sig args&&BC dr rows with|true=>.abs α (v args rows) enc out|false=>.no,none,false⟩
def mP(f:FuncId)(refs:List Bool)(flat:Bool)(sig:List PT)(dr:List RT)(pre:List D->List Row->Prop){α:Type}(v:List D->List Row->α)(enc:α->D)(out:α->List Row):bc:=
 ⟨f,refs,flat,λargs rows=>match BB sig args&&BC dr rows with|true=>.lO (pre args rows) α (v args rows) enc out|false=>.no,none,false⟩
def bc.fz(x:bc):bc:={x with pf:=true}
theorem MQ{P:Program}{x:bc}(h:bj P x):bj P x.fz:=⟨h.enters,h.real,h.ok,h.when,h.abs,h.lO,h.PZ,h.Hv⟩
def Vx(k:Nat)(f:FuncId)(refs:List Bool)(sig:List PT)(dr:List RT){α:Type}(v:List D->List Row->α)(enc:α->D)(out:α->List Row):bc:=
 ⟨f,refs,false,λargs rows=>match BB sig args&&BC dr rows with|true=>.abs α (v args rows) enc out|false=>.no,some k,false⟩
def lZ(k:Nat)(f:FuncId)(refs:List Bool)(sig:List PT)(dr:List RT)(pre:List D->List Row->Prop){α:Type}(v:List D->List Row->α)(enc:α->D)(out:α->List Row):bc:=
 ⟨f,refs,false,λargs rows=>match BB sig args&&BC dr rows with|true=>.lO (pre args rows) α (v args rows) enc out|false=>.no,some k,false⟩
def ao.Ad:ao->Bool
 |.gen _=>false
 |.av k _=>k.kR
 |_=>true
theorem ao.tu{E:ao}(h:E.Ad=true):E.FQ:=by
 cases E with
 |gen es=>simp[ao.Ad]at h
 |av k l=>exact h
 |_=>trivial
def Du:D->Bool|.sl _ E fr=>fr&&E.Ad|.iu _ _ _ _=>false|.gq _ _=>false|_=>true
def Dv:List D->Bool|[]=>true|d::l=>Du d&&Dv l
def Ki:D->Bool|.agg cs=>Dv cs|d=>Du d
def F7:List D->Bool|[]=>true|d::l=>Ki d&&F7 l
def wa:D->Bool|.dt ds=>F7 ds|d=>Ki d
def jI:List Row->Bool
 |[]=>true
 |⟨true,_,_,.gen [e]⟩::l=>Dv e&&jI l
 |⟨false,_,_,E⟩::l=>E.Ad&&jI l
 |_=>false
theorem RQ{d:D}(h:Du d=true):P9 d:=by
 cases d<;>first|trivial|(simp[Du]at h;done)|skip
 case sl sz E fr=>simp only[Du,aE]at h;exact⟨.inr h.1,ao.tu h.2⟩
theorem Vy:∀{ds:List D},Dv ds=true->MC ds
 |[],_=>trivial
 |d::l,h=>by simp only[Dv,aE]at h;exact⟨RQ h.1,Vy h.2⟩
theorem xaC{d:D}(h:Ki d=true):UX d:=by
 cases d with
 |agg cs=>exact Vy h
 |sl a b c=>exact RQ (d:=.sl a b c) h
 |iu a b c e=>exact RQ (d:=.iu a b c e) h
 |_=>trivial
theorem qC:∀{ds:List D},F7 ds=true->FR ds
 |[],_=>trivial
 |d::l,h=>by simp only[F7,aE]at h;exact⟨xaC h.1,qC h.2⟩
theorem zad{d:D}(h:wa d=true):FF d:=by
 cases d with
 |dt ds=>exact qC h
 |agg cs=>exact Vy h
 |sl a b c=>exact RQ (d:=.sl a b c) h
 |iu a b c e=>exact RQ (d:=.iu a b c e) h
 |_=>trivial
theorem Vz:∀{rs:List Row},jI rs=true->rG rs
 |[],_=>trivial
 |⟨true,_,_,.gen [e]⟩::l,h=>by
  simp only[jI,aE]at h
  refine⟨?_,Vz h.2⟩
  simp only[JP,if_true,ao.l,List.mem_singleton,forall_eq]
  exact Vy h.1
 |⟨false,_,_,E⟩::l,h=>by
  simp only[jI,aE]at h
  refine⟨?_,Vz h.2⟩
  simp only[JP,aN,if_false]
  exact ao.tu h.1
 |⟨true,_,_,.gen []⟩::l,h=>by simp[jI]at h
 |⟨true,_,_,.gen (_::_::_)⟩::l,h=>by simp[jI]at h
 |⟨true,_,_,.ints _ _⟩::l,h=>by simp[jI]at h
 |⟨true,_,_,.bo _⟩::l,h=>by simp[jI]at h
 |⟨true,_,_,.av _ _⟩::l,h=>by simp[jI]at h
theorem xad{P:Program}{f:FuncId}{sig:List PT}{dr:List RT}{args:List D}{rows:List Row}{res:D}{out:List Row}(hs:(BB sig args&&BC dr rows)=true)(h:j9 P f (Qe sig args 0) (lr dr rows 0) res out):j9 P f args rows res out:=by
 simp only[aE]at hs
 obtain⟨h1,h2⟩:=Qsa (pre:=[]) hs.2
 exact j9.Kh (Qwc (pre:=[]) hs.1) (by rw[Vv,h1]) h2 h
theorem qae{P:Program}{f:FuncId}{refs:List Bool}{flat:Bool}{sig:List PT}{dr:List RT}{α:Type}{v:List D->List Row->α}{enc:α->D}{out:α->List Row}(he:∀args w,(callFunc f args).run P w=.ok (.enter f args) w)(h:∀args rows,j9 P f (Qe sig args 0) (lr dr rows 0) (enc (v args rows)) (out (v args rows)))
 (hf:flat=true->∀X,(wa (enc X)&&jI (out X))=true) (hy:bJ f YB=true:=by rfl):bj P (EC f refs flat sig dr v enc out):=by
 refine⟨λ_=>he,λ_=>lE hy,λ_ args rows r r' hm=>?_,λ_ args rows p r r' hm=>?_,λ_ args rows α' v' r r' hm=>?_,λ_ args rows p α' v' r r' hm=>?_,λk hk=>(by cases hk),λk hk=>(by cases hk)⟩
 ·simp only[EC]at hm
  split at hm<;>cases hm
 ·simp only[EC]at hm
  split at hm<;>cases hm
 ·simp only[EC]at hm
  split at hm
  ·rename_i hs
   cases hm
   exact⟨xad hs (h args rows),λe=>by have:=hf e (v args rows);simp only[aE]at this;exact⟨zad this.1,Vz this.2⟩⟩
  ·cases hm
 ·simp only[EC]at hm
  split at hm<;>cases hm
theorem MR{P:Program}{f:FuncId}{refs:List Bool}{flat:Bool}{sig:List PT}{dr:List RT}{pre:List D->List Row->Prop}{α:Type}{v:List D->List Row->α}{enc:α->D}{out:α->List Row}(he:∀args w,(callFunc f args).run P w=.ok (.enter f args) w)(h:∀args rows,pre args rows->j9 P f (Qe sig args 0) (lr dr rows 0) (enc (v args rows)) (out (v args rows)))
 (hf:flat=true->∀X,(wa (enc X)&&jI (out X))=true) (hy:bJ f YB=true:=by rfl):bj P (mP f refs flat sig dr pre v enc out):=by
 refine⟨λ_=>he,λ_=>lE hy,λ_ args rows r r' hm=>?_,λ_ args rows p r r' hm=>?_,λ_ args rows α' v' r r' hm=>?_,λ_ args rows p α' v' r r' hm hp=>?_,λk hk=>(by cases hk),λk hk=>(by cases hk)⟩
 ·simp only[mP]at hm
  split at hm<;>cases hm
 ·simp only[mP]at hm
  split at hm<;>cases hm
 ·simp only[mP]at hm
  split at hm<;>cases hm
 ·simp only[mP]at hm
  split at hm
  ·rename_i hs
   cases hm
   exact⟨xad hs (h args rows hp),λe=>by have:=hf e (v args rows);simp only[aE]at this;exact⟨zad this.1,Vz this.2⟩⟩
  ·cases hm
theorem xC{P:Program}{f:FuncId}{k:Nat}{sig:List PT}{dr:List RT}{args:List D}{rows:List Row}{res:D}{out:List Row}(hs:(BB sig args&&BC dr rows)=true)(h:sI P f k (Qe sig args 0) (lr dr rows 0) res out):sI P f k args rows res out:=by
 simp only[aE]at hs
 obtain⟨h1,h2⟩:=Qsa (pre:=[]) hs.2
 exact sI.Kh (Qwc (pre:=[]) hs.1) (by rw[Vv,h1]) h2 h
theorem qaS{P:Program}{k:Nat}{f:FuncId}{refs:List Bool}{sig:List PT}{dr:List RT}{α:Type}{v:List D->List Row->α}{enc:α->D}{out:α->List Row}(he:f<YB->∀args w,(callFunc f args).run P w=.ok (.enter f args) w)(h:∀args rows,sI P f k (Qe sig args 0) (lr dr rows 0) (enc (v args rows)) (out (v args rows))):
 bj P (Vx k f refs sig dr v enc out):=by
 refine⟨he,λhk=>(by cases hk),λhk=>(by cases hk),λhk=>(by cases hk),λhk=>(by cases hk),λhk=>(by cases hk),λk' hk args rows α' v' r r' hm=>?_,λk' hk args rows p α' v' r r' hm hp=>?_⟩
 ·cases hk
  simp only[Vx]at hm
  split at hm
  ·rename_i hs
   cases hm
   exact xC hs (h args rows)
  ·cases hm
 ·simp only[Vx]at hm
  split at hm<;>cases hm
theorem qaD{P:Program}{k:Nat}{f:FuncId}{refs:List Bool}{sig:List PT}{dr:List RT}{pre:List D->List Row->Prop}{α:Type}{v:List D->List Row->α}{enc:α->D}{out:α->List Row}(he:f<YB->∀args w,(callFunc f args).run P w=.ok (.enter f args) w)(h:∀args rows,pre args rows->sI P f k (Qe sig args 0) (lr dr rows 0) (enc (v args rows)) (out (v args rows))):
 bj P (lZ k f refs sig dr pre v enc out):=by
 refine⟨he,λhk=>(by cases hk),λhk=>(by cases hk),λhk=>(by cases hk),λhk=>(by cases hk),λhk=>(by cases hk),λk' hk args rows α' v' r r' hm=>?_,λk' hk args rows p α' v' r r' hm hp=>?_⟩
 ·simp only[lZ]at hm
  split at hm<;>cases hm
 ·cases hk
  simp only[lZ]at hm
  split at hm
  ·rename_i hs
   cases hm
   exact xC hs (h args rows hp)
  ·cases hm
def dd{α β:Type}(v:α)(m:α->β):β:=m v
def oH(α:Type)(x y:α):Prop:=x=y
abbrev rE{α:Type}(x:α):Prop:=x=x
abbrev zM:au:={B1:={X:={a0:=0,a1:=0,a2:=0,a3:=0,a4:=0,a5:=0,a6:=0,a7:=0,a8:=0,a9:=0,kq:=0,kr:=0,a12:=0,ku:=0,kv:=0,ky:=0},Pc:=0,B4:={a0:=0,a1:=0,a2:=0,a3:=0,a4:=0,a5:=0,a6:=0,a7:=0}},Mem:=[],A3:={D1:=[]},A9:={D3:=false,C4:=0,D2:=false},A7:={ae:=0,C1:=0,Frame:=0,B7:=0,D6:=0,B6:=0,B2:=0,B8:=[]},C3:={Frame:=0,E0:=0,C5:=false,C0:=0,B5:=false,F1:=0},A2:={C7:=0,C2:=0},A1:=0,A4:=false,A6:=false}
abbrev mE(m:au)(P Q:Prop):Prop:=rE m.B1.X.a0/\rE m.B1.X.a1/\rE m.B1.X.a2/\rE m.B1.X.a3/\rE m.B1.X.a4/\rE m.B1.X.a5/\rE m.B1.X.a6/\rE m.B1.X.a7/\rE m.B1.X.a8/\rE m.B1.X.a9/\rE m.B1.X.kq/\rE m.B1.X.kr/\rE m.B1.X.a12/\rE m.B1.X.ku/\rE m.B1.X.kv/\rE m.B1.X.ky/\rE m.B1.Pc/\rE m.B1.B4.a0/\rE m.B1.B4.a1/\rE m.B1.B4.a2/\rE m.B1.B4.a3/\rE m.B1.B4.a4/\rE m.B1.B4.a5/\rE m.B1.B4.a6/\rE m.B1.B4.a7/\P/\rE m.A3.D1/\rE m.A9.D3/\rE m.A9.C4/\rE m.A9.D2/\rE m.A7.ae/\rE m.A7.C1/\rE m.A7.Frame/\rE m.A7.B7/\rE m.A7.D6/\rE m.A7.B6/\rE m.A7.B2/\rE m.A7.B8/\rE m.C3.Frame/\rE m.C3.E0/\rE m.C3.C5/\rE m.C3.C0/\rE m.C3.B5/\rE m.C3.F1/\rE m.A2.C7/\rE m.A2.C2/\rE m.A1/\rE m.A4/\rE m.A6/\Q
abbrev mR(f:Nat->D)(M:List Int):au:=(⟨(⟨(⟨(f 0).toInt,(f 1).toInt,(f 2).toInt,(f 3).toInt,(f 4).toInt,(f 5).toInt,(f 6).toInt,(f 7).toInt,(f 8).toInt,(f 9).toInt,(f 10).toInt,(f 11).toInt,(f 12).toInt,(f 13).toInt,(f 14).toInt,(f 15).toInt⟩:(iU Int)),(f 16).toInt,(⟨(f 17).toInt,(f 18).toInt,(f 19).toInt,(f 20).toInt,(f 21).toInt,(f 22).toInt,(f 23).toInt,(f 24).toInt⟩:(A8 Int))⟩:bh),M,(⟨(f 26).toStr⟩:iV),(⟨(f 27).toBool,(f 28).toInt,(f 29).toBool⟩:iW),(⟨(f 30).toInt,(f 31).toInt,(f 32).toInt,(f 33).toInt,(f 34).toInt,(f 35).toInt,(f 36).toInt,(f 37).toStr⟩:fp),(⟨(f 38).toInt,(f 39).toInt,(f 40).toBool,(f 41).toInt,(f 42).toBool,(f 43).toInt⟩:ia),(⟨(f 44).toInt,(f 45).toInt⟩:gv),(f 46).toInt,(f 47).toBool,(f 48).toBool⟩:au)
abbrev mD(x:au)(d:D):List D:=[.int u32 x.B1.X.a0,.int u32 x.B1.X.a1,.int u32 x.B1.X.a2,.int u32 x.B1.X.a3,.int u32 x.B1.X.a4,.int u32 x.B1.X.a5,.int u32 x.B1.X.a6,.int u32 x.B1.X.a7,.int u32 x.B1.X.a8,.int u32 x.B1.X.a9,.int u32 x.B1.X.kq,.int u32 x.B1.X.kr,.int u32 x.B1.X.a12,.int u32 x.B1.X.ku,.int u32 x.B1.X.kv,.int u32 x.B1.X.ky,.int u32 x.B1.Pc,.int u32 x.B1.B4.a0,.int u32 x.B1.B4.a1,.int u32 x.B1.B4.a2,.int u32 x.B1.B4.a3,.int u32 x.B1.B4.a4,.int u32 x.B1.B4.a5,.int u32 x.B1.B4.a6,.int u32 x.B1.B4.a7,d,.str x.A3.D1,.bool x.A9.D3,.int u32 x.A9.C4,.bool x.A9.D2,.int u32 x.A7.ae,.int u32 x.A7.C1,.int u32 x.A7.Frame,.int i64 x.A7.B7,.int i64 x.A7.D6,.int u32 x.A7.B6,.int u32 x.A7.B2,.str x.A7.B8,.int u32 x.C3.Frame,.int u32 x.C3.E0,.bool x.C3.C5,.int u32 x.C3.C0,.bool x.C3.B5,.int u32 x.C3.F1,.int u32 x.A2.C7,.int u32 x.A2.C2,.int u64 x.A1,.bool x.A4,.bool x.A6]
abbrev mB(f:Nat->D):List D:=[f 0,f 1,f 2,f 3,f 4,f 5,f 6,f 7,f 8,f 9,f 10,f 11,f 12,f 13,f 14,f 15,f 16,f 17,f 18,f 19,f 20,f 21,f 22,f 23,f 24,f 25,f 26,f 27,f 28,f 29,f 30,f 31,f 32,f 33,f 34,f 35,f 36,f 37,f 38,f 39,f 40,f 41,f 42,f 43,f 44,f 45,f 46,f 47,f 48]
abbrev rZ:Prop:=rE (0:Nat)/\rE (0:Nat)
abbrev nR(k:RK)(n:Nat)(x:List (RK.T k)):Prop:=(ao.Nil (ao.av k x)\/rE n)/\rE x
abbrev aC(l:List D)(n:Nat):List D:=(l.getD n .dead).cells
theorem oI{p:Prop}(h:p:=by((subst_vars;first|trivial|assumption|omega|((simp(config:={decide:=true,failIfUnchanged:=false}) only[aE,Bool.or_eq_true,Bool.and_eq_false_iff,Bool.or_eq_false_iff,Bool.not_eq_true',Bool.not_eq_false',Bool.not_eq_true,Bool.not_eq_false,decide_eq_true_eq,decide_eq_false_iff_not,Q5b,Q3a,Q57,Q39,beq_iff_eq,beq_eq_false_iff_ne,bne_iff_ne,bne_eq_false_iff_eq,ne_eq,List.all_cons,List.all_nil,D.plain,List.length_cons,List.length_nil,lA,List.length_set,List.length_replicate,wrap_i64,wrap_u64,wrap_u32,wrap_i32,wrap_u8,true_and,and_true,or_false,false_or,or_true,true_or,not_true_eq_false,not_false_eq_true,Prod.fst,Prod.snd]at*);first|done|assumption|omega)|((simp(config:={decide:=true,failIfUnchanged:=false}) only[aE,Bool.or_eq_true,Bool.and_eq_false_iff,Bool.or_eq_false_iff,Bool.not_eq_true',Bool.not_eq_false',Bool.not_eq_true,Bool.not_eq_false,decide_eq_true_eq,decide_eq_false_iff_not,Q5b,Q3a,Q57,Q39,beq_iff_eq,beq_eq_false_iff_ne,bne_iff_ne,bne_eq_false_iff_eq,ne_eq,List.all_cons,List.all_nil,D.plain,List.length_cons,List.length_nil,lA,List.length_set,List.length_replicate,wrap_i64,wrap_u64,wrap_u32,wrap_i32,wrap_u8,true_and,and_true,or_false,false_or,or_true,true_or,not_true_eq_false,not_false_eq_true,Prod.fst,Prod.snd]at*);simp only[<-List.length_pos_iff]at*;omega)|(simp_all;done)|(have:= @Qhi;simp_all;try omega)))):p:=h
def run{α β:Type}[Inhabited β](F:α->α⊕β):Nat->α->β
 |0,_=>default
 |k+1,a=>match F a with|.inl a'=>run F k a'|.inr b=>b
theorem zaD{α β:Type}[Inhabited β]{F:α->α⊕β}{P:α->Prop}{R:β->Prop}{μ:α->Nat}(h:∀a,P a->match F a with|.inl a'=>P a'/\μ a'<μ a|.inr b=>R b):∀k a,P a->μ a<k->R (run F k a):=by
 intro k
 induction k with
 |zero=>intro a _ hk;omega
 |succ k ih=>
  intro a ha hk
  have:=h a ha
  unfold run
  split at this
  ·rename_i a' he;exact ih a' this.1 (by omega)
  ·exact this
inductive Tree:Type->Type 1 where
 |lf {β:Type} (x:β):Tree β
 |nx {β:Type} (f:Prop) (x:β) (h:f:=by first|trivial|(simp[oH];done)|decide|(simp only[and_true,true_and,or_true,true_or,and_self];done)|((repeat'(first|exact True.intro|apply And.intro|exact rfl|exact Or.inr rfl));done)):Tree β
 |br {β:Type} (c:Bool) (t e:Tree β):Tree β
 |cn {β:Type} (c:Bool) (t:Tree β):Tree β
 |fl {β:Type} (c:Bool) (t:Tree β):Tree β
 |an {β:Type} (p:Prop) (t:Tree β):Tree β
 |lv {α β:Type} (x:α) (k:α->Tree β):Tree β
 |lp {α β:Type} (d:Inhabited β) (n:Nat) (f:Prop) (x:α) (t:α->Tree (α⊕β)) (h:f:=by first|trivial|(simp[oH];done)|decide|(simp only[and_true,true_and,or_true,true_or,and_self];done)|((repeat'(first|exact True.intro|apply And.intro|exact rfl|exact Or.inr rfl));done)):Tree β
def Tree.m{β:Type}:Tree β->β
 |.lf x=>x
 |.nx _ x _=>x
 |.br c t e=>cond c t.m e.m
 |.cn _ t=>t.m
 |.fl _ t=>t.m
 |.an _ t=>t.m
 |.lv x k=>dd x λy=>(k y).m
 |.lp _ n _ x t _=>run (λy=>(t y).m) n x
def mj{α β:Type}(B:α->(α⊕β->Prop)->Prop)(W:β->Prop)(n:Nat)(y:α):Prop:=
 match n with
 |0=>False
 |k+1=>B y (iH (λz=>mj B W k z) W)
termination_by n
theorem Z4r{α β:Type}{B:α->(α⊕β->Prop)->Prop}{W:β->Prop}{y:α}:mj B W 0 y=False:=by rw[mj]
theorem M7{α β:Type}{B:α->(α⊕β->Prop)->Prop}{W:β->Prop}{k:Nat}{y:α}:mj B W (k+1) y=B y (iH (λz=>mj B W k z) W):=by rw[mj]
def Tree.w{β:Type}:Tree β->(β->Prop)->Prop
 |.lf x,W=>W x
 |.nx _ x _,W=>W x
 |.br c t e,W=>DJ c (t.w W) (e.w W)
 |.cn c t,W=>cr c (t.w W)
 |.fl c t,W=>DJ c False (t.w W)
 |.an p t,W=>p/\t.w W
 |.lv x k,W=>∀y,y=x->(k y).w W
 |.lp _ n _ x t _,W=>mj (λy V=>(t y).w V) W n x
def Tree.q{β:Type}:Tree β->(β->Prop)->Prop
 |.lf x,L=>L x
 |.nx f x _,L=>L x/\f
 |.br c t e,L=>DJ c (t.q L) (e.q L)
 |.cn c t,L=>cr c (t.q L)
 |.fl c t,L=>DJ c False (t.q L)
 |.an p t,L=>p/\t.q L
 |.lv x k,L=>∀y,y=x->(k y).q L
 |.lp (α:=α) _ _ f x t _,L=>∃(wv:α->Prop),∃(ν:α->Nat),wv x/\f/\∀y,wv y->(t y).q (iH (λz=>wv z/\ν z<ν y) L)
theorem Tree.main{β:Type}(t:Tree β):∀{W L E:β->Prop},(∀x,W x->E x->L x)->t.w W->E t.m->t.q L:=by
 induction t with
 |lf x=>intro W L E h hw he;exact h x hw he
 |nx f x hf=>intro W L E h hw he;exact⟨h x hw he,hf⟩
 |br c t e Kj Kk=>
  intro W L E h hw he
  cases c with
  |true=>exact Kj h hw he
  |false=>exact Kk h hw he
 |cn c t ih=>intro W L E h hw he;exact da.2 ⟨(da.1 hw).1,ih h (da.1 hw).2 he⟩
 |fl c t ih=>
  intro W L E h hw he
  cases c with
  |true=>exact hw.elim
  |false=>exact ih h hw he
 |an p t ih=>intro W L E h hw he;exact⟨hw.1,ih h hw.2 he⟩
 |lv x k ih=>intro W L E h hw he y hy;subst hy;exact ih y h (hw y rfl) he
 |lp d n f x t hf ih=>
  intro W L E h hw he
  have H:∀k y,mj (λy V=>(t y).w V) W k y->E (@run _ _ d (λy=>(t y).m) k y)->∃j,j<k/\k=j+1:=by
   intro k y h1 _
   cases k with
   |zero=>rw[Z4r]at h1;exact h1.elim
   |succ k=>exact⟨k,Nat.lt_succ_self k,rfl⟩
  let P:Nat->_->Prop:=λk y=>mj (λy V=>(t y).w V) W k y/\E (@run _ _ d (λy=>(t y).m) k y)
  have least:∀y,(∃k,P k y)->∃k,P k y/\∀j,P j y->k<=j:=by
   intro y ⟨k,hk⟩
   induction k using Nat.strongRecOn with
   |ind k ihk=>
    by_cases hj:∃j,j<k/\P j y
    ·obtain⟨j,h1,h2⟩:=hj;exact ihk j h1 h2
    ·exact⟨k,hk,λj h2=>Nat.le_of_not_lt λh1=>hj ⟨j,h1,h2⟩⟩
  have ch:∃ν:_->Nat,∀y,(∃k,P k y)->P (ν y) y/\∀j,P j y->ν y<=j:=Classical.axiomOfChoice (r:=λy k=>(∃k,P k y)->P k y/\∀j,P j y->k<=j) λy=>by
   by_cases hy:∃k,P k y
   ·obtain⟨k,hk⟩:=least y hy;exact⟨k,λ_=>hk⟩
   ·exact⟨0,λh=>absurd h hy⟩
  obtain⟨ν,hν⟩:=ch
  refine⟨λy=>∃k,P k y,ν,⟨n,hw,he⟩,hf,λy hy=>?_⟩
  have RR:=hν y hy
  generalize Ap:ν y=k0 at RR
  obtain⟨⟨h1,h2⟩,_⟩:=RR
  obtain⟨j,_,rfl⟩:=H k0 y h1 h2
  rw[M7]at h1
  refine ih y (E:=iH (λz=>E (@run _ _ d (λy=>(t y).m) j z)) E) ?_ h1 ?_
  ·intro z hz1 hz2
   cases z with
   |inl z=>
    have hz:∃k,P k z:=⟨j,hz1,hz2⟩
    refine⟨hz,?_⟩
    have:=(hν z hz).2 j ⟨hz1,hz2⟩
    show ν z<j+1
    omega
   |inr z=>exact h z hz1 hz2
  ·unfold run at h2
   cases hF:(t y).m with
   |inl z=>rw[hF]at h2;exact h2
   |inr z=>rw[hF]at h2;exact h2
abbrev Tree.p{β:Type}(t:Tree β):Prop:=t.w λ_=>True
theorem Tree.main'{β:Type}{t:Tree β}{L:β->Prop}(hw:t.p)(h:L t.m):t.q L:=t.main (λ_ _ h=>h) hw h
theorem Tree.mono{β:Type}(t:Tree β):∀{W V:β->Prop},(∀x,W x->V x)->t.w W->t.w V:=by
 induction t with
 |lf x=>intro W V h hw;exact h x hw
 |nx f x hf=>intro W V h hw;exact h x hw
 |br c t e Kj Kk=>
  intro W V h hw
  cases c with
  |true=>exact Kj h hw
  |false=>exact Kk h hw
 |cn c t ih=>intro W V h hw;exact da.2 ⟨(da.1 hw).1,ih h (da.1 hw).2⟩
 |fl c t ih=>
  intro W V h hw
  cases c with
  |true=>exact hw.elim
  |false=>exact ih h hw
 |an p t ih=>intro W V h hw;exact⟨hw.1,ih h hw.2⟩
 |lv x k ih=>intro W V h hw y hy;exact ih y h (hw y hy)
 |lp d n f x t hf ih=>
  intro W V h hw
  revert x
  show∀x,mj (λy V=>(t y).w V) W n x->mj (λy V=>(t y).w V) V n x
  induction n with
  |zero=>intro x hw;rw[Z4r]at hw;exact hw.elim
  |succ n ihn=>
   intro x hw
   rw[M7]at hw⊢
   refine ih x (λz hz=>?_) hw
   cases z with
   |inl z=>exact ihn z hz
   |inr z=>exact h z hz
theorem Tree.post{β:Type}(t:Tree β):∀{W:β->Prop},t.w W->W t.m:=by
 induction t with
 |lf x=>intro W hw;exact hw
 |nx f x hf=>intro W hw;exact hw
 |br c t e Kj Kk=>
  intro W hw
  cases c with
  |true=>exact Kj hw
  |false=>exact Kk hw
 |cn c t ih=>intro W hw;exact ih (da.1 hw).2
 |fl c t ih=>
  intro W hw
  cases c with
  |true=>exact hw.elim
  |false=>exact ih hw
 |an p t ih=>intro W hw;exact ih hw.2
 |lv x k ih=>intro W hw;exact ih x (hw x rfl)
 |lp d n f x t hf ih=>
  intro W hw
  revert x
  show∀x,mj (λy V=>(t y).w V) W n x->W (@run _ _ d (λy=>(t y).m) n x)
  induction n with
  |zero=>intro x hw;rw[Z4r]at hw;exact hw.elim
  |succ n ihn=>
   intro x hw
   rw[M7]at hw
   have:=ih x hw
   unfold run
   cases hF:(t x).m with
   |inl z=>rw[hF]at this;exact ihn z this
   |inr z=>rw[hF]at this;exact this
theorem Tree.pp{β:Type}{t:Tree β}{W:β->Prop}(h:t.w W):t.p/\W t.m:=⟨t.mono (λ_ _=>trivial) h,t.post h⟩
section
variable {α β:Type} {W:β->Prop} {c:Bool} {t e:Tree β}
theorem ez{x:β}(h:W x):(Tree.lf x).w W:=h
theorem fh{f:Prop}{x:β}{hf:f}(h:W x):(Tree.nx f x hf).w W:=h
theorem aa(h:c=true->t.w W)(g:c=false->e.w W):(Tree.br c t e).w W:=Zhd.2 ⟨h,g⟩
theorem ba(h:c=true)(g:t.w W):(Tree.cn c t).w W:=da.2 ⟨h,g⟩
theorem V9(h:c=false)(g:t.w W):(Tree.fl c t).w W:=Zhd.2 ⟨λe=>(by rw[h]at e;cases e),λ_=>g⟩
theorem cz{p:Prop}(h:p)(g:t.w W):(Tree.an p t).w W:=⟨h,g⟩
theorem ar{x:α}{k:α->Tree β}(h:∀y,y=x->(k y).w W):(Tree.lv x k).w W:=h
theorem ga{d:Inhabited β}{n:Nat}{f:Prop}{x:α}{k:α->Tree (α⊕β)}{hf:f}{inv:α->Prop}{μ:α->Nat}(h:inv x)(hn:μ x<n)(g:∀y,inv y->(k y).w (iH (λz=>inv z/\μ z<μ y) W)):(Tree.lp d n f x k hf).w W:=by
 show mj (λy V=>(k y).w V) W n x
 revert x
 induction n with
 |zero=>intro x h hn;omega
 |succ n ih=>
  intro x h hn
  rw[M7]
  refine(k x).mono (λz hz=>?_) (g x h)
  cases z with
  |inl z=>exact ih hz.1 (by have:=hz.2;omega)
  |inr z=>exact hz
end
theorem wL{β:Type}{x:β}:(Tree.lf x).p:=trivial
theorem wB{β:Type}{c:Bool}{t e:Tree β}(h:t.p)(g:e.p):(Tree.br c t e).p:=by cases c<;>assumption
structure u5(T:fq)(G:List bc)(L:Code->St->(Ex->St->Prop)->Prop)(fn:Func)(args:List D)(rows:List Row)(ds:List oZ)(Q:D->List Row->Prop):Prop where
 h:nz T G L fn args rows λd R=>sd rows.length ds d R Q
theorem u5.of{T:fq}{G:List bc}{L:Code->St->(Ex->St->Prop)->Prop}{fn:Func}{args:List D}{rows:List Row}{ds:List oZ}{Q:D->List Row->Prop}{p:Prop}(e:(nz T G L fn args rows λd R=>sd rows.length ds d R Q)=p)(hl:p):u5 T G L fn args rows ds Q:=⟨by rw[e];exact hl⟩
theorem u5.calls{P:Program}(hD:Qf P){T:fq}(hT:jz P T){G:List bc}(hG:jT P G){f:FuncId}{fn:Func}(hf:P.funcs[f]?=some fn){args:List D}{rows:List Row}{res:D}{aj:List Row}
 {rf:Option Nat} (nt:∀code,fn.body=some code->RF rf fn.ntmps code) {L:Code->St->(Ex->St->Prop)->Prop} (hL:∀code st Q,RF rf fn.ntmps code->L code st Q->Tr P fn.ntmps rows.length code st Q) {ds:List oZ} (h:u5 T G L fn args rows ds λr o=>r=res/\o=aj):j9 P f args rows res aj:=
 qaQ hD hT hG hf nt hL (λd R hQ=>by obtain⟨r,o,⟨rfl,rfl⟩,hE⟩:=Za hQ;exact hE) h.h
structure tv(T:fq)(G:List bc)(L:Code->St->(Ex->St->Prop)->Prop)(fn:Func)(args:List D)(rows:List Row)(k:Nat)(ds:List oZ)(Q:D->List Row->Prop):Prop where
 h:JZ T G L fn args rows (λd R=>sd k ds d R Q) k
theorem tv.of{T:fq}{G:List bc}{L:Code->St->(Ex->St->Prop)->Prop}{fn:Func}{args:List D}{rows:List Row}{k:Nat}{ds:List oZ}{Q:D->List Row->Prop}{p:Prop}(e:(JZ T G L fn args rows (λd R=>sd k ds d R Q) k)=p)(hl:p):tv T G L fn args rows k ds Q:=⟨by rw[e];exact hl⟩
theorem tv.calls{P:Program}(hD:Qf P){T:fq}(hT:jz P T){G:List bc}(hG:jT P G){f:FuncId}{fn:Func}{args:List D}{rows:List Row}{k:Nat}{res:D}{aj:List Row}{rf:Option Nat}(hf:uT P f fn (sD (pC args++kX rows)=true/\rf=none))(nt:∀code,fn.body=some code->RF rf fn.ntmps code)
 {L:Code->St->(Ex->St->Prop)->Prop} (hL:∀ro,(ro=none\/rf=none)->∀code st Q,RF rf fn.ntmps code->L code st Q->tU ro P fn.ntmps k code st Q) {ds:List oZ} (h:tv T G L fn args rows k ds λr o=>r=res/\o=aj):sI P f k args rows res aj:=
 zaQ hD hT hG hf nt hL (λd R hQ=>by obtain⟨r,o,⟨rfl,rfl⟩,hE⟩:=Za hQ;exact hE) h.h
section
variable {P:Program} {T:fq} {G:List bc} {f:FuncId} {fn:Func} {refs:List Bool} {flat:Bool} {sig:List PT} {dr:List RT} {pre:List D->List Row->Prop} {β:Type} {v:List D->List Row->β} {enc:β->D} {out:β->List Row}
theorem uT.imp{cl cl':Prop}(h:uT P f fn cl)(g:cl->cl'):uT P f fn cl':=by
 cases h with
 |real a b c=>exact .real a b c
 |yield a y d b c e f g1 g2 h i=>exact .yield a y d b c e f g1 g2 h (g i)
 |uU a y q b c e f g1 h i j k=>exact .uU a y q b c e f g1 h i j (g k)
theorem Zaa(rf:Option Nat)(nt:∀code,fn.body=some code->RF rf fn.ntmps code)(hD:Qf P)(hT:jz P T)(hG:jT P G)(hf:P.funcs[f]?=some fn)(t:List D->List Row->Tree β)(ds:List oZ)(h8:List (Nat×bu))(dep:Nat)
 (hn:∀args rows Q,(nz T G (Cf T G fn.ntmps dr.length h8 rf dep) fn (Qe sig args 0) (lr dr rows 0) λd R=>sd dr.length ds d R Q)=(t args rows).q λX=>Q (enc X) (out X)) (hv:∀args rows,(t args rows).m=v args rows) {args:List D} {rows:List Row} (hp:(t args rows).p):
 j9 P f (Qe sig args 0) (lr dr rows 0) (enc (v args rows)) (out (v args rows)):=by
 have e:(lr dr rows 0).length=dr.length:=Vv
 refine u5.calls hD hT hG hf nt (L:=Cf T G fn.ntmps dr.length h8 rf dep) (λcode st Q hc hl=>by rw[e];exact wy hD hT hG (.inl rfl) dep _ _ _ hc hl) (ds:=ds) ⟨?_⟩
 rw[e,hn]
 refine Tree.main' hp ?_
 rw[hv]
 exact⟨rfl,rfl⟩
theorem Zlj(rf:Option Nat)(nt:∀code,fn.body=some code->RF rf fn.ntmps code){k:Nat}(hD:Qf P)(hT:jz P T)(hG:jT P G)(hf:uT P f fn ((∀args rows,sD (pC (Qe sig args 0)++kX (lr dr rows 0))=true)/\rf=none))(t:List D->List Row->Tree β)(ds:List oZ)(h8:List (Nat×bu))(dep:Nat)
 (hn:∀args rows Q,(JZ T G (Cf T G fn.ntmps k h8 rf dep) fn (Qe sig args 0) (lr dr rows 0) (λd R=>sd k ds d R Q) k)=(t args rows).q λX=>Q (enc X) (out X)) (hv:∀args rows,(t args rows).m=v args rows) {args:List D} {rows:List Row} (hp:(t args rows).p):
 sI P f k (Qe sig args 0) (lr dr rows 0) (enc (v args rows)) (out (v args rows)):=by
 refine tv.calls hD hT hG (hf.imp λh=>⟨h.1 args rows,h.2⟩) nt (L:=Cf T G fn.ntmps k h8 rf dep) (λro DL=>wy hD hT hG DL dep) (ds:=ds) ⟨?_⟩
 rw[hn]
 refine Tree.main' hp ?_
 rw[hv]
 exact⟨rfl,rfl⟩
theorem xaD(rf:Option Nat)(nt:∀code,fn.body=some code->RF rf fn.ntmps code)(hD:Qf P)(hT:jz P T)(hG:jT P G)(hf:P.funcs[f]?=some fn)(he:∀args w,(callFunc f args).run P w=.ok (.enter f args) w)(t:List D->List Row->Tree β)(ds:List oZ)(h8:List (Nat×bu))(dep:Nat)
 (hn:∀args rows Q,(nz T G (Cf T G fn.ntmps dr.length h8 rf dep) fn (Qe sig args 0) (lr dr rows 0) λd R=>sd dr.length ds d R Q)=(t args rows).q λX=>Q (enc X) (out X)) (hv:∀args rows,(t args rows).m=v args rows)
 (hp:∀args rows,pre args rows->(t args rows).p) (jP:flat=true->∀X,(wa (enc X)&&jI (out X))=true) (hy:bJ f YB=true:=by rfl):bj P (mP f refs flat sig dr pre v enc out):=
 MR he (λargs rows hw=>Zaa rf nt hD hT hG hf t ds h8 dep hn hv (hp _ _ hw)) jP hy
theorem wc(hD:Qf P)(hT:jz P T)(hG:jT P G)(hf:P.funcs[f]?=some fn)(he:∀args w,(callFunc f args).run P w=.ok (.enter f args) w)(t:List D->List Row->Tree β)(ds:List oZ)(h8:List (Nat×bu))(dep:Nat)
 (hn:∀args rows Q,(nz T G (LL T G fn.ntmps dr.length h8 dep) fn (Qe sig args 0) (lr dr rows 0) λd R=>sd dr.length ds d R Q)=(t args rows).q λX=>Q (enc X) (out X):=by intro _ _ _;kernel_rfl) (hv:∀args rows,(t args rows).m=v args rows:=by exactλ_ _=>rfl)
 (hp:∀args rows,pre args rows->(t args rows).p:=by exactλ_ _ h=>h) (jP:flat=true->∀X,(wa (enc X)&&jI (out X))=true:=by intro _ _;kernel_rfl) (hy:bJ f YB=true:=by rfl):bj P (mP f refs flat sig dr pre v enc out):=
 xaD none (λ_ _=>trivial) hD hT hG hf he t ds h8 dep hn hv hp jP hy
theorem qaE(rf:Option Nat)(nt:∀code,fn.body=some code->RF rf fn.ntmps code)(hD:Qf P)(hT:jz P T)(hG:jT P G)(hf:P.funcs[f]?=some fn)(he:∀args w,(callFunc f args).run P w=.ok (.enter f args) w)(t:List D->List Row->Tree β)(ds:List oZ)(h8:List (Nat×bu))(dep:Nat)
 (hn:∀args rows Q,(nz T G (Cf T G fn.ntmps dr.length h8 rf dep) fn (Qe sig args 0) (lr dr rows 0) λd R=>sd dr.length ds d R Q)=(t args rows).q λX=>Q (enc X) (out X)) (hv:∀args rows,(t args rows).m=v args rows)
 (hp:∀args rows,(t args rows).p) (jP:flat=true->∀X,(wa (enc X)&&jI (out X))=true) (hy:bJ f YB=true:=by rfl):bj P (EC f refs flat sig dr v enc out):=
 qae he (λargs rows=>Zaa rf nt hD hT hG hf t ds h8 dep hn hv (hp _ _)) jP hy
theorem Q1(hD:Qf P)(hT:jz P T)(hG:jT P G)(hf:P.funcs[f]?=some fn)(he:∀args w,(callFunc f args).run P w=.ok (.enter f args) w)(t:List D->List Row->Tree β)(ds:List oZ)(h8:List (Nat×bu))(dep:Nat)
 (hn:∀args rows Q,(nz T G (LL T G fn.ntmps dr.length h8 dep) fn (Qe sig args 0) (lr dr rows 0) λd R=>sd dr.length ds d R Q)=(t args rows).q λX=>Q (enc X) (out X):=by intro _ _ _;kernel_rfl) (hv:∀args rows,(t args rows).m=v args rows:=by exactλ_ _=>rfl)
 (hp:∀args rows,(t args rows).p:=by intro _ _;exact Tree.we (by kernel_rfl)) (jP:flat=true->∀X,(wa (enc X)&&jI (out X))=true:=by intro _ _;kernel_rfl) (hy:bJ f YB=true:=by rfl):bj P (EC f refs flat sig dr v enc out):=
 qaE none (λ_ _=>trivial) hD hT hG hf he t ds h8 dep hn hv hp jP hy
theorem xV(rf:Option Nat)(nt:∀code,fn.body=some code->RF rf fn.ntmps code){k:Nat}(hD:Qf P)(hT:jz P T)(hG:jT P G)(hf:uT P f fn ((∀args rows,sD (pC (Qe sig args 0)++kX (lr dr rows 0))=true)/\rf=none))(he:f<YB->∀args w,(callFunc f args).run P w=.ok (.enter f args) w)(t:List D->List Row->Tree β)(ds:List oZ)(h8:List (Nat×bu))(dep:Nat)
 (hn:∀args rows Q,(JZ T G (Cf T G fn.ntmps k h8 rf dep) fn (Qe sig args 0) (lr dr rows 0) (λd R=>sd k ds d R Q) k)=(t args rows).q λX=>Q (enc X) (out X)) (hv:∀args rows,(t args rows).m=v args rows)
 (hp:∀args rows,pre args rows->(t args rows).p):bj P (lZ k f refs sig dr pre v enc out):=
 qaD he (λargs rows hw=>Zlj rf nt hD hT hG hf t ds h8 dep hn hv (hp _ _ hw))
theorem Eu{k:Nat}(hD:Qf P)(hT:jz P T)(hG:jT P G)(hf:P.funcs[f]?=some fn)(he:∀args w,(callFunc f args).run P w=.ok (.enter f args) w)(t:List D->List Row->Tree β)(ds:List oZ)(h8:List (Nat×bu))(dep:Nat)
 (hn:∀args rows Q,(JZ T G (LL T G fn.ntmps k h8 dep) fn (Qe sig args 0) (lr dr rows 0) (λd R=>sd k ds d R Q) k)=(t args rows).q λX=>Q (enc X) (out X)) (hv:∀args rows,(t args rows).m=v args rows)
 (hp:∀args rows,pre args rows->(t args rows).p) (hy:bJ f YB=true:=by rfl) (hb:Nat.ble YB fn.nfree=false:=by rfl):bj P (lZ k f refs sig dr pre v enc out):=
 xV none (λ_ _=>trivial) hD hT hG (.real (lE hy) hf hb) (λ_=>he) t ds h8 dep hn hv hp
theorem zC(h:bj P (mP f refs flat sig dr pre v enc out)){args:List D}{rows:List Row}(hs:(BB sig args&&BC dr rows)=true)(hw:pre args rows):j9 P f args rows (enc (v args rows)) (out (v args rows)):=
 (h.lO rfl args rows (pre args rows) β (v args rows) enc out (by simp only[mP,hs]) hw).1
end
def Tree.pW{β:Type}:Tree β->Bool
 |.lf _=>true
 |.br _ t e=>t.pW&&e.pW
 |.lv x k=>(k x).pW
 |_=>false
theorem Tree.we{β:Type}{t:Tree β}(h:t.pW=true):t.p:=by
 induction t with
 |lf x=>trivial
 |br c t e Kj Kk=>
  simp only[Tree.pW,aE]at h
  cases c with
  |true=>exact Kj h.1
  |false=>exact Kk h.2
 |lv x k ih=>intro y hy;subst hy;exact ih _ h
 |_=>simp[Tree.pW]at h
theorem jT.nil{P:Program}:jT P []:=λx hx=>by cases hx
theorem jT.cons{P:Program}{x:bc}{G:List bc}(h:bj P x)(g:jT P G):jT P (x::G):=λy hy=>by
 simp only[List.mem_cons]at hy
 rcases hy with rfl|hy
 ·exact h
 ·exact g y hy

import Derived.Test.YtaemmjbkndlkeaaGreatMigrateCancelsFc
open Nat renaming blt->bN,beq->bX,le_refl->aX
open List renaming map_cons->fG,getD->aV,getElem?_eq_getElem->aI,range'->bO,all_cons->gJ,all_nil->hH,length_cons->dD,length_nil->dE,length_set->dC,length_replicate->cS
open Bool renaming false_eq_true->aA,or_eq_true->aT,and_eq_false_iff->gU,or_eq_false_iff->gW,not_eq_true'->bB,not_eq_false'->gX,not_eq_true->gY,not_eq_false->gZ
open Sum renaming elim->hJ
set_option linter.all false
namespace Go.GD
open Go
open Go.IntKind(i64 u32 u64 wrap_i64 wrap_u32 wrap_u64 wrap_u8 wrap_i32)
variable {P:Program}{T:iG}{a b k s:Nat}{args rm:List D}{d res:D}{ds:List nk}{f:FuncId}{flat fr:Bool}{fn:Func}{refs:List Bool}
def lk(st:St)(t:Nat):D:=look st.env t
def rN(st:St)(t:Nat):Nat:=iD (look st.env t) 1000000
def cT(st:St)(t j:Nat):D:=ay st.rows (iD (look st.env t) 1000000) j
def rX(st:St)(t k:Nat):Nat:=iD (look st.env t) (st.rows.length+k)
theorem Qhl{α:Type}{l:List α}(h:l≠[]):0<l.length:=by cases l<;>simp_all
theorem Q5d{a b:Nat}:bN a b=true↔a<b:=by simp[bN,Nat.lt_iff_add_one_le]
theorem Q3f:bN a b=false↔ ¬a<b:=by have:= @Q5d a b;cases h:bN a b<;>simp_all
theorem Q5a{a b:Nat}:bX a b=true↔a=b:=iff_of_eq Nat.beq_eq
theorem Q3e:bX a b=false↔ ¬a=b:=by have:= @Q5a a b;cases h:bX a b<;>simp_all
def ij(d e:D):Prop:=∀c w v,dk c w d v->dk c w e v
def lD:List D->List D->Prop
 |[],[]=>True
 |d::l,e::m=>ij d e/\lD l m
 |_,_=>False
def tu:D->D->Prop
 |.agg cs,.agg ds=>lD cs ds
 |.agg _,_=>False
 |d,e=>ij d e
def Dp:List D->List D->Prop
 |[],[]=>True
 |d::l,e::m=>tu d e/\Dp l m
 |_,_=>False
theorem ij.rfl:ij d d:=λ_ _ _ h=>h
theorem ij.ints{k:IntKind}{E:ai}{l:List Int}(h:E.toI k=some l):ij (.sl s E fr) (.sl 1 (.ints k l) false):=by
 intro c w v hv
 have he:=ai.toI_l h
 obtain⟨a,cap,hv,hc,il⟩:=hv
 rw[he]at hv hc il
 refine⟨a,cap,hv,hc,?_⟩
 rcases il with il|⟨b,off,arr,ty,fz,ha,hI,hf,hh,hE⟩
 ·exact .inl il
 ·cases l with
  |nil=>exact .inl (by simp[ai.l])
  |cons n l=>
   have h1:s=1:=by
    simp only[ai.l,fG,rz,pY]at hE
    exact hE.1.symm
   subst h1
   exact .inr ⟨b,off,arr,ty,fz,ha,hI,(λe=>by cases e),hh,hE⟩
theorem ij.ag{E:ai}{l:List Bool}(h:E.toB=some l):ij (.sl s E fr) (.sl 1 (.ag l) false):=by
 intro c w v hv
 have he:=ai.toB_l h
 obtain⟨a,cap,hv,hc,il⟩:=hv
 rw[he]at hv hc il
 refine⟨a,cap,hv,hc,?_⟩
 rcases il with il|⟨b,off,arr,ty,fz,ha,hI,hf,hh,hE⟩
 ·exact .inl il
 ·cases l with
  |nil=>exact .inl (by simp[ai.l])
  |cons n l=>
   have h1:s=1:=by
    simp only[ai.l,fG,rz,pY]at hE
    exact hE.1.symm
   subst h1
   exact .inr ⟨b,off,arr,ty,fz,ha,hI,(λe=>by cases e),hh,hE⟩
theorem lD.rep{c:Ctx}{w:World}:∀{ds es:List D} {vs:List Value},lD ds es->jr c w ds vs->jr c w es vs
 |[],[],[],_,_=>trivial
 |d::l,e::m,v::vs,h,hr=>⟨h.1 _ _ _ hr.1,lD.rep h.2 hr.2⟩
 |[],_::_,_,h,_=>h.elim
 |_::_,[],_,h,_=>h.elim
 |[],[],_::_,_,hr=>hr.elim
 |_::_,_::_,[],_,hr=>hr.elim
theorem tu.rep{c:Ctx}{w:World}{d e:D}{v:Value}(h:tu d e)(hr:VRep c w d v):VRep c w e v:=by
 cases d with
 |agg cs=>
  cases e with
  |agg ds=>obtain⟨vs,hv,hx⟩:=hr;exact⟨vs,hv,lD.rep h hx⟩
  |_=>exact h.elim
 |_=>
  have h1:=VRep.toC (λcs e=>by cases e) hr
  have h2:ij _ e:=h
  exact VRep.Eu (h2 _ _ _ h1)
theorem Dp.rep{c:Ctx}{w:World}:∀{ds es:List D} {vs:List Value},Dp ds es->ki c w ds vs->ki c w es vs
 |[],[],[],_,_=>trivial
 |d::l,e::m,v::vs,h,hr=>⟨tu.rep h.1 hr.1,Dp.rep h.2 hr.2⟩
 |[],_::_,_,h,_=>h.elim
 |_::_,[],_,h,_=>h.elim
 |[],[],_::_,_,hr=>hr.elim
 |_::_,_::_,[],_,hr=>hr.elim
theorem kG.sub{rows:List Row}{aj:List Row}(hs:Dp args rm)(h:kG P f rm rows res aj):kG P f args rows res aj:=
 λc w vs hm hb hR ha=>h c w vs hm hb hR (Dp.rep hs ha)
theorem ij.ah{k:RK}{E:ai}{l:List (RK.T k)}(h:E.toR k=some l):ij (.sl s E fr) (.sl k.size (.ah k l) false):=by
 intro c w v hv
 have he:=ai.toR_l h
 obtain⟨a,cap,hv,hc,il⟩:=hv
 rw[he]at hv hc il
 refine⟨a,cap,hv,hc,?_⟩
 rcases il with il|⟨b,off,arr,ty,fz,ha,hI,hf,hh,hE⟩
 ·exact .inl il
 ·cases l with
  |nil=>exact .inl (by simp[ai.l])
  |cons x l=>
   have h1:s=k.size:=by
    simp only[ai.l,fG,pY]at hE
    rw[<-hE.1];exact RK.rO k x
   subst h1
   exact .inr ⟨b,off,arr,ty,fz,ha,hI,(λe=>by cases e),hh,hE⟩
theorem ij.Dq{E:ai}(h:E.l=[]):ij .de (.sl s E false):=by
 intro c w v hv
 exact⟨none,0,by rw[h];exact hv,by rw[h];exact aX _,.inl h⟩
theorem ij.J1{E:ai}(h:E.l=[]):ij .emp (.sl s E false):=by
 intro c w v hv
 obtain⟨a,hv,_⟩:=hv
 exact⟨a,0,by rw[h];exact hv,by rw[h];exact aX _,.inl h⟩
def AR:List (Nat×Nat×Nat)->List (Nat×Nat×Nat)->Bool
 |[],[]=>true
 |(a,b,c)::l,(x,y,z)::m=>bX a x&&(bX b y&&(bX c z&&AR l m))
 |_,_=>false
def tv:List iJ->List iJ->Bool
 |[],[]=>true
 |.ptr a b c::l,.ptr x y z::m=>bX a x&&(bX b y&&(bX c z&&tv l m))
 |.fn f ps::l,.fn g qs::m=>bX f g&&(AR ps qs&&tv l m)
 |_,_=>false
theorem zA:∀{l m:List (Nat×Nat×Nat)},AR l m=true->l=m
 |[],[],_=>rfl
 |(a,b,c)::l,(x,y,z)::m,h=>by
  simp only[AR,aE]at h
  rw[bE h.1,bE h.2.1,bE h.2.2.1,zA h.2.2.2]
 |[],_::_,h=>by simp[AR]at h
 |_::_,[],h=>by simp[AR]at h
theorem yA:∀{l m:List iJ},tv l m=true->l=m:=by
 intro l
 induction l with
 |nil=>intro m h;cases m with
  |nil=>rfl
  |cons _ _=>simp[tv]at h
 |cons a l ih=>
  intro m h
  cases m with
  |nil=>cases a<;>simp[tv]at h
  |cons b m=>
   cases a<;>cases b<;>simp only[tv,aE,aA]at h
   ·rw[bE h.1,bE h.2.1,bE h.2.2.1,ih h.2.2.2]
   ·rw[bE h.1,zA h.2.1,ih h.2.2]
def AS:CT->D->Bool
 |.int k,.int j _=>decide (j=k)
 |.bool,.bool _=>true
 |.str,.str _=>true
 |.ints k,.sl _ E _=>(match E.toI k with|some _=>true|none=>false)
 |.ag,.sl _ E _=>(match E.toB with|some _=>true|none=>false)
 |.ah k,.sl _ E _=>(match E.toR k with|some _=>true|none=>false)
 |.ints _,.de=>true
 |.ag,.de=>true
 |.ah _,.de=>true
 |.ints _,.emp=>true
 |.ag,.emp=>true
 |.ah _,.emp=>true
 |.row i,.all r=>bX r i
 |.nil,.sl s (.gen []) false=>bX s 0
 |.HZ,.de=>true
 |.self _,.iO=>true
 |.gx f cs,.gx g ds=>bX g f&&tv ds cs
 |.self i,.gr r=>bX r i
 |.self i,.ptr r o f=>bX r i&&(bX o 0&&bX f 0)
 |.pt i a b,.ptr r o f=>bX r i&&(bX o a&&bX f b)
 |_,_=>false
inductive PT where
 |one (t:CT)
 |agg (ts:List CT)
 |ptr (i:Nat)
 |gx (f:Nat) (cs:List iJ)
inductive RT where
 |box (ty sz:Nat) (ts:List CT)
 |arr (ty sz:Nat) (t:CT)
def J2:List CT->List D->Bool
 |[],[]=>true
 |t::ts,d::ds=>AS t d&&J2 ts ds
 |_,_=>false
def uZ:PT->D->Bool
 |.agg ts,.agg cs=>J2 ts cs
 |.one t,d=>AS t d
 |.ptr i,.ptr r j o=>bX r i&&(bX j 0&&bX o 0)
 |.gx f cs,.gx g ds=>bX g f&&tv ds cs
 |_,_=>false
def HH:PT->D->D
 |.agg ts,d=>.agg (wg ts d.cells 0)
 |.one t,d=>DF t d
 |.ptr i,_=>.ptr i 0 0
 |.gx f cs,_=>.gx f cs
def Bt:List PT->List D->Bool
 |[],[]=>true
 |s::l,d::ds=>uZ s d&&Bt l ds
 |_,_=>false
def lg:List PT->List D->Nat->List D
 |[],_,_=>[]
 |s::l,args,i=>HH s (args.getD i .dead)::lg l args (i+1)
def Row.cs(r:Row):List D:=match r.es with|.gen [e]=>e|_=>[]
def u0:RT->Row->Bool
 |.box ty sz ts,⟨true,jZ,ka,.gen [e]⟩=>bX jZ ty&&(bX ka sz&&J2 ts e)
 |.arr ty sz t,⟨false,jZ,ka,E⟩=>bX jZ ty&&(bX ka sz&&(match toCT t E with|some _=>true|none=>false))
 |_,_=>false
def RO(t:CT)(E:ai):ai:=match t with
 |.ints k=>.ints k (match E.toI k with|some l=>l|none=>[])
 |.ag=>.ag (match E.toB with|some l=>l|none=>[])
 |.ah k=>.ah k (match E.toR k with|some l=>l|none=>[])
 |_=>.gen []
theorem qay{t:CT}{E E':ai}(h:toCT t E=some E'):RO t E=E':=by
 cases t with
 |ints k=>
  simp only[toCT]at h
  split at h
  ·rename_i l hl
   cases h
   show ai.ints k (match E.toI k with|some l=>l|none=>[])=_
   rw[hl]
  ·cases h
 |ag=>
  simp only[toCT]at h
  split at h
  ·rename_i l hl
   cases h
   show ai.ag (match E.toB with|some l=>l|none=>[])=_
   rw[hl]
  ·cases h
 |ah k=>
  simp only[toCT]at h
  split at h
  ·rename_i l hl
   cases h
   show ai.ah k (match E.toR k with|some l=>l|none=>[])=_
   rw[hl]
  ·cases h
 |_=>simp[toCT]at h
def wZ:RT->Row->Row
 |.box ty sz ts,r=>⟨true,ty,sz,.gen [wg ts r.cs 0]⟩
 |.arr ty sz t,r=>⟨false,ty,sz,RO t r.es⟩
def Bu:List RT->List Row->Bool
 |[],[]=>true
 |s::l,r::rs=>u0 s r&&Bu l rs
 |_,_=>false
def kH:List RT->List Row->Nat->List Row
 |[],_,_=>[]
 |s::l,rows,i=>wZ s (rows.getD i default)::kH l rows (i+1)
def au(args:List D)(i:Nat):Int:=(args.getD i .dead).toInt
def kD(args:List D)(i:Nat):Bool:=(args.getD i .dead).toBool
def jK(args:List D)(i:Nat):List UInt8:=(args.getD i .dead).toStr
def dq(k:IntKind)(args:List D)(i:Nat):List Int:=bu k (args.getD i .dead)
def Dr(args:List D)(i:Nat):List Bool:=fi (args.getD i .dead)
def kM(k:RK)(args:List D)(i:Nat):List (RK.T k):=iP k (args.getD i .dead)
def tw(rows:List Row)(i j:Nat):D:=((rows.getD i default).cs.getD j .dead)
def da(k:IntKind)(rows:List Row)(i:Nat):List Int:=match(rows.getD i default).es.toI k with|some l=>l|none=>[]
def dh(k:RK)(rows:List Row)(i:Nat):List (RK.T k):=match(rows.getD i default).es.toR k with|some l=>l|none=>[]
theorem Zbt{t:CT}(h:AS t d=true):ij d (DF t d):=by
 cases t<;>cases d<;>(try(simp[AS]at h;done))
 case int.int=>simp[AS]at h;subst h;exact ij.rfl
 case nil.sl s E fr=>
  unfold AS at h
  split at h<;>simp_all
  exact ij.rfl
 case HZ.de=>exact ij.rfl
 case bool.bool=>exact ij.rfl
 case str.str=>exact ij.rfl
 case ints.sl k sz E fr=>
  simp only[AS]at h
  split at h
  ·rename_i l hl
   simp only[DF,bu,hl]
   exact ij.ints hl
  ·cases h
 case ints.de=>exact ij.Dq rfl
 case ints.emp=>exact ij.J1 rfl
 case ag.sl sz E fr=>
  simp only[AS]at h
  split at h
  ·rename_i l hl
   simp only[DF,fi,hl]
   exact ij.ag hl
  ·cases h
 case ag.de=>exact ij.Dq rfl
 case ag.emp=>exact ij.J1 rfl
 case ah.sl k sz E fr=>
  simp only[AS]at h
  split at h
  ·rename_i l hl
   simp only[DF,iP,hl]
   exact ij.ah hl
  ·cases h
 case ah.de=>exact ij.Dq rfl
 case ah.emp=>exact ij.J1 rfl
 case row.all i r=>rw[bE h];exact ij.rfl
 case gx.gx f cs g ds=>
  simp only[AS,aE]at h
  rw[bE h.1,yA h.2]
  exact ij.rfl
 case self.iO i=>exactλc w v hv=>.inl hv
 case self.gr i r=>rw[bE h];exact ij.rfl
 case self.ptr i r o f=>
  simp only[AS,aE]at h
  rw[bE h.1,bE h.2.1,bE h.2.2]
  exactλc w v hv=>.inr hv
 case pt.ptr i a b r o f=>
  simp only[AS,aE]at h
  rw[bE h.1,bE h.2.1,bE h.2.2]
  exact ij.rfl
theorem Qzk:∀{ts:List CT} {pre ds:List D},J2 ts ds=true->lD ds (wg ts (pre++ds) pre.length)
 |[],pre,[],_=>trivial
 |t::ts,pre,d::ds,h=>by
  simp only[J2,aE]at h
  have h2:=Qzk (pre:=pre++[d]) h.2
  simp only[wg]
  refine⟨?_,by simpa using h2⟩
  have:(pre++d::ds).getD pre.length .dead=d:=by simp[aV]
  rw[this];exact Zbt h.1
 |[],_,_::_,h=>by simp[J2]at h
 |_::_,_,[],h=>by simp[J2]at h
theorem tu.of1{d e:D}(hd:∀cs,d≠.agg cs)(h:ij d e):tu d e:=by
 cases d<;>first|exact h|exact absurd rfl (hd _)
theorem Zsh{s:PT}(h:uZ s d=true):tu d (HH s d):=by
 unfold uZ at h
 split at h
 ·rename_i ts cs
  exact Qzk (pre:=[]) h
 ·rename_i t d
  refine tu.of1 (λcs e=>?_) (Zbt h)
  subst e
  cases t<;>simp[AS]at h
 ·rename_i i r j o
  simp only[aE]at h
  rw[bE h.1,bE h.2.1,bE h.2.2]
  exact ij.rfl
 ·rename_i f cs g ds
  simp only[aE]at h
  rw[bE h.1,yA h.2]
  exact ij.rfl
 ·cases h
theorem Qz5:∀{l:List PT} {pre ds:List D},Bt l ds=true->Dp ds (lg l (pre++ds) pre.length)
 |[],pre,[],_=>trivial
 |s::l,pre,d::ds,h=>by
  simp only[Bt,aE]at h
  have h2:=Qz5 (pre:=pre++[d]) h.2
  simp only[lg]
  refine⟨?_,by simpa using h2⟩
  have:(pre++d::ds).getD pre.length .dead=d:=by simp[aV]
  rw[this];exact Zsh h.1
 |[],_,_::_,h=>by simp[Bt]at h
 |_::_,_,[],h=>by simp[Bt]at h
def tz(a b:Row):Prop:=b.box=a.box/\b.ty=a.ty/\b.sz=a.sz/\b.es.l.length=a.es.l.length/\match a.box with
 |true=>∃e e',a.es=.gen [e]/\b.es=.gen [e']/\e'.length=e.length/\lD e e'
 |false=>b.es.l=a.es.l
theorem lD.length:∀{ds es:List D},lD ds es->ds.length=es.length
 |[],[],_=>rfl
 |_::_,_::_,h=>by simp[lD.length h.2]
 |[],_::_,h=>h.elim
 |_::_,[],h=>h.elim
theorem Zs6{s:RT}{r:Row}(h:u0 s r=true):tz r (wZ s r):=by
 unfold u0 at h
 split at h
 ·rename_i ty sz ts jZ ka e
  simp only[aE]at h
  have h3:=Qzk (pre:=[]) h.2.2
  have hl:=h3.length
  exact⟨rfl,(bE h.1).symm,(bE h.2.1).symm,rfl,_,_,rfl,rfl,hl.symm,h3⟩
 ·rename_i ty sz t jZ ka E
  simp only[aE]at h
  obtain⟨h1,h2,h3⟩:=h
  split at h3
  ·rename_i E' hE
   have he:=ai.Ak (Nx hE)
   have hc:wZ (.arr ty sz t) ⟨false,jZ,ka,E⟩=⟨false,ty,sz,E'⟩:=by simp[wZ,qay hE]
   rw[hc]
   exact⟨rfl,(bE h1).symm,(bE h2).symm,by simp only[he],he.symm⟩
  ·cases h3
 ·cases h
theorem Qv0:∀{l:List RT} {pre rs:List Row},Bu l rs=true->rs.length=l.length/\∀(i:Nat) r,rs[i]?=some r->∃r',(kH l (pre++rs) pre.length)[i]?=some r'/\tz r r'
 |[],pre,[],_=>⟨rfl,λi r h=>by simp at h⟩
 |s ::l,pre,r::rs,h=>by
  simp only[Bu,aE]at h
  obtain⟨h1,h2⟩:=Qv0 (pre:=pre++[r]) h.2
  refine⟨by simp[h1],λi q hq=>?_⟩
  cases i with
  |zero=>
   simp at hq;subst hq
   have:(pre++r::rs).getD pre.length default=r:=by simp[aV]
   exact⟨_,by simp only[kH,this];rfl,Zs6 h.1⟩
  |succ i=>
   obtain⟨q',g1,g2⟩:=h2 i q (by simpa using hq)
   refine⟨q',?_,g2⟩
   simp only[kH,List.getElem?_cons_succ]
   simpa using g1
 |[],_,_::_,h=>by simp[Bu]at h
 |_::_,_,[],h=>by simp[Bu]at h
theorem Vw:∀{l:List RT} {rows:List Row} {i:Nat},(kH l rows i).length=l.length
 |[],_,_=>rfl
 |s::l,rows,i=>by simp[kH,Vw]
theorem vA:d.mC (λr=>r) true=d:=by
 cases d with
 |gx f cs=>simp only[D.mC,ZA]
 |_=>simp[D.mC]
theorem Vx:∀{ds:List D},D.mF (λr=>r) true ds=ds
 |[]=>rfl
 |d::l=>by simp[D.mF,vA,Vx (ds:=l)]
theorem xaL:d.jl (λr=>r) true=d:=by
 cases d with
 |agg cs=>show D.agg (D.mF _ true cs)=_;rw[Vx]
 |gx f cs=>exact vA (d:=.gx f cs)
 |_=>simp[D.jl,D.mC]
theorem lD.cells{c:Ctx}{w:World}:∀{ds es:List D} {arr:Array Value} {off:Nat},lD ds es->kN c w ds arr off->kN c w es arr off
 |[],[],_,_,_,_=>trivial
 |d::l,e::m,_,_,h,⟨⟨v,hv,h1⟩,h2⟩=>⟨⟨v,hv,h.1 _ _ _ h1⟩,lD.cells h.2 h2⟩
 |[],_::_,_,_,h,_=>h.elim
 |_::_,[],_,_,h,_=>h.elim
theorem Zdl{c1 c2:Ctx}{w:World}(hn:Ef (λ_=>True) (λr=>r) true c1 c2)(hI:∀b,c1.I b->c2.I b):∀{ds:List D} {vs:List Value},ki c1 w ds vs->ki c2 w ds vs
 |[],[],_=>trivial
 |d::ds,v::vs,h=>⟨by have:=QA hn (flat:=False) (.inl hI) (λ_ _=>trivial) (λe=>e.elim) h.1;rwa [xaL]at this,Zdl hn hI h.2⟩
 |[],_::_,h=>h.elim
 |_::_,[],h=>h.elim
theorem kG.J3{rows kS:List Row}{aj:List Row}(hs:Dp args rm)(hl:kS.length=rows.length)(hr:∀(i:Nat) r,rows[i]?=some r->∃r',kS[i]?=some r'/\tz r r')(h:kG P f rm kS res aj):kG P f args rows res aj:=by
 intro c w vs hm hb hR ha
 let c2:Ctx:={c with R:=λr=>kS[r]? }
 have RP:∀r row,c.R r=some row->∃ao,c2.R r=some ao/\tz row ao:=λr row dc=>by
  rw[hR]at dc;exact hr r row dc
 have u5:∀r ao,c2.R r=some ao->∃row,c.R r=some row/\tz row ao:=λr ao dc=>by
  have dc:kS[r]?=some ao:=dc
  have bg:=(List.getElem?_eq_some_iff.1 dc).1
  have h1:rows[r]?=some rows[r]:=aI (by omega)
  obtain⟨jE,g1,g2⟩:=hr r _ h1
  rw[dc]at g1;cases g1
  exact⟨_,by rw[hR];exact h1,g2⟩
 have hn:Ef (λ_=>True) (λr=>r) true c c2:=⟨λi row _ dc=>by
  obtain⟨ao,g1,g2,g3,g4,g5,_⟩:=RP i row dc
  exact⟨ao,g1,g2,g3,g4,g5,rfl,Iff.rfl⟩,λ_=>aX _,aX _⟩
 have BU:Mem c2 w:=by
  refine⟨λr ao dc=>?_,λr s x y h1 h2 v1 v2 he=>?_,λb iu=>⟨(hm.fq b iu).1,λr x h1 v=>?_⟩,hm.top,hm.j4⟩
  ·obtain⟨row,g1,g2,g3,g4,g5,g6⟩:=u5 r ao dc
   rcases hm.row r row g1 with⟨k1,k2,k3,k4⟩|⟨k1,arr,k2,k3,k4⟩
   ·refine .inl ⟨k1,g2.trans k2,?_,by rw[g4];exact k4⟩
    rw[k2]at g6;simp only at g6;rw[g6,k3]
   ·refine .inr ⟨k1,arr,by rw[g3];exact k2,by rw[g4];exact k3,?_⟩
    rw[g2,g4]
    cases wN:row.box with
    |false=>
     simp only[wN,aA,if_false]at k4 g6⊢
     rw[g6];exact k4
    |true=>
     simp only[wN,if_true]at k4 g6⊢
     obtain⟨e,e',q1,q2,q3,q4⟩:=g6
     obtain⟨e0,p1,p2,p3,p4⟩:=k4
     rw[q1]at p1;cases p1
     refine⟨e',q2,by rw[q3];exact p2,p3,?_⟩
     have:=U2 hn (flat:=False) (.inl λb hb=>hb) (λ_ _=>trivial) (λe=>e.elim) (lD.cells q4 p4)
     rwa [Vx]at this
  ·obtain⟨x',g1,_⟩:=u5 r x h1
   obtain⟨y',g2,_⟩:=u5 s y h2
   exact hm.inj r s x' y' g1 g2 v1 v2 he
  ·obtain⟨x',g1,_⟩:=u5 r x h1
   exact(hm.fq b iu).2 r x' g1 v
 refine(h c2 w vs BU hb (λr=>rfl) (Zdl hn (λb h=>h) (Dp.rep hs ha))).mono λe w' hq=>?_
 obtain⟨v,c',he,hx,j8,hv⟩:=hq
 refine⟨v,c',he,⟨hx.mem,⟨hx.db.base,hx.db.top,hx.db.I,λr row dc=>?_⟩,hx.fr.mono λb _ ⟨r,x,h1,h2,h3⟩=>?_,hx.fq,λr ao h1 h2=>?_⟩,j8,hv⟩
 ·obtain⟨jE,g1,g2,g3,g4,g5,g6⟩:=RP r row dc
  obtain⟨ao,k1,k2,k3,k4,k5,k6,k7,k8⟩:=hx.db.R r jE g1
  exact⟨ao,k1,k2.trans g2,k3.trans g3,k4.trans g4,k5.trans g5,k6,k7,λnv arr ha=>by rw[<-g3]at ha⊢;exact k8 nv arr ha⟩
 ·obtain⟨x',g1,_⟩:=u5 r x h1
  exact⟨r,x',g1,h2,h3⟩
 ·rcases hx.ov r ao h1 h2 with⟨⟨x,pA⟩,h3,h4⟩|h3
  ·obtain⟨x',g1,_⟩:=u5 r x pA
   exact .inl ⟨⟨x',g1⟩,h3,h4⟩
  ·exact .inr h3
theorem tV.J3{rows kS:List Row}{aj:List Row}(hs:Dp args rm)(hl:kS.length=rows.length)(hr:∀(i:Nat) r,rows[i]?=some r->∃r',kS[i]?=some r'/\tz r r')(h:tV P f k rm kS res aj):tV P f k args rows res aj:=by
 intro c w vs hm hb hR ha
 let c2:Ctx:={c with R:=λr=>kS[r]? }
 have RP:∀r row,c.R r=some row->∃ao,c2.R r=some ao/\tz row ao:=λr row dc=>by
  rw[hR]at dc;exact hr r row dc
 have u5:∀r ao,c2.R r=some ao->∃row,c.R r=some row/\tz row ao:=λr ao dc=>by
  have dc:kS[r]?=some ao:=dc
  have bg:=(List.getElem?_eq_some_iff.1 dc).1
  have h1:rows[r]?=some rows[r]:=aI (by omega)
  obtain⟨jE,g1,g2⟩:=hr r _ h1
  rw[dc]at g1;cases g1
  exact⟨_,by rw[hR];exact h1,g2⟩
 have hn:Ef (λ_=>True) (λr=>r) true c c2:=⟨λi row _ dc=>by
  obtain⟨ao,g1,g2,g3,g4,g5,_⟩:=RP i row dc
  exact⟨ao,g1,g2,g3,g4,g5,rfl,Iff.rfl⟩,λ_=>aX _,aX _⟩
 have BU:Mem c2 w:=by
  refine⟨λr ao dc=>?_,λr s x y h1 h2 v1 v2 he=>?_,λb iu=>⟨(hm.fq b iu).1,λr x h1 v=>?_⟩,hm.top,hm.j4⟩
  ·obtain⟨row,g1,g2,g3,g4,g5,g6⟩:=u5 r ao dc
   rcases hm.row r row g1 with⟨k1,k2,k3,k4⟩|⟨k1,arr,k2,k3,k4⟩
   ·refine .inl ⟨k1,g2.trans k2,?_,by rw[g4];exact k4⟩
    rw[k2]at g6;simp only at g6;rw[g6,k3]
   ·refine .inr ⟨k1,arr,by rw[g3];exact k2,by rw[g4];exact k3,?_⟩
    rw[g2,g4]
    cases wN:row.box with
    |false=>
     simp only[wN,aA,if_false]at k4 g6⊢
     rw[g6];exact k4
    |true=>
     simp only[wN,if_true]at k4 g6⊢
     obtain⟨e,e',q1,q2,q3,q4⟩:=g6
     obtain⟨e0,p1,p2,p3,p4⟩:=k4
     rw[q1]at p1;cases p1
     refine⟨e',q2,by rw[q3];exact p2,p3,?_⟩
     have:=U2 hn (flat:=False) (.inl λb hb=>hb) (λ_ _=>trivial) (λe=>e.elim) (lD.cells q4 p4)
     rwa [Vx]at this
  ·obtain⟨x',g1,_⟩:=u5 r x h1
   obtain⟨y',g2,_⟩:=u5 s y h2
   exact hm.inj r s x' y' g1 g2 v1 v2 he
  ·obtain⟨x',g1,_⟩:=u5 r x h1
   exact(hm.fq b iu).2 r x' g1 v
 refine(h c2 w vs BU hb (λr=>rfl) (Zdl hn (λb h=>h) (Dp.rep hs ha))).mono (λb hb=>hb) λe w' hq=>?_
 obtain⟨v,c',he,hx,j8,hv⟩:=hq
 rw[hl]at hx
 refine⟨v,c',he,⟨hx.mem,⟨hx.db.base,hx.db.top,hx.db.I,λr row dc=>?_⟩,hx.fr.mono λb _ ⟨r,x,h1,h2,h3⟩=>?_,λb hb=>?_,λr ao h1 h2=>?_⟩,j8,hv⟩
 ·obtain⟨q,jM,Dd,rfl⟩:=nn dc
  obtain⟨jE,g1,g2,g3,g4,g5,g6⟩:=RP r jM Dd
  obtain⟨ao,k1,k2,k3,k4,k5,k6,k7,k8⟩:=hx.db.R r (jE.kill _) (by simp only[Ctx.kill];rw[if_neg (by rw[q];simp),g1];rfl)
  obtain⟨s1,s2,s3,s4⟩:=wo (bO k (rows.length-k)) jM
  obtain⟨t1,t2,t3,t4⟩:=wo (bO k (rows.length-k)) jE
  refine⟨ao,k1,k2.trans (t1.trans (g2.trans s1.symm)),k3.trans (t2.trans (g3.trans s2.symm)),k4.trans (t3.trans (g4.trans s3.symm)),k5.trans (t4.trans (g5.trans s4.symm)),k6,k7,λnv arr ha=>?_⟩
  rw[s2]at ha⊢
  have:=k8 nv arr (by rw[t2,g3];exact ha)
  rw[t2,g3]at this
  exact this
 ·obtain⟨x',g1,_⟩:=u5 r x h1
  exact⟨r,x',g1,h2,h3⟩
 ·rcases hx.fq b hb with h|⟨s,x,h1,h2,h3,h4⟩|h
  ·exact .inl h
  ·obtain⟨x',g1,_⟩:=u5 s x h2
   exact .inr (.inl ⟨s,x',h1,g1,h3,h4⟩)
  ·exact .inr (.inr h)
 ·rcases hx.ov r ao h1 h2 with⟨⟨x,pA⟩,h3,h4⟩|⟨s,x,q1,q2,q3,q4⟩|h3
  ·obtain⟨x',g1,_⟩:=u5 r x pA
   exact .inl ⟨⟨x',g1⟩,h3,h4⟩
  ·obtain⟨x',g1,_⟩:=u5 s x q2
   exact .inr (.inl ⟨s,x',q1,g1,q3,q4⟩)
  ·exact .inr (.inr h3)
def Gb(f:FuncId)(refs:List Bool)(flat:Bool)(sig:List PT)(ea:List RT){α:Type}(v:List D->List Row->α)(enc:α->D)(out:α->List Row):bc:=
 ⟨f,refs,flat,λargs rows=>match Bt sig args&&Bu ea rows with|true=>.abs α (v args rows) enc out|false=>.no,none,false⟩
def lF(f:FuncId)(refs:List Bool)(flat:Bool)(sig:List PT)(ea:List RT)(pre:List D->List Row->Prop){α:Type}(v:List D->List Row->α)(enc:α->D)(out:α->List Row):bc:=
 ⟨f,refs,flat,λargs rows=>match Bt sig args&&Bu ea rows with|true=>.lB (pre args rows) α (v args rows) enc out|false=>.no,none,false⟩
def bc.fz(x:bc):bc:={x with pw:=true}
theorem w4{x:bc}(h:bm P x):bm P x.fz:=⟨h.enters,h.real,h.ok,h.when,h.abs,h.lB,h.PX,h.Hc⟩
def J4(k:Nat)(f:FuncId)(refs:List Bool)(sig:List PT)(ea:List RT){α:Type}(v:List D->List Row->α)(enc:α->D)(out:α->List Row):bc:=
 ⟨f,refs,false,λargs rows=>match Bt sig args&&Bu ea rows with|true=>.abs α (v args rows) enc out|false=>.no,some k,false⟩
def jU(k:Nat)(f:FuncId)(refs:List Bool)(sig:List PT)(ea:List RT)(pre:List D->List Row->Prop){α:Type}(v:List D->List Row->α)(enc:α->D)(out:α->List Row):bc:=
 ⟨f,refs,false,λargs rows=>match Bt sig args&&Bu ea rows with|true=>.lB (pre args rows) α (v args rows) enc out|false=>.no,some k,false⟩
def ai.w5:ai->Bool
 |.gen _=>false
 |.ah k _=>k.ng
 |_=>true
theorem ai.tA{E:ai}(h:E.w5=true):E.Fv:=by
 cases E with
 |gen es=>simp[ai.w5]at h
 |ah k l=>exact h
 |_=>trivial
def Dt:D->Bool|.sl _ E fr=>fr&&E.w5|.iC _ _ _ _=>false|.gx _ _=>false|_=>true
def Du:List D->Bool|[]=>true|d::l=>Dt d&&Du l
def J5:D->Bool|.agg cs=>Du cs|d=>Dt d
def FP:List D->Bool|[]=>true|d::l=>J5 d&&FP l
def tD:D->Bool|.ee ds=>FP ds|d=>J5 d
def jC:List Row->Bool
 |[]=>true
 |⟨true,_,_,.gen [e]⟩::l=>Du e&&jC l
 |⟨false,_,_,E⟩::l=>E.w5&&jC l
 |_=>false
theorem RQ(h:Dt d=true):P9 d:=by
 cases d<;>first|trivial|(simp[Dt]at h;done)|skip
 case sl sz E fr=>simp only[Dt,aE]at h;exact⟨.inr h.1,ai.tA h.2⟩
theorem Vy:∀{ds:List D},Du ds=true->Mv ds
 |[],_=>trivial
 |d::l,h=>by simp only[Du,aE]at h;exact⟨RQ h.1,Vy h.2⟩
theorem zay(h:J5 d=true):U1 d:=by
 cases d with
 |agg cs=>exact Vy h
 |sl a b c=>exact RQ (d:=.sl a b c) h
 |iC a b c e=>exact RQ (d:=.iC a b c e) h
 |_=>trivial
theorem qB:∀{ds:List D},FP ds=true->Fw ds
 |[],_=>trivial
 |d::l,h=>by simp only[FP,aE]at h;exact⟨zay h.1,qB h.2⟩
theorem qab(h:tD d=true):FF d:=by
 cases d with
 |ee ds=>exact qB h
 |agg cs=>exact Vy h
 |sl a b c=>exact RQ (d:=.sl a b c) h
 |iC a b c e=>exact RQ (d:=.iC a b c e) h
 |_=>trivial
theorem Vz:∀{rs:List Row},jC rs=true->rM rs
 |[],_=>trivial
 |⟨true,_,_,.gen [e]⟩::l,h=>by
  simp only[jC,aE]at h
  refine⟨?_,Vz h.2⟩
  simp only[JB,if_true,ai.l,List.mem_singleton,forall_eq]
  exact Vy h.1
 |⟨false,_,_,E⟩::l,h=>by
  simp only[jC,aE]at h
  refine⟨?_,Vz h.2⟩
  simp only[JB,aA,if_false]
  exact ai.tA h.1
 |⟨true,_,_,.gen []⟩::l,h=>by simp[jC]at h
 |⟨true,_,_,.gen (_::_::_)⟩::l,h=>by simp[jC]at h
 |⟨true,_,_,.ints _ _⟩::l,h=>by simp[jC]at h
 |⟨true,_,_,.ag _⟩::l,h=>by simp[jC]at h
 |⟨true,_,_,.ah _ _⟩::l,h=>by simp[jC]at h
theorem zab{sig:List PT}{ea:List RT}{rows:List Row}{out:List Row}(hs:(Bt sig args&&Bu ea rows)=true)(h:kG P f (lg sig args 0) (kH ea rows 0) res out):kG P f args rows res out:=by
 simp only[aE]at hs
 obtain⟨h1,h2⟩:=Qv0 (pre:=[]) hs.2
 exact kG.J3 (Qz5 (pre:=[]) hs.1) (by rw[Vw,h1]) h2 h
theorem qaM{sig:List PT}{ea:List RT}{α:Type}{v:List D->List Row->α}{enc:α->D}{out:α->List Row}(he:∀args w,(callFunc f args).run P w=.ok (.enter f args) w)(h:∀args rows,kG P f (lg sig args 0) (kH ea rows 0) (enc (v args rows)) (out (v args rows)))
 (hf:flat=true->∀X,(tD (enc X)&&jC (out X))=true) (hy:bN f YB=true:=by rfl):bm P (Gb f refs flat sig ea v enc out):=by
 refine⟨λ_=>he,λ_=>lE hy,λ_ args rows r r' hm=>?_,λ_ args rows p r r' hm=>?_,λ_ args rows α' v' r r' hm=>?_,λ_ args rows p α' v' r r' hm=>?_,λk hk=>(by cases hk),λk hk=>(by cases hk)⟩
 ·simp only[Gb]at hm
  split at hm<;>cases hm
 ·simp only[Gb]at hm
  split at hm<;>cases hm
 ·simp only[Gb]at hm
  split at hm
  ·rename_i hs
   cases hm
   exact⟨zab hs (h args rows),λe=>by have:=hf e (v args rows);simp only[aE]at this;exact⟨qab this.1,Vz this.2⟩⟩
  ·cases hm
 ·simp only[Gb]at hm
  split at hm<;>cases hm
theorem FQ{sig:List PT}{ea:List RT}{pre:List D->List Row->Prop}{α:Type}{v:List D->List Row->α}{enc:α->D}{out:α->List Row}(he:∀args w,(callFunc f args).run P w=.ok (.enter f args) w)(h:∀args rows,pre args rows->kG P f (lg sig args 0) (kH ea rows 0) (enc (v args rows)) (out (v args rows)))
 (hf:flat=true->∀X,(tD (enc X)&&jC (out X))=true) (hy:bN f YB=true:=by rfl):bm P (lF f refs flat sig ea pre v enc out):=by
 refine⟨λ_=>he,λ_=>lE hy,λ_ args rows r r' hm=>?_,λ_ args rows p r r' hm=>?_,λ_ args rows α' v' r r' hm=>?_,λ_ args rows p α' v' r r' hm hp=>?_,λk hk=>(by cases hk),λk hk=>(by cases hk)⟩
 ·simp only[lF]at hm
  split at hm<;>cases hm
 ·simp only[lF]at hm
  split at hm<;>cases hm
 ·simp only[lF]at hm
  split at hm<;>cases hm
 ·simp only[lF]at hm
  split at hm
  ·rename_i hs
   cases hm
   exact⟨zab hs (h args rows hp),λe=>by have:=hf e (v args rows);simp only[aE]at this;exact⟨qab this.1,Vz this.2⟩⟩
  ·cases hm
theorem xB{sig:List PT}{ea:List RT}{rows:List Row}{out:List Row}(hs:(Bt sig args&&Bu ea rows)=true)(h:tV P f k (lg sig args 0) (kH ea rows 0) res out):tV P f k args rows res out:=by
 simp only[aE]at hs
 obtain⟨h1,h2⟩:=Qv0 (pre:=[]) hs.2
 exact tV.J3 (Qz5 (pre:=[]) hs.1) (by rw[Vw,h1]) h2 h
theorem zaM{sig:List PT}{ea:List RT}{α:Type}{v:List D->List Row->α}{enc:α->D}{out:α->List Row}(he:f<YB->∀args w,(callFunc f args).run P w=.ok (.enter f args) w)(h:∀args rows,tV P f k (lg sig args 0) (kH ea rows 0) (enc (v args rows)) (out (v args rows))):
 bm P (J4 k f refs sig ea v enc out):=by
 refine⟨he,λhk=>(by cases hk),λhk=>(by cases hk),λhk=>(by cases hk),λhk=>(by cases hk),λhk=>(by cases hk),λk' hk args rows α' v' r r' hm=>?_,λk' hk args rows p α' v' r r' hm hp=>?_⟩
 ·cases hk
  simp only[J4]at hm
  split at hm
  ·rename_i hs
   cases hm
   exact xB hs (h args rows)
  ·cases hm
 ·simp only[J4]at hm
  split at hm<;>cases hm
theorem xay{sig:List PT}{ea:List RT}{pre:List D->List Row->Prop}{α:Type}{v:List D->List Row->α}{enc:α->D}{out:α->List Row}(he:f<YB->∀args w,(callFunc f args).run P w=.ok (.enter f args) w)(h:∀args rows,pre args rows->tV P f k (lg sig args 0) (kH ea rows 0) (enc (v args rows)) (out (v args rows))):
 bm P (jU k f refs sig ea pre v enc out):=by
 refine⟨he,λhk=>(by cases hk),λhk=>(by cases hk),λhk=>(by cases hk),λhk=>(by cases hk),λhk=>(by cases hk),λk' hk args rows α' v' r r' hm=>?_,λk' hk args rows p α' v' r r' hm hp=>?_⟩
 ·simp only[jU]at hm
  split at hm<;>cases hm
 ·cases hk
  simp only[jU]at hm
  split at hm
  ·rename_i hs
   cases hm
   exact xB hs (h args rows hp)
  ·cases hm
def e9{α β:Type}(v:α)(m:α->β):β:=m v
def kh(α:Type)(x y:α):Prop:=x=y
abbrev rE{α:Type}(x:α):Prop:=x=x
abbrev zM:bd:={B2:={X:={a0:=0,a1:=0,a2:=0,a3:=0,a4:=0,a5:=0,a6:=0,a7:=0,a8:=0,a9:=0,kq:=0,kr:=0,a12:=0,ku:=0,kv:=0,ky:=0},Pc:=0,C3:={a0:=0,a1:=0,a2:=0,a3:=0,a4:=0,a5:=0,a6:=0,a7:=0}},Mem:=[],B3:={D9:=[]},B8:={F0:=false,D3:=0,D8:=false},B5:={ab:=0,C9:=0,Frame:=0,C8:=0,F6:=0,C5:=0,C6:=0,C7:=[]},D1:={Frame:=0,F7:=0,D2:=false,D4:=0,C4:=false,F8:=0},A7:={A2:=0,D0:=0},B7:=0,B4:=false,B6:=false}
abbrev mE(m:bd)(P Q:Prop):Prop:=rE m.B2.X.a0/\rE m.B2.X.a1/\rE m.B2.X.a2/\rE m.B2.X.a3/\rE m.B2.X.a4/\rE m.B2.X.a5/\rE m.B2.X.a6/\rE m.B2.X.a7/\rE m.B2.X.a8/\rE m.B2.X.a9/\rE m.B2.X.kq/\rE m.B2.X.kr/\rE m.B2.X.a12/\rE m.B2.X.ku/\rE m.B2.X.kv/\rE m.B2.X.ky/\rE m.B2.Pc/\rE m.B2.C3.a0/\rE m.B2.C3.a1/\rE m.B2.C3.a2/\rE m.B2.C3.a3/\rE m.B2.C3.a4/\rE m.B2.C3.a5/\rE m.B2.C3.a6/\rE m.B2.C3.a7/\P/\rE m.B3.D9/\rE m.B8.F0/\rE m.B8.D3/\rE m.B8.D8/\rE m.B5.ab/\rE m.B5.C9/\rE m.B5.Frame/\rE m.B5.C8/\rE m.B5.F6/\rE m.B5.C5/\rE m.B5.C6/\rE m.B5.C7/\rE m.D1.Frame/\rE m.D1.F7/\rE m.D1.D2/\rE m.D1.D4/\rE m.D1.C4/\rE m.D1.F8/\rE m.A7.A2/\rE m.A7.D0/\rE m.B7/\rE m.B4/\rE m.B6/\Q
abbrev mR(f:Nat->D)(M:List Int):bd:=(⟨(⟨(⟨(f 0).toInt,(f 1).toInt,(f 2).toInt,(f 3).toInt,(f 4).toInt,(f 5).toInt,(f 6).toInt,(f 7).toInt,(f 8).toInt,(f 9).toInt,(f 10).toInt,(f 11).toInt,(f 12).toInt,(f 13).toInt,(f 14).toInt,(f 15).toInt⟩:(iv Int)),(f 16).toInt,(⟨(f 17).toInt,(f 18).toInt,(f 19).toInt,(f 20).toInt,(f 21).toInt,(f 22).toInt,(f 23).toInt,(f 24).toInt⟩:(A8 Int))⟩:bq),M,(⟨(f 26).toStr⟩:iH),(⟨(f 27).toBool,(f 28).toInt,(f 29).toBool⟩:iW),(⟨(f 30).toInt,(f 31).toInt,(f 32).toInt,(f 33).toInt,(f 34).toInt,(f 35).toInt,(f 36).toInt,(f 37).toStr⟩:gg),(⟨(f 38).toInt,(f 39).toInt,(f 40).toBool,(f 41).toInt,(f 42).toBool,(f 43).toInt⟩:ic),(⟨(f 44).toInt,(f 45).toInt⟩:gw),(f 46).toInt,(f 47).toBool,(f 48).toBool⟩:bd)
abbrev mD(x:bd)(d:D):List D:=[.int u32 x.B2.X.a0,.int u32 x.B2.X.a1,.int u32 x.B2.X.a2,.int u32 x.B2.X.a3,.int u32 x.B2.X.a4,.int u32 x.B2.X.a5,.int u32 x.B2.X.a6,.int u32 x.B2.X.a7,.int u32 x.B2.X.a8,.int u32 x.B2.X.a9,.int u32 x.B2.X.kq,.int u32 x.B2.X.kr,.int u32 x.B2.X.a12,.int u32 x.B2.X.ku,.int u32 x.B2.X.kv,.int u32 x.B2.X.ky,.int u32 x.B2.Pc,.int u32 x.B2.C3.a0,.int u32 x.B2.C3.a1,.int u32 x.B2.C3.a2,.int u32 x.B2.C3.a3,.int u32 x.B2.C3.a4,.int u32 x.B2.C3.a5,.int u32 x.B2.C3.a6,.int u32 x.B2.C3.a7,d,.str x.B3.D9,.bool x.B8.F0,.int u32 x.B8.D3,.bool x.B8.D8,.int u32 x.B5.ab,.int u32 x.B5.C9,.int u32 x.B5.Frame,.int i64 x.B5.C8,.int i64 x.B5.F6,.int u32 x.B5.C5,.int u32 x.B5.C6,.str x.B5.C7,.int u32 x.D1.Frame,.int u32 x.D1.F7,.bool x.D1.D2,.int u32 x.D1.D4,.bool x.D1.C4,.int u32 x.D1.F8,.int u32 x.A7.A2,.int u32 x.A7.D0,.int u64 x.B7,.bool x.B4,.bool x.B6]
abbrev mB(f:Nat->D):List D:=[f 0,f 1,f 2,f 3,f 4,f 5,f 6,f 7,f 8,f 9,f 10,f 11,f 12,f 13,f 14,f 15,f 16,f 17,f 18,f 19,f 20,f 21,f 22,f 23,f 24,f 25,f 26,f 27,f 28,f 29,f 30,f 31,f 32,f 33,f 34,f 35,f 36,f 37,f 38,f 39,f 40,f 41,f 42,f 43,f 44,f 45,f 46,f 47,f 48]
abbrev rZ:Prop:=rE (0:Nat)/\rE (0:Nat)
abbrev nR(k:RK)(n:Nat)(x:List (RK.T k)):Prop:=(ai.Nil (ai.ah k x)\/rE n)/\rE x
abbrev aC(l:List D)(n:Nat):List D:=(l.getD n .dead).cells
theorem nY{p:Prop}(h:p:=by((subst_vars;first|trivial|assumption|omega|((simp(config:={decide:=true,failIfUnchanged:=false}) only[aE,Bool.or_eq_true,Bool.and_eq_false_iff,Bool.or_eq_false_iff,Bool.not_eq_true',Bool.not_eq_false',Bool.not_eq_true,Bool.not_eq_false,decide_eq_true_eq,decide_eq_false_iff_not,Q5d,Q3f,Q5a,Q3e,beq_iff_eq,beq_eq_false_iff_ne,bne_iff_ne,bne_eq_false_iff_eq,ne_eq,List.all_cons,List.all_nil,D.plain,List.length_cons,List.length_nil,lA,List.length_set,List.length_replicate,wrap_i64,wrap_u64,wrap_u32,wrap_i32,wrap_u8,true_and,and_true,or_false,false_or,or_true,true_or,not_true_eq_false,not_false_eq_true,Prod.fst,Prod.snd]at*);first|done|assumption|omega)|((simp(config:={decide:=true,failIfUnchanged:=false}) only[aE,Bool.or_eq_true,Bool.and_eq_false_iff,Bool.or_eq_false_iff,Bool.not_eq_true',Bool.not_eq_false',Bool.not_eq_true,Bool.not_eq_false,decide_eq_true_eq,decide_eq_false_iff_not,Q5d,Q3f,Q5a,Q3e,beq_iff_eq,beq_eq_false_iff_ne,bne_iff_ne,bne_eq_false_iff_eq,ne_eq,List.all_cons,List.all_nil,D.plain,List.length_cons,List.length_nil,lA,List.length_set,List.length_replicate,wrap_i64,wrap_u64,wrap_u32,wrap_i32,wrap_u8,true_and,and_true,or_false,false_or,or_true,true_or,not_true_eq_false,not_false_eq_true,Prod.fst,Prod.snd]at*);simp only[<-List.length_pos_iff]at*;omega)|(simp_all;done)|(have:= @Qhl;simp_all;try omega)))):p:=h
def run{α β:Type}[Inhabited β](F:α->α⊕β):Nat->α->β
 |0,_=>default
 |k+1,a=>match F a with|.inl a'=>run F k a'|.inr b=>b
theorem zB{α β:Type}[Inhabited β]{F:α->α⊕β}{P:α->Prop}{R:β->Prop}{μ:α->Nat}(h:∀a,P a->match F a with|.inl a'=>P a'/\μ a'<μ a|.inr b=>R b):∀k a,P a->μ a<k->R (run F k a):=by
 intro k
 induction k with
 |zero=>intro a _ hk;omega
 |succ k ih=>
  intro a ha hk
  have:=h a ha
  unfold run
  split at this
  ·rename_i a' he;exact ih a' this.1 (by omega)
  ·exact this
inductive Tree:Type->Type 1 where
 |lf {β:Type} (x:β):Tree β
 |nx {β:Type} (f:Prop) (x:β) (h:f:=by first|trivial|(simp[kh];done)|decide|(simp only[and_true,true_and,or_true,true_or,and_self];done)|((repeat'(first|exact True.intro|apply And.intro|exact rfl|exact Or.inr rfl));done)):Tree β
 |br {β:Type} (c:Bool) (t e:Tree β):Tree β
 |cn {β:Type} (c:Bool) (t:Tree β):Tree β
 |fl {β:Type} (c:Bool) (t:Tree β):Tree β
 |an {β:Type} (p:Prop) (t:Tree β):Tree β
 |lv {α β:Type} (x:α) (k:α->Tree β):Tree β
 |lp {α β:Type} (d:Inhabited β) (n:Nat) (f:Prop) (x:α) (t:α->Tree (α⊕β)) (h:f:=by first|trivial|(simp[kh];done)|decide|(simp only[and_true,true_and,or_true,true_or,and_self];done)|((repeat'(first|exact True.intro|apply And.intro|exact rfl|exact Or.inr rfl));done)):Tree β
def Tree.m{β:Type}:Tree β->β
 |.lf x=>x
 |.nx _ x _=>x
 |.br c t e=>cond c t.m e.m
 |.cn _ t=>t.m
 |.fl _ t=>t.m
 |.an _ t=>t.m
 |.lv x k=>e9 x λy=>(k y).m
 |.lp _ n _ x t _=>run (λy=>(t y).m) n x
def mm{α β:Type}(B:α->(α⊕β->Prop)->Prop)(W:β->Prop)(n:Nat)(y:α):Prop:=
 match n with
 |0=>False
 |k+1=>B y (hJ (λz=>mm B W k z) W)
termination_by n
theorem Z6g{α β:Type}{B:α->(α⊕β->Prop)->Prop}{W:β->Prop}{y:α}:mm B W 0 y=False:=by rw[mm]
theorem M5{α β:Type}{B:α->(α⊕β->Prop)->Prop}{W:β->Prop}{y:α}:mm B W (k+1) y=B y (hJ (λz=>mm B W k z) W):=by rw[mm]
def Tree.w{β:Type}:Tree β->(β->Prop)->Prop
 |.lf x,W=>W x
 |.nx _ x _,W=>W x
 |.br c t e,W=>Aj c (t.w W) (e.w W)
 |.cn c t,W=>cv c (t.w W)
 |.fl c t,W=>Aj c False (t.w W)
 |.an p t,W=>p/\t.w W
 |.lv x k,W=>∀y,y=x->(k y).w W
 |.lp _ n _ x t _,W=>mm (λy V=>(t y).w V) W n x
def Tree.q{β:Type}:Tree β->(β->Prop)->Prop
 |.lf x,L=>L x
 |.nx f x _,L=>L x/\f
 |.br c t e,L=>Aj c (t.q L) (e.q L)
 |.cn c t,L=>cv c (t.q L)
 |.fl c t,L=>Aj c False (t.q L)
 |.an p t,L=>p/\t.q L
 |.lv x k,L=>∀y,y=x->(k y).q L
 |.lp (α:=α) _ _ f x t _,L=>∃(wu:α->Prop),∃(ν:α->Nat),wu x/\f/\∀y,wu y->(t y).q (hJ (λz=>wu z/\ν z<ν y) L)
theorem Tree.main{β:Type}(t:Tree β):∀{W L E:β->Prop},(∀x,W x->E x->L x)->t.w W->E t.m->t.q L:=by
 induction t with
 |lf x=>intro W L E h hw he;exact h x hw he
 |nx f x hf=>intro W L E h hw he;exact⟨h x hw he,hf⟩
 |br c t e J6 J7=>
  intro W L E h hw he
  cases c with
  |true=>exact J6 h hw he
  |false=>exact J7 h hw he
 |cn c t ih=>intro W L E h hw he;exact dm.2 ⟨(dm.1 hw).1,ih h (dm.1 hw).2 he⟩
 |fl c t ih=>
  intro W L E h hw he
  cases c with
  |true=>exact hw.elim
  |false=>exact ih h hw he
 |an p t ih=>intro W L E h hw he;exact⟨hw.1,ih h hw.2 he⟩
 |lv x k ih=>intro W L E h hw he y hy;subst hy;exact ih y h (hw y rfl) he
 |lp d n f x t hf ih=>
  intro W L E h hw he
  have H:∀k y,mm (λy V=>(t y).w V) W k y->E (@run _ _ d (λy=>(t y).m) k y)->∃j,j<k/\k=j+1:=by
   intro k y h1 _
   cases k with
   |zero=>rw[Z6g]at h1;exact h1.elim
   |succ k=>exact⟨k,Nat.lt_succ_self k,rfl⟩
  let P:Nat->_->Prop:=λk y=>mm (λy V=>(t y).w V) W k y/\E (@run _ _ d (λy=>(t y).m) k y)
  have least:∀y,(∃k,P k y)->∃k,P k y/\∀j,P j y->k<=j:=by
   intro y ⟨k,hk⟩
   induction k using Nat.strongRecOn with
   |ind k ihk=>
    by_cases hj:∃j,j<k/\P j y
    ·obtain⟨j,h1,h2⟩:=hj;exact ihk j h1 h2
    ·exact⟨k,hk,λj h2=>Nat.le_of_not_lt λh1=>hj ⟨j,h1,h2⟩⟩
  have ch:∃ν:_->Nat,∀y,(∃k,P k y)->P (ν y) y/\∀j,P j y->ν y<=j:=Classical.axiomOfChoice (r:=λy k=>(∃k,P k y)->P k y/\∀j,P j y->k<=j) λy=>by
   by_cases hy:∃k,P k y
   ·obtain⟨k,hk⟩:=least y hy;exact⟨k,λ_=>hk⟩
   ·exact⟨0,λh=>absurd h hy⟩
  obtain⟨ν,hν⟩:=ch
  refine⟨λy=>∃k,P k y,ν,⟨n,hw,he⟩,hf,λy hy=>?_⟩
  have RR:=hν y hy
  generalize Ai:ν y=k0 at RR
  obtain⟨⟨h1,h2⟩,_⟩:=RR
  obtain⟨j,_,rfl⟩:=H k0 y h1 h2
  rw[M5]at h1
  refine ih y (E:=hJ (λz=>E (@run _ _ d (λy=>(t y).m) j z)) E) ?_ h1 ?_
  ·intro z HQ hz2
   cases z with
   |inl z=>
    have hz:∃k,P k z:=⟨j,HQ,hz2⟩
    refine⟨hz,?_⟩
    have:=(hν z hz).2 j ⟨HQ,hz2⟩
    show ν z<j+1
    omega
   |inr z=>exact h z HQ hz2
  ·unfold run at h2
   cases hF:(t y).m with
   |inl z=>rw[hF]at h2;exact h2
   |inr z=>rw[hF]at h2;exact h2
abbrev Tree.p{β:Type}(t:Tree β):Prop:=t.w λ_=>True
theorem Tree.main'{β:Type}{t:Tree β}{L:β->Prop}(hw:t.p)(h:L t.m):t.q L:=t.main (λ_ _ h=>h) hw h
theorem Tree.mono{β:Type}(t:Tree β):∀{W V:β->Prop},(∀x,W x->V x)->t.w W->t.w V:=by
 induction t with
 |lf x=>intro W V h hw;exact h x hw
 |nx f x hf=>intro W V h hw;exact h x hw
 |br c t e J6 J7=>
  intro W V h hw
  cases c with
  |true=>exact J6 h hw
  |false=>exact J7 h hw
 |cn c t ih=>intro W V h hw;exact dm.2 ⟨(dm.1 hw).1,ih h (dm.1 hw).2⟩
 |fl c t ih=>
  intro W V h hw
  cases c with
  |true=>exact hw.elim
  |false=>exact ih h hw
 |an p t ih=>intro W V h hw;exact⟨hw.1,ih h hw.2⟩
 |lv x k ih=>intro W V h hw y hy;exact ih y h (hw y hy)
 |lp d n f x t hf ih=>
  intro W V h hw
  revert x
  show∀x,mm (λy V=>(t y).w V) W n x->mm (λy V=>(t y).w V) V n x
  induction n with
  |zero=>intro x hw;rw[Z6g]at hw;exact hw.elim
  |succ n ihn=>
   intro x hw
   rw[M5]at hw⊢
   refine ih x (λz hz=>?_) hw
   cases z with
   |inl z=>exact ihn z hz
   |inr z=>exact h z hz
theorem Tree.post{β:Type}(t:Tree β):∀{W:β->Prop},t.w W->W t.m:=by
 induction t with
 |lf x=>intro W hw;exact hw
 |nx f x hf=>intro W hw;exact hw
 |br c t e J6 J7=>
  intro W hw
  cases c with
  |true=>exact J6 hw
  |false=>exact J7 hw
 |cn c t ih=>intro W hw;exact ih (dm.1 hw).2
 |fl c t ih=>
  intro W hw
  cases c with
  |true=>exact hw.elim
  |false=>exact ih hw
 |an p t ih=>intro W hw;exact ih hw.2
 |lv x k ih=>intro W hw;exact ih x (hw x rfl)
 |lp d n f x t hf ih=>
  intro W hw
  revert x
  show∀x,mm (λy V=>(t y).w V) W n x->W (@run _ _ d (λy=>(t y).m) n x)
  induction n with
  |zero=>intro x hw;rw[Z6g]at hw;exact hw.elim
  |succ n ihn=>
   intro x hw
   rw[M5]at hw
   have:=ih x hw
   unfold run
   cases hF:(t x).m with
   |inl z=>rw[hF]at this;exact ihn z this
   |inr z=>rw[hF]at this;exact this
theorem Tree.pp{β:Type}{t:Tree β}{W:β->Prop}(h:t.w W):t.p/\W t.m:=⟨t.mono (λ_ _=>trivial) h,t.post h⟩
section
variable {α β:Type} {W:β->Prop} {c:Bool} {t e:Tree β}
theorem bh{x:β}(h:W x):(Tree.lf x).w W:=h
theorem ff{f:Prop}{x:β}{hf:f}(h:W x):(Tree.nx f x hf).w W:=h
theorem ae(h:c=true->t.w W)(g:c=false->e.w W):(Tree.br c t e).w W:=ZH.2 ⟨h,g⟩
theorem aw(h:c=true)(g:t.w W):(Tree.cn c t).w W:=dm.2 ⟨h,g⟩
theorem V9(h:c=false)(g:t.w W):(Tree.fl c t).w W:=ZH.2 ⟨λe=>(by rw[h]at e;cases e),λ_=>g⟩
theorem df{p:Prop}(h:p)(g:t.w W):(Tree.an p t).w W:=⟨h,g⟩
theorem aq{x:α}{k:α->Tree β}(h:∀y,y=x->(k y).w W):(Tree.lv x k).w W:=h
theorem fv{d:Inhabited β}{n:Nat}{f:Prop}{x:α}{k:α->Tree (α⊕β)}{hf:f}{inv:α->Prop}{μ:α->Nat}(h:inv x)(hn:μ x<n)(g:∀y,inv y->(k y).w (hJ (λz=>inv z/\μ z<μ y) W)):(Tree.lp d n f x k hf).w W:=by
 show mm (λy V=>(k y).w V) W n x
 revert x
 induction n with
 |zero=>intro x h hn;omega
 |succ n ih=>
  intro x h hn
  rw[M5]
  refine(k x).mono (λz hz=>?_) (g x h)
  cases z with
  |inl z=>exact ih hz.1 (by have:=hz.2;omega)
  |inr z=>exact hz
end
theorem wL{β:Type}{x:β}:(Tree.lf x).p:=trivial
theorem wB{β:Type}{c:Bool}{t e:Tree β}(h:t.p)(g:e.p):(Tree.br c t e).p:=by cases c<;>assumption
structure ma(T:iG)(G:List bc)(L:Code->St->(Ex->St->Prop)->Prop)(fn:Func)(args:List D)(rows:List Row)(ds:List nk)(Q:D->List Row->Prop):Prop where
 h:ko T G L fn args rows λd R=>og rows.length ds d R Q
theorem ma.of{G:List bc}{L:Code->St->(Ex->St->Prop)->Prop}{rows:List Row}{Q:D->List Row->Prop}{p:Prop}(e:(ko T G L fn args rows λd R=>og rows.length ds d R Q)=p)(hl:p):ma T G L fn args rows ds Q:=⟨by rw[e];exact hl⟩
theorem ma.calls(hD:pP P)(hT:jm P T){G:List bc}(hG:jF P G)(hf:P.funcs[f]?=some fn){rows:List Row}{aj:List Row}
 {rf:Option Nat} (mL:∀code,fn.body=some code->RF rf fn.ntmps code) {L:Code->St->(Ex->St->Prop)->Prop} (hL:∀code st Q,RF rf fn.ntmps code->L code st Q->Tr P fn.ntmps rows.length code st Q) {ds:List nk} (h:ma T G L fn args rows ds λr o=>r=res/\o=aj):kG P f args rows res aj:=
 vv hD hT hG hf mL hL (λd R hQ=>by obtain⟨r,o,⟨rfl,rfl⟩,hE⟩:=Zbs hQ;exact hE) h.h
structure tB(T:iG)(G:List bc)(L:Code->St->(Ex->St->Prop)->Prop)(fn:Func)(args:List D)(rows:List Row)(k:Nat)(ds:List nk)(Q:D->List Row->Prop):Prop where
 h:FJ T G L fn args rows (λd R=>og k ds d R Q) k
theorem tB.of{G:List bc}{L:Code->St->(Ex->St->Prop)->Prop}{rows:List Row}{Q:D->List Row->Prop}{p:Prop}(e:(FJ T G L fn args rows (λd R=>og k ds d R Q) k)=p)(hl:p):tB T G L fn args rows k ds Q:=⟨by rw[e];exact hl⟩
theorem tB.calls(hD:pP P)(hT:jm P T){G:List bc}(hG:jF P G){rows:List Row}{aj:List Row}{rf:Option Nat}(hf:pn P f fn (rA (oH args++kL rows)=true/\rf=none))(mL:∀code,fn.body=some code->RF rf fn.ntmps code)
 {L:Code->St->(Ex->St->Prop)->Prop} (hL:∀ro,(ro=none\/rf=none)->∀code st Q,RF rf fn.ntmps code->L code st Q->tZ ro P fn.ntmps k code st Q) {ds:List nk} (h:tB T G L fn args rows k ds λr o=>r=res/\o=aj):tV P f k args rows res aj:=
 zaJ hD hT hG hf mL hL (λd R hQ=>by obtain⟨r,o,⟨rfl,rfl⟩,hE⟩:=Zbs hQ;exact hE) h.h
section
variable {P:Program} {T:iG} {G:List bc} {f:FuncId} {fn:Func} {refs:List Bool} {flat:Bool} {sig:List PT} {ea:List RT} {pre:List D->List Row->Prop} {β:Type} {v:List D->List Row->β} {enc:β->D} {out:β->List Row}
theorem pn.imp{cl cl':Prop}(h:pn P f fn cl)(g:cl->cl'):pn P f fn cl':=by
 cases h with
 |real a b c=>exact .real a b c
 |yield a y d b c e f g1 g2 h i=>exact .yield a y d b c e f g1 g2 h (g i)
 |uX a y q b c e f g1 h i j k=>exact .uX a y q b c e f g1 h i j (g k)
theorem Zda(rf:Option Nat)(mL:∀code,fn.body=some code->RF rf fn.ntmps code)(hD:pP P)(hT:jm P T)(hG:jF P G)(hf:P.funcs[f]?=some fn)(t:List D->List Row->Tree β)(ds:List nk)(gb:List (Nat×cg))(dep:Nat)
 (hn:∀args rows Q,(ko T G (AZ T G fn.ntmps ea.length gb rf dep) fn (lg sig args 0) (kH ea rows 0) λd R=>og ea.length ds d R Q)=(t args rows).q λX=>Q (enc X) (out X)) (hv:∀args rows,(t args rows).m=v args rows) {args:List D} {rows:List Row} (hp:(t args rows).p):
 kG P f (lg sig args 0) (kH ea rows 0) (enc (v args rows)) (out (v args rows)):=by
 have e:(kH ea rows 0).length=ea.length:=Vw
 refine ma.calls hD hT hG hf mL (L:=AZ T G fn.ntmps ea.length gb rf dep) (λcode st Q hc hl=>by rw[e];exact Gv hD hT hG (.inl rfl) dep _ _ _ hc hl) (ds:=ds) ⟨?_⟩
 rw[e,hn]
 refine Tree.main' hp ?_
 rw[hv]
 exact⟨rfl,rfl⟩
theorem Z7p(rf:Option Nat)(mL:∀code,fn.body=some code->RF rf fn.ntmps code)(hD:pP P)(hT:jm P T)(hG:jF P G)(hf:pn P f fn ((∀args rows,rA (oH (lg sig args 0)++kL (kH ea rows 0))=true)/\rf=none))(t:List D->List Row->Tree β)(ds:List nk)(gb:List (Nat×cg))(dep:Nat)
 (hn:∀args rows Q,(FJ T G (AZ T G fn.ntmps k gb rf dep) fn (lg sig args 0) (kH ea rows 0) (λd R=>og k ds d R Q) k)=(t args rows).q λX=>Q (enc X) (out X)) (hv:∀args rows,(t args rows).m=v args rows) {args:List D} {rows:List Row} (hp:(t args rows).p):
 tV P f k (lg sig args 0) (kH ea rows 0) (enc (v args rows)) (out (v args rows)):=by
 refine tB.calls hD hT hG (hf.imp λh=>⟨h.1 args rows,h.2⟩) mL (L:=AZ T G fn.ntmps k gb rf dep) (λro DK=>Gv hD hT hG DK dep) (ds:=ds) ⟨?_⟩
 rw[hn]
 refine Tree.main' hp ?_
 rw[hv]
 exact⟨rfl,rfl⟩
theorem Zm0(rf:Option Nat)(mL:∀code,fn.body=some code->RF rf fn.ntmps code)(hD:pP P)(hT:jm P T)(hG:jF P G)(hf:P.funcs[f]?=some fn)(he:∀args w,(callFunc f args).run P w=.ok (.enter f args) w)(t:List D->List Row->Tree β)(ds:List nk)(gb:List (Nat×cg))(dep:Nat)
 (hn:∀args rows Q,(ko T G (AZ T G fn.ntmps ea.length gb rf dep) fn (lg sig args 0) (kH ea rows 0) λd R=>og ea.length ds d R Q)=(t args rows).q λX=>Q (enc X) (out X):=by intro _ _ _;kernel_rfl) (hv:∀args rows,(t args rows).m=v args rows:=by exactλ_ _=>rfl)
 (hp:∀args rows,pre args rows->(t args rows).p:=by exactλ_ _ h=>h) (jB:flat=true->∀X,(tD (enc X)&&jC (out X))=true:=by intro _ _;kernel_rfl) (hy:bN f YB=true:=by rfl):bm P (lF f refs flat sig ea pre v enc out):=
 FQ he (λargs rows hw=>Zda rf mL hD hT hG hf t ds gb dep hn hv (hp _ _ hw)) jB hy
theorem wa(hD:pP P)(hT:jm P T)(hG:jF P G)(hf:P.funcs[f]?=some fn)(he:∀args w,(callFunc f args).run P w=.ok (.enter f args) w)(t:List D->List Row->Tree β)(ds:List nk)(gb:List (Nat×cg))(dep:Nat)
 (hn:∀args rows Q,(ko T G (LL T G fn.ntmps ea.length gb dep) fn (lg sig args 0) (kH ea rows 0) λd R=>og ea.length ds d R Q)=(t args rows).q λX=>Q (enc X) (out X):=by intro _ _ _;kernel_rfl) (hv:∀args rows,(t args rows).m=v args rows:=by exactλ_ _=>rfl)
 (hp:∀args rows,pre args rows->(t args rows).p:=by exactλ_ _ h=>h) (jB:flat=true->∀X,(tD (enc X)&&jC (out X))=true:=by intro _ _;kernel_rfl) (hy:bN f YB=true:=by rfl):bm P (lF f refs flat sig ea pre v enc out):=
 Zm0 none (λ_ _=>trivial) hD hT hG hf he t ds gb dep hn hv hp jB hy
theorem qaz(rf:Option Nat)(mL:∀code,fn.body=some code->RF rf fn.ntmps code)(hD:pP P)(hT:jm P T)(hG:jF P G)(hf:P.funcs[f]?=some fn)(he:∀args w,(callFunc f args).run P w=.ok (.enter f args) w)(t:List D->List Row->Tree β)(ds:List nk)(gb:List (Nat×cg))(dep:Nat)
 (hn:∀args rows Q,(ko T G (AZ T G fn.ntmps ea.length gb rf dep) fn (lg sig args 0) (kH ea rows 0) λd R=>og ea.length ds d R Q)=(t args rows).q λX=>Q (enc X) (out X)) (hv:∀args rows,(t args rows).m=v args rows)
 (hp:∀args rows,(t args rows).p) (jB:flat=true->∀X,(tD (enc X)&&jC (out X))=true) (hy:bN f YB=true:=by rfl):bm P (Gb f refs flat sig ea v enc out):=
 qaM he (λargs rows=>Zda rf mL hD hT hG hf t ds gb dep hn hv (hp _ _)) jB hy
theorem Q1(hD:pP P)(hT:jm P T)(hG:jF P G)(hf:P.funcs[f]?=some fn)(he:∀args w,(callFunc f args).run P w=.ok (.enter f args) w)(t:List D->List Row->Tree β)(ds:List nk)(gb:List (Nat×cg))(dep:Nat)
 (hn:∀args rows Q,(ko T G (LL T G fn.ntmps ea.length gb dep) fn (lg sig args 0) (kH ea rows 0) λd R=>og ea.length ds d R Q)=(t args rows).q λX=>Q (enc X) (out X):=by intro _ _ _;kernel_rfl) (hv:∀args rows,(t args rows).m=v args rows:=by exactλ_ _=>rfl)
 (hp:∀args rows,(t args rows).p:=by intro _ _;exact Tree.nZ (by kernel_rfl)) (jB:flat=true->∀X,(tD (enc X)&&jC (out X))=true:=by intro _ _;kernel_rfl) (hy:bN f YB=true:=by rfl):bm P (Gb f refs flat sig ea v enc out):=
 qaz none (λ_ _=>trivial) hD hT hG hf he t ds gb dep hn hv hp jB hy
theorem Zqt(rf:Option Nat)(mL:∀code,fn.body=some code->RF rf fn.ntmps code)(hD:pP P)(hT:jm P T)(hG:jF P G)(hf:pn P f fn ((∀args rows,rA (oH (lg sig args 0)++kL (kH ea rows 0))=true)/\rf=none))(he:f<YB->∀args w,(callFunc f args).run P w=.ok (.enter f args) w)(t:List D->List Row->Tree β)(ds:List nk)(gb:List (Nat×cg))(dep:Nat)
 (hn:∀args rows Q,(FJ T G (AZ T G fn.ntmps k gb rf dep) fn (lg sig args 0) (kH ea rows 0) (λd R=>og k ds d R Q) k)=(t args rows).q λX=>Q (enc X) (out X)) (hv:∀args rows,(t args rows).m=v args rows)
 (hp:∀args rows,pre args rows->(t args rows).p):bm P (jU k f refs sig ea pre v enc out):=
 xay he (λargs rows hw=>Z7p rf mL hD hT hG hf t ds gb dep hn hv (hp _ _ hw))
theorem tC(hD:pP P)(hT:jm P T)(hG:jF P G)(hf:P.funcs[f]?=some fn)(he:∀args w,(callFunc f args).run P w=.ok (.enter f args) w)(t:List D->List Row->Tree β)(ds:List nk)(gb:List (Nat×cg))(dep:Nat)
 (hn:∀args rows Q,(FJ T G (LL T G fn.ntmps k gb dep) fn (lg sig args 0) (kH ea rows 0) (λd R=>og k ds d R Q) k)=(t args rows).q λX=>Q (enc X) (out X)) (hv:∀args rows,(t args rows).m=v args rows)
 (hp:∀args rows,pre args rows->(t args rows).p) (hy:bN f YB=true:=by rfl) (hb:Nat.ble YB fn.nfree=false:=by rfl):bm P (jU k f refs sig ea pre v enc out):=
 Zqt none (λ_ _=>trivial) hD hT hG (.real (lE hy) hf hb) (λ_=>he) t ds gb dep hn hv hp
theorem yB(rf:Option Nat)(mL:∀code,fn.body=some code->RF rf fn.ntmps code)(hD:pP P)(hT:jm P T)(hG:jF P G)(hf:pn P f fn ((∀args rows,rA (oH (lg sig args 0)++kL (kH ea rows 0))=true)/\rf=none))(he:f<YB->∀args w,(callFunc f args).run P w=.ok (.enter f args) w)(t:List D->List Row->Tree β)(ds:List nk)(gb:List (Nat×cg))(dep:Nat)
 (hn:∀args rows Q,(FJ T G (AZ T G fn.ntmps k gb rf dep) fn (lg sig args 0) (kH ea rows 0) (λd R=>og k ds d R Q) k)=(t args rows).q λX=>Q (enc X) (out X)) (hv:∀args rows,(t args rows).m=v args rows)
 (hp:∀args rows,(t args rows).p):bm P (J4 k f refs sig ea v enc out):=
 zaM he (λargs rows=>Z7p rf mL hD hT hG hf t ds gb dep hn hv (hp _ _))
theorem xaM(hD:pP P)(hT:jm P T)(hG:jF P G)(hf:P.funcs[f]?=some fn)(he:∀args w,(callFunc f args).run P w=.ok (.enter f args) w)(t:List D->List Row->Tree β)(ds:List nk)(gb:List (Nat×cg))(dep:Nat)
 (hn:∀args rows Q,(FJ T G (LL T G fn.ntmps k gb dep) fn (lg sig args 0) (kH ea rows 0) (λd R=>og k ds d R Q) k)=(t args rows).q λX=>Q (enc X) (out X)) (hv:∀args rows,(t args rows).m=v args rows)
 (hp:∀args rows,(t args rows).p) (hy:bN f YB=true:=by rfl) (hb:Nat.ble YB fn.nfree=false:=by rfl):bm P (J4 k f refs sig ea v enc out):=
 yB none (λ_ _=>trivial) hD hT hG (.real (lE hy) hf hb) (λ_=>he) t ds gb dep hn hv hp
theorem vB(h:bm P (lF f refs flat sig ea pre v enc out)){rows:List Row}(hs:(Bt sig args&&Bu ea rows)=true)(hw:pre args rows):kG P f args rows (enc (v args rows)) (out (v args rows)):=
 (h.lB rfl args rows (pre args rows) β (v args rows) enc out (by simp only[lF,hs]) hw).1
end
def Tree.rp{β:Type}:Tree β->Bool
 |.lf _=>true
 |.br _ t e=>t.rp&&e.rp
 |.lv x k=>(k x).rp
 |_=>false
theorem Tree.nZ{β:Type}{t:Tree β}(h:t.rp=true):t.p:=by
 induction t with
 |lf x=>trivial
 |br c t e J6 J7=>
  simp only[Tree.rp,aE]at h
  cases c with
  |true=>exact J6 h.1
  |false=>exact J7 h.2
 |lv x k ih=>intro y hy;subst hy;exact ih _ h
 |_=>simp[Tree.rp]at h
theorem jF.nil:jF P []:=λx hx=>by cases hx
theorem jF.cons{x:bc}{G:List bc}(h:bm P x)(g:jF P G):jF P (x::G):=λy hy=>by
 simp only[List.mem_cons]at hy
 rcases hy with rfl|hy
 ·exact h
 ·exact g y hy

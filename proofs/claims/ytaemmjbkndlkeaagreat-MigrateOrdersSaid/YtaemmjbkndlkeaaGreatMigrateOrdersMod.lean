import Derived.Test.YtaemmjbkndlkeaaGreatMigrateOrdersFc
open Nat renaming blt->bN,beq->bX,le_refl->aX
open List renaming map_cons->fG,getD->aV,getElem?_eq_getElem->aI,range'->bO,all_cons->gJ,all_nil->hJ,length_cons->dD,length_nil->dE,length_set->dC,length_replicate->cS
open Bool renaming false_eq_true->aA,or_eq_true->aT,and_eq_false_iff->gU,or_eq_false_iff->gW,not_eq_true'->bB,not_eq_false'->gX,not_eq_true->gY,not_eq_false->gZ
open Sum renaming elim->hY
set_option linter.all false
namespace Go.GD
open Go
open Go.IntKind(i64 u32 u64 wrap_i64 wrap_u32 wrap_u64 wrap_u8 wrap_i32)
variable {P:Program}{T:iu}{a b k s:Nat}{args pW:List D}{d res:D}{ds:List ng}{f:FuncId}{flat fr:Bool}{fn:Func}{refs:List Bool}
def lk(st:St)(t:Nat):D:=look st.env t
def rN(st:St)(t:Nat):Nat:=iX (look st.env t) 1000000
def cT(st:St)(t j:Nat):D:=ay st.rows (iX (look st.env t) 1000000) j
def rX(st:St)(t k:Nat):Nat:=iX (look st.env t) (st.rows.length+k)
theorem Qhd{α:Type}{l:List α}(h:l≠[]):0<l.length:=by cases l<;>simp_all
theorem Q5b{a b:Nat}:bN a b=true↔a<b:=by simp[bN,Nat.lt_iff_add_one_le]
theorem Q3a:bN a b=false↔ ¬a<b:=by have:= @Q5b a b;cases h:bN a b<;>simp_all
theorem Q5d{a b:Nat}:bX a b=true↔a=b:=iff_of_eq Nat.beq_eq
theorem Q3b:bX a b=false↔ ¬a=b:=by have:= @Q5d a b;cases h:bX a b<;>simp_all
def gv(d e:D):Prop:=∀c w v,dc c w d v->dc c w e v
def lI:List D->List D->Prop
 |[],[]=>True
 |d::l,e::m=>gv d e/\lI l m
 |_,_=>False
def tj:D->D->Prop
 |.agg cs,.agg ds=>lI cs ds
 |.agg _,_=>False
 |d,e=>gv d e
def Du:List D->List D->Prop
 |[],[]=>True
 |d::l,e::m=>tj d e/\Du l m
 |_,_=>False
theorem gv.rfl:gv d d:=λ_ _ _ h=>h
theorem gv.ints{k:IntKind}{E:ai}{l:List Int}(h:E.toI k=some l):gv (.sl s E fr) (.sl 1 (.ints k l) false):=by
 intro c w v hv
 have he:=ai.toI_l h
 obtain⟨a,cap,hv,hc,gy⟩:=hv
 rw[he]at hv hc gy
 refine⟨a,cap,hv,hc,?_⟩
 rcases gy with gy|⟨b,off,arr,ty,fz,ha,hI,hf,hh,hE⟩
 ·exact .inl gy
 ·cases l with
  |nil=>exact .inl (by simp[ai.l])
  |cons n l=>
   have h1:s=1:=by
    simp only[ai.l,fG,ra,pN]at hE
    exact hE.1.symm
   subst h1
   exact .inr ⟨b,off,arr,ty,fz,ha,hI,(λe=>by cases e),hh,hE⟩
theorem gv.ag{E:ai}{l:List Bool}(h:E.toB=some l):gv (.sl s E fr) (.sl 1 (.ag l) false):=by
 intro c w v hv
 have he:=ai.toB_l h
 obtain⟨a,cap,hv,hc,gy⟩:=hv
 rw[he]at hv hc gy
 refine⟨a,cap,hv,hc,?_⟩
 rcases gy with gy|⟨b,off,arr,ty,fz,ha,hI,hf,hh,hE⟩
 ·exact .inl gy
 ·cases l with
  |nil=>exact .inl (by simp[ai.l])
  |cons n l=>
   have h1:s=1:=by
    simp only[ai.l,fG,ra,pN]at hE
    exact hE.1.symm
   subst h1
   exact .inr ⟨b,off,arr,ty,fz,ha,hI,(λe=>by cases e),hh,hE⟩
theorem lI.rep{c:Ctx}{w:World}:∀{ds es:List D} {vs:List Value},lI ds es->jk c w ds vs->jk c w es vs
 |[],[],[],_,_=>trivial
 |d::l,e::m,v::vs,h,hr=>⟨h.1 _ _ _ hr.1,lI.rep h.2 hr.2⟩
 |[],_::_,_,h,_=>h.elim
 |_::_,[],_,h,_=>h.elim
 |[],[],_::_,_,hr=>hr.elim
 |_::_,_::_,[],_,hr=>hr.elim
theorem tj.rep{c:Ctx}{w:World}{d e:D}{v:Value}(h:tj d e)(hr:VRep c w d v):VRep c w e v:=by
 cases d with
 |agg cs=>
  cases e with
  |agg ds=>obtain⟨vs,hv,hx⟩:=hr;exact⟨vs,hv,lI.rep h hx⟩
  |_=>exact h.elim
 |_=>
  have h1:=VRep.toC (λcs e=>by cases e) hr
  have h2:gv _ e:=h
  exact VRep.EA (h2 _ _ _ h1)
theorem Du.rep{c:Ctx}{w:World}:∀{ds es:List D} {vs:List Value},Du ds es->kd c w ds vs->kd c w es vs
 |[],[],[],_,_=>trivial
 |d::l,e::m,v::vs,h,hr=>⟨tj.rep h.1 hr.1,Du.rep h.2 hr.2⟩
 |[],_::_,_,h,_=>h.elim
 |_::_,[],_,h,_=>h.elim
 |[],[],_::_,_,hr=>hr.elim
 |_::_,_::_,[],_,hr=>hr.elim
theorem kq.sub{rows:List Row}{aj:List Row}(hs:Du args pW)(h:kq P f pW rows res aj):kq P f args rows res aj:=
 λc w vs hm hb hR ha=>h c w vs hm hb hR (Du.rep hs ha)
theorem gv.ah{k:RK}{E:ai}{l:List (RK.T k)}(h:E.toR k=some l):gv (.sl s E fr) (.sl k.size (.ah k l) false):=by
 intro c w v hv
 have he:=ai.toR_l h
 obtain⟨a,cap,hv,hc,gy⟩:=hv
 rw[he]at hv hc gy
 refine⟨a,cap,hv,hc,?_⟩
 rcases gy with gy|⟨b,off,arr,ty,fz,ha,hI,hf,hh,hE⟩
 ·exact .inl gy
 ·cases l with
  |nil=>exact .inl (by simp[ai.l])
  |cons x l=>
   have h1:s=k.size:=by
    simp only[ai.l,fG,pN]at hE
    rw[<-hE.1];exact RK.rD k x
   subst h1
   exact .inr ⟨b,off,arr,ty,fz,ha,hI,(λe=>by cases e),hh,hE⟩
theorem gv.Dv{E:ai}(h:E.l=[]):gv .c7 (.sl s E false):=by
 intro c w v hv
 exact⟨none,0,by rw[h];exact hv,by rw[h];exact aX _,.inl h⟩
theorem gv.J1{E:ai}(h:E.l=[]):gv .emp (.sl s E false):=by
 intro c w v hv
 obtain⟨a,hv,_⟩:=hv
 exact⟨a,0,by rw[h];exact hv,by rw[h];exact aX _,.inl h⟩
def AP:List (Nat×Nat×Nat)->List (Nat×Nat×Nat)->Bool
 |[],[]=>true
 |(a,b,c)::l,(x,y,z)::m=>bX a x&&(bX b y&&(bX c z&&AP l m))
 |_,_=>false
def tk:List iB->List iB->Bool
 |[],[]=>true
 |.ptr a b c::l,.ptr x y z::m=>bX a x&&(bX b y&&(bX c z&&tk l m))
 |.fn f ps::l,.fn g qs::m=>bX f g&&(AP ps qs&&tk l m)
 |_,_=>false
theorem zA:∀{l m:List (Nat×Nat×Nat)},AP l m=true->l=m
 |[],[],_=>rfl
 |(a,b,c)::l,(x,y,z)::m,h=>by
  simp only[AP,aE]at h
  rw[bE h.1,bE h.2.1,bE h.2.2.1,zA h.2.2.2]
 |[],_::_,h=>by simp[AP]at h
 |_::_,[],h=>by simp[AP]at h
theorem yA:∀{l m:List iB},tk l m=true->l=m:=by
 intro l
 induction l with
 |nil=>intro m h;cases m with
  |nil=>rfl
  |cons _ _=>simp[tk]at h
 |cons a l ih=>
  intro m h
  cases m with
  |nil=>cases a<;>simp[tk]at h
  |cons b m=>
   cases a<;>cases b<;>simp only[tk,aE,aA]at h
   ·rw[bE h.1,bE h.2.1,bE h.2.2.1,ih h.2.2.2]
   ·rw[bE h.1,zA h.2.1,ih h.2.2]
def AQ:CT->D->Bool
 |.int k,.int j _=>decide (j=k)
 |.bool,.bool _=>true
 |.str,.str _=>true
 |.ints k,.sl _ E _=>(match E.toI k with|some _=>true|none=>false)
 |.ag,.sl _ E _=>(match E.toB with|some _=>true|none=>false)
 |.ah k,.sl _ E _=>(match E.toR k with|some _=>true|none=>false)
 |.ints _,.c7=>true
 |.ag,.c7=>true
 |.ah _,.c7=>true
 |.ints _,.emp=>true
 |.ag,.emp=>true
 |.ah _,.emp=>true
 |.row i,.all r=>bX r i
 |.nil,.sl s (.gen []) false=>bX s 0
 |.Ic,.c7=>true
 |.self _,.iw=>true
 |.gj f cs,.gj g ds=>bX g f&&tk ds cs
 |.self i,.gk r=>bX r i
 |.self i,.ptr r o f=>bX r i&&(bX o 0&&bX f 0)
 |.pt i a b,.ptr r o f=>bX r i&&(bX o a&&bX f b)
 |_,_=>false
inductive PT where
 |one (t:CT)
 |agg (ts:List CT)
 |ptr (i:Nat)
 |gj (f:Nat) (cs:List iB)
inductive RT where
 |box (ty sz:Nat) (ts:List CT)
 |arr (ty sz:Nat) (t:CT)
def J2:List CT->List D->Bool
 |[],[]=>true
 |t::ts,d::ds=>AQ t d&&J2 ts ds
 |_,_=>false
def u0:PT->D->Bool
 |.agg ts,.agg cs=>J2 ts cs
 |.one t,d=>AQ t d
 |.ptr i,.ptr r j o=>bX r i&&(bX j 0&&bX o 0)
 |.gj f cs,.gj g ds=>bX g f&&tk ds cs
 |_,_=>false
def HT:PT->D->D
 |.agg ts,d=>.agg (wh ts d.cells 0)
 |.one t,d=>DI t d
 |.ptr i,_=>.ptr i 0 0
 |.gj f cs,_=>.gj f cs
def Br:List PT->List D->Bool
 |[],[]=>true
 |s::l,d::ds=>u0 s d&&Br l ds
 |_,_=>false
def lg:List PT->List D->Nat->List D
 |[],_,_=>[]
 |s::l,args,i=>HT s (args.getD i .dead)::lg l args (i+1)
def Row.cs(r:Row):List D:=match r.es with|.gen [e]=>e|_=>[]
def u5:RT->Row->Bool
 |.box ty sz ts,⟨true,jS,j5,.gen [e]⟩=>bX jS ty&&(bX j5 sz&&J2 ts e)
 |.arr ty sz t,⟨false,jS,j5,E⟩=>bX jS ty&&(bX j5 sz&&(match toCT t E with|some _=>true|none=>false))
 |_,_=>false
def RM(t:CT)(E:ai):ai:=match t with
 |.ints k=>.ints k (match E.toI k with|some l=>l|none=>[])
 |.ag=>.ag (match E.toB with|some l=>l|none=>[])
 |.ah k=>.ah k (match E.toR k with|some l=>l|none=>[])
 |_=>.gen []
theorem xaw{t:CT}{E E':ai}(h:toCT t E=some E'):RM t E=E':=by
 cases t with
 |ints k=>
  simp only[toCT]at h
  split at h
  ·rename_i l hl
   cases h
   show ai.ints k (match E.toI k with|some l=>l|none=>[])=_
   rw[hl]
  ·cases h
 |ag=>
  simp only[toCT]at h
  split at h
  ·rename_i l hl
   cases h
   show ai.ag (match E.toB with|some l=>l|none=>[])=_
   rw[hl]
  ·cases h
 |ah k=>
  simp only[toCT]at h
  split at h
  ·rename_i l hl
   cases h
   show ai.ah k (match E.toR k with|some l=>l|none=>[])=_
   rw[hl]
  ·cases h
 |_=>simp[toCT]at h
def wY:RT->Row->Row
 |.box ty sz ts,r=>⟨true,ty,sz,.gen [wh ts r.cs 0]⟩
 |.arr ty sz t,r=>⟨false,ty,sz,RM t r.es⟩
def Bs:List RT->List Row->Bool
 |[],[]=>true
 |s::l,r::rs=>u5 s r&&Bs l rs
 |_,_=>false
def ku:List RT->List Row->Nat->List Row
 |[],_,_=>[]
 |s::l,rows,i=>wY s (rows.getD i default)::ku l rows (i+1)
def au(args:List D)(i:Nat):Int:=(args.getD i .dead).toInt
def kC(args:List D)(i:Nat):Bool:=(args.getD i .dead).toBool
def jF(args:List D)(i:Nat):List UInt8:=(args.getD i .dead).toStr
def dh(k:IntKind)(args:List D)(i:Nat):List Int:=cf k (args.getD i .dead)
def Dw(args:List D)(i:Nat):List Bool:=ej (args.getD i .dead)
def kD(k:RK)(args:List D)(i:Nat):List (RK.T k):=iP k (args.getD i .dead)
def tn(rows:List Row)(i j:Nat):D:=((rows.getD i default).cs.getD j .dead)
def cw(k:IntKind)(rows:List Row)(i:Nat):List Int:=match(rows.getD i default).es.toI k with|some l=>l|none=>[]
def c9(k:RK)(rows:List Row)(i:Nat):List (RK.T k):=match(rows.getD i default).es.toR k with|some l=>l|none=>[]
theorem Zd1{t:CT}(h:AQ t d=true):gv d (DI t d):=by
 cases t<;>cases d<;>(try(simp[AQ]at h;done))
 case int.int=>simp[AQ]at h;subst h;exact gv.rfl
 case nil.sl s E fr=>
  unfold AQ at h
  split at h<;>simp_all
  exact gv.rfl
 case Ic.c7=>exact gv.rfl
 case bool.bool=>exact gv.rfl
 case str.str=>exact gv.rfl
 case ints.sl k sz E fr=>
  simp only[AQ]at h
  split at h
  ·rename_i l hl
   simp only[DI,cf,hl]
   exact gv.ints hl
  ·cases h
 case ints.c7=>exact gv.Dv rfl
 case ints.emp=>exact gv.J1 rfl
 case ag.sl sz E fr=>
  simp only[AQ]at h
  split at h
  ·rename_i l hl
   simp only[DI,ej,hl]
   exact gv.ag hl
  ·cases h
 case ag.c7=>exact gv.Dv rfl
 case ag.emp=>exact gv.J1 rfl
 case ah.sl k sz E fr=>
  simp only[AQ]at h
  split at h
  ·rename_i l hl
   simp only[DI,iP,hl]
   exact gv.ah hl
  ·cases h
 case ah.c7=>exact gv.Dv rfl
 case ah.emp=>exact gv.J1 rfl
 case row.all i r=>rw[bE h];exact gv.rfl
 case gj.gj f cs g ds=>
  simp only[AQ,aE]at h
  rw[bE h.1,yA h.2]
  exact gv.rfl
 case self.iw i=>exactλc w v hv=>.inl hv
 case self.gk i r=>rw[bE h];exact gv.rfl
 case self.ptr i r o f=>
  simp only[AQ,aE]at h
  rw[bE h.1,bE h.2.1,bE h.2.2]
  exactλc w v hv=>.inr hv
 case pt.ptr i a b r o f=>
  simp only[AQ,aE]at h
  rw[bE h.1,bE h.2.1,bE h.2.2]
  exact gv.rfl
theorem Z06:∀{ts:List CT} {pre ds:List D},J2 ts ds=true->lI ds (wh ts (pre++ds) pre.length)
 |[],pre,[],_=>trivial
 |t::ts,pre,d::ds,h=>by
  simp only[J2,aE]at h
  have h2:=Z06 (pre:=pre++[d]) h.2
  simp only[wh]
  refine⟨?_,by simpa using h2⟩
  have:(pre++d::ds).getD pre.length .dead=d:=by simp[aV]
  rw[this];exact Zd1 h.1
 |[],_,_::_,h=>by simp[J2]at h
 |_::_,_,[],h=>by simp[J2]at h
theorem tj.of1{d e:D}(hd:∀cs,d≠.agg cs)(h:gv d e):tj d e:=by
 cases d<;>first|exact h|exact absurd rfl (hd _)
theorem Zr8{s:PT}(h:u0 s d=true):tj d (HT s d):=by
 unfold u0 at h
 split at h
 ·rename_i ts cs
  exact Z06 (pre:=[]) h
 ·rename_i t d
  refine tj.of1 (λcs e=>?_) (Zd1 h)
  subst e
  cases t<;>simp[AQ]at h
 ·rename_i i r j o
  simp only[aE]at h
  rw[bE h.1,bE h.2.1,bE h.2.2]
  exact gv.rfl
 ·rename_i f cs g ds
  simp only[aE]at h
  rw[bE h.1,yA h.2]
  exact gv.rfl
 ·cases h
theorem Qyv:∀{l:List PT} {pre ds:List D},Br l ds=true->Du ds (lg l (pre++ds) pre.length)
 |[],pre,[],_=>trivial
 |s::l,pre,d::ds,h=>by
  simp only[Br,aE]at h
  have h2:=Qyv (pre:=pre++[d]) h.2
  simp only[lg]
  refine⟨?_,by simpa using h2⟩
  have:(pre++d::ds).getD pre.length .dead=d:=by simp[aV]
  rw[this];exact Zr8 h.1
 |[],_,_::_,h=>by simp[Br]at h
 |_::_,_,[],h=>by simp[Br]at h
def tq(a b:Row):Prop:=b.box=a.box/\b.ty=a.ty/\b.sz=a.sz/\b.es.l.length=a.es.l.length/\match a.box with
 |true=>∃e e',a.es=.gen [e]/\b.es=.gen [e']/\e'.length=e.length/\lI e e'
 |false=>b.es.l=a.es.l
theorem lI.length:∀{ds es:List D},lI ds es->ds.length=es.length
 |[],[],_=>rfl
 |_::_,_::_,h=>by simp[lI.length h.2]
 |[],_::_,h=>h.elim
 |_::_,[],h=>h.elim
theorem Zr7{s:RT}{r:Row}(h:u5 s r=true):tq r (wY s r):=by
 unfold u5 at h
 split at h
 ·rename_i ty sz ts jS j5 e
  simp only[aE]at h
  have h3:=Z06 (pre:=[]) h.2.2
  have hl:=h3.length
  exact⟨rfl,(bE h.1).symm,(bE h.2.1).symm,rfl,_,_,rfl,rfl,hl.symm,h3⟩
 ·rename_i ty sz t jS j5 E
  simp only[aE]at h
  obtain⟨h1,h2,h3⟩:=h
  split at h3
  ·rename_i E' hE
   have he:=ai.Aj (Nu hE)
   have hc:wY (.arr ty sz t) ⟨false,jS,j5,E⟩=⟨false,ty,sz,E'⟩:=by simp[wY,xaw hE]
   rw[hc]
   exact⟨rfl,(bE h1).symm,(bE h2).symm,by simp only[he],he.symm⟩
  ·cases h3
 ·cases h
theorem Qvm:∀{l:List RT} {pre rs:List Row},Bs l rs=true->rs.length=l.length/\∀(i:Nat) r,rs[i]?=some r->∃r',(ku l (pre++rs) pre.length)[i]?=some r'/\tq r r'
 |[],pre,[],_=>⟨rfl,λi r h=>by simp at h⟩
 |s ::l,pre,r::rs,h=>by
  simp only[Bs,aE]at h
  obtain⟨h1,h2⟩:=Qvm (pre:=pre++[r]) h.2
  refine⟨by simp[h1],λi q hq=>?_⟩
  cases i with
  |zero=>
   simp at hq;subst hq
   have:(pre++r::rs).getD pre.length default=r:=by simp[aV]
   exact⟨_,by simp only[ku,this];rfl,Zr7 h.1⟩
  |succ i=>
   obtain⟨q',g1,g2⟩:=h2 i q (by simpa using hq)
   refine⟨q',?_,g2⟩
   simp only[ku,List.getElem?_cons_succ]
   simpa using g1
 |[],_,_::_,h=>by simp[Bs]at h
 |_::_,_,[],h=>by simp[Bs]at h
theorem Vq:∀{l:List RT} {rows:List Row} {i:Nat},(ku l rows i).length=l.length
 |[],_,_=>rfl
 |s::l,rows,i=>by simp[ku,Vq]
theorem vA:d.mF (λr=>r) true=d:=by
 cases d with
 |gj f cs=>simp only[D.mF,Z5]
 |_=>simp[D.mF]
theorem Vr:∀{ds:List D},D.mG (λr=>r) true ds=ds
 |[]=>rfl
 |d::l=>by simp[D.mG,vA,Vr (ds:=l)]
theorem xaJ:d.je (λr=>r) true=d:=by
 cases d with
 |agg cs=>show D.agg (D.mG _ true cs)=_;rw[Vr]
 |gj f cs=>exact vA (d:=.gj f cs)
 |_=>simp[D.je,D.mF]
theorem lI.cells{c:Ctx}{w:World}:∀{ds es:List D} {arr:Array Value} {off:Nat},lI ds es->kF c w ds arr off->kF c w es arr off
 |[],[],_,_,_,_=>trivial
 |d::l,e::m,_,_,h,⟨⟨v,hv,h1⟩,h2⟩=>⟨⟨v,hv,h.1 _ _ _ h1⟩,lI.cells h.2 h2⟩
 |[],_::_,_,_,h,_=>h.elim
 |_::_,[],_,_,h,_=>h.elim
theorem Zg4{c1 c2:Ctx}{w:World}(hn:Eh (λ_=>True) (λr=>r) true c1 c2)(hI:∀b,c1.I b->c2.I b):∀{ds:List D} {vs:List Value},kd c1 w ds vs->kd c2 w ds vs
 |[],[],_=>trivial
 |d::ds,v::vs,h=>⟨by have:=P9 hn (flat:=False) (.inl hI) (λ_ _=>trivial) (λe=>e.elim) h.1;rwa [xaJ]at this,Zg4 hn hI h.2⟩
 |[],_::_,h=>h.elim
 |_::_,[],h=>h.elim
theorem kq.J3{rows kS:List Row}{aj:List Row}(hs:Du args pW)(hl:kS.length=rows.length)(hr:∀(i:Nat) r,rows[i]?=some r->∃r',kS[i]?=some r'/\tq r r')(h:kq P f pW kS res aj):kq P f args rows res aj:=by
 intro c w vs hm hb hR ha
 let c2:Ctx:={c with R:=λr=>kS[r]? }
 have RN:∀r row,c.R r=some row->∃ao,c2.R r=some ao/\tq row ao:=λr row cz=>by
  rw[hR]at cz;exact hr r row cz
 have u6:∀r ao,c2.R r=some ao->∃row,c.R r=some row/\tq row ao:=λr ao cz=>by
  have cz:kS[r]?=some ao:=cz
  have bd:=(List.getElem?_eq_some_iff.1 cz).1
  have h1:rows[r]?=some rows[r]:=aI (by omega)
  obtain⟨jz,g1,g2⟩:=hr r _ h1
  rw[cz]at g1;cases g1
  exact⟨_,by rw[hR];exact h1,g2⟩
 have hn:Eh (λ_=>True) (λr=>r) true c c2:=⟨λi row _ cz=>by
  obtain⟨ao,g1,g2,g3,g4,g5,_⟩:=RN i row cz
  exact⟨ao,g1,g2,g3,g4,g5,rfl,Iff.rfl⟩,λ_=>aX _,aX _⟩
 have BT:Mem c2 w:=by
  refine⟨λr ao cz=>?_,λr s x y h1 h2 v1 v2 he=>?_,λb ie=>⟨(hm.fe b ie).1,λr x h1 v=>?_⟩,hm.top,hm.jU⟩
  ·obtain⟨row,g1,g2,g3,g4,g5,g6⟩:=u6 r ao cz
   rcases hm.row r row g1 with⟨k1,k2,k3,k4⟩|⟨k1,arr,k2,k3,k4⟩
   ·refine .inl ⟨k1,g2.trans k2,?_,by rw[g4];exact k4⟩
    rw[k2]at g6;simp only at g6;rw[g6,k3]
   ·refine .inr ⟨k1,arr,by rw[g3];exact k2,by rw[g4];exact k3,?_⟩
    rw[g2,g4]
    cases wM:row.box with
    |false=>
     simp only[wM,aA,if_false]at k4 g6⊢
     rw[g6];exact k4
    |true=>
     simp only[wM,if_true]at k4 g6⊢
     obtain⟨e,e',q1,q2,q3,q4⟩:=g6
     obtain⟨e0,p1,p2,p3,p4⟩:=k4
     rw[q1]at p1;cases p1
     refine⟨e',q2,by rw[q3];exact p2,p3,?_⟩
     have:=UW hn (flat:=False) (.inl λb hb=>hb) (λ_ _=>trivial) (λe=>e.elim) (lI.cells q4 p4)
     rwa [Vr]at this
  ·obtain⟨x',g1,_⟩:=u6 r x h1
   obtain⟨y',g2,_⟩:=u6 s y h2
   exact hm.inj r s x' y' g1 g2 v1 v2 he
  ·obtain⟨x',g1,_⟩:=u6 r x h1
   exact(hm.fe b ie).2 r x' g1 v
 refine(h c2 w vs BT hb (λr=>rfl) (Zg4 hn (λb h=>h) (Du.rep hs ha))).mono λe w' hq=>?_
 obtain⟨v,c',he,hx,jZ,hv⟩:=hq
 refine⟨v,c',he,⟨hx.mem,⟨hx.cy.base,hx.cy.top,hx.cy.I,λr row cz=>?_⟩,hx.fr.mono λb _ ⟨r,x,h1,h2,h3⟩=>?_,hx.fe,λr ao h1 h2=>?_⟩,jZ,hv⟩
 ·obtain⟨jz,g1,g2,g3,g4,g5,g6⟩:=RN r row cz
  obtain⟨ao,k1,k2,k3,k4,k5,k6,k7,k8⟩:=hx.cy.R r jz g1
  exact⟨ao,k1,k2.trans g2,k3.trans g3,k4.trans g4,k5.trans g5,k6,k7,λnv arr ha=>by rw[<-g3]at ha⊢;exact k8 nv arr ha⟩
 ·obtain⟨x',g1,_⟩:=u6 r x h1
  exact⟨r,x',g1,h2,h3⟩
 ·rcases hx.om r ao h1 h2 with⟨⟨x,pd⟩,h3,h4⟩|h3
  ·obtain⟨x',g1,_⟩:=u6 r x pd
   exact .inl ⟨⟨x',g1⟩,h3,h4⟩
  ·exact .inr h3
theorem tR.J3{rows kS:List Row}{aj:List Row}(hs:Du args pW)(hl:kS.length=rows.length)(hr:∀(i:Nat) r,rows[i]?=some r->∃r',kS[i]?=some r'/\tq r r')(h:tR P f k pW kS res aj):tR P f k args rows res aj:=by
 intro c w vs hm hb hR ha
 let c2:Ctx:={c with R:=λr=>kS[r]? }
 have RN:∀r row,c.R r=some row->∃ao,c2.R r=some ao/\tq row ao:=λr row cz=>by
  rw[hR]at cz;exact hr r row cz
 have u6:∀r ao,c2.R r=some ao->∃row,c.R r=some row/\tq row ao:=λr ao cz=>by
  have cz:kS[r]?=some ao:=cz
  have bd:=(List.getElem?_eq_some_iff.1 cz).1
  have h1:rows[r]?=some rows[r]:=aI (by omega)
  obtain⟨jz,g1,g2⟩:=hr r _ h1
  rw[cz]at g1;cases g1
  exact⟨_,by rw[hR];exact h1,g2⟩
 have hn:Eh (λ_=>True) (λr=>r) true c c2:=⟨λi row _ cz=>by
  obtain⟨ao,g1,g2,g3,g4,g5,_⟩:=RN i row cz
  exact⟨ao,g1,g2,g3,g4,g5,rfl,Iff.rfl⟩,λ_=>aX _,aX _⟩
 have BT:Mem c2 w:=by
  refine⟨λr ao cz=>?_,λr s x y h1 h2 v1 v2 he=>?_,λb ie=>⟨(hm.fe b ie).1,λr x h1 v=>?_⟩,hm.top,hm.jU⟩
  ·obtain⟨row,g1,g2,g3,g4,g5,g6⟩:=u6 r ao cz
   rcases hm.row r row g1 with⟨k1,k2,k3,k4⟩|⟨k1,arr,k2,k3,k4⟩
   ·refine .inl ⟨k1,g2.trans k2,?_,by rw[g4];exact k4⟩
    rw[k2]at g6;simp only at g6;rw[g6,k3]
   ·refine .inr ⟨k1,arr,by rw[g3];exact k2,by rw[g4];exact k3,?_⟩
    rw[g2,g4]
    cases wM:row.box with
    |false=>
     simp only[wM,aA,if_false]at k4 g6⊢
     rw[g6];exact k4
    |true=>
     simp only[wM,if_true]at k4 g6⊢
     obtain⟨e,e',q1,q2,q3,q4⟩:=g6
     obtain⟨e0,p1,p2,p3,p4⟩:=k4
     rw[q1]at p1;cases p1
     refine⟨e',q2,by rw[q3];exact p2,p3,?_⟩
     have:=UW hn (flat:=False) (.inl λb hb=>hb) (λ_ _=>trivial) (λe=>e.elim) (lI.cells q4 p4)
     rwa [Vr]at this
  ·obtain⟨x',g1,_⟩:=u6 r x h1
   obtain⟨y',g2,_⟩:=u6 s y h2
   exact hm.inj r s x' y' g1 g2 v1 v2 he
  ·obtain⟨x',g1,_⟩:=u6 r x h1
   exact(hm.fe b ie).2 r x' g1 v
 refine(h c2 w vs BT hb (λr=>rfl) (Zg4 hn (λb h=>h) (Du.rep hs ha))).mono (λb hb=>hb) λe w' hq=>?_
 obtain⟨v,c',he,hx,jZ,hv⟩:=hq
 rw[hl]at hx
 refine⟨v,c',he,⟨hx.mem,⟨hx.cy.base,hx.cy.top,hx.cy.I,λr row cz=>?_⟩,hx.fr.mono λb _ ⟨r,x,h1,h2,h3⟩=>?_,λb hb=>?_,λr ao h1 h2=>?_⟩,jZ,hv⟩
 ·obtain⟨q,jH,Dh,rfl⟩:=nj cz
  obtain⟨jz,g1,g2,g3,g4,g5,g6⟩:=RN r jH Dh
  obtain⟨ao,k1,k2,k3,k4,k5,k6,k7,k8⟩:=hx.cy.R r (jz.kill _) (by simp only[Ctx.kill];rw[if_neg (by rw[q];simp),g1];rfl)
  obtain⟨s1,s2,s3,s4⟩:=wq (bO k (rows.length-k)) jH
  obtain⟨t1,t2,t3,t4⟩:=wq (bO k (rows.length-k)) jz
  refine⟨ao,k1,k2.trans (t1.trans (g2.trans s1.symm)),k3.trans (t2.trans (g3.trans s2.symm)),k4.trans (t3.trans (g4.trans s3.symm)),k5.trans (t4.trans (g5.trans s4.symm)),k6,k7,λnv arr ha=>?_⟩
  rw[s2]at ha⊢
  have:=k8 nv arr (by rw[t2,g3];exact ha)
  rw[t2,g3]at this
  exact this
 ·obtain⟨x',g1,_⟩:=u6 r x h1
  exact⟨r,x',g1,h2,h3⟩
 ·rcases hx.fe b hb with h|⟨s,x,h1,h2,h3,h4⟩|h
  ·exact .inl h
  ·obtain⟨x',g1,_⟩:=u6 s x h2
   exact .inr (.inl ⟨s,x',h1,g1,h3,h4⟩)
  ·exact .inr (.inr h)
 ·rcases hx.om r ao h1 h2 with⟨⟨x,pd⟩,h3,h4⟩|⟨s,x,q1,q2,q3,q4⟩|h3
  ·obtain⟨x',g1,_⟩:=u6 r x pd
   exact .inl ⟨⟨x',g1⟩,h3,h4⟩
  ·obtain⟨x',g1,_⟩:=u6 s x q2
   exact .inr (.inl ⟨s,x',q1,g1,q3,q4⟩)
  ·exact .inr (.inr h3)
def Gm(f:FuncId)(refs:List Bool)(flat:Bool)(sig:List PT)(du:List RT){α:Type}(v:List D->List Row->α)(enc:α->D)(out:α->List Row):ba:=
 ⟨f,refs,flat,λargs rows=>match Br sig args&&Bs du rows with|true=>.abs α (v args rows) enc out|false=>.no,none,false⟩
def lJ(f:FuncId)(refs:List Bool)(flat:Bool)(sig:List PT)(du:List RT)(pre:List D->List Row->Prop){α:Type}(v:List D->List Row->α)(enc:α->D)(out:α->List Row):ba:=
 ⟨f,refs,flat,λargs rows=>match Br sig args&&Bs du rows with|true=>.lH (pre args rows) α (v args rows) enc out|false=>.no,none,false⟩
def ba.fz(x:ba):ba:={x with o7:=true}
theorem wZ{x:ba}(h:bm P x):bm P x.fz:=⟨h.enters,h.real,h.ok,h.when,h.abs,h.lH,h.PW,h.Hq⟩
def J4(k:Nat)(f:FuncId)(refs:List Bool)(sig:List PT)(du:List RT){α:Type}(v:List D->List Row->α)(enc:α->D)(out:α->List Row):ba:=
 ⟨f,refs,false,λargs rows=>match Br sig args&&Bs du rows with|true=>.abs α (v args rows) enc out|false=>.no,some k,false⟩
def jO(k:Nat)(f:FuncId)(refs:List Bool)(sig:List PT)(du:List RT)(pre:List D->List Row->Prop){α:Type}(v:List D->List Row->α)(enc:α->D)(out:α->List Row):ba:=
 ⟨f,refs,false,λargs rows=>match Br sig args&&Bs du rows with|true=>.lH (pre args rows) α (v args rows) enc out|false=>.no,some k,false⟩
def ai.w4:ai->Bool
 |.gen _=>false
 |.ah k _=>k.nb
 |_=>true
theorem ai.tt{E:ai}(h:E.w4=true):E.FC:=by
 cases E with
 |gen es=>simp[ai.w4]at h
 |ah k l=>exact h
 |_=>trivial
def Dx:D->Bool|.sl _ E fr=>fr&&E.w4|.im _ _ _ _=>false|.gj _ _=>false|_=>true
def Dy:List D->Bool|[]=>true|d::l=>Dx d&&Dy l
def J5:D->Bool|.agg cs=>Dy cs|d=>Dx d
def FZ:List D->Bool|[]=>true|d::l=>J5 d&&FZ l
def tw:D->Bool|.dw ds=>FZ ds|d=>J5 d
def jv:List Row->Bool
 |[]=>true
 |⟨true,_,_,.gen [e]⟩::l=>Dy e&&jv l
 |⟨false,_,_,E⟩::l=>E.w4&&jv l
 |_=>false
theorem RO(h:Dx d=true):P8 d:=by
 cases d<;>first|trivial|(simp[Dx]at h;done)|skip
 case sl sz E fr=>simp only[Dx,aE]at h;exact⟨.inr h.1,ai.tt h.2⟩
theorem Vs:∀{ds:List D},Dy ds=true->Mo ds
 |[],_=>trivial
 |d::l,h=>by simp only[Dy,aE]at h;exact⟨RO h.1,Vs h.2⟩
theorem qax(h:J5 d=true):UU d:=by
 cases d with
 |agg cs=>exact Vs h
 |sl a b c=>exact RO (d:=.sl a b c) h
 |im a b c e=>exact RO (d:=.im a b c e) h
 |_=>trivial
theorem qB:∀{ds:List D},FZ ds=true->FD ds
 |[],_=>trivial
 |d::l,h=>by simp only[FZ,aE]at h;exact⟨qax h.1,qB h.2⟩
theorem xaa(h:tw d=true):FF d:=by
 cases d with
 |dw ds=>exact qB h
 |agg cs=>exact Vs h
 |sl a b c=>exact RO (d:=.sl a b c) h
 |im a b c e=>exact RO (d:=.im a b c e) h
 |_=>trivial
theorem Vt:∀{rs:List Row},jv rs=true->rC rs
 |[],_=>trivial
 |⟨true,_,_,.gen [e]⟩::l,h=>by
  simp only[jv,aE]at h
  refine⟨?_,Vt h.2⟩
  simp only[JB,if_true,ai.l,List.mem_singleton,forall_eq]
  exact Vs h.1
 |⟨false,_,_,E⟩::l,h=>by
  simp only[jv,aE]at h
  refine⟨?_,Vt h.2⟩
  simp only[JB,aA,if_false]
  exact ai.tt h.1
 |⟨true,_,_,.gen []⟩::l,h=>by simp[jv]at h
 |⟨true,_,_,.gen (_::_::_)⟩::l,h=>by simp[jv]at h
 |⟨true,_,_,.ints _ _⟩::l,h=>by simp[jv]at h
 |⟨true,_,_,.ag _⟩::l,h=>by simp[jv]at h
 |⟨true,_,_,.ah _ _⟩::l,h=>by simp[jv]at h
theorem qab{sig:List PT}{du:List RT}{rows:List Row}{out:List Row}(hs:(Br sig args&&Bs du rows)=true)(h:kq P f (lg sig args 0) (ku du rows 0) res out):kq P f args rows res out:=by
 simp only[aE]at hs
 obtain⟨h1,h2⟩:=Qvm (pre:=[]) hs.2
 exact kq.J3 (Qyv (pre:=[]) hs.1) (by rw[Vq,h1]) h2 h
theorem qaK{sig:List PT}{du:List RT}{α:Type}{v:List D->List Row->α}{enc:α->D}{out:α->List Row}(he:∀args w,(callFunc f args).run P w=.ok (.enter f args) w)(h:∀args rows,kq P f (lg sig args 0) (ku du rows 0) (enc (v args rows)) (out (v args rows)))
 (hf:flat=true->∀X,(tw (enc X)&&jv (out X))=true) (hy:bN f YB=true:=by rfl):bm P (Gm f refs flat sig du v enc out):=by
 refine⟨λ_=>he,λ_=>lE hy,λ_ args rows r r' hm=>?_,λ_ args rows p r r' hm=>?_,λ_ args rows α' v' r r' hm=>?_,λ_ args rows p α' v' r r' hm=>?_,λk hk=>(by cases hk),λk hk=>(by cases hk)⟩
 ·simp only[Gm]at hm
  split at hm<;>cases hm
 ·simp only[Gm]at hm
  split at hm<;>cases hm
 ·simp only[Gm]at hm
  split at hm
  ·rename_i hs
   cases hm
   exact⟨qab hs (h args rows),λe=>by have:=hf e (v args rows);simp only[aE]at this;exact⟨xaa this.1,Vt this.2⟩⟩
  ·cases hm
 ·simp only[Gm]at hm
  split at hm<;>cases hm
theorem Ga{sig:List PT}{du:List RT}{pre:List D->List Row->Prop}{α:Type}{v:List D->List Row->α}{enc:α->D}{out:α->List Row}(he:∀args w,(callFunc f args).run P w=.ok (.enter f args) w)(h:∀args rows,pre args rows->kq P f (lg sig args 0) (ku du rows 0) (enc (v args rows)) (out (v args rows)))
 (hf:flat=true->∀X,(tw (enc X)&&jv (out X))=true) (hy:bN f YB=true:=by rfl):bm P (lJ f refs flat sig du pre v enc out):=by
 refine⟨λ_=>he,λ_=>lE hy,λ_ args rows r r' hm=>?_,λ_ args rows p r r' hm=>?_,λ_ args rows α' v' r r' hm=>?_,λ_ args rows p α' v' r r' hm hp=>?_,λk hk=>(by cases hk),λk hk=>(by cases hk)⟩
 ·simp only[lJ]at hm
  split at hm<;>cases hm
 ·simp only[lJ]at hm
  split at hm<;>cases hm
 ·simp only[lJ]at hm
  split at hm<;>cases hm
 ·simp only[lJ]at hm
  split at hm
  ·rename_i hs
   cases hm
   exact⟨qab hs (h args rows hp),λe=>by have:=hf e (v args rows);simp only[aE]at this;exact⟨xaa this.1,Vt this.2⟩⟩
  ·cases hm
theorem xB{sig:List PT}{du:List RT}{rows:List Row}{out:List Row}(hs:(Br sig args&&Bs du rows)=true)(h:tR P f k (lg sig args 0) (ku du rows 0) res out):tR P f k args rows res out:=by
 simp only[aE]at hs
 obtain⟨h1,h2⟩:=Qvm (pre:=[]) hs.2
 exact tR.J3 (Qyv (pre:=[]) hs.1) (by rw[Vq,h1]) h2 h
theorem zaK{sig:List PT}{du:List RT}{α:Type}{v:List D->List Row->α}{enc:α->D}{out:α->List Row}(he:f<YB->∀args w,(callFunc f args).run P w=.ok (.enter f args) w)(h:∀args rows,tR P f k (lg sig args 0) (ku du rows 0) (enc (v args rows)) (out (v args rows))):
 bm P (J4 k f refs sig du v enc out):=by
 refine⟨he,λhk=>(by cases hk),λhk=>(by cases hk),λhk=>(by cases hk),λhk=>(by cases hk),λhk=>(by cases hk),λk' hk args rows α' v' r r' hm=>?_,λk' hk args rows p α' v' r r' hm hp=>?_⟩
 ·cases hk
  simp only[J4]at hm
  split at hm
  ·rename_i hs
   cases hm
   exact xB hs (h args rows)
  ·cases hm
 ·simp only[J4]at hm
  split at hm<;>cases hm
theorem zax{sig:List PT}{du:List RT}{pre:List D->List Row->Prop}{α:Type}{v:List D->List Row->α}{enc:α->D}{out:α->List Row}(he:f<YB->∀args w,(callFunc f args).run P w=.ok (.enter f args) w)(h:∀args rows,pre args rows->tR P f k (lg sig args 0) (ku du rows 0) (enc (v args rows)) (out (v args rows))):
 bm P (jO k f refs sig du pre v enc out):=by
 refine⟨he,λhk=>(by cases hk),λhk=>(by cases hk),λhk=>(by cases hk),λhk=>(by cases hk),λhk=>(by cases hk),λk' hk args rows α' v' r r' hm=>?_,λk' hk args rows p α' v' r r' hm hp=>?_⟩
 ·simp only[jO]at hm
  split at hm<;>cases hm
 ·cases hk
  simp only[jO]at hm
  split at hm
  ·rename_i hs
   cases hm
   exact xB hs (h args rows hp)
  ·cases hm
def ee{α β:Type}(v:α)(m:α->β):β:=m v
def jf(α:Type)(x y:α):Prop:=x=y
abbrev rE{α:Type}(x:α):Prop:=x=x
abbrev zM:bc:={B4:={X:={a0:=0,a1:=0,a2:=0,a3:=0,a4:=0,a5:=0,a6:=0,a7:=0,a8:=0,a9:=0,kJ:=0,kK:=0,a12:=0,kL:=0,kM:=0,kN:=0},Pc:=0,C3:={a0:=0,a1:=0,a2:=0,a3:=0,a4:=0,a5:=0,a6:=0,a7:=0}},Mem:=[],B2:={D9:=[]},B9:={F2:=false,D4:=0,E0:=false},B7:={ae:=0,C8:=0,Frame:=0,C7:=0,F7:=0,C5:=0,C6:=0,C9:=[]},D2:={Frame:=0,F8:=0,D1:=false,D3:=0,C4:=false,G0:=0},A7:={A2:=0,D0:=0},B6:=0,B3:=false,B5:=false}
abbrev mE(m:bc)(P Q:Prop):Prop:=rE m.B4.X.a0/\rE m.B4.X.a1/\rE m.B4.X.a2/\rE m.B4.X.a3/\rE m.B4.X.a4/\rE m.B4.X.a5/\rE m.B4.X.a6/\rE m.B4.X.a7/\rE m.B4.X.a8/\rE m.B4.X.a9/\rE m.B4.X.kJ/\rE m.B4.X.kK/\rE m.B4.X.a12/\rE m.B4.X.kL/\rE m.B4.X.kM/\rE m.B4.X.kN/\rE m.B4.Pc/\rE m.B4.C3.a0/\rE m.B4.C3.a1/\rE m.B4.C3.a2/\rE m.B4.C3.a3/\rE m.B4.C3.a4/\rE m.B4.C3.a5/\rE m.B4.C3.a6/\rE m.B4.C3.a7/\P/\rE m.B2.D9/\rE m.B9.F2/\rE m.B9.D4/\rE m.B9.E0/\rE m.B7.ae/\rE m.B7.C8/\rE m.B7.Frame/\rE m.B7.C7/\rE m.B7.F7/\rE m.B7.C5/\rE m.B7.C6/\rE m.B7.C9/\rE m.D2.Frame/\rE m.D2.F8/\rE m.D2.D1/\rE m.D2.D3/\rE m.D2.C4/\rE m.D2.G0/\rE m.A7.A2/\rE m.A7.D0/\rE m.B6/\rE m.B3/\rE m.B5/\Q
abbrev mR(f:Nat->D)(M:List Int):bc:=(⟨(⟨(⟨(f 0).toInt,(f 1).toInt,(f 2).toInt,(f 3).toInt,(f 4).toInt,(f 5).toInt,(f 6).toInt,(f 7).toInt,(f 8).toInt,(f 9).toInt,(f 10).toInt,(f 11).toInt,(f 12).toInt,(f 13).toInt,(f 14).toInt,(f 15).toInt⟩:(iv Int)),(f 16).toInt,(⟨(f 17).toInt,(f 18).toInt,(f 19).toInt,(f 20).toInt,(f 21).toInt,(f 22).toInt,(f 23).toInt,(f 24).toInt⟩:(A8 Int))⟩:bq),M,(⟨(f 26).toStr⟩:iN),(⟨(f 27).toBool,(f 28).toInt,(f 29).toBool⟩:iV),(⟨(f 30).toInt,(f 31).toInt,(f 32).toInt,(f 33).toInt,(f 34).toInt,(f 35).toInt,(f 36).toInt,(f 37).toStr⟩:fx),(⟨(f 38).toInt,(f 39).toInt,(f 40).toBool,(f 41).toInt,(f 42).toBool,(f 43).toInt⟩:gx),(⟨(f 44).toInt,(f 45).toInt⟩:gm),(f 46).toInt,(f 47).toBool,(f 48).toBool⟩:bc)
abbrev mD(x:bc)(d:D):List D:=[.int u32 x.B4.X.a0,.int u32 x.B4.X.a1,.int u32 x.B4.X.a2,.int u32 x.B4.X.a3,.int u32 x.B4.X.a4,.int u32 x.B4.X.a5,.int u32 x.B4.X.a6,.int u32 x.B4.X.a7,.int u32 x.B4.X.a8,.int u32 x.B4.X.a9,.int u32 x.B4.X.kJ,.int u32 x.B4.X.kK,.int u32 x.B4.X.a12,.int u32 x.B4.X.kL,.int u32 x.B4.X.kM,.int u32 x.B4.X.kN,.int u32 x.B4.Pc,.int u32 x.B4.C3.a0,.int u32 x.B4.C3.a1,.int u32 x.B4.C3.a2,.int u32 x.B4.C3.a3,.int u32 x.B4.C3.a4,.int u32 x.B4.C3.a5,.int u32 x.B4.C3.a6,.int u32 x.B4.C3.a7,d,.str x.B2.D9,.bool x.B9.F2,.int u32 x.B9.D4,.bool x.B9.E0,.int u32 x.B7.ae,.int u32 x.B7.C8,.int u32 x.B7.Frame,.int i64 x.B7.C7,.int i64 x.B7.F7,.int u32 x.B7.C5,.int u32 x.B7.C6,.str x.B7.C9,.int u32 x.D2.Frame,.int u32 x.D2.F8,.bool x.D2.D1,.int u32 x.D2.D3,.bool x.D2.C4,.int u32 x.D2.G0,.int u32 x.A7.A2,.int u32 x.A7.D0,.int u64 x.B6,.bool x.B3,.bool x.B5]
abbrev mB(f:Nat->D):List D:=[f 0,f 1,f 2,f 3,f 4,f 5,f 6,f 7,f 8,f 9,f 10,f 11,f 12,f 13,f 14,f 15,f 16,f 17,f 18,f 19,f 20,f 21,f 22,f 23,f 24,f 25,f 26,f 27,f 28,f 29,f 30,f 31,f 32,f 33,f 34,f 35,f 36,f 37,f 38,f 39,f 40,f 41,f 42,f 43,f 44,f 45,f 46,f 47,f 48]
abbrev rZ:Prop:=rE (0:Nat)/\rE (0:Nat)
abbrev nR(k:RK)(n:Nat)(x:List (RK.T k)):Prop:=(ai.Nil (ai.ah k x)\/rE n)/\rE x
abbrev aC(l:List D)(n:Nat):List D:=(l.getD n .dead).cells
theorem nQ{p:Prop}(h:p:=by((subst_vars;first|trivial|assumption|omega|((simp(config:={decide:=true,failIfUnchanged:=false}) only[aE,Bool.or_eq_true,Bool.and_eq_false_iff,Bool.or_eq_false_iff,Bool.not_eq_true',Bool.not_eq_false',Bool.not_eq_true,Bool.not_eq_false,decide_eq_true_eq,decide_eq_false_iff_not,Q5b,Q3a,Q5d,Q3b,beq_iff_eq,beq_eq_false_iff_ne,bne_iff_ne,bne_eq_false_iff_eq,ne_eq,List.all_cons,List.all_nil,D.plain,List.length_cons,List.length_nil,lA,List.length_set,List.length_replicate,wrap_i64,wrap_u64,wrap_u32,wrap_i32,wrap_u8,true_and,and_true,or_false,false_or,or_true,true_or,not_true_eq_false,not_false_eq_true,Prod.fst,Prod.snd]at*);first|done|assumption|omega)|((simp(config:={decide:=true,failIfUnchanged:=false}) only[aE,Bool.or_eq_true,Bool.and_eq_false_iff,Bool.or_eq_false_iff,Bool.not_eq_true',Bool.not_eq_false',Bool.not_eq_true,Bool.not_eq_false,decide_eq_true_eq,decide_eq_false_iff_not,Q5b,Q3a,Q5d,Q3b,beq_iff_eq,beq_eq_false_iff_ne,bne_iff_ne,bne_eq_false_iff_eq,ne_eq,List.all_cons,List.all_nil,D.plain,List.length_cons,List.length_nil,lA,List.length_set,List.length_replicate,wrap_i64,wrap_u64,wrap_u32,wrap_i32,wrap_u8,true_and,and_true,or_false,false_or,or_true,true_or,not_true_eq_false,not_false_eq_true,Prod.fst,Prod.snd]at*);simp only[<-List.length_pos_iff]at*;omega)|(simp_all;done)|(have:= @Qhd;simp_all;try omega)))):p:=h
def run{α β:Type}[Inhabited β](F:α->α⊕β):Nat->α->β
 |0,_=>default
 |k+1,a=>match F a with|.inl a'=>run F k a'|.inr b=>b
theorem zB{α β:Type}[Inhabited β]{F:α->α⊕β}{P:α->Prop}{R:β->Prop}{μ:α->Nat}(h:∀a,P a->match F a with|.inl a'=>P a'/\μ a'<μ a|.inr b=>R b):∀k a,P a->μ a<k->R (run F k a):=by
 intro k
 induction k with
 |zero=>intro a _ hk;omega
 |succ k ih=>
  intro a ha hk
  have:=h a ha
  unfold run
  split at this
  ·rename_i a' he;exact ih a' this.1 (by omega)
  ·exact this
inductive Tree:Type->Type 1 where
 |lf {β:Type} (x:β):Tree β
 |nx {β:Type} (f:Prop) (x:β) (h:f:=by first|trivial|(simp[jf];done)|decide|(simp only[and_true,true_and,or_true,true_or,and_self];done)|((repeat'(first|exact True.intro|apply And.intro|exact rfl|exact Or.inr rfl));done)):Tree β
 |br {β:Type} (c:Bool) (t e:Tree β):Tree β
 |cn {β:Type} (c:Bool) (t:Tree β):Tree β
 |fl {β:Type} (c:Bool) (t:Tree β):Tree β
 |an {β:Type} (p:Prop) (t:Tree β):Tree β
 |lv {α β:Type} (x:α) (k:α->Tree β):Tree β
 |lp {α β:Type} (d:Inhabited β) (n:Nat) (f:Prop) (x:α) (t:α->Tree (α⊕β)) (h:f:=by first|trivial|(simp[jf];done)|decide|(simp only[and_true,true_and,or_true,true_or,and_self];done)|((repeat'(first|exact True.intro|apply And.intro|exact rfl|exact Or.inr rfl));done)):Tree β
def Tree.m{β:Type}:Tree β->β
 |.lf x=>x
 |.nx _ x _=>x
 |.br c t e=>cond c t.m e.m
 |.cn _ t=>t.m
 |.fl _ t=>t.m
 |.an _ t=>t.m
 |.lv x k=>ee x λy=>(k y).m
 |.lp _ n _ x t _=>run (λy=>(t y).m) n x
def mm{α β:Type}(B:α->(α⊕β->Prop)->Prop)(W:β->Prop)(n:Nat)(y:α):Prop:=
 match n with
 |0=>False
 |k+1=>B y (hY (λz=>mm B W k z) W)
termination_by n
theorem Z4g{α β:Type}{B:α->(α⊕β->Prop)->Prop}{W:β->Prop}{y:α}:mm B W 0 y=False:=by rw[mm]
theorem MZ{α β:Type}{B:α->(α⊕β->Prop)->Prop}{W:β->Prop}{y:α}:mm B W (k+1) y=B y (hY (λz=>mm B W k z) W):=by rw[mm]
def Tree.w{β:Type}:Tree β->(β->Prop)->Prop
 |.lf x,W=>W x
 |.nx _ x _,W=>W x
 |.br c t e,W=>Ai c (t.w W) (e.w W)
 |.cn c t,W=>cu c (t.w W)
 |.fl c t,W=>Ai c False (t.w W)
 |.an p t,W=>p/\t.w W
 |.lv x k,W=>∀y,y=x->(k y).w W
 |.lp _ n _ x t _,W=>mm (λy V=>(t y).w V) W n x
def Tree.q{β:Type}:Tree β->(β->Prop)->Prop
 |.lf x,L=>L x
 |.nx f x _,L=>L x/\f
 |.br c t e,L=>Ai c (t.q L) (e.q L)
 |.cn c t,L=>cu c (t.q L)
 |.fl c t,L=>Ai c False (t.q L)
 |.an p t,L=>p/\t.q L
 |.lv x k,L=>∀y,y=x->(k y).q L
 |.lp (α:=α) _ _ f x t _,L=>∃(wv:α->Prop),∃(ν:α->Nat),wv x/\f/\∀y,wv y->(t y).q (hY (λz=>wv z/\ν z<ν y) L)
theorem Tree.main{β:Type}(t:Tree β):∀{W L E:β->Prop},(∀x,W x->E x->L x)->t.w W->E t.m->t.q L:=by
 induction t with
 |lf x=>intro W L E h hw he;exact h x hw he
 |nx f x hf=>intro W L E h hw he;exact⟨h x hw he,hf⟩
 |br c t e J6 J7=>
  intro W L E h hw he
  cases c with
  |true=>exact J6 h hw he
  |false=>exact J7 h hw he
 |cn c t ih=>intro W L E h hw he;exact dd.2 ⟨(dd.1 hw).1,ih h (dd.1 hw).2 he⟩
 |fl c t ih=>
  intro W L E h hw he
  cases c with
  |true=>exact hw.elim
  |false=>exact ih h hw he
 |an p t ih=>intro W L E h hw he;exact⟨hw.1,ih h hw.2 he⟩
 |lv x k ih=>intro W L E h hw he y hy;subst hy;exact ih y h (hw y rfl) he
 |lp d n f x t hf ih=>
  intro W L E h hw he
  have H:∀k y,mm (λy V=>(t y).w V) W k y->E (@run _ _ d (λy=>(t y).m) k y)->∃j,j<k/\k=j+1:=by
   intro k y h1 _
   cases k with
   |zero=>rw[Z4g]at h1;exact h1.elim
   |succ k=>exact⟨k,Nat.lt_succ_self k,rfl⟩
  let P:Nat->_->Prop:=λk y=>mm (λy V=>(t y).w V) W k y/\E (@run _ _ d (λy=>(t y).m) k y)
  have least:∀y,(∃k,P k y)->∃k,P k y/\∀j,P j y->k<=j:=by
   intro y ⟨k,hk⟩
   induction k using Nat.strongRecOn with
   |ind k ihk=>
    by_cases hj:∃j,j<k/\P j y
    ·obtain⟨j,h1,h2⟩:=hj;exact ihk j h1 h2
    ·exact⟨k,hk,λj h2=>Nat.le_of_not_lt λh1=>hj ⟨j,h1,h2⟩⟩
  have ch:∃ν:_->Nat,∀y,(∃k,P k y)->P (ν y) y/\∀j,P j y->ν y<=j:=Classical.axiomOfChoice (r:=λy k=>(∃k,P k y)->P k y/\∀j,P j y->k<=j) λy=>by
   by_cases hy:∃k,P k y
   ·obtain⟨k,hk⟩:=least y hy;exact⟨k,λ_=>hk⟩
   ·exact⟨0,λh=>absurd h hy⟩
  obtain⟨ν,hν⟩:=ch
  refine⟨λy=>∃k,P k y,ν,⟨n,hw,he⟩,hf,λy hy=>?_⟩
  have RP:=hν y hy
  generalize Ah:ν y=k0 at RP
  obtain⟨⟨h1,h2⟩,_⟩:=RP
  obtain⟨j,_,rfl⟩:=H k0 y h1 h2
  rw[MZ]at h1
  refine ih y (E:=hY (λz=>E (@run _ _ d (λy=>(t y).m) j z)) E) ?_ h1 ?_
  ·intro z H3 hz2
   cases z with
   |inl z=>
    have hz:∃k,P k z:=⟨j,H3,hz2⟩
    refine⟨hz,?_⟩
    have:=(hν z hz).2 j ⟨H3,hz2⟩
    show ν z<j+1
    omega
   |inr z=>exact h z H3 hz2
  ·unfold run at h2
   cases hF:(t y).m with
   |inl z=>rw[hF]at h2;exact h2
   |inr z=>rw[hF]at h2;exact h2
abbrev Tree.p{β:Type}(t:Tree β):Prop:=t.w λ_=>True
theorem Tree.main'{β:Type}{t:Tree β}{L:β->Prop}(hw:t.p)(h:L t.m):t.q L:=t.main (λ_ _ h=>h) hw h
theorem Tree.mono{β:Type}(t:Tree β):∀{W V:β->Prop},(∀x,W x->V x)->t.w W->t.w V:=by
 induction t with
 |lf x=>intro W V h hw;exact h x hw
 |nx f x hf=>intro W V h hw;exact h x hw
 |br c t e J6 J7=>
  intro W V h hw
  cases c with
  |true=>exact J6 h hw
  |false=>exact J7 h hw
 |cn c t ih=>intro W V h hw;exact dd.2 ⟨(dd.1 hw).1,ih h (dd.1 hw).2⟩
 |fl c t ih=>
  intro W V h hw
  cases c with
  |true=>exact hw.elim
  |false=>exact ih h hw
 |an p t ih=>intro W V h hw;exact⟨hw.1,ih h hw.2⟩
 |lv x k ih=>intro W V h hw y hy;exact ih y h (hw y hy)
 |lp d n f x t hf ih=>
  intro W V h hw
  revert x
  show∀x,mm (λy V=>(t y).w V) W n x->mm (λy V=>(t y).w V) V n x
  induction n with
  |zero=>intro x hw;rw[Z4g]at hw;exact hw.elim
  |succ n ihn=>
   intro x hw
   rw[MZ]at hw⊢
   refine ih x (λz hz=>?_) hw
   cases z with
   |inl z=>exact ihn z hz
   |inr z=>exact h z hz
theorem Tree.post{β:Type}(t:Tree β):∀{W:β->Prop},t.w W->W t.m:=by
 induction t with
 |lf x=>intro W hw;exact hw
 |nx f x hf=>intro W hw;exact hw
 |br c t e J6 J7=>
  intro W hw
  cases c with
  |true=>exact J6 hw
  |false=>exact J7 hw
 |cn c t ih=>intro W hw;exact ih (dd.1 hw).2
 |fl c t ih=>
  intro W hw
  cases c with
  |true=>exact hw.elim
  |false=>exact ih hw
 |an p t ih=>intro W hw;exact ih hw.2
 |lv x k ih=>intro W hw;exact ih x (hw x rfl)
 |lp d n f x t hf ih=>
  intro W hw
  revert x
  show∀x,mm (λy V=>(t y).w V) W n x->W (@run _ _ d (λy=>(t y).m) n x)
  induction n with
  |zero=>intro x hw;rw[Z4g]at hw;exact hw.elim
  |succ n ihn=>
   intro x hw
   rw[MZ]at hw
   have:=ih x hw
   unfold run
   cases hF:(t x).m with
   |inl z=>rw[hF]at this;exact ihn z this
   |inr z=>rw[hF]at this;exact this
theorem Tree.pp{β:Type}{t:Tree β}{W:β->Prop}(h:t.w W):t.p/\W t.m:=⟨t.mono (λ_ _=>trivial) h,t.post h⟩
section
variable {α β:Type} {W:β->Prop} {c:Bool} {t e:Tree β}
theorem bg{x:β}(h:W x):(Tree.lf x).w W:=h
theorem ep{f:Prop}{x:β}{hf:f}(h:W x):(Tree.nx f x hf).w W:=h
theorem ab(h:c=true->t.w W)(g:c=false->e.w W):(Tree.br c t e).w W:=Y5.2 ⟨h,g⟩
theorem aw(h:c=true)(g:t.w W):(Tree.cn c t).w W:=dd.2 ⟨h,g⟩
theorem V3(h:c=false)(g:t.w W):(Tree.fl c t).w W:=Y5.2 ⟨λe=>(by rw[h]at e;cases e),λ_=>g⟩
theorem c8{p:Prop}(h:p)(g:t.w W):(Tree.an p t).w W:=⟨h,g⟩
theorem aq{x:α}{k:α->Tree β}(h:∀y,y=x->(k y).w W):(Tree.lv x k).w W:=h
theorem fj{d:Inhabited β}{n:Nat}{f:Prop}{x:α}{k:α->Tree (α⊕β)}{hf:f}{inv:α->Prop}{μ:α->Nat}(h:inv x)(hn:μ x<n)(g:∀y,inv y->(k y).w (hY (λz=>inv z/\μ z<μ y) W)):(Tree.lp d n f x k hf).w W:=by
 show mm (λy V=>(k y).w V) W n x
 revert x
 induction n with
 |zero=>intro x h hn;omega
 |succ n ih=>
  intro x h hn
  rw[MZ]
  refine(k x).mono (λz hz=>?_) (g x h)
  cases z with
  |inl z=>exact ih hz.1 (by have:=hz.2;omega)
  |inr z=>exact hz
end
theorem wL{β:Type}{x:β}:(Tree.lf x).p:=trivial
theorem wB{β:Type}{c:Bool}{t e:Tree β}(h:t.p)(g:e.p):(Tree.br c t e).p:=by cases c<;>assumption
structure ma(T:iu)(G:List ba)(L:Code->St->(Ex->St->Prop)->Prop)(fn:Func)(args:List D)(rows:List Row)(ds:List ng)(Q:D->List Row->Prop):Prop where
 h:kf T G L fn args rows λd R=>ob rows.length ds d R Q
theorem ma.of{G:List ba}{L:Code->St->(Ex->St->Prop)->Prop}{rows:List Row}{Q:D->List Row->Prop}{p:Prop}(e:(kf T G L fn args rows λd R=>ob rows.length ds d R Q)=p)(hl:p):ma T G L fn args rows ds Q:=⟨by rw[e];exact hl⟩
theorem ma.calls(hD:pD P)(hT:jg P T){G:List ba}(hG:jA P G)(hf:P.funcs[f]?=some fn){rows:List Row}{aj:List Row}
 {rf:Option Nat} (mM:∀code,fn.body=some code->RF rf fn.ntmps code) {L:Code->St->(Ex->St->Prop)->Prop} (hL:∀code st Q,RF rf fn.ntmps code->L code st Q->Tr P fn.ntmps rows.length code st Q) {ds:List ng} (h:ma T G L fn args rows ds λr o=>r=res/\o=aj):kq P f args rows res aj:=
 yv hD hT hG hf mM hL (λd R hQ=>by obtain⟨r,o,⟨rfl,rfl⟩,hE⟩:=Zbn hQ;exact hE) h.h
structure tu(T:iu)(G:List ba)(L:Code->St->(Ex->St->Prop)->Prop)(fn:Func)(args:List D)(rows:List Row)(k:Nat)(ds:List ng)(Q:D->List Row->Prop):Prop where
 h:FR T G L fn args rows (λd R=>ob k ds d R Q) k
theorem tu.of{G:List ba}{L:Code->St->(Ex->St->Prop)->Prop}{rows:List Row}{Q:D->List Row->Prop}{p:Prop}(e:(FR T G L fn args rows (λd R=>ob k ds d R Q) k)=p)(hl:p):tu T G L fn args rows k ds Q:=⟨by rw[e];exact hl⟩
theorem tu.calls(hD:pD P)(hT:jg P T){G:List ba}(hG:jA P G){rows:List Row}{aj:List Row}{rf:Option Nat}(hf:o4 P f fn (rb (oC args++kB rows)=true/\rf=none))(mM:∀code,fn.body=some code->RF rf fn.ntmps code)
 {L:Code->St->(Ex->St->Prop)->Prop} (hL:∀ro,(ro=none\/rf=none)->∀code st Q,RF rf fn.ntmps code->L code st Q->tV ro P fn.ntmps k code st Q) {ds:List ng} (h:tu T G L fn args rows k ds λr o=>r=res/\o=aj):tR P f k args rows res aj:=
 zaH hD hT hG hf mM hL (λd R hQ=>by obtain⟨r,o,⟨rfl,rfl⟩,hE⟩:=Zbn hQ;exact hE) h.h
section
variable {P:Program} {T:iu} {G:List ba} {f:FuncId} {fn:Func} {refs:List Bool} {flat:Bool} {sig:List PT} {du:List RT} {pre:List D->List Row->Prop} {β:Type} {v:List D->List Row->β} {enc:β->D} {out:β->List Row}
theorem o4.imp{cl cl':Prop}(h:o4 P f fn cl)(g:cl->cl'):o4 P f fn cl':=by
 cases h with
 |real a b c=>exact .real a b c
 |yield a y d b c e f g1 g2 h i=>exact .yield a y d b c e f g1 g2 h (g i)
 |uW a y q b c e f g1 h i j k=>exact .uW a y q b c e f g1 h i j (g k)
theorem Zck(rf:Option Nat)(mM:∀code,fn.body=some code->RF rf fn.ntmps code)(hD:pD P)(hT:jg P T)(hG:jA P G)(hf:P.funcs[f]?=some fn)(t:List D->List Row->Tree β)(ds:List ng)(fm:List (Nat×cg))(dep:Nat)
 (hn:∀args rows Q,(kf T G (AX T G fn.ntmps du.length fm rf dep) fn (lg sig args 0) (ku du rows 0) λd R=>ob du.length ds d R Q)=(t args rows).q λX=>Q (enc X) (out X)) (hv:∀args rows,(t args rows).m=v args rows) {args:List D} {rows:List Row} (hp:(t args rows).p):
 kq P f (lg sig args 0) (ku du rows 0) (enc (v args rows)) (out (v args rows)):=by
 have e:(ku du rows 0).length=du.length:=Vq
 refine ma.calls hD hT hG hf mM (L:=AX T G fn.ntmps du.length fm rf dep) (λcode st Q hc hl=>by rw[e];exact GH hD hT hG (.inl rfl) dep _ _ _ hc hl) (ds:=ds) ⟨?_⟩
 rw[e,hn]
 refine Tree.main' hp ?_
 rw[hv]
 exact⟨rfl,rfl⟩
theorem Z48(rf:Option Nat)(mM:∀code,fn.body=some code->RF rf fn.ntmps code)(hD:pD P)(hT:jg P T)(hG:jA P G)(hf:o4 P f fn ((∀args rows,rb (oC (lg sig args 0)++kB (ku du rows 0))=true)/\rf=none))(t:List D->List Row->Tree β)(ds:List ng)(fm:List (Nat×cg))(dep:Nat)
 (hn:∀args rows Q,(FR T G (AX T G fn.ntmps k fm rf dep) fn (lg sig args 0) (ku du rows 0) (λd R=>ob k ds d R Q) k)=(t args rows).q λX=>Q (enc X) (out X)) (hv:∀args rows,(t args rows).m=v args rows) {args:List D} {rows:List Row} (hp:(t args rows).p):
 tR P f k (lg sig args 0) (ku du rows 0) (enc (v args rows)) (out (v args rows)):=by
 refine tu.calls hD hT hG (hf.imp λh=>⟨h.1 args rows,h.2⟩) mM (L:=AX T G fn.ntmps k fm rf dep) (λro DM=>GH hD hT hG DM dep) (ds:=ds) ⟨?_⟩
 rw[hn]
 refine Tree.main' hp ?_
 rw[hv]
 exact⟨rfl,rfl⟩
theorem Zmg(rf:Option Nat)(mM:∀code,fn.body=some code->RF rf fn.ntmps code)(hD:pD P)(hT:jg P T)(hG:jA P G)(hf:P.funcs[f]?=some fn)(he:∀args w,(callFunc f args).run P w=.ok (.enter f args) w)(t:List D->List Row->Tree β)(ds:List ng)(fm:List (Nat×cg))(dep:Nat)
 (hn:∀args rows Q,(kf T G (AX T G fn.ntmps du.length fm rf dep) fn (lg sig args 0) (ku du rows 0) λd R=>ob du.length ds d R Q)=(t args rows).q λX=>Q (enc X) (out X):=by intro _ _ _;kernel_rfl) (hv:∀args rows,(t args rows).m=v args rows:=by exactλ_ _=>rfl)
 (hp:∀args rows,pre args rows->(t args rows).p:=by exactλ_ _ h=>h) (ju:flat=true->∀X,(tw (enc X)&&jv (out X))=true:=by intro _ _;kernel_rfl) (hy:bN f YB=true:=by rfl):bm P (lJ f refs flat sig du pre v enc out):=
 Ga he (λargs rows hw=>Zck rf mM hD hT hG hf t ds fm dep hn hv (hp _ _ hw)) ju hy
theorem wc(hD:pD P)(hT:jg P T)(hG:jA P G)(hf:P.funcs[f]?=some fn)(he:∀args w,(callFunc f args).run P w=.ok (.enter f args) w)(t:List D->List Row->Tree β)(ds:List ng)(fm:List (Nat×cg))(dep:Nat)
 (hn:∀args rows Q,(kf T G (LL T G fn.ntmps du.length fm dep) fn (lg sig args 0) (ku du rows 0) λd R=>ob du.length ds d R Q)=(t args rows).q λX=>Q (enc X) (out X):=by intro _ _ _;kernel_rfl) (hv:∀args rows,(t args rows).m=v args rows:=by exactλ_ _=>rfl)
 (hp:∀args rows,pre args rows->(t args rows).p:=by exactλ_ _ h=>h) (ju:flat=true->∀X,(tw (enc X)&&jv (out X))=true:=by intro _ _;kernel_rfl) (hy:bN f YB=true:=by rfl):bm P (lJ f refs flat sig du pre v enc out):=
 Zmg none (λ_ _=>trivial) hD hT hG hf he t ds fm dep hn hv hp ju hy
theorem xax(rf:Option Nat)(mM:∀code,fn.body=some code->RF rf fn.ntmps code)(hD:pD P)(hT:jg P T)(hG:jA P G)(hf:P.funcs[f]?=some fn)(he:∀args w,(callFunc f args).run P w=.ok (.enter f args) w)(t:List D->List Row->Tree β)(ds:List ng)(fm:List (Nat×cg))(dep:Nat)
 (hn:∀args rows Q,(kf T G (AX T G fn.ntmps du.length fm rf dep) fn (lg sig args 0) (ku du rows 0) λd R=>ob du.length ds d R Q)=(t args rows).q λX=>Q (enc X) (out X)) (hv:∀args rows,(t args rows).m=v args rows)
 (hp:∀args rows,(t args rows).p) (ju:flat=true->∀X,(tw (enc X)&&jv (out X))=true) (hy:bN f YB=true:=by rfl):bm P (Gm f refs flat sig du v enc out):=
 qaK he (λargs rows=>Zck rf mM hD hT hG hf t ds fm dep hn hv (hp _ _)) ju hy
theorem Q10(hD:pD P)(hT:jg P T)(hG:jA P G)(hf:P.funcs[f]?=some fn)(he:∀args w,(callFunc f args).run P w=.ok (.enter f args) w)(t:List D->List Row->Tree β)(ds:List ng)(fm:List (Nat×cg))(dep:Nat)
 (hn:∀args rows Q,(kf T G (LL T G fn.ntmps du.length fm dep) fn (lg sig args 0) (ku du rows 0) λd R=>ob du.length ds d R Q)=(t args rows).q λX=>Q (enc X) (out X):=by intro _ _ _;kernel_rfl) (hv:∀args rows,(t args rows).m=v args rows:=by exactλ_ _=>rfl)
 (hp:∀args rows,(t args rows).p:=by intro _ _;exact Tree.nT (by kernel_rfl)) (ju:flat=true->∀X,(tw (enc X)&&jv (out X))=true:=by intro _ _;kernel_rfl) (hy:bN f YB=true:=by rfl):bm P (Gm f refs flat sig du v enc out):=
 xax none (λ_ _=>trivial) hD hT hG hf he t ds fm dep hn hv hp ju hy
theorem Zqj(rf:Option Nat)(mM:∀code,fn.body=some code->RF rf fn.ntmps code)(hD:pD P)(hT:jg P T)(hG:jA P G)(hf:o4 P f fn ((∀args rows,rb (oC (lg sig args 0)++kB (ku du rows 0))=true)/\rf=none))(he:f<YB->∀args w,(callFunc f args).run P w=.ok (.enter f args) w)(t:List D->List Row->Tree β)(ds:List ng)(fm:List (Nat×cg))(dep:Nat)
 (hn:∀args rows Q,(FR T G (AX T G fn.ntmps k fm rf dep) fn (lg sig args 0) (ku du rows 0) (λd R=>ob k ds d R Q) k)=(t args rows).q λX=>Q (enc X) (out X)) (hv:∀args rows,(t args rows).m=v args rows)
 (hp:∀args rows,pre args rows->(t args rows).p):bm P (jO k f refs sig du pre v enc out):=
 zax he (λargs rows hw=>Z48 rf mM hD hT hG hf t ds fm dep hn hv (hp _ _ hw))
theorem tv(hD:pD P)(hT:jg P T)(hG:jA P G)(hf:P.funcs[f]?=some fn)(he:∀args w,(callFunc f args).run P w=.ok (.enter f args) w)(t:List D->List Row->Tree β)(ds:List ng)(fm:List (Nat×cg))(dep:Nat)
 (hn:∀args rows Q,(FR T G (LL T G fn.ntmps k fm dep) fn (lg sig args 0) (ku du rows 0) (λd R=>ob k ds d R Q) k)=(t args rows).q λX=>Q (enc X) (out X)) (hv:∀args rows,(t args rows).m=v args rows)
 (hp:∀args rows,pre args rows->(t args rows).p) (hy:bN f YB=true:=by rfl) (hb:Nat.ble YB fn.nfree=false:=by rfl):bm P (jO k f refs sig du pre v enc out):=
 Zqj none (λ_ _=>trivial) hD hT hG (.real (lE hy) hf hb) (λ_=>he) t ds fm dep hn hv hp
theorem yB(rf:Option Nat)(mM:∀code,fn.body=some code->RF rf fn.ntmps code)(hD:pD P)(hT:jg P T)(hG:jA P G)(hf:o4 P f fn ((∀args rows,rb (oC (lg sig args 0)++kB (ku du rows 0))=true)/\rf=none))(he:f<YB->∀args w,(callFunc f args).run P w=.ok (.enter f args) w)(t:List D->List Row->Tree β)(ds:List ng)(fm:List (Nat×cg))(dep:Nat)
 (hn:∀args rows Q,(FR T G (AX T G fn.ntmps k fm rf dep) fn (lg sig args 0) (ku du rows 0) (λd R=>ob k ds d R Q) k)=(t args rows).q λX=>Q (enc X) (out X)) (hv:∀args rows,(t args rows).m=v args rows)
 (hp:∀args rows,(t args rows).p):bm P (J4 k f refs sig du v enc out):=
 zaK he (λargs rows=>Z48 rf mM hD hT hG hf t ds fm dep hn hv (hp _ _))
theorem xaK(hD:pD P)(hT:jg P T)(hG:jA P G)(hf:P.funcs[f]?=some fn)(he:∀args w,(callFunc f args).run P w=.ok (.enter f args) w)(t:List D->List Row->Tree β)(ds:List ng)(fm:List (Nat×cg))(dep:Nat)
 (hn:∀args rows Q,(FR T G (LL T G fn.ntmps k fm dep) fn (lg sig args 0) (ku du rows 0) (λd R=>ob k ds d R Q) k)=(t args rows).q λX=>Q (enc X) (out X)) (hv:∀args rows,(t args rows).m=v args rows)
 (hp:∀args rows,(t args rows).p) (hy:bN f YB=true:=by rfl) (hb:Nat.ble YB fn.nfree=false:=by rfl):bm P (J4 k f refs sig du v enc out):=
 yB none (λ_ _=>trivial) hD hT hG (.real (lE hy) hf hb) (λ_=>he) t ds fm dep hn hv hp
theorem vB(h:bm P (lJ f refs flat sig du pre v enc out)){rows:List Row}(hs:(Br sig args&&Bs du rows)=true)(hw:pre args rows):kq P f args rows (enc (v args rows)) (out (v args rows)):=
 (h.lH rfl args rows (pre args rows) β (v args rows) enc out (by simp only[lJ,hs]) hw).1
end
def Tree.pX{β:Type}:Tree β->Bool
 |.lf _=>true
 |.br _ t e=>t.pX&&e.pX
 |.lv x k=>(k x).pX
 |_=>false
theorem Tree.nT{β:Type}{t:Tree β}(h:t.pX=true):t.p:=by
 induction t with
 |lf x=>trivial
 |br c t e J6 J7=>
  simp only[Tree.pX,aE]at h
  cases c with
  |true=>exact J6 h.1
  |false=>exact J7 h.2
 |lv x k ih=>intro y hy;subst hy;exact ih _ h
 |_=>simp[Tree.pX]at h
theorem jA.nil:jA P []:=λx hx=>by cases hx
theorem jA.cons{x:ba}{G:List ba}(h:bm P x)(g:jA P G):jA P (x::G):=λy hy=>by
 simp only[List.mem_cons]at hy
 rcases hy with rfl|hy
 ·exact h
 ·exact g y hy

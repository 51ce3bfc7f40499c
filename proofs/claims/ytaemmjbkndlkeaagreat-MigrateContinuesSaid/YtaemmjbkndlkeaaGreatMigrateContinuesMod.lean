import Derived.Test.YtaemmjbkndlkeaaGreatMigrateContinuesFc
open Nat renaming blt->bN,beq->bX,le_refl->aX
open List renaming map_cons->fG,getD->aV,getElem?_eq_getElem->aI,range'->bO,all_cons->gJ,all_nil->hH,length_cons->dD,length_nil->dE,length_set->dC,length_replicate->cS
open Bool renaming false_eq_true->aA,or_eq_true->aT,and_eq_false_iff->gU,or_eq_false_iff->gW,not_eq_true'->bB,not_eq_false'->gX,not_eq_true->gY,not_eq_false->gZ
open Sum renaming elim->hJ
set_option linter.all false
namespace Go.GD
open Go
open Go.IntKind(i64 u32 u64 wrap_i64 wrap_u32 wrap_u64 wrap_u8 wrap_i32)
variable {P:Program}{T:iu}{a b k s:Nat}{args pM:List D}{d res:D}{ds:List mP}{f:FuncId}{flat fr:Bool}{fn:Func}{refs:List Bool}
def lk(st:St)(t:Nat):D:=look st.env t
def rN(st:St)(t:Nat):Nat:=iS (look st.env t) 1000000
def cT(st:St)(t j:Nat):D:=ay st.rows (iS (look st.env t) 1000000) j
def rX(st:St)(t k:Nat):Nat:=iS (look st.env t) (st.rows.length+k)
theorem Qho{α:Type}{l:List α}(h:l≠[]):0<l.length:=by cases l<;>simp_all
theorem Q56{a b:Nat}:bN a b=true↔a<b:=by simp[bN,Nat.lt_iff_add_one_le]
theorem Q3a:bN a b=false↔ ¬a<b:=by have:= @Q56 a b;cases h:bN a b<;>simp_all
theorem Q57{a b:Nat}:bX a b=true↔a=b:=iff_of_eq Nat.beq_eq
theorem Q3b:bX a b=false↔ ¬a=b:=by have:= @Q57 a b;cases h:bX a b<;>simp_all
def gu(d e:D):Prop:=∀c w v,dc c w d v->dc c w e v
def lg:List D->List D->Prop
 |[],[]=>True
 |d::l,e::m=>gu d e/\lg l m
 |_,_=>False
def sO:D->D->Prop
 |.agg cs,.agg ds=>lg cs ds
 |.agg _,_=>False
 |d,e=>gu d e
def CP:List D->List D->Prop
 |[],[]=>True
 |d::l,e::m=>sO d e/\CP l m
 |_,_=>False
theorem gu.rfl:gu d d:=λ_ _ _ h=>h
theorem gu.ints{k:IntKind}{E:ai}{l:List Int}(h:E.toI k=some l):gu (.sl s E fr) (.sl 1 (.ints k l) false):=by
 intro c w v hv
 have he:=ai.toI_l h
 obtain⟨a,cap,hv,hc,gx⟩:=hv
 rw[he]at hv hc gx
 refine⟨a,cap,hv,hc,?_⟩
 rcases gx with gx|⟨b,off,arr,ty,fz,ha,hI,hf,hh,hE⟩
 ·exact .inl gx
 ·cases l with
  |nil=>exact .inl (by simp[ai.l])
  |cons n l=>
   have h1:s=1:=by
    simp only[ai.l,fG,pR,pB]at hE
    exact hE.1.symm
   subst h1
   exact .inr ⟨b,off,arr,ty,fz,ha,hI,(λe=>by cases e),hh,hE⟩
theorem gu.ag{E:ai}{l:List Bool}(h:E.toB=some l):gu (.sl s E fr) (.sl 1 (.ag l) false):=by
 intro c w v hv
 have he:=ai.toB_l h
 obtain⟨a,cap,hv,hc,gx⟩:=hv
 rw[he]at hv hc gx
 refine⟨a,cap,hv,hc,?_⟩
 rcases gx with gx|⟨b,off,arr,ty,fz,ha,hI,hf,hh,hE⟩
 ·exact .inl gx
 ·cases l with
  |nil=>exact .inl (by simp[ai.l])
  |cons n l=>
   have h1:s=1:=by
    simp only[ai.l,fG,pR,pB]at hE
    exact hE.1.symm
   subst h1
   exact .inr ⟨b,off,arr,ty,fz,ha,hI,(λe=>by cases e),hh,hE⟩
theorem lg.rep{c:Ctx}{w:World}:∀{ds es:List D} {vs:List Value},lg ds es->je c w ds vs->je c w es vs
 |[],[],[],_,_=>trivial
 |d::l,e::m,v::vs,h,hr=>⟨h.1 _ _ _ hr.1,lg.rep h.2 hr.2⟩
 |[],_::_,_,h,_=>h.elim
 |_::_,[],_,h,_=>h.elim
 |[],[],_::_,_,hr=>hr.elim
 |_::_,_::_,[],_,hr=>hr.elim
theorem sO.rep{c:Ctx}{w:World}{d e:D}{v:Value}(h:sO d e)(hr:VRep c w d v):VRep c w e v:=by
 cases d with
 |agg cs=>
  cases e with
  |agg ds=>obtain⟨vs,hv,hx⟩:=hr;exact⟨vs,hv,lg.rep h hx⟩
  |_=>exact h.elim
 |_=>
  have h1:=VRep.toC (λcs e=>by cases e) hr
  have h2:gu _ e:=h
  exact VRep.DT (h2 _ _ _ h1)
theorem CP.rep{c:Ctx}{w:World}:∀{ds es:List D} {vs:List Value},CP ds es->j5 c w ds vs->j5 c w es vs
 |[],[],[],_,_=>trivial
 |d::l,e::m,v::vs,h,hr=>⟨sO.rep h.1 hr.1,CP.rep h.2 hr.2⟩
 |[],_::_,_,h,_=>h.elim
 |_::_,[],_,h,_=>h.elim
 |[],[],_::_,_,hr=>hr.elim
 |_::_,_::_,[],_,hr=>hr.elim
theorem kg.sub{rows:List Row}{aj:List Row}(hs:CP args pM)(h:kg P f pM rows res aj):kg P f args rows res aj:=
 λc w vs hm hb hR ha=>h c w vs hm hb hR (CP.rep hs ha)
theorem gu.ah{k:RK}{E:ai}{l:List (RK.T k)}(h:E.toR k=some l):gu (.sl s E fr) (.sl k.size (.ah k l) false):=by
 intro c w v hv
 have he:=ai.toR_l h
 obtain⟨a,cap,hv,hc,gx⟩:=hv
 rw[he]at hv hc gx
 refine⟨a,cap,hv,hc,?_⟩
 rcases gx with gx|⟨b,off,arr,ty,fz,ha,hI,hf,hh,hE⟩
 ·exact .inl gx
 ·cases l with
  |nil=>exact .inl (by simp[ai.l])
  |cons x l=>
   have h1:s=k.size:=by
    simp only[ai.l,fG,pB]at hE
    rw[<-hE.1];exact RK.rh k x
   subst h1
   exact .inr ⟨b,off,arr,ty,fz,ha,hI,(λe=>by cases e),hh,hE⟩
theorem gu.CQ{E:ai}(h:E.l=[]):gu .c9 (.sl s E false):=by
 intro c w v hv
 exact⟨none,0,by rw[h];exact hv,by rw[h];exact aX _,.inl h⟩
theorem gu.Js{E:ai}(h:E.l=[]):gu .emp (.sl s E false):=by
 intro c w v hv
 obtain⟨a,hv,_⟩:=hv
 exact⟨a,0,by rw[h];exact hv,by rw[h];exact aX _,.inl h⟩
def Ar:List (Nat×Nat×Nat)->List (Nat×Nat×Nat)->Bool
 |[],[]=>true
 |(a,b,c)::l,(x,y,z)::m=>bX a x&&(bX b y&&(bX c z&&Ar l m))
 |_,_=>false
def sP:List iy->List iy->Bool
 |[],[]=>true
 |.ptr a b c::l,.ptr x y z::m=>bX a x&&(bX b y&&(bX c z&&sP l m))
 |.fn f ps::l,.fn g qs::m=>bX f g&&(Ar ps qs&&sP l m)
 |_,_=>false
theorem zA:∀{l m:List (Nat×Nat×Nat)},Ar l m=true->l=m
 |[],[],_=>rfl
 |(a,b,c)::l,(x,y,z)::m,h=>by
  simp only[Ar,aE]at h
  rw[bE h.1,bE h.2.1,bE h.2.2.1,zA h.2.2.2]
 |[],_::_,h=>by simp[Ar]at h
 |_::_,[],h=>by simp[Ar]at h
theorem yA:∀{l m:List iy},sP l m=true->l=m:=by
 intro l
 induction l with
 |nil=>intro m h;cases m with
  |nil=>rfl
  |cons _ _=>simp[sP]at h
 |cons a l ih=>
  intro m h
  cases m with
  |nil=>cases a<;>simp[sP]at h
  |cons b m=>
   cases a<;>cases b<;>simp only[sP,aE,aA]at h
   ·rw[bE h.1,bE h.2.1,bE h.2.2.1,ih h.2.2.2]
   ·rw[bE h.1,zA h.2.1,ih h.2.2]
def Au:CT->D->Bool
 |.int k,.int j _=>decide (j=k)
 |.bool,.bool _=>true
 |.str,.str _=>true
 |.ints k,.sl _ E _=>(match E.toI k with|some _=>true|none=>false)
 |.ag,.sl _ E _=>(match E.toB with|some _=>true|none=>false)
 |.ah k,.sl _ E _=>(match E.toR k with|some _=>true|none=>false)
 |.ints _,.c9=>true
 |.ag,.c9=>true
 |.ah _,.c9=>true
 |.ints _,.emp=>true
 |.ag,.emp=>true
 |.ah _,.emp=>true
 |.row i,.all r=>bX r i
 |.nil,.sl s (.gen []) false=>bX s 0
 |.HC,.c9=>true
 |.self _,.iC=>true
 |.gj f cs,.gj g ds=>bX g f&&sP ds cs
 |.self i,.ga r=>bX r i
 |.self i,.ptr r o f=>bX r i&&(bX o 0&&bX f 0)
 |.pt i a b,.ptr r o f=>bX r i&&(bX o a&&bX f b)
 |_,_=>false
inductive PT where
 |one (t:CT)
 |agg (ts:List CT)
 |ptr (i:Nat)
 |gj (f:Nat) (cs:List iy)
inductive RT where
 |box (ty sz:Nat) (ts:List CT)
 |arr (ty sz:Nat) (t:CT)
def Jt:List CT->List D->Bool
 |[],[]=>true
 |t::ts,d::ds=>Au t d&&Jt ts ds
 |_,_=>false
def uF:PT->D->Bool
 |.agg ts,.agg cs=>Jt ts cs
 |.one t,d=>Au t d
 |.ptr i,.ptr r j o=>bX r i&&(bX j 0&&bX o 0)
 |.gj f cs,.gj g ds=>bX g f&&sP ds cs
 |_,_=>false
def Hk:PT->D->D
 |.agg ts,d=>.agg (uP ts d.cells 0)
 |.one t,d=>Dd t d
 |.ptr i,_=>.ptr i 0 0
 |.gj f cs,_=>.gj f cs
def AW:List PT->List D->Bool
 |[],[]=>true
 |s::l,d::ds=>uF s d&&AW l ds
 |_,_=>false
def kN:List PT->List D->Nat->List D
 |[],_,_=>[]
 |s::l,args,i=>Hk s (args.getD i .dead)::kN l args (i+1)
def Row.cs(r:Row):List D:=match r.es with|.gen [e]=>e|_=>[]
def uG:RT->Row->Bool
 |.box ty sz ts,⟨true,jN,jX,.gen [e]⟩=>bX jN ty&&(bX jX sz&&Jt ts e)
 |.arr ty sz t,⟨false,jN,jX,E⟩=>bX jN ty&&(bX jX sz&&(match toCT t E with|some _=>true|none=>false))
 |_,_=>false
def Rg(t:CT)(E:ai):ai:=match t with
 |.ints k=>.ints k (match E.toI k with|some l=>l|none=>[])
 |.ag=>.ag (match E.toB with|some l=>l|none=>[])
 |.ah k=>.ah k (match E.toR k with|some l=>l|none=>[])
 |_=>.gen []
theorem xaz{t:CT}{E E':ai}(h:toCT t E=some E'):Rg t E=E':=by
 cases t with
 |ints k=>
  simp only[toCT]at h
  split at h
  ·rename_i l hl
   cases h
   show ai.ints k (match E.toI k with|some l=>l|none=>[])=_
   rw[hl]
  ·cases h
 |ag=>
  simp only[toCT]at h
  split at h
  ·rename_i l hl
   cases h
   show ai.ag (match E.toB with|some l=>l|none=>[])=_
   rw[hl]
  ·cases h
 |ah k=>
  simp only[toCT]at h
  split at h
  ·rename_i l hl
   cases h
   show ai.ah k (match E.toR k with|some l=>l|none=>[])=_
   rw[hl]
  ·cases h
 |_=>simp[toCT]at h
def wD:RT->Row->Row
 |.box ty sz ts,r=>⟨true,ty,sz,.gen [uP ts r.cs 0]⟩
 |.arr ty sz t,r=>⟨false,ty,sz,Rg t r.es⟩
def AX:List RT->List Row->Bool
 |[],[]=>true
 |s::l,r::rs=>uG s r&&AX l rs
 |_,_=>false
def kh:List RT->List Row->Nat->List Row
 |[],_,_=>[]
 |s::l,rows,i=>wD s (rows.getD i default)::kh l rows (i+1)
def ar(args:List D)(i:Nat):Int:=(args.getD i .dead).toInt
def kq(args:List D)(i:Nat):Bool:=(args.getD i .dead).toBool
def jy(args:List D)(i:Nat):List UInt8:=(args.getD i .dead).toStr
def dh(k:IntKind)(args:List D)(i:Nat):List Int:=cf k (args.getD i .dead)
def CR(args:List D)(i:Nat):List Bool:=eu (args.getD i .dead)
def kr(k:RK)(args:List D)(i:Nat):List (RK.T k):=iM k (args.getD i .dead)
def sQ(rows:List Row)(i j:Nat):D:=((rows.getD i default).cs.getD j .dead)
def cw(k:IntKind)(rows:List Row)(i:Nat):List Int:=match(rows.getD i default).es.toI k with|some l=>l|none=>[]
def da(k:RK)(rows:List Row)(i:Nat):List (RK.T k):=match(rows.getD i default).es.toR k with|some l=>l|none=>[]
theorem Zcn{t:CT}(h:Au t d=true):gu d (Dd t d):=by
 cases t<;>cases d<;>(try(simp[Au]at h;done))
 case int.int=>simp[Au]at h;subst h;exact gu.rfl
 case nil.sl s E fr=>
  unfold Au at h
  split at h<;>simp_all
  exact gu.rfl
 case HC.c9=>exact gu.rfl
 case bool.bool=>exact gu.rfl
 case str.str=>exact gu.rfl
 case ints.sl k sz E fr=>
  simp only[Au]at h
  split at h
  ·rename_i l hl
   simp only[Dd,cf,hl]
   exact gu.ints hl
  ·cases h
 case ints.c9=>exact gu.CQ rfl
 case ints.emp=>exact gu.Js rfl
 case ag.sl sz E fr=>
  simp only[Au]at h
  split at h
  ·rename_i l hl
   simp only[Dd,eu,hl]
   exact gu.ag hl
  ·cases h
 case ag.c9=>exact gu.CQ rfl
 case ag.emp=>exact gu.Js rfl
 case ah.sl k sz E fr=>
  simp only[Au]at h
  split at h
  ·rename_i l hl
   simp only[Dd,iM,hl]
   exact gu.ah hl
  ·cases h
 case ah.c9=>exact gu.CQ rfl
 case ah.emp=>exact gu.Js rfl
 case row.all i r=>rw[bE h];exact gu.rfl
 case gj.gj f cs g ds=>
  simp only[Au,aE]at h
  rw[bE h.1,yA h.2]
  exact gu.rfl
 case self.iC i=>exactλc w v hv=>.inl hv
 case self.ga i r=>rw[bE h];exact gu.rfl
 case self.ptr i r o f=>
  simp only[Au,aE]at h
  rw[bE h.1,bE h.2.1,bE h.2.2]
  exactλc w v hv=>.inr hv
 case pt.ptr i a b r o f=>
  simp only[Au,aE]at h
  rw[bE h.1,bE h.2.1,bE h.2.2]
  exact gu.rfl
theorem Qzo:∀{ts:List CT} {pre ds:List D},Jt ts ds=true->lg ds (uP ts (pre++ds) pre.length)
 |[],pre,[],_=>trivial
 |t::ts,pre,d::ds,h=>by
  simp only[Jt,aE]at h
  have h2:=Qzo (pre:=pre++[d]) h.2
  simp only[uP]
  refine⟨?_,by simpa using h2⟩
  have:(pre++d::ds).getD pre.length .dead=d:=by simp[aV]
  rw[this];exact Zcn h.1
 |[],_,_::_,h=>by simp[Jt]at h
 |_::_,_,[],h=>by simp[Jt]at h
theorem sO.of1{d e:D}(hd:∀cs,d≠.agg cs)(h:gu d e):sO d e:=by
 cases d<;>first|exact h|exact absurd rfl (hd _)
theorem Zt4{s:PT}(h:uF s d=true):sO d (Hk s d):=by
 unfold uF at h
 split at h
 ·rename_i ts cs
  exact Qzo (pre:=[]) h
 ·rename_i t d
  refine sO.of1 (λcs e=>?_) (Zcn h)
  subst e
  cases t<;>simp[Au]at h
 ·rename_i i r j o
  simp only[aE]at h
  rw[bE h.1,bE h.2.1,bE h.2.2]
  exact gu.rfl
 ·rename_i f cs g ds
  simp only[aE]at h
  rw[bE h.1,yA h.2]
  exact gu.rfl
 ·cases h
theorem Qyq:∀{l:List PT} {pre ds:List D},AW l ds=true->CP ds (kN l (pre++ds) pre.length)
 |[],pre,[],_=>trivial
 |s::l,pre,d::ds,h=>by
  simp only[AW,aE]at h
  have h2:=Qyq (pre:=pre++[d]) h.2
  simp only[kN]
  refine⟨?_,by simpa using h2⟩
  have:(pre++d::ds).getD pre.length .dead=d:=by simp[aV]
  rw[this];exact Zt4 h.1
 |[],_,_::_,h=>by simp[AW]at h
 |_::_,_,[],h=>by simp[AW]at h
def sR(a b:Row):Prop:=b.box=a.box/\b.ty=a.ty/\b.sz=a.sz/\b.es.l.length=a.es.l.length/\match a.box with
 |true=>∃e e',a.es=.gen [e]/\b.es=.gen [e']/\e'.length=e.length/\lg e e'
 |false=>b.es.l=a.es.l
theorem lg.length:∀{ds es:List D},lg ds es->ds.length=es.length
 |[],[],_=>rfl
 |_::_,_::_,h=>by simp[lg.length h.2]
 |[],_::_,h=>h.elim
 |_::_,[],h=>h.elim
theorem Zqx{s:RT}{r:Row}(h:uG s r=true):sR r (wD s r):=by
 unfold uG at h
 split at h
 ·rename_i ty sz ts jN jX e
  simp only[aE]at h
  have h3:=Qzo (pre:=[]) h.2.2
  have hl:=h3.length
  exact⟨rfl,(bE h.1).symm,(bE h.2.1).symm,rfl,_,_,rfl,rfl,hl.symm,h3⟩
 ·rename_i ty sz t jN jX E
  simp only[aE]at h
  obtain⟨h1,h2,h3⟩:=h
  split at h3
  ·rename_i E' hE
   have he:=ai.wT (MR hE)
   have hc:wD (.arr ty sz t) ⟨false,jN,jX,E⟩=⟨false,ty,sz,E'⟩:=by simp[wD,xaz hE]
   rw[hc]
   exact⟨rfl,(bE h1).symm,(bE h2).symm,by simp only[he],he.symm⟩
  ·cases h3
 ·cases h
theorem Qvb:∀{l:List RT} {pre rs:List Row},AX l rs=true->rs.length=l.length/\∀(i:Nat) r,rs[i]?=some r->∃r',(kh l (pre++rs) pre.length)[i]?=some r'/\sR r r'
 |[],pre,[],_=>⟨rfl,λi r h=>by simp at h⟩
 |s ::l,pre,r::rs,h=>by
  simp only[AX,aE]at h
  obtain⟨h1,h2⟩:=Qvb (pre:=pre++[r]) h.2
  refine⟨by simp[h1],λi q hq=>?_⟩
  cases i with
  |zero=>
   simp at hq;subst hq
   have:(pre++r::rs).getD pre.length default=r:=by simp[aV]
   exact⟨_,by simp only[kh,this];rfl,Zqx h.1⟩
  |succ i=>
   obtain⟨q',g1,g2⟩:=h2 i q (by simpa using hq)
   refine⟨q',?_,g2⟩
   simp only[kh,List.getElem?_cons_succ]
   simpa using g1
 |[],_,_::_,h=>by simp[AX]at h
 |_::_,_,[],h=>by simp[AX]at h
theorem UW:∀{l:List RT} {rows:List Row} {i:Nat},(kh l rows i).length=l.length
 |[],_,_=>rfl
 |s::l,rows,i=>by simp[kh,UW]
theorem vA:d.mh (λr=>r) true=d:=by
 cases d with
 |gj f cs=>simp only[D.mh,YA]
 |_=>simp[D.mh]
theorem UX:∀{ds:List D},D.mi (λr=>r) true ds=ds
 |[]=>rfl
 |d::l=>by simp[D.mi,vA,UX (ds:=l)]
theorem qaM:d.jb (λr=>r) true=d:=by
 cases d with
 |agg cs=>show D.agg (D.mi _ true cs)=_;rw[UX]
 |gj f cs=>exact vA (d:=.gj f cs)
 |_=>simp[D.jb,D.mh]
theorem lg.cells{c:Ctx}{w:World}:∀{ds es:List D} {arr:Array Value} {off:Nat},lg ds es->ku c w ds arr off->ku c w es arr off
 |[],[],_,_,_,_=>trivial
 |d::l,e::m,_,_,h,⟨⟨v,hv,h1⟩,h2⟩=>⟨⟨v,hv,h.1 _ _ _ h1⟩,lg.cells h.2 h2⟩
 |[],_::_,_,_,h,_=>h.elim
 |_::_,[],_,_,h,_=>h.elim
theorem Zg3{c1 c2:Ctx}{w:World}(hn:DF (λ_=>True) (λr=>r) true c1 c2)(hI:∀b,c1.I b->c2.I b):∀{ds:List D} {vs:List Value},j5 c1 w ds vs->j5 c2 w ds vs
 |[],[],_=>trivial
 |d::ds,v::vs,h=>⟨by have:=PC hn (flat:=False) (.inl hI) (λ_ _=>trivial) (λe=>e.elim) h.1;rwa [qaM]at this,Zg3 hn hI h.2⟩
 |[],_::_,h=>h.elim
 |_::_,[],h=>h.elim
theorem kg.Ju{rows kH:List Row}{aj:List Row}(hs:CP args pM)(hl:kH.length=rows.length)(hr:∀(i:Nat) r,rows[i]?=some r->∃r',kH[i]?=some r'/\sR r r')(h:kg P f pM kH res aj):kg P f args rows res aj:=by
 intro c w vs hm hb hR ha
 let c2:Ctx:={c with R:=λr=>kH[r]? }
 have Rh:∀r row,c.R r=some row->∃ao,c2.R r=some ao/\sR row ao:=λr row c6=>by
  rw[hR]at c6;exact hr r row c6
 have uH:∀r ao,c2.R r=some ao->∃row,c.R r=some row/\sR row ao:=λr ao c6=>by
  have c6:kH[r]?=some ao:=c6
  have bg:=(List.getElem?_eq_some_iff.1 c6).1
  have h1:rows[r]?=some rows[r]:=aI (by omega)
  obtain⟨jq,g1,g2⟩:=hr r _ h1
  rw[c6]at g1;cases g1
  exact⟨_,by rw[hR];exact h1,g2⟩
 have hn:DF (λ_=>True) (λr=>r) true c c2:=⟨λi row _ c6=>by
  obtain⟨ao,g1,g2,g3,g4,g5,_⟩:=Rh i row c6
  exact⟨ao,g1,g2,g3,g4,g5,rfl,Iff.rfl⟩,λ_=>aX _,aX _⟩
 have Bv:Mem c2 w:=by
  refine⟨λr ao c6=>?_,λr s x y h1 h2 v1 v2 he=>?_,λb ib=>⟨(hm.fe b ib).1,λr x h1 v=>?_⟩,hm.top,hm.jQ⟩
  ·obtain⟨row,g1,g2,g3,g4,g5,g6⟩:=uH r ao c6
   rcases hm.row r row g1 with⟨k1,k2,k3,k4⟩|⟨k1,arr,k2,k3,k4⟩
   ·refine .inl ⟨k1,g2.trans k2,?_,by rw[g4];exact k4⟩
    rw[k2]at g6;simp only at g6;rw[g6,k3]
   ·refine .inr ⟨k1,arr,by rw[g3];exact k2,by rw[g4];exact k3,?_⟩
    rw[g2,g4]
    cases wj:row.box with
    |false=>
     simp only[wj,aA,if_false]at k4 g6⊢
     rw[g6];exact k4
    |true=>
     simp only[wj,if_true]at k4 g6⊢
     obtain⟨e,e',q1,q2,q3,q4⟩:=g6
     obtain⟨e0,p1,p2,p3,p4⟩:=k4
     rw[q1]at p1;cases p1
     refine⟨e',q2,by rw[q3];exact p2,p3,?_⟩
     have:=Uq hn (flat:=False) (.inl λb hb=>hb) (λ_ _=>trivial) (λe=>e.elim) (lg.cells q4 p4)
     rwa [UX]at this
  ·obtain⟨x',g1,_⟩:=uH r x h1
   obtain⟨y',g2,_⟩:=uH s y h2
   exact hm.inj r s x' y' g1 g2 v1 v2 he
  ·obtain⟨x',g1,_⟩:=uH r x h1
   exact(hm.fe b ib).2 r x' g1 v
 refine(h c2 w vs Bv hb (λr=>rfl) (Zg3 hn (λb h=>h) (CP.rep hs ha))).mono λe w' hq=>?_
 obtain⟨v,c',he,hx,jV,hv⟩:=hq
 refine⟨v,c',he,⟨hx.mem,⟨hx.cz.base,hx.cz.top,hx.cz.I,λr row c6=>?_⟩,hx.fr.mono λb _ ⟨r,x,h1,h2,h3⟩=>?_,hx.fe,λr ao h1 h2=>?_⟩,jV,hv⟩
 ·obtain⟨jq,g1,g2,g3,g4,g5,g6⟩:=Rh r row c6
  obtain⟨ao,k1,k2,k3,k4,k5,k6,k7,k8⟩:=hx.cz.R r jq g1
  exact⟨ao,k1,k2.trans g2,k3.trans g3,k4.trans g4,k5.trans g5,k6,k7,λnv arr ha=>by rw[<-g3]at ha⊢;exact k8 nv arr ha⟩
 ·obtain⟨x',g1,_⟩:=uH r x h1
  exact⟨r,x',g1,h2,h3⟩
 ·rcases hx.nT r ao h1 h2 with⟨⟨x,oQ⟩,h3,h4⟩|h3
  ·obtain⟨x',g1,_⟩:=uH r x oQ
   exact .inl ⟨⟨x',g1⟩,h3,h4⟩
  ·exact .inr h3
theorem tC.Ju{rows kH:List Row}{aj:List Row}(hs:CP args pM)(hl:kH.length=rows.length)(hr:∀(i:Nat) r,rows[i]?=some r->∃r',kH[i]?=some r'/\sR r r')(h:tC P f k pM kH res aj):tC P f k args rows res aj:=by
 intro c w vs hm hb hR ha
 let c2:Ctx:={c with R:=λr=>kH[r]? }
 have Rh:∀r row,c.R r=some row->∃ao,c2.R r=some ao/\sR row ao:=λr row c6=>by
  rw[hR]at c6;exact hr r row c6
 have uH:∀r ao,c2.R r=some ao->∃row,c.R r=some row/\sR row ao:=λr ao c6=>by
  have c6:kH[r]?=some ao:=c6
  have bg:=(List.getElem?_eq_some_iff.1 c6).1
  have h1:rows[r]?=some rows[r]:=aI (by omega)
  obtain⟨jq,g1,g2⟩:=hr r _ h1
  rw[c6]at g1;cases g1
  exact⟨_,by rw[hR];exact h1,g2⟩
 have hn:DF (λ_=>True) (λr=>r) true c c2:=⟨λi row _ c6=>by
  obtain⟨ao,g1,g2,g3,g4,g5,_⟩:=Rh i row c6
  exact⟨ao,g1,g2,g3,g4,g5,rfl,Iff.rfl⟩,λ_=>aX _,aX _⟩
 have Bv:Mem c2 w:=by
  refine⟨λr ao c6=>?_,λr s x y h1 h2 v1 v2 he=>?_,λb ib=>⟨(hm.fe b ib).1,λr x h1 v=>?_⟩,hm.top,hm.jQ⟩
  ·obtain⟨row,g1,g2,g3,g4,g5,g6⟩:=uH r ao c6
   rcases hm.row r row g1 with⟨k1,k2,k3,k4⟩|⟨k1,arr,k2,k3,k4⟩
   ·refine .inl ⟨k1,g2.trans k2,?_,by rw[g4];exact k4⟩
    rw[k2]at g6;simp only at g6;rw[g6,k3]
   ·refine .inr ⟨k1,arr,by rw[g3];exact k2,by rw[g4];exact k3,?_⟩
    rw[g2,g4]
    cases wj:row.box with
    |false=>
     simp only[wj,aA,if_false]at k4 g6⊢
     rw[g6];exact k4
    |true=>
     simp only[wj,if_true]at k4 g6⊢
     obtain⟨e,e',q1,q2,q3,q4⟩:=g6
     obtain⟨e0,p1,p2,p3,p4⟩:=k4
     rw[q1]at p1;cases p1
     refine⟨e',q2,by rw[q3];exact p2,p3,?_⟩
     have:=Uq hn (flat:=False) (.inl λb hb=>hb) (λ_ _=>trivial) (λe=>e.elim) (lg.cells q4 p4)
     rwa [UX]at this
  ·obtain⟨x',g1,_⟩:=uH r x h1
   obtain⟨y',g2,_⟩:=uH s y h2
   exact hm.inj r s x' y' g1 g2 v1 v2 he
  ·obtain⟨x',g1,_⟩:=uH r x h1
   exact(hm.fe b ib).2 r x' g1 v
 refine(h c2 w vs Bv hb (λr=>rfl) (Zg3 hn (λb h=>h) (CP.rep hs ha))).mono (λb hb=>hb) λe w' hq=>?_
 obtain⟨v,c',he,hx,jV,hv⟩:=hq
 rw[hl]at hx
 refine⟨v,c',he,⟨hx.mem,⟨hx.cz.base,hx.cz.top,hx.cz.I,λr row c6=>?_⟩,hx.fr.mono λb _ ⟨r,x,h1,h2,h3⟩=>?_,λb hb=>?_,λr ao h1 h2=>?_⟩,jV,hv⟩
 ·obtain⟨q,jB,CE,rfl⟩:=mU c6
  obtain⟨jq,g1,g2,g3,g4,g5,g6⟩:=Rh r jB CE
  obtain⟨ao,k1,k2,k3,k4,k5,k6,k7,k8⟩:=hx.cz.R r (jq.kill _) (by simp only[Ctx.kill];rw[if_neg (by rw[q];simp),g1];rfl)
  obtain⟨s1,s2,s3,s4⟩:=uT (bO k (rows.length-k)) jB
  obtain⟨t1,t2,t3,t4⟩:=uT (bO k (rows.length-k)) jq
  refine⟨ao,k1,k2.trans (t1.trans (g2.trans s1.symm)),k3.trans (t2.trans (g3.trans s2.symm)),k4.trans (t3.trans (g4.trans s3.symm)),k5.trans (t4.trans (g5.trans s4.symm)),k6,k7,λnv arr ha=>?_⟩
  rw[s2]at ha⊢
  have:=k8 nv arr (by rw[t2,g3];exact ha)
  rw[t2,g3]at this
  exact this
 ·obtain⟨x',g1,_⟩:=uH r x h1
  exact⟨r,x',g1,h2,h3⟩
 ·rcases hx.fe b hb with h|⟨s,x,h1,h2,h3,h4⟩|h
  ·exact .inl h
  ·obtain⟨x',g1,_⟩:=uH s x h2
   exact .inr (.inl ⟨s,x',h1,g1,h3,h4⟩)
  ·exact .inr (.inr h)
 ·rcases hx.nT r ao h1 h2 with⟨⟨x,oQ⟩,h3,h4⟩|⟨s,x,q1,q2,q3,q4⟩|h3
  ·obtain⟨x',g1,_⟩:=uH r x oQ
   exact .inl ⟨⟨x',g1⟩,h3,h4⟩
  ·obtain⟨x',g1,_⟩:=uH s x q2
   exact .inr (.inl ⟨s,x',q1,g1,q3,q4⟩)
  ·exact .inr (.inr h3)
def FB(f:FuncId)(refs:List Bool)(flat:Bool)(sig:List PT)(dt:List RT){α:Type}(v:List D->List Row->α)(enc:α->D)(out:α->List Row):bc:=
 ⟨f,refs,flat,λargs rows=>match AW sig args&&AX dt rows with|true=>.abs α (v args rows) enc out|false=>.no,none,false⟩
def lh(f:FuncId)(refs:List Bool)(flat:Bool)(sig:List PT)(dt:List RT)(pre:List D->List Row->Prop){α:Type}(v:List D->List Row->α)(enc:α->D)(out:α->List Row):bc:=
 ⟨f,refs,flat,λargs rows=>match AW sig args&&AX dt rows with|true=>.kY (pre args rows) α (v args rows) enc out|false=>.no,none,false⟩
def bc.fz(x:bc):bc:={x with oL:=true}
theorem wE{x:bc}(h:bm P x):bm P x.fz:=⟨h.enters,h.real,h.ok,h.when,h.abs,h.kY,h.Pp,h.GN⟩
def Jv(k:Nat)(f:FuncId)(refs:List Bool)(sig:List PT)(dt:List RT){α:Type}(v:List D->List Row->α)(enc:α->D)(out:α->List Row):bc:=
 ⟨f,refs,false,λargs rows=>match AW sig args&&AX dt rows with|true=>.abs α (v args rows) enc out|false=>.no,some k,false⟩
def jI(k:Nat)(f:FuncId)(refs:List Bool)(sig:List PT)(dt:List RT)(pre:List D->List Row->Prop){α:Type}(v:List D->List Row->α)(enc:α->D)(out:α->List Row):bc:=
 ⟨f,refs,false,λargs rows=>match AW sig args&&AX dt rows with|true=>.kY (pre args rows) α (v args rows) enc out|false=>.no,some k,false⟩
def ai.wF:ai->Bool
 |.gen _=>false
 |.ah k _=>k.mM
 |_=>true
theorem ai.sS{E:ai}(h:E.wF=true):E.EP:=by
 cases E with
 |gen es=>simp[ai.wF]at h
 |ah k l=>exact h
 |_=>trivial
def CS:D->Bool|.sl _ E fr=>fr&&E.wF|.im _ _ _ _=>false|.gj _ _=>false|_=>true
def CU:List D->Bool|[]=>true|d::l=>CS d&&CU l
def Jw:D->Bool|.agg cs=>CU cs|d=>CS d
def Fm:List D->Bool|[]=>true|d::l=>Jw d&&Fm l
def sV:D->Bool|.dv ds=>Fm ds|d=>Jw d
def jo:List Row->Bool
 |[]=>true
 |⟨true,_,_,.gen [e]⟩::l=>CU e&&jo l
 |⟨false,_,_,E⟩::l=>E.wF&&jo l
 |_=>false
theorem Ri(h:CS d=true):PB d:=by
 cases d<;>first|trivial|(simp[CS]at h;done)|skip
 case sl sz E fr=>simp only[CS,aE]at h;exact⟨.inr h.1,ai.sS h.2⟩
theorem UY:∀{ds:List D},CU ds=true->LS ds
 |[],_=>trivial
 |d::l,h=>by simp only[CU,aE]at h;exact⟨Ri h.1,UY h.2⟩
theorem qaA(h:Jw d=true):Up d:=by
 cases d with
 |agg cs=>exact UY h
 |sl a b c=>exact Ri (d:=.sl a b c) h
 |im a b c e=>exact Ri (d:=.im a b c e) h
 |_=>trivial
theorem qB:∀{ds:List D},Fm ds=true->ER ds
 |[],_=>trivial
 |d::l,h=>by simp only[Fm,aE]at h;exact⟨qaA h.1,qB h.2⟩
theorem qac(h:sV d=true):FF d:=by
 cases d with
 |dv ds=>exact qB h
 |agg cs=>exact UY h
 |sl a b c=>exact Ri (d:=.sl a b c) h
 |im a b c e=>exact Ri (d:=.im a b c e) h
 |_=>trivial
theorem UZ:∀{rs:List Row},jo rs=true->re rs
 |[],_=>trivial
 |⟨true,_,_,.gen [e]⟩::l,h=>by
  simp only[jo,aE]at h
  refine⟨?_,UZ h.2⟩
  simp only[I1,if_true,ai.l,List.mem_singleton,forall_eq]
  exact UY h.1
 |⟨false,_,_,E⟩::l,h=>by
  simp only[jo,aE]at h
  refine⟨?_,UZ h.2⟩
  simp only[I1,aA,if_false]
  exact ai.sS h.1
 |⟨true,_,_,.gen []⟩::l,h=>by simp[jo]at h
 |⟨true,_,_,.gen (_::_::_)⟩::l,h=>by simp[jo]at h
 |⟨true,_,_,.ints _ _⟩::l,h=>by simp[jo]at h
 |⟨true,_,_,.ag _⟩::l,h=>by simp[jo]at h
 |⟨true,_,_,.ah _ _⟩::l,h=>by simp[jo]at h
theorem zac{sig:List PT}{dt:List RT}{rows:List Row}{out:List Row}(hs:(AW sig args&&AX dt rows)=true)(h:kg P f (kN sig args 0) (kh dt rows 0) res out):kg P f args rows res out:=by
 simp only[aE]at hs
 obtain⟨h1,h2⟩:=Qvb (pre:=[]) hs.2
 exact kg.Ju (Qyq (pre:=[]) hs.1) (by rw[UW,h1]) h2 h
theorem zaM{sig:List PT}{dt:List RT}{α:Type}{v:List D->List Row->α}{enc:α->D}{out:α->List Row}(he:∀args w,(callFunc f args).run P w=.ok (.enter f args) w)(h:∀args rows,kg P f (kN sig args 0) (kh dt rows 0) (enc (v args rows)) (out (v args rows)))
 (hf:flat=true->∀X,(sV (enc X)&&jo (out X))=true) (hy:bN f YB=true:=by rfl):bm P (FB f refs flat sig dt v enc out):=by
 refine⟨λ_=>he,λ_=>lE hy,λ_ args rows r r' hm=>?_,λ_ args rows p r r' hm=>?_,λ_ args rows α' v' r r' hm=>?_,λ_ args rows p α' v' r r' hm=>?_,λk hk=>(by cases hk),λk hk=>(by cases hk)⟩
 ·simp only[FB]at hm
  split at hm<;>cases hm
 ·simp only[FB]at hm
  split at hm<;>cases hm
 ·simp only[FB]at hm
  split at hm
  ·rename_i hs
   cases hm
   exact⟨zac hs (h args rows),λe=>by have:=hf e (v args rows);simp only[aE]at this;exact⟨qac this.1,UZ this.2⟩⟩
  ·cases hm
 ·simp only[FB]at hm
  split at hm<;>cases hm
theorem Fo{sig:List PT}{dt:List RT}{pre:List D->List Row->Prop}{α:Type}{v:List D->List Row->α}{enc:α->D}{out:α->List Row}(he:∀args w,(callFunc f args).run P w=.ok (.enter f args) w)(h:∀args rows,pre args rows->kg P f (kN sig args 0) (kh dt rows 0) (enc (v args rows)) (out (v args rows)))
 (hf:flat=true->∀X,(sV (enc X)&&jo (out X))=true) (hy:bN f YB=true:=by rfl):bm P (lh f refs flat sig dt pre v enc out):=by
 refine⟨λ_=>he,λ_=>lE hy,λ_ args rows r r' hm=>?_,λ_ args rows p r r' hm=>?_,λ_ args rows α' v' r r' hm=>?_,λ_ args rows p α' v' r r' hm hp=>?_,λk hk=>(by cases hk),λk hk=>(by cases hk)⟩
 ·simp only[lh]at hm
  split at hm<;>cases hm
 ·simp only[lh]at hm
  split at hm<;>cases hm
 ·simp only[lh]at hm
  split at hm<;>cases hm
 ·simp only[lh]at hm
  split at hm
  ·rename_i hs
   cases hm
   exact⟨zac hs (h args rows hp),λe=>by have:=hf e (v args rows);simp only[aE]at this;exact⟨qac this.1,UZ this.2⟩⟩
  ·cases hm
theorem xB{sig:List PT}{dt:List RT}{rows:List Row}{out:List Row}(hs:(AW sig args&&AX dt rows)=true)(h:tC P f k (kN sig args 0) (kh dt rows 0) res out):tC P f k args rows res out:=by
 simp only[aE]at hs
 obtain⟨h1,h2⟩:=Qvb (pre:=[]) hs.2
 exact tC.Ju (Qyq (pre:=[]) hs.1) (by rw[UW,h1]) h2 h
theorem xaM{sig:List PT}{dt:List RT}{α:Type}{v:List D->List Row->α}{enc:α->D}{out:α->List Row}(he:f<YB->∀args w,(callFunc f args).run P w=.ok (.enter f args) w)(h:∀args rows,tC P f k (kN sig args 0) (kh dt rows 0) (enc (v args rows)) (out (v args rows))):
 bm P (Jv k f refs sig dt v enc out):=by
 refine⟨he,λhk=>(by cases hk),λhk=>(by cases hk),λhk=>(by cases hk),λhk=>(by cases hk),λhk=>(by cases hk),λk' hk args rows α' v' r r' hm=>?_,λk' hk args rows p α' v' r r' hm hp=>?_⟩
 ·cases hk
  simp only[Jv]at hm
  split at hm
  ·rename_i hs
   cases hm
   exact xB hs (h args rows)
  ·cases hm
 ·simp only[Jv]at hm
  split at hm<;>cases hm
theorem zaA{sig:List PT}{dt:List RT}{pre:List D->List Row->Prop}{α:Type}{v:List D->List Row->α}{enc:α->D}{out:α->List Row}(he:f<YB->∀args w,(callFunc f args).run P w=.ok (.enter f args) w)(h:∀args rows,pre args rows->tC P f k (kN sig args 0) (kh dt rows 0) (enc (v args rows)) (out (v args rows))):
 bm P (jI k f refs sig dt pre v enc out):=by
 refine⟨he,λhk=>(by cases hk),λhk=>(by cases hk),λhk=>(by cases hk),λhk=>(by cases hk),λhk=>(by cases hk),λk' hk args rows α' v' r r' hm=>?_,λk' hk args rows p α' v' r r' hm hp=>?_⟩
 ·simp only[jI]at hm
  split at hm<;>cases hm
 ·cases hk
  simp only[jI]at hm
  split at hm
  ·rename_i hs
   cases hm
   exact xB hs (h args rows hp)
  ·cases hm
def ee{α β:Type}(v:α)(m:α->β):β:=m v
def jJ(α:Type)(x y:α):Prop:=x=y
abbrev rE{α:Type}(x:α):Prop:=x=x
abbrev zM:bd:={B4:={X:={a0:=0,a1:=0,a2:=0,a3:=0,a4:=0,a5:=0,a6:=0,a7:=0,a8:=0,a9:=0,kv:=0,ky:=0,a12:=0,kz:=0,kA:=0,kB:=0},Pc:=0,C2:={a0:=0,a1:=0,a2:=0,a3:=0,a4:=0,a5:=0,a6:=0,a7:=0}},Mem:=[],B2:={D9:=[]},B8:={F0:=false,D3:=0,E0:=false},B5:={ae:=0,C9:=0,Frame:=0,C8:=0,F6:=0,C5:=0,C6:=0,C7:=[]},D2:={Frame:=0,F7:=0,D1:=false,D4:=0,C4:=false,F9:=0},A6:={A2:=0,D0:=0},B7:=0,B3:=false,B6:=false}
abbrev mE(m:bd)(P Q:Prop):Prop:=rE m.B4.X.a0/\rE m.B4.X.a1/\rE m.B4.X.a2/\rE m.B4.X.a3/\rE m.B4.X.a4/\rE m.B4.X.a5/\rE m.B4.X.a6/\rE m.B4.X.a7/\rE m.B4.X.a8/\rE m.B4.X.a9/\rE m.B4.X.kv/\rE m.B4.X.ky/\rE m.B4.X.a12/\rE m.B4.X.kz/\rE m.B4.X.kA/\rE m.B4.X.kB/\rE m.B4.Pc/\rE m.B4.C2.a0/\rE m.B4.C2.a1/\rE m.B4.C2.a2/\rE m.B4.C2.a3/\rE m.B4.C2.a4/\rE m.B4.C2.a5/\rE m.B4.C2.a6/\rE m.B4.C2.a7/\P/\rE m.B2.D9/\rE m.B8.F0/\rE m.B8.D3/\rE m.B8.E0/\rE m.B5.ae/\rE m.B5.C9/\rE m.B5.Frame/\rE m.B5.C8/\rE m.B5.F6/\rE m.B5.C5/\rE m.B5.C6/\rE m.B5.C7/\rE m.D2.Frame/\rE m.D2.F7/\rE m.D2.D1/\rE m.D2.D4/\rE m.D2.C4/\rE m.D2.F9/\rE m.A6.A2/\rE m.A6.D0/\rE m.B7/\rE m.B3/\rE m.B6/\Q
abbrev mR(f:Nat->D)(M:List Int):bd:=(⟨(⟨(⟨(f 0).toInt,(f 1).toInt,(f 2).toInt,(f 3).toInt,(f 4).toInt,(f 5).toInt,(f 6).toInt,(f 7).toInt,(f 8).toInt,(f 9).toInt,(f 10).toInt,(f 11).toInt,(f 12).toInt,(f 13).toInt,(f 14).toInt,(f 15).toInt⟩:(iv Int)),(f 16).toInt,(⟨(f 17).toInt,(f 18).toInt,(f 19).toInt,(f 20).toInt,(f 21).toInt,(f 22).toInt,(f 23).toInt,(f 24).toInt⟩:(A8 Int))⟩:bq),M,(⟨(f 26).toStr⟩:iK),(⟨(f 27).toBool,(f 28).toInt,(f 29).toBool⟩:iT),(⟨(f 30).toInt,(f 31).toInt,(f 32).toInt,(f 33).toInt,(f 34).toInt,(f 35).toInt,(f 36).toInt,(f 37).toStr⟩:fw),(⟨(f 38).toInt,(f 39).toInt,(f 40).toBool,(f 41).toInt,(f 42).toBool,(f 43).toInt⟩:gw),(⟨(f 44).toInt,(f 45).toInt⟩:gl),(f 46).toInt,(f 47).toBool,(f 48).toBool⟩:bd)
abbrev mD(x:bd)(d:D):List D:=[.int u32 x.B4.X.a0,.int u32 x.B4.X.a1,.int u32 x.B4.X.a2,.int u32 x.B4.X.a3,.int u32 x.B4.X.a4,.int u32 x.B4.X.a5,.int u32 x.B4.X.a6,.int u32 x.B4.X.a7,.int u32 x.B4.X.a8,.int u32 x.B4.X.a9,.int u32 x.B4.X.kv,.int u32 x.B4.X.ky,.int u32 x.B4.X.a12,.int u32 x.B4.X.kz,.int u32 x.B4.X.kA,.int u32 x.B4.X.kB,.int u32 x.B4.Pc,.int u32 x.B4.C2.a0,.int u32 x.B4.C2.a1,.int u32 x.B4.C2.a2,.int u32 x.B4.C2.a3,.int u32 x.B4.C2.a4,.int u32 x.B4.C2.a5,.int u32 x.B4.C2.a6,.int u32 x.B4.C2.a7,d,.str x.B2.D9,.bool x.B8.F0,.int u32 x.B8.D3,.bool x.B8.E0,.int u32 x.B5.ae,.int u32 x.B5.C9,.int u32 x.B5.Frame,.int i64 x.B5.C8,.int i64 x.B5.F6,.int u32 x.B5.C5,.int u32 x.B5.C6,.str x.B5.C7,.int u32 x.D2.Frame,.int u32 x.D2.F7,.bool x.D2.D1,.int u32 x.D2.D4,.bool x.D2.C4,.int u32 x.D2.F9,.int u32 x.A6.A2,.int u32 x.A6.D0,.int u64 x.B7,.bool x.B3,.bool x.B6]
abbrev mB(f:Nat->D):List D:=[f 0,f 1,f 2,f 3,f 4,f 5,f 6,f 7,f 8,f 9,f 10,f 11,f 12,f 13,f 14,f 15,f 16,f 17,f 18,f 19,f 20,f 21,f 22,f 23,f 24,f 25,f 26,f 27,f 28,f 29,f 30,f 31,f 32,f 33,f 34,f 35,f 36,f 37,f 38,f 39,f 40,f 41,f 42,f 43,f 44,f 45,f 46,f 47,f 48]
abbrev rZ:Prop:=rE (0:Nat)/\rE (0:Nat)
abbrev nR(k:RK)(n:Nat)(x:List (RK.T k)):Prop:=(ai.Nil (ai.ah k x)\/rE n)/\rE x
abbrev aC(l:List D)(n:Nat):List D:=(l.getD n .dead).cells
theorem nD{p:Prop}(h:p:=by((subst_vars;first|trivial|assumption|omega|((simp(config:={decide:=true,failIfUnchanged:=false}) only[aE,Bool.or_eq_true,Bool.and_eq_false_iff,Bool.or_eq_false_iff,Bool.not_eq_true',Bool.not_eq_false',Bool.not_eq_true,Bool.not_eq_false,decide_eq_true_eq,decide_eq_false_iff_not,Q56,Q3a,Q57,Q3b,beq_iff_eq,beq_eq_false_iff_ne,bne_iff_ne,bne_eq_false_iff_eq,ne_eq,List.all_cons,List.all_nil,D.plain,List.length_cons,List.length_nil,lA,List.length_set,List.length_replicate,wrap_i64,wrap_u64,wrap_u32,wrap_i32,wrap_u8,true_and,and_true,or_false,false_or,or_true,true_or,not_true_eq_false,not_false_eq_true,Prod.fst,Prod.snd]at*);first|done|assumption|omega)|((simp(config:={decide:=true,failIfUnchanged:=false}) only[aE,Bool.or_eq_true,Bool.and_eq_false_iff,Bool.or_eq_false_iff,Bool.not_eq_true',Bool.not_eq_false',Bool.not_eq_true,Bool.not_eq_false,decide_eq_true_eq,decide_eq_false_iff_not,Q56,Q3a,Q57,Q3b,beq_iff_eq,beq_eq_false_iff_ne,bne_iff_ne,bne_eq_false_iff_eq,ne_eq,List.all_cons,List.all_nil,D.plain,List.length_cons,List.length_nil,lA,List.length_set,List.length_replicate,wrap_i64,wrap_u64,wrap_u32,wrap_i32,wrap_u8,true_and,and_true,or_false,false_or,or_true,true_or,not_true_eq_false,not_false_eq_true,Prod.fst,Prod.snd]at*);simp only[<-List.length_pos_iff]at*;omega)|(simp_all;done)|(have:= @Qho;simp_all;try omega)))):p:=h
def run{α β:Type}[Inhabited β](F:α->α⊕β):Nat->α->β
 |0,_=>default
 |k+1,a=>match F a with|.inl a'=>run F k a'|.inr b=>b
theorem zB{α β:Type}[Inhabited β]{F:α->α⊕β}{P:α->Prop}{R:β->Prop}{μ:α->Nat}(h:∀a,P a->match F a with|.inl a'=>P a'/\μ a'<μ a|.inr b=>R b):∀k a,P a->μ a<k->R (run F k a):=by
 intro k
 induction k with
 |zero=>intro a _ hk;omega
 |succ k ih=>
  intro a ha hk
  have:=h a ha
  unfold run
  split at this
  ·rename_i a' he;exact ih a' this.1 (by omega)
  ·exact this
inductive Tree:Type->Type 1 where
 |lf {β:Type} (x:β):Tree β
 |nx {β:Type} (f:Prop) (x:β) (h:f:=by first|trivial|(simp[jJ];done)|decide|(simp only[and_true,true_and,or_true,true_or,and_self];done)|((repeat'(first|exact True.intro|apply And.intro|exact rfl|exact Or.inr rfl));done)):Tree β
 |br {β:Type} (c:Bool) (t e:Tree β):Tree β
 |cn {β:Type} (c:Bool) (t:Tree β):Tree β
 |fl {β:Type} (c:Bool) (t:Tree β):Tree β
 |an {β:Type} (p:Prop) (t:Tree β):Tree β
 |lv {α β:Type} (x:α) (k:α->Tree β):Tree β
 |lp {α β:Type} (d:Inhabited β) (n:Nat) (f:Prop) (x:α) (t:α->Tree (α⊕β)) (h:f:=by first|trivial|(simp[jJ];done)|decide|(simp only[and_true,true_and,or_true,true_or,and_self];done)|((repeat'(first|exact True.intro|apply And.intro|exact rfl|exact Or.inr rfl));done)):Tree β
def Tree.m{β:Type}:Tree β->β
 |.lf x=>x
 |.nx _ x _=>x
 |.br c t e=>cond c t.m e.m
 |.cn _ t=>t.m
 |.fl _ t=>t.m
 |.an _ t=>t.m
 |.lv x k=>ee x λy=>(k y).m
 |.lp _ n _ x t _=>run (λy=>(t y).m) n x
def lT{α β:Type}(B:α->(α⊕β->Prop)->Prop)(W:β->Prop)(n:Nat)(y:α):Prop:=
 match n with
 |0=>False
 |k+1=>B y (hJ (λz=>lT B W k z) W)
termination_by n
theorem Z7m{α β:Type}{B:α->(α⊕β->Prop)->Prop}{W:β->Prop}{y:α}:lT B W 0 y=False:=by rw[lT]
theorem Ms{α β:Type}{B:α->(α⊕β->Prop)->Prop}{W:β->Prop}{y:α}:lT B W (k+1) y=B y (hJ (λz=>lT B W k z) W):=by rw[lT]
def Tree.w{β:Type}:Tree β->(β->Prop)->Prop
 |.lf x,W=>W x
 |.nx _ x _,W=>W x
 |.br c t e,W=>wS c (t.w W) (e.w W)
 |.cn c t,W=>cu c (t.w W)
 |.fl c t,W=>wS c False (t.w W)
 |.an p t,W=>p/\t.w W
 |.lv x k,W=>∀y,y=x->(k y).w W
 |.lp _ n _ x t _,W=>lT (λy V=>(t y).w V) W n x
def Tree.q{β:Type}:Tree β->(β->Prop)->Prop
 |.lf x,L=>L x
 |.nx f x _,L=>L x/\f
 |.br c t e,L=>wS c (t.q L) (e.q L)
 |.cn c t,L=>cu c (t.q L)
 |.fl c t,L=>wS c False (t.q L)
 |.an p t,L=>p/\t.q L
 |.lv x k,L=>∀y,y=x->(k y).q L
 |.lp (α:=α) _ _ f x t _,L=>∃(uV:α->Prop),∃(ν:α->Nat),uV x/\f/\∀y,uV y->(t y).q (hJ (λz=>uV z/\ν z<ν y) L)
theorem Tree.main{β:Type}(t:Tree β):∀{W L E:β->Prop},(∀x,W x->E x->L x)->t.w W->E t.m->t.q L:=by
 induction t with
 |lf x=>intro W L E h hw he;exact h x hw he
 |nx f x hf=>intro W L E h hw he;exact⟨h x hw he,hf⟩
 |br c t e Jx Jy=>
  intro W L E h hw he
  cases c with
  |true=>exact Jx h hw he
  |false=>exact Jy h hw he
 |cn c t ih=>intro W L E h hw he;exact dd.2 ⟨(dd.1 hw).1,ih h (dd.1 hw).2 he⟩
 |fl c t ih=>
  intro W L E h hw he
  cases c with
  |true=>exact hw.elim
  |false=>exact ih h hw he
 |an p t ih=>intro W L E h hw he;exact⟨hw.1,ih h hw.2 he⟩
 |lv x k ih=>intro W L E h hw he y hy;subst hy;exact ih y h (hw y rfl) he
 |lp d n f x t hf ih=>
  intro W L E h hw he
  have H:∀k y,lT (λy V=>(t y).w V) W k y->E (@run _ _ d (λy=>(t y).m) k y)->∃j,j<k/\k=j+1:=by
   intro k y h1 _
   cases k with
   |zero=>rw[Z7m]at h1;exact h1.elim
   |succ k=>exact⟨k,Nat.lt_succ_self k,rfl⟩
  let P:Nat->_->Prop:=λk y=>lT (λy V=>(t y).w V) W k y/\E (@run _ _ d (λy=>(t y).m) k y)
  have least:∀y,(∃k,P k y)->∃k,P k y/\∀j,P j y->k<=j:=by
   intro y ⟨k,hk⟩
   induction k using Nat.strongRecOn with
   |ind k ihk=>
    by_cases hj:∃j,j<k/\P j y
    ·obtain⟨j,h1,h2⟩:=hj;exact ihk j h1 h2
    ·exact⟨k,hk,λj h2=>Nat.le_of_not_lt λh1=>hj ⟨j,h1,h2⟩⟩
  have ch:∃ν:_->Nat,∀y,(∃k,P k y)->P (ν y) y/\∀j,P j y->ν y<=j:=Classical.axiomOfChoice (r:=λy k=>(∃k,P k y)->P k y/\∀j,P j y->k<=j) λy=>by
   by_cases hy:∃k,P k y
   ·obtain⟨k,hk⟩:=least y hy;exact⟨k,λ_=>hk⟩
   ·exact⟨0,λh=>absurd h hy⟩
  obtain⟨ν,hν⟩:=ch
  refine⟨λy=>∃k,P k y,ν,⟨n,hw,he⟩,hf,λy hy=>?_⟩
  have Rj:=hν y hy
  generalize wR:ν y=k0 at Rj
  obtain⟨⟨h1,h2⟩,_⟩:=Rj
  obtain⟨j,_,rfl⟩:=H k0 y h1 h2
  rw[Ms]at h1
  refine ih y (E:=hJ (λz=>E (@run _ _ d (λy=>(t y).m) j z)) E) ?_ h1 ?_
  ·intro z Ht hz2
   cases z with
   |inl z=>
    have hz:∃k,P k z:=⟨j,Ht,hz2⟩
    refine⟨hz,?_⟩
    have:=(hν z hz).2 j ⟨Ht,hz2⟩
    show ν z<j+1
    omega
   |inr z=>exact h z Ht hz2
  ·unfold run at h2
   cases hF:(t y).m with
   |inl z=>rw[hF]at h2;exact h2
   |inr z=>rw[hF]at h2;exact h2
abbrev Tree.p{β:Type}(t:Tree β):Prop:=t.w λ_=>True
theorem Tree.main'{β:Type}{t:Tree β}{L:β->Prop}(hw:t.p)(h:L t.m):t.q L:=t.main (λ_ _ h=>h) hw h
theorem Tree.mono{β:Type}(t:Tree β):∀{W V:β->Prop},(∀x,W x->V x)->t.w W->t.w V:=by
 induction t with
 |lf x=>intro W V h hw;exact h x hw
 |nx f x hf=>intro W V h hw;exact h x hw
 |br c t e Jx Jy=>
  intro W V h hw
  cases c with
  |true=>exact Jx h hw
  |false=>exact Jy h hw
 |cn c t ih=>intro W V h hw;exact dd.2 ⟨(dd.1 hw).1,ih h (dd.1 hw).2⟩
 |fl c t ih=>
  intro W V h hw
  cases c with
  |true=>exact hw.elim
  |false=>exact ih h hw
 |an p t ih=>intro W V h hw;exact⟨hw.1,ih h hw.2⟩
 |lv x k ih=>intro W V h hw y hy;exact ih y h (hw y hy)
 |lp d n f x t hf ih=>
  intro W V h hw
  revert x
  show∀x,lT (λy V=>(t y).w V) W n x->lT (λy V=>(t y).w V) V n x
  induction n with
  |zero=>intro x hw;rw[Z7m]at hw;exact hw.elim
  |succ n ihn=>
   intro x hw
   rw[Ms]at hw⊢
   refine ih x (λz hz=>?_) hw
   cases z with
   |inl z=>exact ihn z hz
   |inr z=>exact h z hz
theorem Tree.post{β:Type}(t:Tree β):∀{W:β->Prop},t.w W->W t.m:=by
 induction t with
 |lf x=>intro W hw;exact hw
 |nx f x hf=>intro W hw;exact hw
 |br c t e Jx Jy=>
  intro W hw
  cases c with
  |true=>exact Jx hw
  |false=>exact Jy hw
 |cn c t ih=>intro W hw;exact ih (dd.1 hw).2
 |fl c t ih=>
  intro W hw
  cases c with
  |true=>exact hw.elim
  |false=>exact ih hw
 |an p t ih=>intro W hw;exact ih hw.2
 |lv x k ih=>intro W hw;exact ih x (hw x rfl)
 |lp d n f x t hf ih=>
  intro W hw
  revert x
  show∀x,lT (λy V=>(t y).w V) W n x->W (@run _ _ d (λy=>(t y).m) n x)
  induction n with
  |zero=>intro x hw;rw[Z7m]at hw;exact hw.elim
  |succ n ihn=>
   intro x hw
   rw[Ms]at hw
   have:=ih x hw
   unfold run
   cases hF:(t x).m with
   |inl z=>rw[hF]at this;exact ihn z this
   |inr z=>rw[hF]at this;exact this
theorem Tree.pp{β:Type}{t:Tree β}{W:β->Prop}(h:t.w W):t.p/\W t.m:=⟨t.mono (λ_ _=>trivial) h,t.post h⟩
section
variable {α β:Type} {W:β->Prop} {c:Bool} {t e:Tree β}
theorem bh{x:β}(h:W x):(Tree.lf x).w W:=h
theorem ez{f:Prop}{x:β}{hf:f}(h:W x):(Tree.nx f x hf).w W:=h
theorem ab(h:c=true->t.w W)(g:c=false->e.w W):(Tree.br c t e).w W:=YI.2 ⟨h,g⟩
theorem ax(h:c=true)(g:t.w W):(Tree.cn c t).w W:=dd.2 ⟨h,g⟩
theorem VC(h:c=false)(g:t.w W):(Tree.fl c t).w W:=YI.2 ⟨λe=>(by rw[h]at e;cases e),λ_=>g⟩
theorem c7{p:Prop}(h:p)(g:t.w W):(Tree.an p t).w W:=⟨h,g⟩
theorem aq{x:α}{k:α->Tree β}(h:∀y,y=x->(k y).w W):(Tree.lv x k).w W:=h
theorem fj{d:Inhabited β}{n:Nat}{f:Prop}{x:α}{k:α->Tree (α⊕β)}{hf:f}{inv:α->Prop}{μ:α->Nat}(h:inv x)(hn:μ x<n)(g:∀y,inv y->(k y).w (hJ (λz=>inv z/\μ z<μ y) W)):(Tree.lp d n f x k hf).w W:=by
 show lT (λy V=>(k y).w V) W n x
 revert x
 induction n with
 |zero=>intro x h hn;omega
 |succ n ih=>
  intro x h hn
  rw[Ms]
  refine(k x).mono (λz hz=>?_) (g x h)
  cases z with
  |inl z=>exact ih hz.1 (by have:=hz.2;omega)
  |inr z=>exact hz
end
theorem wL{β:Type}{x:β}:(Tree.lf x).p:=trivial
theorem wB{β:Type}{c:Bool}{t e:Tree β}(h:t.p)(g:e.p):(Tree.br c t e).p:=by cases c<;>assumption
structure lK(T:iu)(G:List bc)(L:Code->St->(Ex->St->Prop)->Prop)(fn:Func)(args:List D)(rows:List Row)(ds:List mP)(Q:D->List Row->Prop):Prop where
 h:j6 T G L fn args rows λd R=>nK rows.length ds d R Q
theorem lK.of{G:List bc}{L:Code->St->(Ex->St->Prop)->Prop}{rows:List Row}{Q:D->List Row->Prop}{p:Prop}(e:(j6 T G L fn args rows λd R=>nK rows.length ds d R Q)=p)(hl:p):lK T G L fn args rows ds Q:=⟨by rw[e];exact hl⟩
theorem lK.calls(hD:pk P)(hT:Q4 P T){G:List bc}(hG:jr P G)(hf:P.funcs[f]?=some fn){rows:List Row}{aj:List Row}
 {rf:Option Nat} (mr:∀code,fn.body=some code->RF rf fn.ntmps code) {L:Code->St->(Ex->St->Prop)->Prop} (hL:∀code st Q,RF rf fn.ntmps code->L code st Q->Tr P fn.ntmps rows.length code st Q) {ds:List mP} (h:lK T G L fn args rows ds λr o=>r=res/\o=aj):kg P f args rows res aj:=
 vv hD hT hG hf mr hL (λd R hQ=>by obtain⟨r,o,⟨rfl,rfl⟩,hE⟩:=Zc7 hQ;exact hE) h.h
structure sT(T:iu)(G:List bc)(L:Code->St->(Ex->St->Prop)->Prop)(fn:Func)(args:List D)(rows:List Row)(k:Nat)(ds:List mP)(Q:D->List Row->Prop):Prop where
 h:Ff T G L fn args rows (λd R=>nK k ds d R Q) k
theorem sT.of{G:List bc}{L:Code->St->(Ex->St->Prop)->Prop}{rows:List Row}{Q:D->List Row->Prop}{p:Prop}(e:(Ff T G L fn args rows (λd R=>nK k ds d R Q) k)=p)(hl:p):sT T G L fn args rows k ds Q:=⟨by rw[e];exact hl⟩
theorem sT.calls(hD:pk P)(hT:Q4 P T){G:List bc}(hG:jr P G){rows:List Row}{aj:List Row}{rf:Option Nat}(hf:oJ P f fn (pS (oh args++kp rows)=true/\rf=none))(mr:∀code,fn.body=some code->RF rf fn.ntmps code)
 {L:Code->St->(Ex->St->Prop)->Prop} (hL:∀ro,(ro=none\/rf=none)->∀code st Q,RF rf fn.ntmps code->L code st Q->tG ro P fn.ntmps k code st Q) {ds:List mP} (h:sT T G L fn args rows k ds λr o=>r=res/\o=aj):tC P f k args rows res aj:=
 qaK hD hT hG hf mr hL (λd R hQ=>by obtain⟨r,o,⟨rfl,rfl⟩,hE⟩:=Zc7 hQ;exact hE) h.h
section
variable {P:Program} {T:iu} {G:List bc} {f:FuncId} {fn:Func} {refs:List Bool} {flat:Bool} {sig:List PT} {dt:List RT} {pre:List D->List Row->Prop} {β:Type} {v:List D->List Row->β} {enc:β->D} {out:β->List Row}
theorem oJ.imp{cl cl':Prop}(h:oJ P f fn cl)(g:cl->cl'):oJ P f fn cl':=by
 cases h with
 |real a b c=>exact .real a b c
 |yield a y d b c e f g1 g2 h i=>exact .yield a y d b c e f g1 g2 h (g i)
 |uD a y q b c e f g1 h i j k=>exact .uD a y q b c e f g1 h i j (g k)
theorem Zbn(rf:Option Nat)(mr:∀code,fn.body=some code->RF rf fn.ntmps code)(hD:pk P)(hT:Q4 P T)(hG:jr P G)(hf:P.funcs[f]?=some fn)(t:List D->List Row->Tree β)(ds:List mP)(fm:List (Nat×cg))(dep:Nat)
 (hn:∀args rows Q,(j6 T G (AB T G fn.ntmps dt.length fm rf dep) fn (kN sig args 0) (kh dt rows 0) λd R=>nK dt.length ds d R Q)=(t args rows).q λX=>Q (enc X) (out X)) (hv:∀args rows,(t args rows).m=v args rows) {args:List D} {rows:List Row} (hp:(t args rows).p):
 kg P f (kN sig args 0) (kh dt rows 0) (enc (v args rows)) (out (v args rows)):=by
 have e:(kh dt rows 0).length=dt.length:=UW
 refine lK.calls hD hT hG hf mr (L:=AB T G fn.ntmps dt.length fm rf dep) (λcode st Q hc hl=>by rw[e];exact FW hD hT hG (.inl rfl) dep _ _ _ hc hl) (ds:=ds) ⟨?_⟩
 rw[e,hn]
 refine Tree.main' hp ?_
 rw[hv]
 exact⟨rfl,rfl⟩
theorem Z81(rf:Option Nat)(mr:∀code,fn.body=some code->RF rf fn.ntmps code)(hD:pk P)(hT:Q4 P T)(hG:jr P G)(hf:oJ P f fn ((∀args rows,pS (oh (kN sig args 0)++kp (kh dt rows 0))=true)/\rf=none))(t:List D->List Row->Tree β)(ds:List mP)(fm:List (Nat×cg))(dep:Nat)
 (hn:∀args rows Q,(Ff T G (AB T G fn.ntmps k fm rf dep) fn (kN sig args 0) (kh dt rows 0) (λd R=>nK k ds d R Q) k)=(t args rows).q λX=>Q (enc X) (out X)) (hv:∀args rows,(t args rows).m=v args rows) {args:List D} {rows:List Row} (hp:(t args rows).p):
 tC P f k (kN sig args 0) (kh dt rows 0) (enc (v args rows)) (out (v args rows)):=by
 refine sT.calls hD hT hG (hf.imp λh=>⟨h.1 args rows,h.2⟩) mr (L:=AB T G fn.ntmps k fm rf dep) (λro Di=>FW hD hT hG Di dep) (ds:=ds) ⟨?_⟩
 rw[hn]
 refine Tree.main' hp ?_
 rw[hv]
 exact⟨rfl,rfl⟩
theorem Zno(rf:Option Nat)(mr:∀code,fn.body=some code->RF rf fn.ntmps code)(hD:pk P)(hT:Q4 P T)(hG:jr P G)(hf:P.funcs[f]?=some fn)(he:∀args w,(callFunc f args).run P w=.ok (.enter f args) w)(t:List D->List Row->Tree β)(ds:List mP)(fm:List (Nat×cg))(dep:Nat)
 (hn:∀args rows Q,(j6 T G (AB T G fn.ntmps dt.length fm rf dep) fn (kN sig args 0) (kh dt rows 0) λd R=>nK dt.length ds d R Q)=(t args rows).q λX=>Q (enc X) (out X):=by intro _ _ _;kernel_rfl) (hv:∀args rows,(t args rows).m=v args rows:=by exactλ_ _=>rfl)
 (hp:∀args rows,pre args rows->(t args rows).p:=by exactλ_ _ h=>h) (jn:flat=true->∀X,(sV (enc X)&&jo (out X))=true:=by intro _ _;kernel_rfl) (hy:bN f YB=true:=by rfl):bm P (lh f refs flat sig dt pre v enc out):=
 Fo he (λargs rows hw=>Zbn rf mr hD hT hG hf t ds fm dep hn hv (hp _ _ hw)) jn hy
theorem uM(hD:pk P)(hT:Q4 P T)(hG:jr P G)(hf:P.funcs[f]?=some fn)(he:∀args w,(callFunc f args).run P w=.ok (.enter f args) w)(t:List D->List Row->Tree β)(ds:List mP)(fm:List (Nat×cg))(dep:Nat)
 (hn:∀args rows Q,(j6 T G (LL T G fn.ntmps dt.length fm dep) fn (kN sig args 0) (kh dt rows 0) λd R=>nK dt.length ds d R Q)=(t args rows).q λX=>Q (enc X) (out X):=by intro _ _ _;kernel_rfl) (hv:∀args rows,(t args rows).m=v args rows:=by exactλ_ _=>rfl)
 (hp:∀args rows,pre args rows->(t args rows).p:=by exactλ_ _ h=>h) (jn:flat=true->∀X,(sV (enc X)&&jo (out X))=true:=by intro _ _;kernel_rfl) (hy:bN f YB=true:=by rfl):bm P (lh f refs flat sig dt pre v enc out):=
 Zno none (λ_ _=>trivial) hD hT hG hf he t ds fm dep hn hv hp jn hy
theorem xaA(rf:Option Nat)(mr:∀code,fn.body=some code->RF rf fn.ntmps code)(hD:pk P)(hT:Q4 P T)(hG:jr P G)(hf:P.funcs[f]?=some fn)(he:∀args w,(callFunc f args).run P w=.ok (.enter f args) w)(t:List D->List Row->Tree β)(ds:List mP)(fm:List (Nat×cg))(dep:Nat)
 (hn:∀args rows Q,(j6 T G (AB T G fn.ntmps dt.length fm rf dep) fn (kN sig args 0) (kh dt rows 0) λd R=>nK dt.length ds d R Q)=(t args rows).q λX=>Q (enc X) (out X)) (hv:∀args rows,(t args rows).m=v args rows)
 (hp:∀args rows,(t args rows).p) (jn:flat=true->∀X,(sV (enc X)&&jo (out X))=true) (hy:bN f YB=true:=by rfl):bm P (FB f refs flat sig dt v enc out):=
 zaM he (λargs rows=>Zbn rf mr hD hT hG hf t ds fm dep hn hv (hp _ _)) jn hy
theorem Q1(hD:pk P)(hT:Q4 P T)(hG:jr P G)(hf:P.funcs[f]?=some fn)(he:∀args w,(callFunc f args).run P w=.ok (.enter f args) w)(t:List D->List Row->Tree β)(ds:List mP)(fm:List (Nat×cg))(dep:Nat)
 (hn:∀args rows Q,(j6 T G (LL T G fn.ntmps dt.length fm dep) fn (kN sig args 0) (kh dt rows 0) λd R=>nK dt.length ds d R Q)=(t args rows).q λX=>Q (enc X) (out X):=by intro _ _ _;kernel_rfl) (hv:∀args rows,(t args rows).m=v args rows:=by exactλ_ _=>rfl)
 (hp:∀args rows,(t args rows).p:=by intro _ _;exact Tree.nE (by kernel_rfl)) (jn:flat=true->∀X,(sV (enc X)&&jo (out X))=true:=by intro _ _;kernel_rfl) (hy:bN f YB=true:=by rfl):bm P (FB f refs flat sig dt v enc out):=
 xaA none (λ_ _=>trivial) hD hT hG hf he t ds fm dep hn hv hp jn hy
theorem Zp6(rf:Option Nat)(mr:∀code,fn.body=some code->RF rf fn.ntmps code)(hD:pk P)(hT:Q4 P T)(hG:jr P G)(hf:oJ P f fn ((∀args rows,pS (oh (kN sig args 0)++kp (kh dt rows 0))=true)/\rf=none))(he:f<YB->∀args w,(callFunc f args).run P w=.ok (.enter f args) w)(t:List D->List Row->Tree β)(ds:List mP)(fm:List (Nat×cg))(dep:Nat)
 (hn:∀args rows Q,(Ff T G (AB T G fn.ntmps k fm rf dep) fn (kN sig args 0) (kh dt rows 0) (λd R=>nK k ds d R Q) k)=(t args rows).q λX=>Q (enc X) (out X)) (hv:∀args rows,(t args rows).m=v args rows)
 (hp:∀args rows,pre args rows->(t args rows).p):bm P (jI k f refs sig dt pre v enc out):=
 zaA he (λargs rows hw=>Z81 rf mr hD hT hG hf t ds fm dep hn hv (hp _ _ hw))
theorem sU(hD:pk P)(hT:Q4 P T)(hG:jr P G)(hf:P.funcs[f]?=some fn)(he:∀args w,(callFunc f args).run P w=.ok (.enter f args) w)(t:List D->List Row->Tree β)(ds:List mP)(fm:List (Nat×cg))(dep:Nat)
 (hn:∀args rows Q,(Ff T G (LL T G fn.ntmps k fm dep) fn (kN sig args 0) (kh dt rows 0) (λd R=>nK k ds d R Q) k)=(t args rows).q λX=>Q (enc X) (out X)) (hv:∀args rows,(t args rows).m=v args rows)
 (hp:∀args rows,pre args rows->(t args rows).p) (hy:bN f YB=true:=by rfl) (hb:Nat.ble YB fn.nfree=false:=by rfl):bm P (jI k f refs sig dt pre v enc out):=
 Zp6 none (λ_ _=>trivial) hD hT hG (.real (lE hy) hf hb) (λ_=>he) t ds fm dep hn hv hp
theorem yB(rf:Option Nat)(mr:∀code,fn.body=some code->RF rf fn.ntmps code)(hD:pk P)(hT:Q4 P T)(hG:jr P G)(hf:oJ P f fn ((∀args rows,pS (oh (kN sig args 0)++kp (kh dt rows 0))=true)/\rf=none))(he:f<YB->∀args w,(callFunc f args).run P w=.ok (.enter f args) w)(t:List D->List Row->Tree β)(ds:List mP)(fm:List (Nat×cg))(dep:Nat)
 (hn:∀args rows Q,(Ff T G (AB T G fn.ntmps k fm rf dep) fn (kN sig args 0) (kh dt rows 0) (λd R=>nK k ds d R Q) k)=(t args rows).q λX=>Q (enc X) (out X)) (hv:∀args rows,(t args rows).m=v args rows)
 (hp:∀args rows,(t args rows).p):bm P (Jv k f refs sig dt v enc out):=
 xaM he (λargs rows=>Z81 rf mr hD hT hG hf t ds fm dep hn hv (hp _ _))
theorem qaN(hD:pk P)(hT:Q4 P T)(hG:jr P G)(hf:P.funcs[f]?=some fn)(he:∀args w,(callFunc f args).run P w=.ok (.enter f args) w)(t:List D->List Row->Tree β)(ds:List mP)(fm:List (Nat×cg))(dep:Nat)
 (hn:∀args rows Q,(Ff T G (LL T G fn.ntmps k fm dep) fn (kN sig args 0) (kh dt rows 0) (λd R=>nK k ds d R Q) k)=(t args rows).q λX=>Q (enc X) (out X)) (hv:∀args rows,(t args rows).m=v args rows)
 (hp:∀args rows,(t args rows).p) (hy:bN f YB=true:=by rfl) (hb:Nat.ble YB fn.nfree=false:=by rfl):bm P (Jv k f refs sig dt v enc out):=
 yB none (λ_ _=>trivial) hD hT hG (.real (lE hy) hf hb) (λ_=>he) t ds fm dep hn hv hp
theorem vB(h:bm P (lh f refs flat sig dt pre v enc out)){rows:List Row}(hs:(AW sig args&&AX dt rows)=true)(hw:pre args rows):kg P f args rows (enc (v args rows)) (out (v args rows)):=
 (h.kY rfl args rows (pre args rows) β (v args rows) enc out (by simp only[lh,hs]) hw).1
end
def Tree.pN{β:Type}:Tree β->Bool
 |.lf _=>true
 |.br _ t e=>t.pN&&e.pN
 |.lv x k=>(k x).pN
 |_=>false
theorem Tree.nE{β:Type}{t:Tree β}(h:t.pN=true):t.p:=by
 induction t with
 |lf x=>trivial
 |br c t e Jx Jy=>
  simp only[Tree.pN,aE]at h
  cases c with
  |true=>exact Jx h.1
  |false=>exact Jy h.2
 |lv x k ih=>intro y hy;subst hy;exact ih _ h
 |_=>simp[Tree.pN]at h
theorem jr.nil:jr P []:=λx hx=>by cases hx
theorem jr.cons{x:bc}{G:List bc}(h:bm P x)(g:jr P G):jr P (x::G):=λy hy=>by
 simp only[List.mem_cons]at hy
 rcases hy with rfl|hy
 ·exact h
 ·exact g y hy

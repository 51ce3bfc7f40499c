import Derived.Test.YtaemmjbkndlkeaaGreatMigrateOneFc
open Nat renaming blt->bN,beq->bX,le_refl->aX
open List renaming map_cons->fG,getD->aV,getElem?_eq_getElem->aI,range'->bO,all_cons->gJ,all_nil->hH,length_cons->dD,length_nil->dE,length_set->dC,length_replicate->cS
open Bool renaming false_eq_true->aA,or_eq_true->aT,and_eq_false_iff->gU,or_eq_false_iff->gW,not_eq_true'->bB,not_eq_false'->gX,not_eq_true->gY,not_eq_false->gZ
open Sum renaming elim->hJ
set_option linter.all false
namespace Go.GD
open Go
open Go.IntKind(i64 u32 u64 wrap_i64 wrap_u32 wrap_u64 wrap_u8 wrap_i32)
def lk(st:St)(t:Nat):D:=look st.env t
def rN(st:St)(t:Nat):Nat:=jm (look st.env t) 1000000
def cT(st:St)(t j:Nat):D:=ay st.rows (jm (look st.env t) 1000000) j
def rX(st:St)(t k:Nat):Nat:=jm (look st.env t) (st.rows.length+k)
theorem Qh3{α:Type}{l:List α}(h:l≠[]):0<l.length:=by cases l<;>simp_all
theorem ZN{a b:Nat}:bN a b=true↔a<b:=by simp[bN,Nat.lt_iff_add_one_le]
theorem Q38{a b:Nat}:bN a b=false↔ ¬a<b:=by have:= @ZN a b;cases h:bN a b<;>simp_all
theorem ZO{a b:Nat}:bX a b=true↔a=b:=iff_of_eq Nat.beq_eq
theorem Q36{a b:Nat}:bX a b=false↔ ¬a=b:=by have:= @ZO a b;cases h:bX a b<;>simp_all
def gv(d e:D):Prop:=∀c w v,dd c w d v->dd c w e v
def kX:List D->List D->Prop
 |[],[]=>True
 |d::l,e::m=>gv d e/\kX l m
 |_,_=>False
def sN:D->D->Prop
 |.agg cs,.agg ds=>kX cs ds
 |.agg _,_=>False
 |d,e=>gv d e
def CP:List D->List D->Prop
 |[],[]=>True
 |d::l,e::m=>sN d e/\CP l m
 |_,_=>False
theorem gv.rfl{d:D}:gv d d:=λ_ _ _ h=>h
theorem gv.ints{k:IntKind}{s:Nat}{E:ah}{fr:Bool}{l:List Int}(h:E.toI k=some l):gv (.sl s E fr) (.sl 1 (.ints k l) false):=by
 intro c w v hv
 have he:=ah.toI_l h
 obtain⟨a,cap,hv,hc,gx⟩:=hv
 rw[he]at hv hc gx
 refine⟨a,cap,hv,hc,?_⟩
 rcases gx with gx|⟨b,off,arr,ty,fz,ha,hI,hf,hh,hE⟩
 ·exact .inl gx
 ·cases l with
  |nil=>exact .inl (by simp[ah.l])
  |cons n l=>
   have h1:s=1:=by
    simp only[ah.l,fG,pQ,pB]at hE
    exact hE.1.symm
   subst h1
   exact .inr ⟨b,off,arr,ty,fz,ha,hI,(λe=>by cases e),hh,hE⟩
theorem gv.ag{s:Nat}{E:ah}{fr:Bool}{l:List Bool}(h:E.toB=some l):gv (.sl s E fr) (.sl 1 (.ag l) false):=by
 intro c w v hv
 have he:=ah.toB_l h
 obtain⟨a,cap,hv,hc,gx⟩:=hv
 rw[he]at hv hc gx
 refine⟨a,cap,hv,hc,?_⟩
 rcases gx with gx|⟨b,off,arr,ty,fz,ha,hI,hf,hh,hE⟩
 ·exact .inl gx
 ·cases l with
  |nil=>exact .inl (by simp[ah.l])
  |cons n l=>
   have h1:s=1:=by
    simp only[ah.l,fG,pQ,pB]at hE
    exact hE.1.symm
   subst h1
   exact .inr ⟨b,off,arr,ty,fz,ha,hI,(λe=>by cases e),hh,hE⟩
theorem kX.rep{c:Ctx}{w:World}:∀{ds es:List D} {vs:List Value},kX ds es->je c w ds vs->je c w es vs
 |[],[],[],_,_=>trivial
 |d::l,e::m,v::vs,h,hr=>⟨h.1 _ _ _ hr.1,kX.rep h.2 hr.2⟩
 |[],_::_,_,h,_=>h.elim
 |_::_,[],_,h,_=>h.elim
 |[],[],_::_,_,hr=>hr.elim
 |_::_,_::_,[],_,hr=>hr.elim
theorem sN.rep{c:Ctx}{w:World}{d e:D}{v:Value}(h:sN d e)(hr:VRep c w d v):VRep c w e v:=by
 cases d with
 |agg cs=>
  cases e with
  |agg ds=>obtain⟨vs,hv,hx⟩:=hr;exact⟨vs,hv,kX.rep h hx⟩
  |_=>exact h.elim
 |_=>
  have h1:=VRep.toC (λcs e=>by cases e) hr
  have h2:gv _ e:=h
  exact VRep.DU (h2 _ _ _ h1)
theorem CP.rep{c:Ctx}{w:World}:∀{ds es:List D} {vs:List Value},CP ds es->j4 c w ds vs->j4 c w es vs
 |[],[],[],_,_=>trivial
 |d::l,e::m,v::vs,h,hr=>⟨sN.rep h.1 hr.1,CP.rep h.2 hr.2⟩
 |[],_::_,_,h,_=>h.elim
 |_::_,[],_,h,_=>h.elim
 |[],[],_::_,_,hr=>hr.elim
 |_::_,_::_,[],_,hr=>hr.elim
theorem kg.sub{P:Program}{f:FuncId}{args nb:List D}{rows:List Row}{res:D}{aj:List Row}(hs:CP args nb)(h:kg P f nb rows res aj):kg P f args rows res aj:=
 λc w vs hm hb hR ha=>h c w vs hm hb hR (CP.rep hs ha)
theorem gv.ai{k:RK}{s:Nat}{E:ah}{fr:Bool}{l:List (RK.T k)}(h:E.toR k=some l):gv (.sl s E fr) (.sl k.size (.ai k l) false):=by
 intro c w v hv
 have he:=ah.toR_l h
 obtain⟨a,cap,hv,hc,gx⟩:=hv
 rw[he]at hv hc gx
 refine⟨a,cap,hv,hc,?_⟩
 rcases gx with gx|⟨b,off,arr,ty,fz,ha,hI,hf,hh,hE⟩
 ·exact .inl gx
 ·cases l with
  |nil=>exact .inl (by simp[ah.l])
  |cons x l=>
   have h1:s=k.size:=by
    simp only[ah.l,fG,pB]at hE
    rw[<-hE.1];exact RK.re k x
   subst h1
   exact .inr ⟨b,off,arr,ty,fz,ha,hI,(λe=>by cases e),hh,hE⟩
theorem gv.CQ{s:Nat}{E:ah}(h:E.l=[]):gv .c8 (.sl s E false):=by
 intro c w v hv
 exact⟨none,0,by rw[h];exact hv,by rw[h];exact aX _,.inl h⟩
theorem gv.Jr{s:Nat}{E:ah}(h:E.l=[]):gv .emp (.sl s E false):=by
 intro c w v hv
 obtain⟨a,hv,_⟩:=hv
 exact⟨a,0,by rw[h];exact hv,by rw[h];exact aX _,.inl h⟩
def Au:List (Nat×Nat×Nat)->List (Nat×Nat×Nat)->Bool
 |[],[]=>true
 |(a,b,c)::l,(x,y,z)::m=>bX a x&&(bX b y&&(bX c z&&Au l m))
 |_,_=>false
def sO:List iq->List iq->Bool
 |[],[]=>true
 |.ptr a b c::l,.ptr x y z::m=>bX a x&&(bX b y&&(bX c z&&sO l m))
 |.fn f ps::l,.fn g qs::m=>bX f g&&(Au ps qs&&sO l m)
 |_,_=>false
theorem zA:∀{l m:List (Nat×Nat×Nat)},Au l m=true->l=m
 |[],[],_=>rfl
 |(a,b,c)::l,(x,y,z)::m,h=>by
  simp only[Au,aE]at h
  rw[bE h.1,bE h.2.1,bE h.2.2.1,zA h.2.2.2]
 |[],_::_,h=>by simp[Au]at h
 |_::_,[],h=>by simp[Au]at h
theorem yA:∀{l m:List iq},sO l m=true->l=m:=by
 intro l
 induction l with
 |nil=>intro m h;cases m with
  |nil=>rfl
  |cons _ _=>simp[sO]at h
 |cons a l ih=>
  intro m h
  cases m with
  |nil=>cases a<;>simp[sO]at h
  |cons b m=>
   cases a<;>cases b<;>simp only[sO,aE,aA]at h
   ·rw[bE h.1,bE h.2.1,bE h.2.2.1,ih h.2.2.2]
   ·rw[bE h.1,zA h.2.1,ih h.2.2]
def Av:CT->D->Bool
 |.int k,.int j _=>decide (j=k)
 |.bool,.bool _=>true
 |.str,.str _=>true
 |.ints k,.sl _ E _=>(match E.toI k with|some _=>true|none=>false)
 |.ag,.sl _ E _=>(match E.toB with|some _=>true|none=>false)
 |.ai k,.sl _ E _=>(match E.toR k with|some _=>true|none=>false)
 |.ints _,.c8=>true
 |.ag,.c8=>true
 |.ai _,.c8=>true
 |.ints _,.emp=>true
 |.ag,.emp=>true
 |.ai _,.emp=>true
 |.row i,.all r=>bX r i
 |.nil,.sl s (.gen []) false=>bX s 0
 |.HB,.c8=>true
 |.self _,.iB=>true
 |.gk f cs,.gk g ds=>bX g f&&sO ds cs
 |.self i,.gd r=>bX r i
 |.self i,.ptr r o f=>bX r i&&(bX o 0&&bX f 0)
 |.pt i a b,.ptr r o f=>bX r i&&(bX o a&&bX f b)
 |_,_=>false
inductive PT where
 |one (t:CT)
 |agg (ts:List CT)
 |ptr (i:Nat)
 |gk (f:Nat) (cs:List iq)
inductive RT where
 |box (ty sz:Nat) (ts:List CT)
 |arr (ty sz:Nat) (t:CT)
def Js:List CT->List D->Bool
 |[],[]=>true
 |t::ts,d::ds=>Av t d&&Js ts ds
 |_,_=>false
def uE:PT->D->Bool
 |.agg ts,.agg cs=>Js ts cs
 |.one t,d=>Av t d
 |.ptr i,.ptr r j o=>bX r i&&(bX j 0&&bX o 0)
 |.gk f cs,.gk g ds=>bX g f&&sO ds cs
 |_,_=>false
def Hj:PT->D->D
 |.agg ts,d=>.agg (uO ts d.cells 0)
 |.one t,d=>Dd t d
 |.ptr i,_=>.ptr i 0 0
 |.gk f cs,_=>.gk f cs
def AW:List PT->List D->Bool
 |[],[]=>true
 |s::l,d::ds=>uE s d&&AW l ds
 |_,_=>false
def kM:List PT->List D->Nat->List D
 |[],_,_=>[]
 |s::l,args,i=>Hj s (args.getD i .dead)::kM l args (i+1)
def Row.cs(r:Row):List D:=match r.es with|.gen [e]=>e|_=>[]
def uF:RT->Row->Bool
 |.box ty sz ts,⟨true,jM,jV,.gen [e]⟩=>bX jM ty&&(bX jV sz&&Js ts e)
 |.arr ty sz t,⟨false,jM,jV,E⟩=>bX jM ty&&(bX jV sz&&(match toCT t E with|some _=>true|none=>false))
 |_,_=>false
def Ra(t:CT)(E:ah):ah:=match t with
 |.ints k=>.ints k (match E.toI k with|some l=>l|none=>[])
 |.ag=>.ag (match E.toB with|some l=>l|none=>[])
 |.ai k=>.ai k (match E.toR k with|some l=>l|none=>[])
 |_=>.gen []
theorem zay{t:CT}{E E':ah}(h:toCT t E=some E'):Ra t E=E':=by
 cases t with
 |ints k=>
  simp only[toCT]at h
  split at h
  ·rename_i l hl
   cases h
   show ah.ints k (match E.toI k with|some l=>l|none=>[])=_
   rw[hl]
  ·cases h
 |ag=>
  simp only[toCT]at h
  split at h
  ·rename_i l hl
   cases h
   show ah.ag (match E.toB with|some l=>l|none=>[])=_
   rw[hl]
  ·cases h
 |ai k=>
  simp only[toCT]at h
  split at h
  ·rename_i l hl
   cases h
   show ah.ai k (match E.toR k with|some l=>l|none=>[])=_
   rw[hl]
  ·cases h
 |_=>simp[toCT]at h
def wC:RT->Row->Row
 |.box ty sz ts,r=>⟨true,ty,sz,.gen [uO ts r.cs 0]⟩
 |.arr ty sz t,r=>⟨false,ty,sz,Ra t r.es⟩
def AX:List RT->List Row->Bool
 |[],[]=>true
 |s::l,r::rs=>uF s r&&AX l rs
 |_,_=>false
def kh:List RT->List Row->Nat->List Row
 |[],_,_=>[]
 |s::l,rows,i=>wC s (rows.getD i default)::kh l rows (i+1)
def au(args:List D)(i:Nat):Int:=(args.getD i .dead).toInt
def kq(args:List D)(i:Nat):Bool:=(args.getD i .dead).toBool
def jy(args:List D)(i:Nat):List UInt8:=(args.getD i .dead).toStr
def dh(k:IntKind)(args:List D)(i:Nat):List Int:=cf k (args.getD i .dead)
def CR(args:List D)(i:Nat):List Bool:=ey (args.getD i .dead)
def kr(k:RK)(args:List D)(i:Nat):List (RK.T k):=iM k (args.getD i .dead)
def sP(rows:List Row)(i j:Nat):D:=((rows.getD i default).cs.getD j .dead)
def cw(k:IntKind)(rows:List Row)(i:Nat):List Int:=match(rows.getD i default).es.toI k with|some l=>l|none=>[]
def db(k:RK)(rows:List Row)(i:Nat):List (RK.T k):=match(rows.getD i default).es.toR k with|some l=>l|none=>[]
theorem Zao{t:CT}{d:D}(h:Av t d=true):gv d (Dd t d):=by
 cases t<;>cases d<;>(try(simp[Av]at h;done))
 case int.int=>simp[Av]at h;subst h;exact gv.rfl
 case nil.sl s E fr=>
  unfold Av at h
  split at h<;>simp_all
  exact gv.rfl
 case HB.c8=>exact gv.rfl
 case bool.bool=>exact gv.rfl
 case str.str=>exact gv.rfl
 case ints.sl k sz E fr=>
  simp only[Av]at h
  split at h
  ·rename_i l hl
   simp only[Dd,cf,hl]
   exact gv.ints hl
  ·cases h
 case ints.c8=>exact gv.CQ rfl
 case ints.emp=>exact gv.Jr rfl
 case ag.sl sz E fr=>
  simp only[Av]at h
  split at h
  ·rename_i l hl
   simp only[Dd,ey,hl]
   exact gv.ag hl
  ·cases h
 case ag.c8=>exact gv.CQ rfl
 case ag.emp=>exact gv.Jr rfl
 case ai.sl k sz E fr=>
  simp only[Av]at h
  split at h
  ·rename_i l hl
   simp only[Dd,iM,hl]
   exact gv.ai hl
  ·cases h
 case ai.c8=>exact gv.CQ rfl
 case ai.emp=>exact gv.Jr rfl
 case row.all i r=>rw[bE h];exact gv.rfl
 case gk.gk f cs g ds=>
  simp only[Av,aE]at h
  rw[bE h.1,yA h.2]
  exact gv.rfl
 case self.iB i=>exactλc w v hv=>.inl hv
 case self.gd i r=>rw[bE h];exact gv.rfl
 case self.ptr i r o f=>
  simp only[Av,aE]at h
  rw[bE h.1,bE h.2.1,bE h.2.2]
  exactλc w v hv=>.inr hv
 case pt.ptr i a b r o f=>
  simp only[Av,aE]at h
  rw[bE h.1,bE h.2.1,bE h.2.2]
  exact gv.rfl
theorem ZP:∀{ts:List CT} {pre ds:List D},Js ts ds=true->kX ds (uO ts (pre++ds) pre.length)
 |[],pre,[],_=>trivial
 |t::ts,pre,d::ds,h=>by
  simp only[Js,aE]at h
  have h2:=ZP (pre:=pre++[d]) h.2
  simp only[uO]
  refine⟨?_,by simpa using h2⟩
  have:(pre++d::ds).getD pre.length .dead=d:=by simp[aV]
  rw[this];exact Zao h.1
 |[],_,_::_,h=>by simp[Js]at h
 |_::_,_,[],h=>by simp[Js]at h
theorem sN.of1{d e:D}(hd:∀cs,d≠.agg cs)(h:gv d e):sN d e:=by
 cases d<;>first|exact h|exact absurd rfl (hd _)
theorem Zrt{s:PT}{d:D}(h:uE s d=true):sN d (Hj s d):=by
 unfold uE at h
 split at h
 ·rename_i ts cs
  exact ZP (pre:=[]) h
 ·rename_i t d
  refine sN.of1 (λcs e=>?_) (Zao h)
  subst e
  cases t<;>simp[Av]at h
 ·rename_i i r j o
  simp only[aE]at h
  rw[bE h.1,bE h.2.1,bE h.2.2]
  exact gv.rfl
 ·rename_i f cs g ds
  simp only[aE]at h
  rw[bE h.1,yA h.2]
  exact gv.rfl
 ·cases h
theorem ZQ:∀{l:List PT} {pre ds:List D},AW l ds=true->CP ds (kM l (pre++ds) pre.length)
 |[],pre,[],_=>trivial
 |s::l,pre,d::ds,h=>by
  simp only[AW,aE]at h
  have h2:=ZQ (pre:=pre++[d]) h.2
  simp only[kM]
  refine⟨?_,by simpa using h2⟩
  have:(pre++d::ds).getD pre.length .dead=d:=by simp[aV]
  rw[this];exact Zrt h.1
 |[],_,_::_,h=>by simp[AW]at h
 |_::_,_,[],h=>by simp[AW]at h
def sQ(a b:Row):Prop:=b.box=a.box/\b.ty=a.ty/\b.sz=a.sz/\b.es.l.length=a.es.l.length/\match a.box with
 |true=>∃e e',a.es=.gen [e]/\b.es=.gen [e']/\e'.length=e.length/\kX e e'
 |false=>b.es.l=a.es.l
theorem kX.length:∀{ds es:List D},kX ds es->ds.length=es.length
 |[],[],_=>rfl
 |_::_,_::_,h=>by simp[kX.length h.2]
 |[],_::_,h=>h.elim
 |_::_,[],h=>h.elim
theorem Zs8{s:RT}{r:Row}(h:uF s r=true):sQ r (wC s r):=by
 unfold uF at h
 split at h
 ·rename_i ty sz ts jM jV e
  simp only[aE]at h
  have h3:=ZP (pre:=[]) h.2.2
  have hl:=h3.length
  exact⟨rfl,(bE h.1).symm,(bE h.2.1).symm,rfl,_,_,rfl,rfl,hl.symm,h3⟩
 ·rename_i ty sz t jM jV E
  simp only[aE]at h
  obtain⟨h1,h2,h3⟩:=h
  split at h3
  ·rename_i E' hE
   have he:=ah.wT (MP hE)
   have hc:wC (.arr ty sz t) ⟨false,jM,jV,E⟩=⟨false,ty,sz,E'⟩:=by simp[wC,zay hE]
   rw[hc]
   exact⟨rfl,(bE h1).symm,(bE h2).symm,by simp only[he],he.symm⟩
  ·cases h3
 ·cases h
theorem ZR:∀{l:List RT} {pre rs:List Row},AX l rs=true->rs.length=l.length/\∀(i:Nat) r,rs[i]?=some r->∃r',(kh l (pre++rs) pre.length)[i]?=some r'/\sQ r r'
 |[],pre,[],_=>⟨rfl,λi r h=>by simp at h⟩
 |s ::l,pre,r::rs,h=>by
  simp only[AX,aE]at h
  obtain⟨h1,h2⟩:=ZR (pre:=pre++[r]) h.2
  refine⟨by simp[h1],λi q hq=>?_⟩
  cases i with
  |zero=>
   simp at hq;subst hq
   have:(pre++r::rs).getD pre.length default=r:=by simp[aV]
   exact⟨_,by simp only[kh,this];rfl,Zs8 h.1⟩
  |succ i=>
   obtain⟨q',g1,g2⟩:=h2 i q (by simpa using hq)
   refine⟨q',?_,g2⟩
   simp only[kh,List.getElem?_cons_succ]
   simpa using g1
 |[],_,_::_,h=>by simp[AX]at h
 |_::_,_,[],h=>by simp[AX]at h
theorem UM:∀{l:List RT} {rows:List Row} {i:Nat},(kh l rows i).length=l.length
 |[],_,_=>rfl
 |s::l,rows,i=>by simp[kh,UM]
theorem vA{d:D}:d.mb (λr=>r) true=d:=by
 cases d with
 |gk f cs=>simp only[D.mb,Yn]
 |_=>simp[D.mb]
theorem UN:∀{ds:List D},D.me (λr=>r) true ds=ds
 |[]=>rfl
 |d::l=>by simp[D.me,vA,UN (ds:=l)]
theorem zaL{d:D}:d.ja (λr=>r) true=d:=by
 cases d with
 |agg cs=>show D.agg (D.me _ true cs)=_;rw[UN]
 |gk f cs=>exact vA (d:=.gk f cs)
 |_=>simp[D.ja,D.mb]
theorem kX.cells{c:Ctx}{w:World}:∀{ds es:List D} {arr:Array Value} {off:Nat},kX ds es->ku c w ds arr off->ku c w es arr off
 |[],[],_,_,_,_=>trivial
 |d::l,e::m,_,_,h,⟨⟨v,hv,h1⟩,h2⟩=>⟨⟨v,hv,h.1 _ _ _ h1⟩,kX.cells h.2 h2⟩
 |[],_::_,_,_,h,_=>h.elim
 |_::_,[],_,_,h,_=>h.elim
theorem ZS{c1 c2:Ctx}{w:World}(hn:DG (λ_=>True) (λr=>r) true c1 c2)(hI:∀b,c1.I b->c2.I b):∀{ds:List D} {vs:List Value},j4 c1 w ds vs->j4 c2 w ds vs
 |[],[],_=>trivial
 |d::ds,v::vs,h=>⟨by have:=Pz hn (flat:=False) (.inl hI) (λ_ _=>trivial) (λe=>e.elim) h.1;rwa [zaL]at this,ZS hn hI h.2⟩
 |[],_::_,h=>h.elim
 |_::_,[],h=>h.elim
theorem kg.Jt{P:Program}{f:FuncId}{args nb:List D}{rows kG:List Row}{res:D}{aj:List Row}(hs:CP args nb)(hl:kG.length=rows.length)(hr:∀(i:Nat) r,rows[i]?=some r->∃r',kG[i]?=some r'/\sQ r r')(h:kg P f nb kG res aj):kg P f args rows res aj:=by
 intro c w vs hm hb hR ha
 let c2:Ctx:={c with R:=λr=>kG[r]? }
 have Rb:∀r row,c.R r=some row->∃ao,c2.R r=some ao/\sQ row ao:=λr row cz=>by
  rw[hR]at cz;exact hr r row cz
 have uG:∀r ao,c2.R r=some ao->∃row,c.R r=some row/\sQ row ao:=λr ao cz=>by
  have cz:kG[r]?=some ao:=cz
  have bg:=(List.getElem?_eq_some_iff.1 cz).1
  have h1:rows[r]?=some rows[r]:=aI (by omega)
  obtain⟨jq,g1,g2⟩:=hr r _ h1
  rw[cz]at g1;cases g1
  exact⟨_,by rw[hR];exact h1,g2⟩
 have hn:DG (λ_=>True) (λr=>r) true c c2:=⟨λi row _ cz=>by
  obtain⟨ao,g1,g2,g3,g4,g5,_⟩:=Rb i row cz
  exact⟨ao,g1,g2,g3,g4,g5,rfl,Iff.rfl⟩,λ_=>aX _,aX _⟩
 have Bw:Mem c2 w:=by
  refine⟨λr ao cz=>?_,λr s x y h1 h2 v1 v2 he=>?_,λb ib=>⟨(hm.ff b ib).1,λr x h1 v=>?_⟩,hm.top,hm.jP⟩
  ·obtain⟨row,g1,g2,g3,g4,g5,g6⟩:=uG r ao cz
   rcases hm.row r row g1 with⟨k1,k2,k3,k4⟩|⟨k1,arr,k2,k3,k4⟩
   ·refine .inl ⟨k1,g2.trans k2,?_,by rw[g4];exact k4⟩
    rw[k2]at g6;simp only at g6;rw[g6,k3]
   ·refine .inr ⟨k1,arr,by rw[g3];exact k2,by rw[g4];exact k3,?_⟩
    rw[g2,g4]
    cases wg:row.box with
    |false=>
     simp only[wg,aA,if_false]at k4 g6⊢
     rw[g6];exact k4
    |true=>
     simp only[wg,if_true]at k4 g6⊢
     obtain⟨e,e',q1,q2,q3,q4⟩:=g6
     obtain⟨e0,p1,p2,p3,p4⟩:=k4
     rw[q1]at p1;cases p1
     refine⟨e',q2,by rw[q3];exact p2,p3,?_⟩
     have:=Uh hn (flat:=False) (.inl λb hb=>hb) (λ_ _=>trivial) (λe=>e.elim) (kX.cells q4 p4)
     rwa [UN]at this
  ·obtain⟨x',g1,_⟩:=uG r x h1
   obtain⟨y',g2,_⟩:=uG s y h2
   exact hm.inj r s x' y' g1 g2 v1 v2 he
  ·obtain⟨x',g1,_⟩:=uG r x h1
   exact(hm.ff b ib).2 r x' g1 v
 refine(h c2 w vs Bw hb (λr=>rfl) (ZS hn (λb h=>h) (CP.rep hs ha))).mono λe w' hq=>?_
 obtain⟨v,c',he,hx,jT,hv⟩:=hq
 refine⟨v,c',he,⟨hx.mem,⟨hx.cy.base,hx.cy.top,hx.cy.I,λr row cz=>?_⟩,hx.fr.mono λb _ ⟨r,x,h1,h2,h3⟩=>?_,hx.ff,λr ao h1 h2=>?_⟩,jT,hv⟩
 ·obtain⟨jq,g1,g2,g3,g4,g5,g6⟩:=Rb r row cz
  obtain⟨ao,k1,k2,k3,k4,k5,k6,k7,k8⟩:=hx.cy.R r jq g1
  exact⟨ao,k1,k2.trans g2,k3.trans g3,k4.trans g4,k5.trans g5,k6,k7,λnv arr ha=>by rw[<-g3]at ha⊢;exact k8 nv arr ha⟩
 ·obtain⟨x',g1,_⟩:=uG r x h1
  exact⟨r,x',g1,h2,h3⟩
 ·rcases hx.nU r ao h1 h2 with⟨⟨x,oR⟩,h3,h4⟩|h3
  ·obtain⟨x',g1,_⟩:=uG r x oR
   exact .inl ⟨⟨x',g1⟩,h3,h4⟩
  ·exact .inr h3
theorem tB.Jt{P:Program}{f:FuncId}{k:Nat}{args nb:List D}{rows kG:List Row}{res:D}{aj:List Row}(hs:CP args nb)(hl:kG.length=rows.length)(hr:∀(i:Nat) r,rows[i]?=some r->∃r',kG[i]?=some r'/\sQ r r')(h:tB P f k nb kG res aj):tB P f k args rows res aj:=by
 intro c w vs hm hb hR ha
 let c2:Ctx:={c with R:=λr=>kG[r]? }
 have Rb:∀r row,c.R r=some row->∃ao,c2.R r=some ao/\sQ row ao:=λr row cz=>by
  rw[hR]at cz;exact hr r row cz
 have uG:∀r ao,c2.R r=some ao->∃row,c.R r=some row/\sQ row ao:=λr ao cz=>by
  have cz:kG[r]?=some ao:=cz
  have bg:=(List.getElem?_eq_some_iff.1 cz).1
  have h1:rows[r]?=some rows[r]:=aI (by omega)
  obtain⟨jq,g1,g2⟩:=hr r _ h1
  rw[cz]at g1;cases g1
  exact⟨_,by rw[hR];exact h1,g2⟩
 have hn:DG (λ_=>True) (λr=>r) true c c2:=⟨λi row _ cz=>by
  obtain⟨ao,g1,g2,g3,g4,g5,_⟩:=Rb i row cz
  exact⟨ao,g1,g2,g3,g4,g5,rfl,Iff.rfl⟩,λ_=>aX _,aX _⟩
 have Bw:Mem c2 w:=by
  refine⟨λr ao cz=>?_,λr s x y h1 h2 v1 v2 he=>?_,λb ib=>⟨(hm.ff b ib).1,λr x h1 v=>?_⟩,hm.top,hm.jP⟩
  ·obtain⟨row,g1,g2,g3,g4,g5,g6⟩:=uG r ao cz
   rcases hm.row r row g1 with⟨k1,k2,k3,k4⟩|⟨k1,arr,k2,k3,k4⟩
   ·refine .inl ⟨k1,g2.trans k2,?_,by rw[g4];exact k4⟩
    rw[k2]at g6;simp only at g6;rw[g6,k3]
   ·refine .inr ⟨k1,arr,by rw[g3];exact k2,by rw[g4];exact k3,?_⟩
    rw[g2,g4]
    cases wg:row.box with
    |false=>
     simp only[wg,aA,if_false]at k4 g6⊢
     rw[g6];exact k4
    |true=>
     simp only[wg,if_true]at k4 g6⊢
     obtain⟨e,e',q1,q2,q3,q4⟩:=g6
     obtain⟨e0,p1,p2,p3,p4⟩:=k4
     rw[q1]at p1;cases p1
     refine⟨e',q2,by rw[q3];exact p2,p3,?_⟩
     have:=Uh hn (flat:=False) (.inl λb hb=>hb) (λ_ _=>trivial) (λe=>e.elim) (kX.cells q4 p4)
     rwa [UN]at this
  ·obtain⟨x',g1,_⟩:=uG r x h1
   obtain⟨y',g2,_⟩:=uG s y h2
   exact hm.inj r s x' y' g1 g2 v1 v2 he
  ·obtain⟨x',g1,_⟩:=uG r x h1
   exact(hm.ff b ib).2 r x' g1 v
 refine(h c2 w vs Bw hb (λr=>rfl) (ZS hn (λb h=>h) (CP.rep hs ha))).mono (λb hb=>hb) λe w' hq=>?_
 obtain⟨v,c',he,hx,jT,hv⟩:=hq
 rw[hl]at hx
 refine⟨v,c',he,⟨hx.mem,⟨hx.cy.base,hx.cy.top,hx.cy.I,λr row cz=>?_⟩,hx.fr.mono λb _ ⟨r,x,h1,h2,h3⟩=>?_,λb hb=>?_,λr ao h1 h2=>?_⟩,jT,hv⟩
 ·obtain⟨q,jB,CE,rfl⟩:=mP cz
  obtain⟨jq,g1,g2,g3,g4,g5,g6⟩:=Rb r jB CE
  obtain⟨ao,k1,k2,k3,k4,k5,k6,k7,k8⟩:=hx.cy.R r (jq.kill _) (by simp only[Ctx.kill];rw[if_neg (by rw[q];simp),g1];rfl)
  obtain⟨s1,s2,s3,s4⟩:=Q5 (bO k (rows.length-k)) jB
  obtain⟨t1,t2,t3,t4⟩:=Q5 (bO k (rows.length-k)) jq
  refine⟨ao,k1,k2.trans (t1.trans (g2.trans s1.symm)),k3.trans (t2.trans (g3.trans s2.symm)),k4.trans (t3.trans (g4.trans s3.symm)),k5.trans (t4.trans (g5.trans s4.symm)),k6,k7,λnv arr ha=>?_⟩
  rw[s2]at ha⊢
  have:=k8 nv arr (by rw[t2,g3];exact ha)
  rw[t2,g3]at this
  exact this
 ·obtain⟨x',g1,_⟩:=uG r x h1
  exact⟨r,x',g1,h2,h3⟩
 ·rcases hx.ff b hb with h|⟨s,x,h1,h2,h3,h4⟩|h
  ·exact .inl h
  ·obtain⟨x',g1,_⟩:=uG s x h2
   exact .inr (.inl ⟨s,x',h1,g1,h3,h4⟩)
  ·exact .inr (.inr h)
 ·rcases hx.nU r ao h1 h2 with⟨⟨x,oR⟩,h3,h4⟩|⟨s,x,q1,q2,q3,q4⟩|h3
  ·obtain⟨x',g1,_⟩:=uG r x oR
   exact .inl ⟨⟨x',g1⟩,h3,h4⟩
  ·obtain⟨x',g1,_⟩:=uG s x q2
   exact .inr (.inl ⟨s,x',q1,g1,q3,q4⟩)
  ·exact .inr (.inr h3)
def FC(f:FuncId)(refs:List Bool)(flat:Bool)(sig:List PT)(dt:List RT){α:Type}(v:List D->List Row->α)(enc:α->D)(out:α->List Row):ba:=
 ⟨f,refs,flat,λargs rows=>match AW sig args&&AX dt rows with|true=>.abs α (v args rows) enc out|false=>.no,none,false⟩
def kY(f:FuncId)(refs:List Bool)(flat:Bool)(sig:List PT)(dt:List RT)(pre:List D->List Row->Prop){α:Type}(v:List D->List Row->α)(enc:α->D)(out:α->List Row):ba:=
 ⟨f,refs,flat,λargs rows=>match AW sig args&&AX dt rows with|true=>.kW (pre args rows) α (v args rows) enc out|false=>.no,none,false⟩
def ba.fz(x:ba):ba:={x with oM:=true}
theorem wD{P:Program}{x:ba}(h:bm P x):bm P x.fz:=⟨h.enters,h.real,h.ok,h.when,h.abs,h.kW,h.Pm,h.GN⟩
def Ju(k:Nat)(f:FuncId)(refs:List Bool)(sig:List PT)(dt:List RT){α:Type}(v:List D->List Row->α)(enc:α->D)(out:α->List Row):ba:=
 ⟨f,refs,false,λargs rows=>match AW sig args&&AX dt rows with|true=>.abs α (v args rows) enc out|false=>.no,some k,false⟩
def jI(k:Nat)(f:FuncId)(refs:List Bool)(sig:List PT)(dt:List RT)(pre:List D->List Row->Prop){α:Type}(v:List D->List Row->α)(enc:α->D)(out:α->List Row):ba:=
 ⟨f,refs,false,λargs rows=>match AW sig args&&AX dt rows with|true=>.kW (pre args rows) α (v args rows) enc out|false=>.no,some k,false⟩
def ah.wE:ah->Bool
 |.gen _=>false
 |.ai k _=>k.mL
 |_=>true
theorem ah.sR{E:ah}(h:E.wE=true):E.ER:=by
 cases E with
 |gen es=>simp[ah.wE]at h
 |ai k l=>exact h
 |_=>trivial
def CS:D->Bool|.sl _ E fr=>fr&&E.wE|.im _ _ _ _=>false|.gk _ _=>false|_=>true
def CU:List D->Bool|[]=>true|d::l=>CS d&&CU l
def Jv:D->Bool|.agg cs=>CU cs|d=>CS d
def Fo:List D->Bool|[]=>true|d::l=>Jv d&&Fo l
def sU:D->Bool|.dw ds=>Fo ds|d=>Jv d
def jo:List Row->Bool
 |[]=>true
 |⟨true,_,_,.gen [e]⟩::l=>CU e&&jo l
 |⟨false,_,_,E⟩::l=>E.wE&&jo l
 |_=>false
theorem Rc{d:D}(h:CS d=true):Py d:=by
 cases d<;>first|trivial|(simp[CS]at h;done)|skip
 case sl sz E fr=>simp only[CS,aE]at h;exact⟨.inr h.1,ah.sR h.2⟩
theorem UO:∀{ds:List D},CU ds=true->LR ds
 |[],_=>trivial
 |d::l,h=>by simp only[CU,aE]at h;exact⟨Rc h.1,UO h.2⟩
theorem xay{d:D}(h:Jv d=true):Ug d:=by
 cases d with
 |agg cs=>exact UO h
 |sl a b c=>exact Rc (d:=.sl a b c) h
 |im a b c e=>exact Rc (d:=.im a b c e) h
 |_=>trivial
theorem qB:∀{ds:List D},Fo ds=true->ES ds
 |[],_=>trivial
 |d::l,h=>by simp only[Fo,aE]at h;exact⟨xay h.1,qB h.2⟩
theorem zab{d:D}(h:sU d=true):FF d:=by
 cases d with
 |dw ds=>exact qB h
 |agg cs=>exact UO h
 |sl a b c=>exact Rc (d:=.sl a b c) h
 |im a b c e=>exact Rc (d:=.im a b c e) h
 |_=>trivial
theorem UP:∀{rs:List Row},jo rs=true->rb rs
 |[],_=>trivial
 |⟨true,_,_,.gen [e]⟩::l,h=>by
  simp only[jo,aE]at h
  refine⟨?_,UP h.2⟩
  simp only[I0,if_true,ah.l,List.mem_singleton,forall_eq]
  exact UO h.1
 |⟨false,_,_,E⟩::l,h=>by
  simp only[jo,aE]at h
  refine⟨?_,UP h.2⟩
  simp only[I0,aA,if_false]
  exact ah.sR h.1
 |⟨true,_,_,.gen []⟩::l,h=>by simp[jo]at h
 |⟨true,_,_,.gen (_::_::_)⟩::l,h=>by simp[jo]at h
 |⟨true,_,_,.ints _ _⟩::l,h=>by simp[jo]at h
 |⟨true,_,_,.ag _⟩::l,h=>by simp[jo]at h
 |⟨true,_,_,.ai _ _⟩::l,h=>by simp[jo]at h
theorem xab{P:Program}{f:FuncId}{sig:List PT}{dt:List RT}{args:List D}{rows:List Row}{res:D}{out:List Row}(hs:(AW sig args&&AX dt rows)=true)(h:kg P f (kM sig args 0) (kh dt rows 0) res out):kg P f args rows res out:=by
 simp only[aE]at hs
 obtain⟨h1,h2⟩:=ZR (pre:=[]) hs.2
 exact kg.Jt (ZQ (pre:=[]) hs.1) (by rw[UM,h1]) h2 h
theorem xaL{P:Program}{f:FuncId}{refs:List Bool}{flat:Bool}{sig:List PT}{dt:List RT}{α:Type}{v:List D->List Row->α}{enc:α->D}{out:α->List Row}(he:∀args w,(callFunc f args).run P w=.ok (.enter f args) w)(h:∀args rows,kg P f (kM sig args 0) (kh dt rows 0) (enc (v args rows)) (out (v args rows)))
 (hf:flat=true->∀X,(sU (enc X)&&jo (out X))=true) (hy:bN f YB=true:=by rfl):bm P (FC f refs flat sig dt v enc out):=by
 refine⟨λ_=>he,λ_=>lE hy,λ_ args rows r r' hm=>?_,λ_ args rows p r r' hm=>?_,λ_ args rows α' v' r r' hm=>?_,λ_ args rows p α' v' r r' hm=>?_,λk hk=>(by cases hk),λk hk=>(by cases hk)⟩
 ·simp only[FC]at hm
  split at hm<;>cases hm
 ·simp only[FC]at hm
  split at hm<;>cases hm
 ·simp only[FC]at hm
  split at hm
  ·rename_i hs
   cases hm
   exact⟨xab hs (h args rows),λe=>by have:=hf e (v args rows);simp only[aE]at this;exact⟨zab this.1,UP this.2⟩⟩
  ·cases hm
 ·simp only[FC]at hm
  split at hm<;>cases hm
theorem Fp{P:Program}{f:FuncId}{refs:List Bool}{flat:Bool}{sig:List PT}{dt:List RT}{pre:List D->List Row->Prop}{α:Type}{v:List D->List Row->α}{enc:α->D}{out:α->List Row}(he:∀args w,(callFunc f args).run P w=.ok (.enter f args) w)(h:∀args rows,pre args rows->kg P f (kM sig args 0) (kh dt rows 0) (enc (v args rows)) (out (v args rows)))
 (hf:flat=true->∀X,(sU (enc X)&&jo (out X))=true) (hy:bN f YB=true:=by rfl):bm P (kY f refs flat sig dt pre v enc out):=by
 refine⟨λ_=>he,λ_=>lE hy,λ_ args rows r r' hm=>?_,λ_ args rows p r r' hm=>?_,λ_ args rows α' v' r r' hm=>?_,λ_ args rows p α' v' r r' hm hp=>?_,λk hk=>(by cases hk),λk hk=>(by cases hk)⟩
 ·simp only[kY]at hm
  split at hm<;>cases hm
 ·simp only[kY]at hm
  split at hm<;>cases hm
 ·simp only[kY]at hm
  split at hm<;>cases hm
 ·simp only[kY]at hm
  split at hm
  ·rename_i hs
   cases hm
   exact⟨xab hs (h args rows hp),λe=>by have:=hf e (v args rows);simp only[aE]at this;exact⟨zab this.1,UP this.2⟩⟩
  ·cases hm
theorem xB{P:Program}{f:FuncId}{k:Nat}{sig:List PT}{dt:List RT}{args:List D}{rows:List Row}{res:D}{out:List Row}(hs:(AW sig args&&AX dt rows)=true)(h:tB P f k (kM sig args 0) (kh dt rows 0) res out):tB P f k args rows res out:=by
 simp only[aE]at hs
 obtain⟨h1,h2⟩:=ZR (pre:=[]) hs.2
 exact tB.Jt (ZQ (pre:=[]) hs.1) (by rw[UM,h1]) h2 h
theorem qaM{P:Program}{k:Nat}{f:FuncId}{refs:List Bool}{sig:List PT}{dt:List RT}{α:Type}{v:List D->List Row->α}{enc:α->D}{out:α->List Row}(he:f<YB->∀args w,(callFunc f args).run P w=.ok (.enter f args) w)(h:∀args rows,tB P f k (kM sig args 0) (kh dt rows 0) (enc (v args rows)) (out (v args rows))):
 bm P (Ju k f refs sig dt v enc out):=by
 refine⟨he,λhk=>(by cases hk),λhk=>(by cases hk),λhk=>(by cases hk),λhk=>(by cases hk),λhk=>(by cases hk),λk' hk args rows α' v' r r' hm=>?_,λk' hk args rows p α' v' r r' hm hp=>?_⟩
 ·cases hk
  simp only[Ju]at hm
  split at hm
  ·rename_i hs
   cases hm
   exact xB hs (h args rows)
  ·cases hm
 ·simp only[Ju]at hm
  split at hm<;>cases hm
theorem qaz{P:Program}{k:Nat}{f:FuncId}{refs:List Bool}{sig:List PT}{dt:List RT}{pre:List D->List Row->Prop}{α:Type}{v:List D->List Row->α}{enc:α->D}{out:α->List Row}(he:f<YB->∀args w,(callFunc f args).run P w=.ok (.enter f args) w)(h:∀args rows,pre args rows->tB P f k (kM sig args 0) (kh dt rows 0) (enc (v args rows)) (out (v args rows))):
 bm P (jI k f refs sig dt pre v enc out):=by
 refine⟨he,λhk=>(by cases hk),λhk=>(by cases hk),λhk=>(by cases hk),λhk=>(by cases hk),λhk=>(by cases hk),λk' hk args rows α' v' r r' hm=>?_,λk' hk args rows p α' v' r r' hm hp=>?_⟩
 ·simp only[jI]at hm
  split at hm<;>cases hm
 ·cases hk
  simp only[jI]at hm
  split at hm
  ·rename_i hs
   cases hm
   exact xB hs (h args rows hp)
  ·cases hm
def eh{α β:Type}(v:α)(m:α->β):β:=m v
def fk(α:Type)(x y:α):Prop:=x=y
abbrev rE{α:Type}(x:α):Prop:=x=x
abbrev zM:bd:={B4:={X:={a0:=0,a1:=0,a2:=0,a3:=0,a4:=0,a5:=0,a6:=0,a7:=0,a8:=0,a9:=0,kv:=0,ky:=0,a12:=0,kz:=0,kA:=0,kB:=0},Pc:=0,C3:={a0:=0,a1:=0,a2:=0,a3:=0,a4:=0,a5:=0,a6:=0,a7:=0}},Mem:=[],B1:={D9:=[]},B8:={F1:=false,D3:=0,E0:=false},B7:={ab:=0,C8:=0,Frame:=0,C7:=0,F6:=0,C5:=0,C6:=0,C9:=[]},D2:={Frame:=0,F7:=0,D1:=false,D4:=0,C4:=false,F9:=0},A6:={A2:=0,D0:=0},B6:=0,B2:=false,B5:=false}
abbrev mE(m:bd)(P Q:Prop):Prop:=rE m.B4.X.a0/\rE m.B4.X.a1/\rE m.B4.X.a2/\rE m.B4.X.a3/\rE m.B4.X.a4/\rE m.B4.X.a5/\rE m.B4.X.a6/\rE m.B4.X.a7/\rE m.B4.X.a8/\rE m.B4.X.a9/\rE m.B4.X.kv/\rE m.B4.X.ky/\rE m.B4.X.a12/\rE m.B4.X.kz/\rE m.B4.X.kA/\rE m.B4.X.kB/\rE m.B4.Pc/\rE m.B4.C3.a0/\rE m.B4.C3.a1/\rE m.B4.C3.a2/\rE m.B4.C3.a3/\rE m.B4.C3.a4/\rE m.B4.C3.a5/\rE m.B4.C3.a6/\rE m.B4.C3.a7/\P/\rE m.B1.D9/\rE m.B8.F1/\rE m.B8.D3/\rE m.B8.E0/\rE m.B7.ab/\rE m.B7.C8/\rE m.B7.Frame/\rE m.B7.C7/\rE m.B7.F6/\rE m.B7.C5/\rE m.B7.C6/\rE m.B7.C9/\rE m.D2.Frame/\rE m.D2.F7/\rE m.D2.D1/\rE m.D2.D4/\rE m.D2.C4/\rE m.D2.F9/\rE m.A6.A2/\rE m.A6.D0/\rE m.B6/\rE m.B2/\rE m.B5/\Q
abbrev mR(f:Nat->D)(M:List Int):bd:=(⟨(⟨(⟨(f 0).toInt,(f 1).toInt,(f 2).toInt,(f 3).toInt,(f 4).toInt,(f 5).toInt,(f 6).toInt,(f 7).toInt,(f 8).toInt,(f 9).toInt,(f 10).toInt,(f 11).toInt,(f 12).toInt,(f 13).toInt,(f 14).toInt,(f 15).toInt⟩:(iv Int)),(f 16).toInt,(⟨(f 17).toInt,(f 18).toInt,(f 19).toInt,(f 20).toInt,(f 21).toInt,(f 22).toInt,(f 23).toInt,(f 24).toInt⟩:(A8 Int))⟩:bn),M,(⟨(f 26).toStr⟩:iK),(⟨(f 27).toBool,(f 28).toInt,(f 29).toBool⟩:iS),(⟨(f 30).toInt,(f 31).toInt,(f 32).toInt,(f 33).toInt,(f 34).toInt,(f 35).toInt,(f 36).toInt,(f 37).toStr⟩:fu),(⟨(f 38).toInt,(f 39).toInt,(f 40).toBool,(f 41).toInt,(f 42).toBool,(f 43).toInt⟩:gw),(⟨(f 44).toInt,(f 45).toInt⟩:gb),(f 46).toInt,(f 47).toBool,(f 48).toBool⟩:bd)
abbrev mD(x:bd)(d:D):List D:=[.int u32 x.B4.X.a0,.int u32 x.B4.X.a1,.int u32 x.B4.X.a2,.int u32 x.B4.X.a3,.int u32 x.B4.X.a4,.int u32 x.B4.X.a5,.int u32 x.B4.X.a6,.int u32 x.B4.X.a7,.int u32 x.B4.X.a8,.int u32 x.B4.X.a9,.int u32 x.B4.X.kv,.int u32 x.B4.X.ky,.int u32 x.B4.X.a12,.int u32 x.B4.X.kz,.int u32 x.B4.X.kA,.int u32 x.B4.X.kB,.int u32 x.B4.Pc,.int u32 x.B4.C3.a0,.int u32 x.B4.C3.a1,.int u32 x.B4.C3.a2,.int u32 x.B4.C3.a3,.int u32 x.B4.C3.a4,.int u32 x.B4.C3.a5,.int u32 x.B4.C3.a6,.int u32 x.B4.C3.a7,d,.str x.B1.D9,.bool x.B8.F1,.int u32 x.B8.D3,.bool x.B8.E0,.int u32 x.B7.ab,.int u32 x.B7.C8,.int u32 x.B7.Frame,.int i64 x.B7.C7,.int i64 x.B7.F6,.int u32 x.B7.C5,.int u32 x.B7.C6,.str x.B7.C9,.int u32 x.D2.Frame,.int u32 x.D2.F7,.bool x.D2.D1,.int u32 x.D2.D4,.bool x.D2.C4,.int u32 x.D2.F9,.int u32 x.A6.A2,.int u32 x.A6.D0,.int u64 x.B6,.bool x.B2,.bool x.B5]
abbrev mB(f:Nat->D):List D:=[f 0,f 1,f 2,f 3,f 4,f 5,f 6,f 7,f 8,f 9,f 10,f 11,f 12,f 13,f 14,f 15,f 16,f 17,f 18,f 19,f 20,f 21,f 22,f 23,f 24,f 25,f 26,f 27,f 28,f 29,f 30,f 31,f 32,f 33,f 34,f 35,f 36,f 37,f 38,f 39,f 40,f 41,f 42,f 43,f 44,f 45,f 46,f 47,f 48]
abbrev rZ:Prop:=rE (0:Nat)/\rE (0:Nat)
abbrev nR(k:RK)(n:Nat)(x:List (RK.T k)):Prop:=(ah.Nil (ah.ai k x)\/rE n)/\rE x
abbrev aC(l:List D)(n:Nat):List D:=(l.getD n .dead).cells
theorem nE{p:Prop}(h:p:=by((subst_vars;first|trivial|assumption|omega|((simp(config:={decide:=true,failIfUnchanged:=false}) only[aE,Bool.or_eq_true,Bool.and_eq_false_iff,Bool.or_eq_false_iff,Bool.not_eq_true',Bool.not_eq_false',Bool.not_eq_true,Bool.not_eq_false,decide_eq_true_eq,decide_eq_false_iff_not,ZN,Q38,ZO,Q36,beq_iff_eq,beq_eq_false_iff_ne,bne_iff_ne,bne_eq_false_iff_eq,ne_eq,List.all_cons,List.all_nil,D.plain,List.length_cons,List.length_nil,lA,List.length_set,List.length_replicate,wrap_i64,wrap_u64,wrap_u32,wrap_i32,wrap_u8,true_and,and_true,or_false,false_or,or_true,true_or,not_true_eq_false,not_false_eq_true,Prod.fst,Prod.snd]at*);first|done|assumption|omega)|((simp(config:={decide:=true,failIfUnchanged:=false}) only[aE,Bool.or_eq_true,Bool.and_eq_false_iff,Bool.or_eq_false_iff,Bool.not_eq_true',Bool.not_eq_false',Bool.not_eq_true,Bool.not_eq_false,decide_eq_true_eq,decide_eq_false_iff_not,ZN,Q38,ZO,Q36,beq_iff_eq,beq_eq_false_iff_ne,bne_iff_ne,bne_eq_false_iff_eq,ne_eq,List.all_cons,List.all_nil,D.plain,List.length_cons,List.length_nil,lA,List.length_set,List.length_replicate,wrap_i64,wrap_u64,wrap_u32,wrap_i32,wrap_u8,true_and,and_true,or_false,false_or,or_true,true_or,not_true_eq_false,not_false_eq_true,Prod.fst,Prod.snd]at*);simp only[<-List.length_pos_iff]at*;omega)|(simp_all;done)|(have:= @Qh3;simp_all;try omega)))):p:=h
def run{α β:Type}[Inhabited β](F:α->α⊕β):Nat->α->β
 |0,_=>default
 |k+1,a=>match F a with|.inl a'=>run F k a'|.inr b=>b
theorem zB{α β:Type}[Inhabited β]{F:α->α⊕β}{P:α->Prop}{R:β->Prop}{μ:α->Nat}(h:∀a,P a->match F a with|.inl a'=>P a'/\μ a'<μ a|.inr b=>R b):∀k a,P a->μ a<k->R (run F k a):=by
 intro k
 induction k with
 |zero=>intro a _ hk;omega
 |succ k ih=>
  intro a ha hk
  have:=h a ha
  unfold run
  split at this
  ·rename_i a' he;exact ih a' this.1 (by omega)
  ·exact this
inductive Tree:Type->Type 1 where
 |lf {β:Type} (x:β):Tree β
 |nx {β:Type} (f:Prop) (x:β) (h:f:=by first|trivial|(simp[fk];done)|decide|(simp only[and_true,true_and,or_true,true_or,and_self];done)|((repeat'(first|exact True.intro|apply And.intro|exact rfl|exact Or.inr rfl));done)):Tree β
 |br {β:Type} (c:Bool) (t e:Tree β):Tree β
 |cn {β:Type} (c:Bool) (t:Tree β):Tree β
 |fl {β:Type} (c:Bool) (t:Tree β):Tree β
 |an {β:Type} (p:Prop) (t:Tree β):Tree β
 |lv {α β:Type} (x:α) (k:α->Tree β):Tree β
 |lp {α β:Type} (d:Inhabited β) (n:Nat) (f:Prop) (x:α) (t:α->Tree (α⊕β)) (h:f:=by first|trivial|(simp[fk];done)|decide|(simp only[and_true,true_and,or_true,true_or,and_self];done)|((repeat'(first|exact True.intro|apply And.intro|exact rfl|exact Or.inr rfl));done)):Tree β
def Tree.m{β:Type}:Tree β->β
 |.lf x=>x
 |.nx _ x _=>x
 |.br c t e=>cond c t.m e.m
 |.cn _ t=>t.m
 |.fl _ t=>t.m
 |.an _ t=>t.m
 |.lv x k=>eh x λy=>(k y).m
 |.lp _ n _ x t _=>run (λy=>(t y).m) n x
def lQ{α β:Type}(B:α->(α⊕β->Prop)->Prop)(W:β->Prop)(n:Nat)(y:α):Prop:=
 match n with
 |0=>False
 |k+1=>B y (hJ (λz=>lQ B W k z) W)
termination_by n
theorem ZT{α β:Type}{B:α->(α⊕β->Prop)->Prop}{W:β->Prop}{y:α}:lQ B W 0 y=False:=by rw[lQ]
theorem Mp{α β:Type}{B:α->(α⊕β->Prop)->Prop}{W:β->Prop}{k:Nat}{y:α}:lQ B W (k+1) y=B y (hJ (λz=>lQ B W k z) W):=by rw[lQ]
def Tree.w{β:Type}:Tree β->(β->Prop)->Prop
 |.lf x,W=>W x
 |.nx _ x _,W=>W x
 |.br c t e,W=>wS c (t.w W) (e.w W)
 |.cn c t,W=>cu c (t.w W)
 |.fl c t,W=>wS c False (t.w W)
 |.an p t,W=>p/\t.w W
 |.lv x k,W=>∀y,y=x->(k y).w W
 |.lp _ n _ x t _,W=>lQ (λy V=>(t y).w V) W n x
def Tree.q{β:Type}:Tree β->(β->Prop)->Prop
 |.lf x,L=>L x
 |.nx f x _,L=>L x/\f
 |.br c t e,L=>wS c (t.q L) (e.q L)
 |.cn c t,L=>cu c (t.q L)
 |.fl c t,L=>wS c False (t.q L)
 |.an p t,L=>p/\t.q L
 |.lv x k,L=>∀y,y=x->(k y).q L
 |.lp (α:=α) _ _ f x t _,L=>∃(uT:α->Prop),∃(ν:α->Nat),uT x/\f/\∀y,uT y->(t y).q (hJ (λz=>uT z/\ν z<ν y) L)
theorem Tree.main{β:Type}(t:Tree β):∀{W L E:β->Prop},(∀x,W x->E x->L x)->t.w W->E t.m->t.q L:=by
 induction t with
 |lf x=>intro W L E h hw he;exact h x hw he
 |nx f x hf=>intro W L E h hw he;exact⟨h x hw he,hf⟩
 |br c t e Jw Jx=>
  intro W L E h hw he
  cases c with
  |true=>exact Jw h hw he
  |false=>exact Jx h hw he
 |cn c t ih=>intro W L E h hw he;exact de.2 ⟨(de.1 hw).1,ih h (de.1 hw).2 he⟩
 |fl c t ih=>
  intro W L E h hw he
  cases c with
  |true=>exact hw.elim
  |false=>exact ih h hw he
 |an p t ih=>intro W L E h hw he;exact⟨hw.1,ih h hw.2 he⟩
 |lv x k ih=>intro W L E h hw he y hy;subst hy;exact ih y h (hw y rfl) he
 |lp d n f x t hf ih=>
  intro W L E h hw he
  have H:∀k y,lQ (λy V=>(t y).w V) W k y->E (@run _ _ d (λy=>(t y).m) k y)->∃j,j<k/\k=j+1:=by
   intro k y h1 _
   cases k with
   |zero=>rw[ZT]at h1;exact h1.elim
   |succ k=>exact⟨k,Nat.lt_succ_self k,rfl⟩
  let P:Nat->_->Prop:=λk y=>lQ (λy V=>(t y).w V) W k y/\E (@run _ _ d (λy=>(t y).m) k y)
  have least:∀y,(∃k,P k y)->∃k,P k y/\∀j,P j y->k<=j:=by
   intro y ⟨k,hk⟩
   induction k using Nat.strongRecOn with
   |ind k ihk=>
    by_cases hj:∃j,j<k/\P j y
    ·obtain⟨j,h1,h2⟩:=hj;exact ihk j h1 h2
    ·exact⟨k,hk,λj h2=>Nat.le_of_not_lt λh1=>hj ⟨j,h1,h2⟩⟩
  have ch:∃ν:_->Nat,∀y,(∃k,P k y)->P (ν y) y/\∀j,P j y->ν y<=j:=Classical.axiomOfChoice (r:=λy k=>(∃k,P k y)->P k y/\∀j,P j y->k<=j) λy=>by
   by_cases hy:∃k,P k y
   ·obtain⟨k,hk⟩:=least y hy;exact⟨k,λ_=>hk⟩
   ·exact⟨0,λh=>absurd h hy⟩
  obtain⟨ν,hν⟩:=ch
  refine⟨λy=>∃k,P k y,ν,⟨n,hw,he⟩,hf,λy hy=>?_⟩
  have Rd:=hν y hy
  generalize wR:ν y=k0 at Rd
  obtain⟨⟨h1,h2⟩,_⟩:=Rd
  obtain⟨j,_,rfl⟩:=H k0 y h1 h2
  rw[Mp]at h1
  refine ih y (E:=hJ (λz=>E (@run _ _ d (λy=>(t y).m) j z)) E) ?_ h1 ?_
  ·intro z Hs ZU
   cases z with
   |inl z=>
    have hz:∃k,P k z:=⟨j,Hs,ZU⟩
    refine⟨hz,?_⟩
    have:=(hν z hz).2 j ⟨Hs,ZU⟩
    show ν z<j+1
    omega
   |inr z=>exact h z Hs ZU
  ·unfold run at h2
   cases hF:(t y).m with
   |inl z=>rw[hF]at h2;exact h2
   |inr z=>rw[hF]at h2;exact h2
abbrev Tree.p{β:Type}(t:Tree β):Prop:=t.w λ_=>True
theorem Tree.main'{β:Type}{t:Tree β}{L:β->Prop}(hw:t.p)(h:L t.m):t.q L:=t.main (λ_ _ h=>h) hw h
theorem Tree.mono{β:Type}(t:Tree β):∀{W V:β->Prop},(∀x,W x->V x)->t.w W->t.w V:=by
 induction t with
 |lf x=>intro W V h hw;exact h x hw
 |nx f x hf=>intro W V h hw;exact h x hw
 |br c t e Jw Jx=>
  intro W V h hw
  cases c with
  |true=>exact Jw h hw
  |false=>exact Jx h hw
 |cn c t ih=>intro W V h hw;exact de.2 ⟨(de.1 hw).1,ih h (de.1 hw).2⟩
 |fl c t ih=>
  intro W V h hw
  cases c with
  |true=>exact hw.elim
  |false=>exact ih h hw
 |an p t ih=>intro W V h hw;exact⟨hw.1,ih h hw.2⟩
 |lv x k ih=>intro W V h hw y hy;exact ih y h (hw y hy)
 |lp d n f x t hf ih=>
  intro W V h hw
  revert x
  show∀x,lQ (λy V=>(t y).w V) W n x->lQ (λy V=>(t y).w V) V n x
  induction n with
  |zero=>intro x hw;rw[ZT]at hw;exact hw.elim
  |succ n ZV=>
   intro x hw
   rw[Mp]at hw⊢
   refine ih x (λz hz=>?_) hw
   cases z with
   |inl z=>exact ZV z hz
   |inr z=>exact h z hz
theorem Tree.post{β:Type}(t:Tree β):∀{W:β->Prop},t.w W->W t.m:=by
 induction t with
 |lf x=>intro W hw;exact hw
 |nx f x hf=>intro W hw;exact hw
 |br c t e Jw Jx=>
  intro W hw
  cases c with
  |true=>exact Jw hw
  |false=>exact Jx hw
 |cn c t ih=>intro W hw;exact ih (de.1 hw).2
 |fl c t ih=>
  intro W hw
  cases c with
  |true=>exact hw.elim
  |false=>exact ih hw
 |an p t ih=>intro W hw;exact ih hw.2
 |lv x k ih=>intro W hw;exact ih x (hw x rfl)
 |lp d n f x t hf ih=>
  intro W hw
  revert x
  show∀x,lQ (λy V=>(t y).w V) W n x->W (@run _ _ d (λy=>(t y).m) n x)
  induction n with
  |zero=>intro x hw;rw[ZT]at hw;exact hw.elim
  |succ n ZV=>
   intro x hw
   rw[Mp]at hw
   have:=ih x hw
   unfold run
   cases hF:(t x).m with
   |inl z=>rw[hF]at this;exact ZV z this
   |inr z=>rw[hF]at this;exact this
theorem Tree.pp{β:Type}{t:Tree β}{W:β->Prop}(h:t.w W):t.p/\W t.m:=⟨t.mono (λ_ _=>trivial) h,t.post h⟩
section
variable {α β:Type} {W:β->Prop} {c:Bool} {t e:Tree β}
theorem bh{x:β}(h:W x):(Tree.lf x).w W:=h
theorem e6{f:Prop}{x:β}{hf:f}(h:W x):(Tree.nx f x hf).w W:=h
theorem ae(h:c=true->t.w W)(g:c=false->e.w W):(Tree.br c t e).w W:=Yu.2 ⟨h,g⟩
theorem ax(h:c=true)(g:t.w W):(Tree.cn c t).w W:=de.2 ⟨h,g⟩
theorem Vq(h:c=false)(g:t.w W):(Tree.fl c t).w W:=Yu.2 ⟨λe=>(by rw[h]at e;cases e),λ_=>g⟩
theorem c9{p:Prop}(h:p)(g:t.w W):(Tree.an p t).w W:=⟨h,g⟩
theorem aq{x:α}{k:α->Tree β}(h:∀y,y=x->(k y).w W):(Tree.lv x k).w W:=h
theorem fp{d:Inhabited β}{n:Nat}{f:Prop}{x:α}{k:α->Tree (α⊕β)}{hf:f}{inv:α->Prop}{μ:α->Nat}(h:inv x)(hn:μ x<n)(g:∀y,inv y->(k y).w (hJ (λz=>inv z/\μ z<μ y) W)):(Tree.lp d n f x k hf).w W:=by
 show lQ (λy V=>(k y).w V) W n x
 revert x
 induction n with
 |zero=>intro x h hn;omega
 |succ n ih=>
  intro x h hn
  rw[Mp]
  refine(k x).mono (λz hz=>?_) (g x h)
  cases z with
  |inl z=>exact ih hz.1 (by have:=hz.2;omega)
  |inr z=>exact hz
end
theorem wL{β:Type}{x:β}:(Tree.lf x).p:=trivial
theorem wB{β:Type}{c:Bool}{t e:Tree β}(h:t.p)(g:e.p):(Tree.br c t e).p:=by cases c<;>assumption
structure lH(T:e7)(G:List ba)(L:Code->St->(Ex->St->Prop)->Prop)(fn:Func)(args:List D)(rows:List Row)(ds:List mw)(Q:D->List Row->Prop):Prop where
 h:j5 T G L fn args rows λd R=>nL rows.length ds d R Q
theorem lH.of{T:e7}{G:List ba}{L:Code->St->(Ex->St->Prop)->Prop}{fn:Func}{args:List D}{rows:List Row}{ds:List mw}{Q:D->List Row->Prop}{p:Prop}(e:(j5 T G L fn args rows λd R=>nL rows.length ds d R Q)=p)(hl:p):lH T G L fn args rows ds Q:=⟨by rw[e];exact hl⟩
theorem lH.calls{P:Program}(hD:pk P){T:e7}(hT:jb P T){G:List ba}(hG:jr P G){f:FuncId}{fn:Func}(hf:P.funcs[f]?=some fn){args:List D}{rows:List Row}{res:D}{aj:List Row}
 {rf:Option Nat} (mo:∀code,fn.body=some code->RF rf fn.ntmps code) {L:Code->St->(Ex->St->Prop)->Prop} (hL:∀code st Q,RF rf fn.ntmps code->L code st Q->Tr P fn.ntmps rows.length code st Q) {ds:List mw} (h:lH T G L fn args rows ds λr o=>r=res/\o=aj):kg P f args rows res aj:=
 vv hD hT hG hf mo hL (λd R hQ=>by obtain⟨r,o,⟨rfl,rfl⟩,hE⟩:=Zan hQ;exact hE) h.h
structure sS(T:e7)(G:List ba)(L:Code->St->(Ex->St->Prop)->Prop)(fn:Func)(args:List D)(rows:List Row)(k:Nat)(ds:List mw)(Q:D->List Row->Prop):Prop where
 h:Fg T G L fn args rows (λd R=>nL k ds d R Q) k
theorem sS.of{T:e7}{G:List ba}{L:Code->St->(Ex->St->Prop)->Prop}{fn:Func}{args:List D}{rows:List Row}{k:Nat}{ds:List mw}{Q:D->List Row->Prop}{p:Prop}(e:(Fg T G L fn args rows (λd R=>nL k ds d R Q) k)=p)(hl:p):sS T G L fn args rows k ds Q:=⟨by rw[e];exact hl⟩
theorem sS.calls{P:Program}(hD:pk P){T:e7}(hT:jb P T){G:List ba}(hG:jr P G){f:FuncId}{fn:Func}{args:List D}{rows:List Row}{k:Nat}{res:D}{aj:List Row}{rf:Option Nat}(hf:oJ P f fn (pR (oh args++kp rows)=true/\rf=none))(mo:∀code,fn.body=some code->RF rf fn.ntmps code)
 {L:Code->St->(Ex->St->Prop)->Prop} (hL:∀ro,(ro=none\/rf=none)->∀code st Q,RF rf fn.ntmps code->L code st Q->tF ro P fn.ntmps k code st Q) {ds:List mw} (h:sS T G L fn args rows k ds λr o=>r=res/\o=aj):tB P f k args rows res aj:=
 qaJ hD hT hG hf mo hL (λd R hQ=>by obtain⟨r,o,⟨rfl,rfl⟩,hE⟩:=Zan hQ;exact hE) h.h
section
variable {P:Program} {T:e7} {G:List ba} {f:FuncId} {fn:Func} {refs:List Bool} {flat:Bool} {sig:List PT} {dt:List RT} {pre:List D->List Row->Prop} {β:Type} {v:List D->List Row->β} {enc:β->D} {out:β->List Row}
theorem oJ.imp{cl cl':Prop}(h:oJ P f fn cl)(g:cl->cl'):oJ P f fn cl':=by
 cases h with
 |real a b c=>exact .real a b c
 |yield a y d b c e f g1 g2 h i=>exact .yield a y d b c e f g1 g2 h (g i)
 |uB a y q b c e f g1 h i j k=>exact .uB a y q b c e f g1 h i j (g k)
theorem Zb6(rf:Option Nat)(mo:∀code,fn.body=some code->RF rf fn.ntmps code)(hD:pk P)(hT:jb P T)(hG:jr P G)(hf:P.funcs[f]?=some fn)(t:List D->List Row->Tree β)(ds:List mw)(fm:List (Nat×cg))(dep:Nat)
 (hn:∀args rows Q,(j5 T G (AB T G fn.ntmps dt.length fm rf dep) fn (kM sig args 0) (kh dt rows 0) λd R=>nL dt.length ds d R Q)=(t args rows).q λX=>Q (enc X) (out X)) (hv:∀args rows,(t args rows).m=v args rows) {args:List D} {rows:List Row} (hp:(t args rows).p):
 kg P f (kM sig args 0) (kh dt rows 0) (enc (v args rows)) (out (v args rows)):=by
 have e:(kh dt rows 0).length=dt.length:=UM
 refine lH.calls hD hT hG hf mo (L:=AB T G fn.ntmps dt.length fm rf dep) (λcode st Q hc hl=>by rw[e];exact FX hD hT hG (.inl rfl) dep _ _ _ hc hl) (ds:=ds) ⟨?_⟩
 rw[e,hn]
 refine Tree.main' hp ?_
 rw[hv]
 exact⟨rfl,rfl⟩
theorem Z7v(rf:Option Nat)(mo:∀code,fn.body=some code->RF rf fn.ntmps code){k:Nat}(hD:pk P)(hT:jb P T)(hG:jr P G)(hf:oJ P f fn ((∀args rows,pR (oh (kM sig args 0)++kp (kh dt rows 0))=true)/\rf=none))(t:List D->List Row->Tree β)(ds:List mw)(fm:List (Nat×cg))(dep:Nat)
 (hn:∀args rows Q,(Fg T G (AB T G fn.ntmps k fm rf dep) fn (kM sig args 0) (kh dt rows 0) (λd R=>nL k ds d R Q) k)=(t args rows).q λX=>Q (enc X) (out X)) (hv:∀args rows,(t args rows).m=v args rows) {args:List D} {rows:List Row} (hp:(t args rows).p):
 tB P f k (kM sig args 0) (kh dt rows 0) (enc (v args rows)) (out (v args rows)):=by
 refine sS.calls hD hT hG (hf.imp λh=>⟨h.1 args rows,h.2⟩) mo (L:=AB T G fn.ntmps k fm rf dep) (λro Di=>FX hD hT hG Di dep) (ds:=ds) ⟨?_⟩
 rw[hn]
 refine Tree.main' hp ?_
 rw[hv]
 exact⟨rfl,rfl⟩
theorem ZW(rf:Option Nat)(mo:∀code,fn.body=some code->RF rf fn.ntmps code)(hD:pk P)(hT:jb P T)(hG:jr P G)(hf:P.funcs[f]?=some fn)(he:∀args w,(callFunc f args).run P w=.ok (.enter f args) w)(t:List D->List Row->Tree β)(ds:List mw)(fm:List (Nat×cg))(dep:Nat)
 (hn:∀args rows Q,(j5 T G (AB T G fn.ntmps dt.length fm rf dep) fn (kM sig args 0) (kh dt rows 0) λd R=>nL dt.length ds d R Q)=(t args rows).q λX=>Q (enc X) (out X):=by intro _ _ _;kernel_rfl) (hv:∀args rows,(t args rows).m=v args rows:=by exactλ_ _=>rfl)
 (hp:∀args rows,pre args rows->(t args rows).p:=by exactλ_ _ h=>h) (jn:flat=true->∀X,(sU (enc X)&&jo (out X))=true:=by intro _ _;kernel_rfl) (hy:bN f YB=true:=by rfl):bm P (kY f refs flat sig dt pre v enc out):=
 Fp he (λargs rows hw=>Zb6 rf mo hD hT hG hf t ds fm dep hn hv (hp _ _ hw)) jn hy
theorem uL(hD:pk P)(hT:jb P T)(hG:jr P G)(hf:P.funcs[f]?=some fn)(he:∀args w,(callFunc f args).run P w=.ok (.enter f args) w)(t:List D->List Row->Tree β)(ds:List mw)(fm:List (Nat×cg))(dep:Nat)
 (hn:∀args rows Q,(j5 T G (LL T G fn.ntmps dt.length fm dep) fn (kM sig args 0) (kh dt rows 0) λd R=>nL dt.length ds d R Q)=(t args rows).q λX=>Q (enc X) (out X):=by intro _ _ _;kernel_rfl) (hv:∀args rows,(t args rows).m=v args rows:=by exactλ_ _=>rfl)
 (hp:∀args rows,pre args rows->(t args rows).p:=by exactλ_ _ h=>h) (jn:flat=true->∀X,(sU (enc X)&&jo (out X))=true:=by intro _ _;kernel_rfl) (hy:bN f YB=true:=by rfl):bm P (kY f refs flat sig dt pre v enc out):=
 ZW none (λ_ _=>trivial) hD hT hG hf he t ds fm dep hn hv hp jn hy
theorem zaz(rf:Option Nat)(mo:∀code,fn.body=some code->RF rf fn.ntmps code)(hD:pk P)(hT:jb P T)(hG:jr P G)(hf:P.funcs[f]?=some fn)(he:∀args w,(callFunc f args).run P w=.ok (.enter f args) w)(t:List D->List Row->Tree β)(ds:List mw)(fm:List (Nat×cg))(dep:Nat)
 (hn:∀args rows Q,(j5 T G (AB T G fn.ntmps dt.length fm rf dep) fn (kM sig args 0) (kh dt rows 0) λd R=>nL dt.length ds d R Q)=(t args rows).q λX=>Q (enc X) (out X)) (hv:∀args rows,(t args rows).m=v args rows)
 (hp:∀args rows,(t args rows).p) (jn:flat=true->∀X,(sU (enc X)&&jo (out X))=true) (hy:bN f YB=true:=by rfl):bm P (FC f refs flat sig dt v enc out):=
 xaL he (λargs rows=>Zb6 rf mo hD hT hG hf t ds fm dep hn hv (hp _ _)) jn hy
theorem Q1(hD:pk P)(hT:jb P T)(hG:jr P G)(hf:P.funcs[f]?=some fn)(he:∀args w,(callFunc f args).run P w=.ok (.enter f args) w)(t:List D->List Row->Tree β)(ds:List mw)(fm:List (Nat×cg))(dep:Nat)
 (hn:∀args rows Q,(j5 T G (LL T G fn.ntmps dt.length fm dep) fn (kM sig args 0) (kh dt rows 0) λd R=>nL dt.length ds d R Q)=(t args rows).q λX=>Q (enc X) (out X):=by intro _ _ _;kernel_rfl) (hv:∀args rows,(t args rows).m=v args rows:=by exactλ_ _=>rfl)
 (hp:∀args rows,(t args rows).p:=by intro _ _;exact Tree.nF (by kernel_rfl)) (jn:flat=true->∀X,(sU (enc X)&&jo (out X))=true:=by intro _ _;kernel_rfl) (hy:bN f YB=true:=by rfl):bm P (FC f refs flat sig dt v enc out):=
 zaz none (λ_ _=>trivial) hD hT hG hf he t ds fm dep hn hv hp jn hy
theorem Zon(rf:Option Nat)(mo:∀code,fn.body=some code->RF rf fn.ntmps code){k:Nat}(hD:pk P)(hT:jb P T)(hG:jr P G)(hf:oJ P f fn ((∀args rows,pR (oh (kM sig args 0)++kp (kh dt rows 0))=true)/\rf=none))(he:f<YB->∀args w,(callFunc f args).run P w=.ok (.enter f args) w)(t:List D->List Row->Tree β)(ds:List mw)(fm:List (Nat×cg))(dep:Nat)
 (hn:∀args rows Q,(Fg T G (AB T G fn.ntmps k fm rf dep) fn (kM sig args 0) (kh dt rows 0) (λd R=>nL k ds d R Q) k)=(t args rows).q λX=>Q (enc X) (out X)) (hv:∀args rows,(t args rows).m=v args rows)
 (hp:∀args rows,pre args rows->(t args rows).p):bm P (jI k f refs sig dt pre v enc out):=
 qaz he (λargs rows hw=>Z7v rf mo hD hT hG hf t ds fm dep hn hv (hp _ _ hw))
theorem sT{k:Nat}(hD:pk P)(hT:jb P T)(hG:jr P G)(hf:P.funcs[f]?=some fn)(he:∀args w,(callFunc f args).run P w=.ok (.enter f args) w)(t:List D->List Row->Tree β)(ds:List mw)(fm:List (Nat×cg))(dep:Nat)
 (hn:∀args rows Q,(Fg T G (LL T G fn.ntmps k fm dep) fn (kM sig args 0) (kh dt rows 0) (λd R=>nL k ds d R Q) k)=(t args rows).q λX=>Q (enc X) (out X)) (hv:∀args rows,(t args rows).m=v args rows)
 (hp:∀args rows,pre args rows->(t args rows).p) (hy:bN f YB=true:=by rfl) (hb:Nat.ble YB fn.nfree=false:=by rfl):bm P (jI k f refs sig dt pre v enc out):=
 Zon none (λ_ _=>trivial) hD hT hG (.real (lE hy) hf hb) (λ_=>he) t ds fm dep hn hv hp
theorem yB(rf:Option Nat)(mo:∀code,fn.body=some code->RF rf fn.ntmps code){k:Nat}(hD:pk P)(hT:jb P T)(hG:jr P G)(hf:oJ P f fn ((∀args rows,pR (oh (kM sig args 0)++kp (kh dt rows 0))=true)/\rf=none))(he:f<YB->∀args w,(callFunc f args).run P w=.ok (.enter f args) w)(t:List D->List Row->Tree β)(ds:List mw)(fm:List (Nat×cg))(dep:Nat)
 (hn:∀args rows Q,(Fg T G (AB T G fn.ntmps k fm rf dep) fn (kM sig args 0) (kh dt rows 0) (λd R=>nL k ds d R Q) k)=(t args rows).q λX=>Q (enc X) (out X)) (hv:∀args rows,(t args rows).m=v args rows)
 (hp:∀args rows,(t args rows).p):bm P (Ju k f refs sig dt v enc out):=
 qaM he (λargs rows=>Z7v rf mo hD hT hG hf t ds fm dep hn hv (hp _ _))
theorem zaM{k:Nat}(hD:pk P)(hT:jb P T)(hG:jr P G)(hf:P.funcs[f]?=some fn)(he:∀args w,(callFunc f args).run P w=.ok (.enter f args) w)(t:List D->List Row->Tree β)(ds:List mw)(fm:List (Nat×cg))(dep:Nat)
 (hn:∀args rows Q,(Fg T G (LL T G fn.ntmps k fm dep) fn (kM sig args 0) (kh dt rows 0) (λd R=>nL k ds d R Q) k)=(t args rows).q λX=>Q (enc X) (out X)) (hv:∀args rows,(t args rows).m=v args rows)
 (hp:∀args rows,(t args rows).p) (hy:bN f YB=true:=by rfl) (hb:Nat.ble YB fn.nfree=false:=by rfl):bm P (Ju k f refs sig dt v enc out):=
 yB none (λ_ _=>trivial) hD hT hG (.real (lE hy) hf hb) (λ_=>he) t ds fm dep hn hv hp
theorem vB(h:bm P (kY f refs flat sig dt pre v enc out)){args:List D}{rows:List Row}(hs:(AW sig args&&AX dt rows)=true)(hw:pre args rows):kg P f args rows (enc (v args rows)) (out (v args rows)):=
 (h.kW rfl args rows (pre args rows) β (v args rows) enc out (by simp only[kY,hs]) hw).1
end
def Tree.pM{β:Type}:Tree β->Bool
 |.lf _=>true
 |.br _ t e=>t.pM&&e.pM
 |.lv x k=>(k x).pM
 |_=>false
theorem Tree.nF{β:Type}{t:Tree β}(h:t.pM=true):t.p:=by
 induction t with
 |lf x=>trivial
 |br c t e Jw Jx=>
  simp only[Tree.pM,aE]at h
  cases c with
  |true=>exact Jw h.1
  |false=>exact Jx h.2
 |lv x k ih=>intro y hy;subst hy;exact ih _ h
 |_=>simp[Tree.pM]at h
theorem jr.nil{P:Program}:jr P []:=λx hx=>by cases hx
theorem jr.cons{P:Program}{x:ba}{G:List ba}(h:bm P x)(g:jr P G):jr P (x::G):=λy hy=>by
 simp only[List.mem_cons]at hy
 rcases hy with rfl|hy
 ·exact h
 ·exact g y hy

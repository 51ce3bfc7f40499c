import Derived.Test.YtaemmjbkndlkeaaGreatMigrateStartsFc
open Nat renaming blt->bN,beq->bX,le_refl->aX
open List renaming map_cons->fJ,getD->aV,getElem?_eq_getElem->aI,range'->bO,all_cons->gM,all_nil->hZ,length_cons->dD,length_nil->dE,length_set->dC,length_replicate->cS
open Bool renaming false_eq_true->aA,or_eq_true->aT,and_eq_false_iff->gY,or_eq_false_iff->gZ,not_eq_true'->bB,not_eq_false'->hH,not_eq_true->hJ,not_eq_false->hY
open Sum renaming elim->iA
set_option linter.all false
namespace Go.GD
open Go
open Go.IntKind(i64 u32 u64 wrap_i64 wrap_u32 wrap_u64 wrap_u8 wrap_i32)
variable {P:Program}{T:iy}{a b k s:Nat}{args oD:List D}{d res:D}{ds:List nd}{f:FuncId}{flat fr:Bool}{fn:Func}{refs:List Bool}
def lk(st:St)(t:Nat):D:=look st.env t
def rN(st:St)(t:Nat):Nat:=jM (look st.env t) 1000000
def cT(st:St)(t j:Nat):D:=ay st.rows (jM (look st.env t) 1000000) j
def rX(st:St)(t k:Nat):Nat:=jM (look st.env t) (st.rows.length+k)
theorem Qd4{α:Type}{l:List α}(h:l≠[]):0<l.length:=by cases l<;>simp_all
theorem Q36{a b:Nat}:bN a b=true↔a<b:=by simp[bN,Nat.lt_iff_add_one_le]
theorem Q23:bN a b=false↔ ¬a<b:=by have:= @Q36 a b;cases h:bN a b<;>simp_all
theorem Q39{a b:Nat}:bX a b=true↔a=b:=iff_of_eq Nat.beq_eq
theorem Q24:bX a b=false↔ ¬a=b:=by have:= @Q39 a b;cases h:bX a b<;>simp_all
def gd(d e:D):Prop:=∀c w v,dc c w d v->dc c w e v
def kd:List D->List D->Prop
 |[],[]=>True
 |d::l,e::m=>gd d e/\kd l m
 |_,_=>False
def rm:D->D->Prop
 |.agg cs,.agg ds=>kd cs ds
 |.agg _,_=>False
 |d,e=>gd d e
def Dn:List D->List D->Prop
 |[],[]=>True
 |d::l,e::m=>rm d e/\Dn l m
 |_,_=>False
theorem gd.rfl:gd d d:=λ_ _ _ h=>h
theorem gd.ints{k:IntKind}{E:ai}{l:List Int}(h:E.toI k=some l):gd (.sl s E fr) (.sl 1 (.ints k l) false):=by
 intro c w v hv
 have he:=ai.toI_l h
 obtain⟨a,cap,hv,hc,gu⟩:=hv
 rw[he]at hv hc gu
 refine⟨a,cap,hv,hc,?_⟩
 rcases gu with gu|⟨b,off,arr,ty,fz,ha,hI,hf,hh,hE⟩
 ·exact .inl gu
 ·cases l with
  |nil=>exact .inl (by simp[ai.l])
  |cons n l=>
   have h1:s=1:=by
    simp only[ai.l,fJ,pX,pL]at hE
    exact hE.1.symm
   subst h1
   exact .inr ⟨b,off,arr,ty,fz,ha,hI,(λe=>by cases e),hh,hE⟩
theorem gd.ag{E:ai}{l:List Bool}(h:E.toB=some l):gd (.sl s E fr) (.sl 1 (.ag l) false):=by
 intro c w v hv
 have he:=ai.toB_l h
 obtain⟨a,cap,hv,hc,gu⟩:=hv
 rw[he]at hv hc gu
 refine⟨a,cap,hv,hc,?_⟩
 rcases gu with gu|⟨b,off,arr,ty,fz,ha,hI,hf,hh,hE⟩
 ·exact .inl gu
 ·cases l with
  |nil=>exact .inl (by simp[ai.l])
  |cons n l=>
   have h1:s=1:=by
    simp only[ai.l,fJ,pX,pL]at hE
    exact hE.1.symm
   subst h1
   exact .inr ⟨b,off,arr,ty,fz,ha,hI,(λe=>by cases e),hh,hE⟩
theorem kd.rep{c:Ctx}{w:World}:∀{ds es:List D} {vs:List Value},kd ds es->jm c w ds vs->jm c w es vs
 |[],[],[],_,_=>trivial
 |d::l,e::m,v::vs,h,hr=>⟨h.1 _ _ _ hr.1,kd.rep h.2 hr.2⟩
 |[],_::_,_,h,_=>h.elim
 |_::_,[],_,h,_=>h.elim
 |[],[],_::_,_,hr=>hr.elim
 |_::_,_::_,[],_,hr=>hr.elim
theorem rm.rep{c:Ctx}{w:World}{d e:D}{v:Value}(h:rm d e)(hr:VRep c w d v):VRep c w e v:=by
 cases d with
 |agg cs=>
  cases e with
  |agg ds=>obtain⟨vs,hv,hx⟩:=hr;exact⟨vs,hv,kd.rep h hx⟩
  |_=>exact h.elim
 |_=>
  have h1:=VRep.toC (λcs e=>by cases e) hr
  have h2:gd _ e:=h
  exact VRep.Ep (h2 _ _ _ h1)
theorem Dn.rep{c:Ctx}{w:World}:∀{ds es:List D} {vs:List Value},Dn ds es->kj c w ds vs->kj c w es vs
 |[],[],[],_,_=>trivial
 |d::l,e::m,v::vs,h,hr=>⟨rm.rep h.1 hr.1,Dn.rep h.2 hr.2⟩
 |[],_::_,_,h,_=>h.elim
 |_::_,[],_,h,_=>h.elim
 |[],[],_::_,_,hr=>hr.elim
 |_::_,_::_,[],_,hr=>hr.elim
theorem kr.sub{rows:List Row}{aj:List Row}(hs:Dn args oD)(h:kr P f oD rows res aj):kr P f args rows res aj:=
 λc w vs hm hb hR ha=>h c w vs hm hb hR (Dn.rep hs ha)
theorem gd.ah{k:RK}{E:ai}{l:List (RK.T k)}(h:E.toR k=some l):gd (.sl s E fr) (.sl k.size (.ah k l) false):=by
 intro c w v hv
 have he:=ai.toR_l h
 obtain⟨a,cap,hv,hc,gu⟩:=hv
 rw[he]at hv hc gu
 refine⟨a,cap,hv,hc,?_⟩
 rcases gu with gu|⟨b,off,arr,ty,fz,ha,hI,hf,hh,hE⟩
 ·exact .inl gu
 ·cases l with
  |nil=>exact .inl (by simp[ai.l])
  |cons x l=>
   have h1:s=k.size:=by
    simp only[ai.l,fJ,pL]at hE
    rw[<-hE.1];exact RK.rB k x
   subst h1
   exact .inr ⟨b,off,arr,ty,fz,ha,hI,(λe=>by cases e),hh,hE⟩
theorem gd.Dp{E:ai}(h:E.l=[]):gd .c8 (.sl s E false):=by
 intro c w v hv
 exact⟨none,0,by rw[h];exact hv,by rw[h];exact aX _,.inl h⟩
theorem gd.Ka{E:ai}(h:E.l=[]):gd .emp (.sl s E false):=by
 intro c w v hv
 obtain⟨a,hv,_⟩:=hv
 exact⟨a,0,by rw[h];exact hv,by rw[h];exact aX _,.inl h⟩
def AN:List (Nat×Nat×Nat)->List (Nat×Nat×Nat)->Bool
 |[],[]=>true
 |(a,b,c)::l,(x,y,z)::m=>bX a x&&(bX b y&&(bX c z&&AN l m))
 |_,_=>false
def tj:List iE->List iE->Bool
 |[],[]=>true
 |.ptr a b c::l,.ptr x y z::m=>bX a x&&(bX b y&&(bX c z&&tj l m))
 |.fn f ps::l,.fn g qs::m=>bX f g&&(AN ps qs&&tj l m)
 |_,_=>false
theorem xB:∀{l m:List (Nat×Nat×Nat)},AN l m=true->l=m
 |[],[],_=>rfl
 |(a,b,c)::l,(x,y,z)::m,h=>by
  simp only[AN,aE]at h
  rw[bE h.1,bE h.2.1,bE h.2.2.1,xB h.2.2.2]
 |[],_::_,h=>by simp[AN]at h
 |_::_,[],h=>by simp[AN]at h
theorem zB:∀{l m:List iE},tj l m=true->l=m:=by
 intro l
 induction l with
 |nil=>intro m h;cases m with
  |nil=>rfl
  |cons _ _=>simp[tj]at h
 |cons a l ih=>
  intro m h
  cases m with
  |nil=>cases a<;>simp[tj]at h
  |cons b m=>
   cases a<;>cases b<;>simp only[tj,aE,aA]at h
   ·rw[bE h.1,bE h.2.1,bE h.2.2.1,ih h.2.2.2]
   ·rw[bE h.1,xB h.2.1,ih h.2.2]
def AO:CT->D->Bool
 |.int k,.int j _=>decide (j=k)
 |.bool,.bool _=>true
 |.str,.str _=>true
 |.ints k,.sl _ E _=>(match E.toI k with|some _=>true|none=>false)
 |.ag,.sl _ E _=>(match E.toB with|some _=>true|none=>false)
 |.ah k,.sl _ E _=>(match E.toR k with|some _=>true|none=>false)
 |.ints _,.c8=>true
 |.ag,.c8=>true
 |.ah _,.c8=>true
 |.ints _,.emp=>true
 |.ag,.emp=>true
 |.ah _,.emp=>true
 |.row i,.all r=>bX r i
 |.nil,.sl s (.gen []) false=>bX s 0
 |.Ih,.c8=>true
 |.self _,.iz=>true
 |.gm f cs,.gm g ds=>bX g f&&tj ds cs
 |.self i,.gq r=>bX r i
 |.self i,.ptr r o f=>bX r i&&(bX o 0&&bX f 0)
 |.pt i a b,.ptr r o f=>bX r i&&(bX o a&&bX f b)
 |_,_=>false
inductive PT where
 |one (t:CT)
 |agg (ts:List CT)
 |ptr (i:Nat)
 |gm (f:Nat) (cs:List iE)
inductive RT where
 |box (ty sz:Nat) (ts:List CT)
 |arr (ty sz:Nat) (t:CT)
def Kb:List CT->List D->Bool
 |[],[]=>true
 |t::ts,d::ds=>AO t d&&Kb ts ds
 |_,_=>false
def uX:PT->D->Bool
 |.agg ts,.agg cs=>Kb ts cs
 |.one t,d=>AO t d
 |.ptr i,.ptr r j o=>bX r i&&(bX j 0&&bX o 0)
 |.gm f cs,.gm g ds=>bX g f&&tj ds cs
 |_,_=>false
def HL:PT->D->D
 |.agg ts,d=>.agg (wa ts d.cells 0)
 |.one t,d=>DB t d
 |.ptr i,_=>.ptr i 0 0
 |.gm f cs,_=>.gm f cs
def Bp:List PT->List D->Bool
 |[],[]=>true
 |s::l,d::ds=>uX s d&&Bp l ds
 |_,_=>false
def kZ:List PT->List D->Nat->List D
 |[],_,_=>[]
 |s::l,args,i=>HL s (args.getD i .dead)::kZ l args (i+1)
def Row.cs(r:Row):List D:=match r.es with|.gen [e]=>e|_=>[]
def uY:RT->Row->Bool
 |.box ty sz ts,⟨true,jV,j9,.gen [e]⟩=>bX jV ty&&(bX j9 sz&&Kb ts e)
 |.arr ty sz t,⟨false,jV,j9,E⟩=>bX jV ty&&(bX j9 sz&&(match toCT t E with|some _=>true|none=>false))
 |_,_=>false
def Sg(t:CT)(E:ai):ai:=match t with
 |.ints k=>.ints k (match E.toI k with|some l=>l|none=>[])
 |.ag=>.ag (match E.toB with|some l=>l|none=>[])
 |.ah k=>.ah k (match E.toR k with|some l=>l|none=>[])
 |_=>.gen []
theorem qaB{t:CT}{E E':ai}(h:toCT t E=some E'):Sg t E=E':=by
 cases t with
 |ints k=>
  simp only[toCT]at h
  split at h
  ·rename_i l hl
   cases h
   show ai.ints k (match E.toI k with|some l=>l|none=>[])=_
   rw[hl]
  ·cases h
 |ag=>
  simp only[toCT]at h
  split at h
  ·rename_i l hl
   cases h
   show ai.ag (match E.toB with|some l=>l|none=>[])=_
   rw[hl]
  ·cases h
 |ah k=>
  simp only[toCT]at h
  split at h
  ·rename_i l hl
   cases h
   show ai.ah k (match E.toR k with|some l=>l|none=>[])=_
   rw[hl]
  ·cases h
 |_=>simp[toCT]at h
def wU:RT->Row->Row
 |.box ty sz ts,r=>⟨true,ty,sz,.gen [wa ts r.cs 0]⟩
 |.arr ty sz t,r=>⟨false,ty,sz,Sg t r.es⟩
def Bq:List RT->List Row->Bool
 |[],[]=>true
 |s::l,r::rs=>uY s r&&Bq l rs
 |_,_=>false
def kA:List RT->List Row->Nat->List Row
 |[],_,_=>[]
 |s::l,rows,i=>wU s (rows.getD i default)::kA l rows (i+1)
def au(args:List D)(i:Nat):Int:=(args.getD i .dead).toInt
def kF(args:List D)(i:Nat):Bool:=(args.getD i .dead).toBool
def jF(args:List D)(i:Nat):List UInt8:=(args.getD i .dead).toStr
def de(k:IntKind)(args:List D)(i:Nat):List Int:=cj k (args.getD i .dead)
def na(args:List D)(i:Nat):List Bool:=ey (args.getD i .dead)
def jh(k:RK)(args:List D)(i:Nat):List (RK.T k):=iU k (args.getD i .dead)
def tk(rows:List Row)(i j:Nat):D:=((rows.getD i default).cs.getD j .dead)
def cy(k:IntKind)(rows:List Row)(i:Nat):List Int:=match(rows.getD i default).es.toI k with|some l=>l|none=>[]
def c9(k:RK)(rows:List Row)(i:Nat):List (RK.T k):=match(rows.getD i default).es.toR k with|some l=>l|none=>[]
theorem Zej{t:CT}(h:AO t d=true):gd d (DB t d):=by
 cases t<;>cases d<;>(try(simp[AO]at h;done))
 case int.int=>simp[AO]at h;subst h;exact gd.rfl
 case nil.sl s E fr=>
  unfold AO at h
  split at h<;>simp_all
  exact gd.rfl
 case Ih.c8=>exact gd.rfl
 case bool.bool=>exact gd.rfl
 case str.str=>exact gd.rfl
 case ints.sl k sz E fr=>
  simp only[AO]at h
  split at h
  ·rename_i l hl
   simp only[DB,cj,hl]
   exact gd.ints hl
  ·cases h
 case ints.c8=>exact gd.Dp rfl
 case ints.emp=>exact gd.Ka rfl
 case ag.sl sz E fr=>
  simp only[AO]at h
  split at h
  ·rename_i l hl
   simp only[DB,ey,hl]
   exact gd.ag hl
  ·cases h
 case ag.c8=>exact gd.Dp rfl
 case ag.emp=>exact gd.Ka rfl
 case ah.sl k sz E fr=>
  simp only[AO]at h
  split at h
  ·rename_i l hl
   simp only[DB,iU,hl]
   exact gd.ah hl
  ·cases h
 case ah.c8=>exact gd.Dp rfl
 case ah.emp=>exact gd.Ka rfl
 case row.all i r=>rw[bE h];exact gd.rfl
 case gm.gm f cs g ds=>
  simp only[AO,aE]at h
  rw[bE h.1,zB h.2]
  exact gd.rfl
 case self.iz i=>exactλc w v hv=>.inl hv
 case self.gq i r=>rw[bE h];exact gd.rfl
 case self.ptr i r o f=>
  simp only[AO,aE]at h
  rw[bE h.1,bE h.2.1,bE h.2.2]
  exactλc w v hv=>.inr hv
 case pt.ptr i a b r o f=>
  simp only[AO,aE]at h
  rw[bE h.1,bE h.2.1,bE h.2.2]
  exact gd.rfl
theorem Z0j:∀{ts:List CT} {pre ds:List D},Kb ts ds=true->kd ds (wa ts (pre++ds) pre.length)
 |[],pre,[],_=>trivial
 |t::ts,pre,d::ds,h=>by
  simp only[Kb,aE]at h
  have h2:=Z0j (pre:=pre++[d]) h.2
  simp only[wa]
  refine⟨?_,by simpa using h2⟩
  have:(pre++d::ds).getD pre.length .dead=d:=by simp[aV]
  rw[this];exact Zej h.1
 |[],_,_::_,h=>by simp[Kb]at h
 |_::_,_,[],h=>by simp[Kb]at h
theorem rm.of1{d e:D}(hd:∀cs,d≠.agg cs)(h:gd d e):rm d e:=by
 cases d<;>first|exact h|exact absurd rfl (hd _)
theorem Zto{s:PT}(h:uX s d=true):rm d (HL s d):=by
 unfold uX at h
 split at h
 ·rename_i ts cs
  exact Z0j (pre:=[]) h
 ·rename_i t d
  refine rm.of1 (λcs e=>?_) (Zej h)
  subst e
  cases t<;>simp[AO]at h
 ·rename_i i r j o
  simp only[aE]at h
  rw[bE h.1,bE h.2.1,bE h.2.2]
  exact gd.rfl
 ·rename_i f cs g ds
  simp only[aE]at h
  rw[bE h.1,zB h.2]
  exact gd.rfl
 ·cases h
theorem Z21:∀{l:List PT} {pre ds:List D},Bp l ds=true->Dn ds (kZ l (pre++ds) pre.length)
 |[],pre,[],_=>trivial
 |s::l,pre,d::ds,h=>by
  simp only[Bp,aE]at h
  have h2:=Z21 (pre:=pre++[d]) h.2
  simp only[kZ]
  refine⟨?_,by simpa using h2⟩
  have:(pre++d::ds).getD pre.length .dead=d:=by simp[aV]
  rw[this];exact Zto h.1
 |[],_,_::_,h=>by simp[Bp]at h
 |_::_,_,[],h=>by simp[Bp]at h
def tn(a b:Row):Prop:=b.box=a.box/\b.ty=a.ty/\b.sz=a.sz/\b.es.l.length=a.es.l.length/\match a.box with
 |true=>∃e e',a.es=.gen [e]/\b.es=.gen [e']/\e'.length=e.length/\kd e e'
 |false=>b.es.l=a.es.l
theorem kd.length:∀{ds es:List D},kd ds es->ds.length=es.length
 |[],[],_=>rfl
 |_::_,_::_,h=>by simp[kd.length h.2]
 |[],_::_,h=>h.elim
 |_::_,[],h=>h.elim
theorem Ztx{s:RT}{r:Row}(h:uY s r=true):tn r (wU s r):=by
 unfold uY at h
 split at h
 ·rename_i ty sz ts jV j9 e
  simp only[aE]at h
  have h3:=Z0j (pre:=[]) h.2.2
  have hl:=h3.length
  exact⟨rfl,(bE h.1).symm,(bE h.2.1).symm,rfl,_,_,rfl,rfl,hl.symm,h3⟩
 ·rename_i ty sz t jV j9 E
  simp only[aE]at h
  obtain⟨h1,h2,h3⟩:=h
  split at h3
  ·rename_i E' hE
   have he:=ai.Af (NG hE)
   have hc:wU (.arr ty sz t) ⟨false,jV,j9,E⟩=⟨false,ty,sz,E'⟩:=by simp[wU,qaB hE]
   rw[hc]
   exact⟨rfl,(bE h1).symm,(bE h2).symm,by simp only[he],he.symm⟩
  ·cases h3
 ·cases h
theorem Qw3:∀{l:List RT} {pre rs:List Row},Bq l rs=true->rs.length=l.length/\∀(i:Nat) r,rs[i]?=some r->∃r',(kA l (pre++rs) pre.length)[i]?=some r'/\tn r r'
 |[],pre,[],_=>⟨rfl,λi r h=>by simp at h⟩
 |s ::l,pre,r::rs,h=>by
  simp only[Bq,aE]at h
  obtain⟨h1,h2⟩:=Qw3 (pre:=pre++[r]) h.2
  refine⟨by simp[h1],λi q hq=>?_⟩
  cases i with
  |zero=>
   simp at hq;subst hq
   have:(pre++r::rs).getD pre.length default=r:=by simp[aV]
   exact⟨_,by simp only[kA,this];rfl,Ztx h.1⟩
  |succ i=>
   obtain⟨q',g1,g2⟩:=h2 i q (by simpa using hq)
   refine⟨q',?_,g2⟩
   simp only[kA,List.getElem?_cons_succ]
   simpa using g1
 |[],_,_::_,h=>by simp[Bq]at h
 |_::_,_,[],h=>by simp[Bq]at h
theorem VJ:∀{l:List RT} {rows:List Row} {i:Nat},(kA l rows i).length=l.length
 |[],_,_=>rfl
 |s::l,rows,i=>by simp[kA,VJ]
theorem yB:d.my (λr=>r) true=d:=by
 cases d with
 |gm f cs=>simp only[D.my,ZU]
 |_=>simp[D.my]
theorem VK:∀{ds:List D},D.mz (λr=>r) true ds=ds
 |[]=>rfl
 |d::l=>by simp[D.mz,yB,VK (ds:=l)]
theorem qaO:d.jg (λr=>r) true=d:=by
 cases d with
 |agg cs=>show D.agg (D.mz _ true cs)=_;rw[VK]
 |gm f cs=>exact yB (d:=.gm f cs)
 |_=>simp[D.jg,D.my]
theorem kd.cells{c:Ctx}{w:World}:∀{ds es:List D} {arr:Array Value} {off:Nat},kd ds es->kG c w ds arr off->kG c w es arr off
 |[],[],_,_,_,_=>trivial
 |d::l,e::m,_,_,h,⟨⟨v,hv,h1⟩,h2⟩=>⟨⟨v,hv,h.1 _ _ _ h1⟩,kd.cells h.2 h2⟩
 |[],_::_,_,_,h,_=>h.elim
 |_::_,[],_,_,h,_=>h.elim
theorem Zf1{c1 c2:Ctx}{w:World}(hn:Ec (λ_=>True) (λr=>r) true c1 c2)(hI:∀b,c1.I b->c2.I b):∀{ds:List D} {vs:List Value},kj c1 w ds vs->kj c2 w ds vs
 |[],[],_=>trivial
 |d::ds,v::vs,h=>⟨by have:=QZ hn (flat:=False) (.inl hI) (λ_ _=>trivial) (λe=>e.elim) h.1;rwa [qaO]at this,Zf1 hn hI h.2⟩
 |[],_::_,h=>h.elim
 |_::_,[],h=>h.elim
theorem kr.Kc{rows kM:List Row}{aj:List Row}(hs:Dn args oD)(hl:kM.length=rows.length)(hr:∀(i:Nat) r,rows[i]?=some r->∃r',kM[i]?=some r'/\tn r r')(h:kr P f oD kM res aj):kr P f args rows res aj:=by
 intro c w vs hm hb hR ha
 let c2:Ctx:={c with R:=λr=>kM[r]? }
 have Sh:∀r row,c.R r=some row->∃ao,c2.R r=some ao/\tn row ao:=λr row c6=>by
  rw[hR]at c6;exact hr r row c6
 have uZ:∀r ao,c2.R r=some ao->∃row,c.R r=some row/\tn row ao:=λr ao c6=>by
  have c6:kM[r]?=some ao:=c6
  have bd:=(List.getElem?_eq_some_iff.1 c6).1
  have h1:rows[r]?=some rows[r]:=aI (by omega)
  obtain⟨jA,g1,g2⟩:=hr r _ h1
  rw[c6]at g1;cases g1
  exact⟨_,by rw[hR];exact h1,g2⟩
 have hn:Ec (λ_=>True) (λr=>r) true c c2:=⟨λi row _ c6=>by
  obtain⟨ao,g1,g2,g3,g4,g5,_⟩:=Sh i row c6
  exact⟨ao,g1,g2,g3,g4,g5,rfl,Iff.rfl⟩,λ_=>aX _,aX _⟩
 have BP:Mem c2 w:=by
  refine⟨λr ao c6=>?_,λr s x y h1 h2 v1 v2 he=>?_,λb ij=>⟨(hm.fh b ij).1,λr x h1 v=>?_⟩,hm.top,hm.jY⟩
  ·obtain⟨row,g1,g2,g3,g4,g5,g6⟩:=uZ r ao c6
   rcases hm.row r row g1 with⟨k1,k2,k3,k4⟩|⟨k1,arr,k2,k3,k4⟩
   ·refine .inl ⟨k1,g2.trans k2,?_,by rw[g4];exact k4⟩
    rw[k2]at g6;simp only at g6;rw[g6,k3]
   ·refine .inr ⟨k1,arr,by rw[g3];exact k2,by rw[g4];exact k3,?_⟩
    rw[g2,g4]
    cases wH:row.box with
    |false=>
     simp only[wH,aA,if_false]at k4 g6⊢
     rw[g6];exact k4
    |true=>
     simp only[wH,if_true]at k4 g6⊢
     obtain⟨e,e',q1,q2,q3,q4⟩:=g6
     obtain⟨e0,p1,p2,p3,p4⟩:=k4
     rw[q1]at p1;cases p1
     refine⟨e',q2,by rw[q3];exact p2,p3,?_⟩
     have:=Vf hn (flat:=False) (.inl λb hb=>hb) (λ_ _=>trivial) (λe=>e.elim) (kd.cells q4 p4)
     rwa [VK]at this
  ·obtain⟨x',g1,_⟩:=uZ r x h1
   obtain⟨y',g2,_⟩:=uZ s y h2
   exact hm.inj r s x' y' g1 g2 v1 v2 he
  ·obtain⟨x',g1,_⟩:=uZ r x h1
   exact(hm.fh b ij).2 r x' g1 v
 refine(h c2 w vs BP hb (λr=>rfl) (Zf1 hn (λb h=>h) (Dn.rep hs ha))).mono λe w' hq=>?_
 obtain⟨v,c',he,hx,j6,hv⟩:=hq
 refine⟨v,c',he,⟨hx.mem,⟨hx.cz.base,hx.cz.top,hx.cz.I,λr row c6=>?_⟩,hx.fr.mono λb _ ⟨r,x,h1,h2,h3⟩=>?_,hx.fh,λr ao h1 h2=>?_⟩,j6,hv⟩
 ·obtain⟨jA,g1,g2,g3,g4,g5,g6⟩:=Sh r row c6
  obtain⟨ao,k1,k2,k3,k4,k5,k6,k7,k8⟩:=hx.cz.R r jA g1
  exact⟨ao,k1,k2.trans g2,k3.trans g3,k4.trans g4,k5.trans g5,k6,k7,λnv arr ha=>by rw[<-g3]at ha⊢;exact k8 nv arr ha⟩
 ·obtain⟨x',g1,_⟩:=uZ r x h1
  exact⟨r,x',g1,h2,h3⟩
 ·rcases hx.oc r ao h1 h2 with⟨⟨x,o7⟩,h3,h4⟩|h3
  ·obtain⟨x',g1,_⟩:=uZ r x o7
   exact .inl ⟨⟨x',g1⟩,h3,h4⟩
  ·exact .inr h3
theorem Qd.Kc{rows kM:List Row}{aj:List Row}(hs:Dn args oD)(hl:kM.length=rows.length)(hr:∀(i:Nat) r,rows[i]?=some r->∃r',kM[i]?=some r'/\tn r r')(h:Qd P f k oD kM res aj):Qd P f k args rows res aj:=by
 intro c w vs hm hb hR ha
 let c2:Ctx:={c with R:=λr=>kM[r]? }
 have Sh:∀r row,c.R r=some row->∃ao,c2.R r=some ao/\tn row ao:=λr row c6=>by
  rw[hR]at c6;exact hr r row c6
 have uZ:∀r ao,c2.R r=some ao->∃row,c.R r=some row/\tn row ao:=λr ao c6=>by
  have c6:kM[r]?=some ao:=c6
  have bd:=(List.getElem?_eq_some_iff.1 c6).1
  have h1:rows[r]?=some rows[r]:=aI (by omega)
  obtain⟨jA,g1,g2⟩:=hr r _ h1
  rw[c6]at g1;cases g1
  exact⟨_,by rw[hR];exact h1,g2⟩
 have hn:Ec (λ_=>True) (λr=>r) true c c2:=⟨λi row _ c6=>by
  obtain⟨ao,g1,g2,g3,g4,g5,_⟩:=Sh i row c6
  exact⟨ao,g1,g2,g3,g4,g5,rfl,Iff.rfl⟩,λ_=>aX _,aX _⟩
 have BP:Mem c2 w:=by
  refine⟨λr ao c6=>?_,λr s x y h1 h2 v1 v2 he=>?_,λb ij=>⟨(hm.fh b ij).1,λr x h1 v=>?_⟩,hm.top,hm.jY⟩
  ·obtain⟨row,g1,g2,g3,g4,g5,g6⟩:=uZ r ao c6
   rcases hm.row r row g1 with⟨k1,k2,k3,k4⟩|⟨k1,arr,k2,k3,k4⟩
   ·refine .inl ⟨k1,g2.trans k2,?_,by rw[g4];exact k4⟩
    rw[k2]at g6;simp only at g6;rw[g6,k3]
   ·refine .inr ⟨k1,arr,by rw[g3];exact k2,by rw[g4];exact k3,?_⟩
    rw[g2,g4]
    cases wH:row.box with
    |false=>
     simp only[wH,aA,if_false]at k4 g6⊢
     rw[g6];exact k4
    |true=>
     simp only[wH,if_true]at k4 g6⊢
     obtain⟨e,e',q1,q2,q3,q4⟩:=g6
     obtain⟨e0,p1,p2,p3,p4⟩:=k4
     rw[q1]at p1;cases p1
     refine⟨e',q2,by rw[q3];exact p2,p3,?_⟩
     have:=Vf hn (flat:=False) (.inl λb hb=>hb) (λ_ _=>trivial) (λe=>e.elim) (kd.cells q4 p4)
     rwa [VK]at this
  ·obtain⟨x',g1,_⟩:=uZ r x h1
   obtain⟨y',g2,_⟩:=uZ s y h2
   exact hm.inj r s x' y' g1 g2 v1 v2 he
  ·obtain⟨x',g1,_⟩:=uZ r x h1
   exact(hm.fh b ij).2 r x' g1 v
 refine(h c2 w vs BP hb (λr=>rfl) (Zf1 hn (λb h=>h) (Dn.rep hs ha))).mono (λb hb=>hb) λe w' hq=>?_
 obtain⟨v,c',he,hx,j6,hv⟩:=hq
 rw[hl]at hx
 refine⟨v,c',he,⟨hx.mem,⟨hx.cz.base,hx.cz.top,hx.cz.I,λr row c6=>?_⟩,hx.fr.mono λb _ ⟨r,x,h1,h2,h3⟩=>?_,λb hb=>?_,λr ao h1 h2=>?_⟩,j6,hv⟩
 ·obtain⟨q,jI,Db,rfl⟩:=ng c6
  obtain⟨jA,g1,g2,g3,g4,g5,g6⟩:=Sh r jI Db
  obtain⟨ao,k1,k2,k3,k4,k5,k6,k7,k8⟩:=hx.cz.R r (jA.kill _) (by simp only[Ctx.kill];rw[if_neg (by rw[q];simp),g1];rfl)
  obtain⟨s1,s2,s3,s4⟩:=wh (bO k (rows.length-k)) jI
  obtain⟨t1,t2,t3,t4⟩:=wh (bO k (rows.length-k)) jA
  refine⟨ao,k1,k2.trans (t1.trans (g2.trans s1.symm)),k3.trans (t2.trans (g3.trans s2.symm)),k4.trans (t3.trans (g4.trans s3.symm)),k5.trans (t4.trans (g5.trans s4.symm)),k6,k7,λnv arr ha=>?_⟩
  rw[s2]at ha⊢
  have:=k8 nv arr (by rw[t2,g3];exact ha)
  rw[t2,g3]at this
  exact this
 ·obtain⟨x',g1,_⟩:=uZ r x h1
  exact⟨r,x',g1,h2,h3⟩
 ·rcases hx.fh b hb with h|⟨s,x,h1,h2,h3,h4⟩|h
  ·exact .inl h
  ·obtain⟨x',g1,_⟩:=uZ s x h2
   exact .inr (.inl ⟨s,x',h1,g1,h3,h4⟩)
  ·exact .inr (.inr h)
 ·rcases hx.oc r ao h1 h2 with⟨⟨x,o7⟩,h3,h4⟩|⟨s,x,q1,q2,q3,q4⟩|h3
  ·obtain⟨x',g1,_⟩:=uZ r x o7
   exact .inl ⟨⟨x',g1⟩,h3,h4⟩
  ·obtain⟨x',g1,_⟩:=uZ s x q2
   exact .inr (.inl ⟨s,x',q1,g1,q3,q4⟩)
  ·exact .inr (.inr h3)
def Ga(f:FuncId)(refs:List Bool)(flat:Bool)(sig:List PT)(dt:List RT){α:Type}(v:List D->List Row->α)(enc:α->D)(out:α->List Row):bb:=
 ⟨f,refs,flat,λargs rows=>match Bp sig args&&Bq dt rows with|true=>.abs α (v args rows) enc out|false=>.no,none,false⟩
def kH(f:FuncId)(refs:List Bool)(flat:Bool)(sig:List PT)(dt:List RT)(pre:List D->List Row->Prop){α:Type}(v:List D->List Row->α)(enc:α->D)(out:α->List Row):bb:=
 ⟨f,refs,flat,λargs rows=>match Bp sig args&&Bq dt rows with|true=>.lB (pre args rows) α (v args rows) enc out|false=>.no,none,false⟩
def bb.fz(x:bb):bb:={x with oZ:=true}
theorem wV{x:bb}(h:bj P x):bj P x.fz:=⟨h.enters,h.real,h.ok,h.when,h.abs,h.lB,h.QM,h.Hi⟩
def Kd(k:Nat)(f:FuncId)(refs:List Bool)(sig:List PT)(dt:List RT){α:Type}(v:List D->List Row->α)(enc:α->D)(out:α->List Row):bb:=
 ⟨f,refs,false,λargs rows=>match Bp sig args&&Bq dt rows with|true=>.abs α (v args rows) enc out|false=>.no,some k,false⟩
def jS(k:Nat)(f:FuncId)(refs:List Bool)(sig:List PT)(dt:List RT)(pre:List D->List Row->Prop){α:Type}(v:List D->List Row->α)(enc:α->D)(out:α->List Row):bb:=
 ⟨f,refs,false,λargs rows=>match Bp sig args&&Bq dt rows with|true=>.lB (pre args rows) α (v args rows) enc out|false=>.no,some k,false⟩
def ai.wW:ai->Bool
 |.gen _=>false
 |.ah k _=>k.mY
 |_=>true
theorem ai.tq{E:ai}(h:E.wW=true):E.Fu:=by
 cases E with
 |gen es=>simp[ai.wW]at h
 |ah k l=>exact h
 |_=>trivial
def Dq:D->Bool|.sl _ E fr=>fr&&E.wW|.iu _ _ _ _=>false|.gm _ _=>false|_=>true
def Dr:List D->Bool|[]=>true|d::l=>Dq d&&Dr l
def Ke:D->Bool|.agg cs=>Dr cs|d=>Dq d
def FP:List D->Bool|[]=>true|d::l=>Ke d&&FP l
def tv:D->Bool|.dw ds=>FP ds|d=>Ke d
def jz:List Row->Bool
 |[]=>true
 |⟨true,_,_,.gen [e]⟩::l=>Dr e&&jz l
 |⟨false,_,_,E⟩::l=>E.wW&&jz l
 |_=>false
theorem Si(h:Dq d=true):QY d:=by
 cases d<;>first|trivial|(simp[Dq]at h;done)|skip
 case sl sz E fr=>simp only[Dq,aE]at h;exact⟨.inr h.1,ai.tq h.2⟩
theorem VL:∀{ds:List D},Dr ds=true->MF ds
 |[],_=>trivial
 |d::l,h=>by simp only[Dr,aE]at h;exact⟨Si h.1,VL h.2⟩
theorem zaB(h:Ke d=true):Ve d:=by
 cases d with
 |agg cs=>exact VL h
 |sl a b c=>exact Si (d:=.sl a b c) h
 |iu a b c e=>exact Si (d:=.iu a b c e) h
 |_=>trivial
theorem vB:∀{ds:List D},FP ds=true->Fv ds
 |[],_=>trivial
 |d::l,h=>by simp only[FP,aE]at h;exact⟨zaB h.1,vB h.2⟩
theorem zae(h:tv d=true):FF d:=by
 cases d with
 |dw ds=>exact vB h
 |agg cs=>exact VL h
 |sl a b c=>exact Si (d:=.sl a b c) h
 |iu a b c e=>exact Si (d:=.iu a b c e) h
 |_=>trivial
theorem VM:∀{rs:List Row},jz rs=true->rA rs
 |[],_=>trivial
 |⟨true,_,_,.gen [e]⟩::l,h=>by
  simp only[jz,aE]at h
  refine⟨?_,VM h.2⟩
  simp only[JK,if_true,ai.l,List.mem_singleton,forall_eq]
  exact VL h.1
 |⟨false,_,_,E⟩::l,h=>by
  simp only[jz,aE]at h
  refine⟨?_,VM h.2⟩
  simp only[JK,aA,if_false]
  exact ai.tq h.1
 |⟨true,_,_,.gen []⟩::l,h=>by simp[jz]at h
 |⟨true,_,_,.gen (_::_::_)⟩::l,h=>by simp[jz]at h
 |⟨true,_,_,.ints _ _⟩::l,h=>by simp[jz]at h
 |⟨true,_,_,.ag _⟩::l,h=>by simp[jz]at h
 |⟨true,_,_,.ah _ _⟩::l,h=>by simp[jz]at h
theorem xae{sig:List PT}{dt:List RT}{rows:List Row}{out:List Row}(hs:(Bp sig args&&Bq dt rows)=true)(h:kr P f (kZ sig args 0) (kA dt rows 0) res out):kr P f args rows res out:=by
 simp only[aE]at hs
 obtain⟨h1,h2⟩:=Qw3 (pre:=[]) hs.2
 exact kr.Kc (Z21 (pre:=[]) hs.1) (by rw[VJ,h1]) h2 h
theorem zaO{sig:List PT}{dt:List RT}{α:Type}{v:List D->List Row->α}{enc:α->D}{out:α->List Row}(he:∀args w,(callFunc f args).run P w=.ok (.enter f args) w)(h:∀args rows,kr P f (kZ sig args 0) (kA dt rows 0) (enc (v args rows)) (out (v args rows)))
 (hf:flat=true->∀X,(tv (enc X)&&jz (out X))=true) (hy:bN f YB=true:=by rfl):bj P (Ga f refs flat sig dt v enc out):=by
 refine⟨λ_=>he,λ_=>lE hy,λ_ args rows r r' hm=>?_,λ_ args rows p r r' hm=>?_,λ_ args rows α' v' r r' hm=>?_,λ_ args rows p α' v' r r' hm=>?_,λk hk=>(by cases hk),λk hk=>(by cases hk)⟩
 ·simp only[Ga]at hm
  split at hm<;>cases hm
 ·simp only[Ga]at hm
  split at hm<;>cases hm
 ·simp only[Ga]at hm
  split at hm
  ·rename_i hs
   cases hm
   exact⟨xae hs (h args rows),λe=>by have:=hf e (v args rows);simp only[aE]at this;exact⟨zae this.1,VM this.2⟩⟩
  ·cases hm
 ·simp only[Ga]at hm
  split at hm<;>cases hm
theorem FQ{sig:List PT}{dt:List RT}{pre:List D->List Row->Prop}{α:Type}{v:List D->List Row->α}{enc:α->D}{out:α->List Row}(he:∀args w,(callFunc f args).run P w=.ok (.enter f args) w)(h:∀args rows,pre args rows->kr P f (kZ sig args 0) (kA dt rows 0) (enc (v args rows)) (out (v args rows)))
 (hf:flat=true->∀X,(tv (enc X)&&jz (out X))=true) (hy:bN f YB=true:=by rfl):bj P (kH f refs flat sig dt pre v enc out):=by
 refine⟨λ_=>he,λ_=>lE hy,λ_ args rows r r' hm=>?_,λ_ args rows p r r' hm=>?_,λ_ args rows α' v' r r' hm=>?_,λ_ args rows p α' v' r r' hm hp=>?_,λk hk=>(by cases hk),λk hk=>(by cases hk)⟩
 ·simp only[kH]at hm
  split at hm<;>cases hm
 ·simp only[kH]at hm
  split at hm<;>cases hm
 ·simp only[kH]at hm
  split at hm<;>cases hm
 ·simp only[kH]at hm
  split at hm
  ·rename_i hs
   cases hm
   exact⟨xae hs (h args rows hp),λe=>by have:=hf e (v args rows);simp only[aE]at this;exact⟨zae this.1,VM this.2⟩⟩
  ·cases hm
theorem qC{sig:List PT}{dt:List RT}{rows:List Row}{out:List Row}(hs:(Bp sig args&&Bq dt rows)=true)(h:Qd P f k (kZ sig args 0) (kA dt rows 0) res out):Qd P f k args rows res out:=by
 simp only[aE]at hs
 obtain⟨h1,h2⟩:=Qw3 (pre:=[]) hs.2
 exact Qd.Kc (Z21 (pre:=[]) hs.1) (by rw[VJ,h1]) h2 h
theorem xaO{sig:List PT}{dt:List RT}{α:Type}{v:List D->List Row->α}{enc:α->D}{out:α->List Row}(he:f<YB->∀args w,(callFunc f args).run P w=.ok (.enter f args) w)(h:∀args rows,Qd P f k (kZ sig args 0) (kA dt rows 0) (enc (v args rows)) (out (v args rows))):
 bj P (Kd k f refs sig dt v enc out):=by
 refine⟨he,λhk=>(by cases hk),λhk=>(by cases hk),λhk=>(by cases hk),λhk=>(by cases hk),λhk=>(by cases hk),λk' hk args rows α' v' r r' hm=>?_,λk' hk args rows p α' v' r r' hm hp=>?_⟩
 ·cases hk
  simp only[Kd]at hm
  split at hm
  ·rename_i hs
   cases hm
   exact qC hs (h args rows)
  ·cases hm
 ·simp only[Kd]at hm
  split at hm<;>cases hm
theorem xaB{sig:List PT}{dt:List RT}{pre:List D->List Row->Prop}{α:Type}{v:List D->List Row->α}{enc:α->D}{out:α->List Row}(he:f<YB->∀args w,(callFunc f args).run P w=.ok (.enter f args) w)(h:∀args rows,pre args rows->Qd P f k (kZ sig args 0) (kA dt rows 0) (enc (v args rows)) (out (v args rows))):
 bj P (jS k f refs sig dt pre v enc out):=by
 refine⟨he,λhk=>(by cases hk),λhk=>(by cases hk),λhk=>(by cases hk),λhk=>(by cases hk),λhk=>(by cases hk),λk' hk args rows α' v' r r' hm=>?_,λk' hk args rows p α' v' r r' hm hp=>?_⟩
 ·simp only[jS]at hm
  split at hm<;>cases hm
 ·cases hk
  simp only[jS]at hm
  split at hm
  ·rename_i hs
   cases hm
   exact qC hs (h args rows hp)
  ·cases hm
def eh{α β:Type}(v:α)(m:α->β):β:=m v
def ki(α:Type)(x y:α):Prop:=x=y
abbrev rE{α:Type}(x:α):Prop:=x=x
abbrev zM:bg:={B4:={X:={a0:=0,a1:=0,a2:=0,a3:=0,a4:=0,a5:=0,a6:=0,a7:=0,a8:=0,a9:=0,kO:=0,kP:=0,a12:=0,kQ:=0,kR:=0,kS:=0},Pc:=0,C3:={a0:=0,a1:=0,a2:=0,a3:=0,a4:=0,a5:=0,a6:=0,a7:=0}},Mem:=[],B1:={D9:=[]},B8:={F1:=false,D3:=0,E0:=false},B7:={ab:=0,C8:=0,Frame:=0,C9:=0,F5:=0,C5:=0,C6:=0,C7:=[]},D4:={Frame:=0,F6:=0,D1:=false,D2:=0,C4:=false,F9:=0},A6:={A2:=0,D0:=0},B6:=0,B2:=false,B5:=false}
abbrev mE(m:bg)(P Q:Prop):Prop:=rE m.B4.X.a0/\rE m.B4.X.a1/\rE m.B4.X.a2/\rE m.B4.X.a3/\rE m.B4.X.a4/\rE m.B4.X.a5/\rE m.B4.X.a6/\rE m.B4.X.a7/\rE m.B4.X.a8/\rE m.B4.X.a9/\rE m.B4.X.kO/\rE m.B4.X.kP/\rE m.B4.X.a12/\rE m.B4.X.kQ/\rE m.B4.X.kR/\rE m.B4.X.kS/\rE m.B4.Pc/\rE m.B4.C3.a0/\rE m.B4.C3.a1/\rE m.B4.C3.a2/\rE m.B4.C3.a3/\rE m.B4.C3.a4/\rE m.B4.C3.a5/\rE m.B4.C3.a6/\rE m.B4.C3.a7/\P/\rE m.B1.D9/\rE m.B8.F1/\rE m.B8.D3/\rE m.B8.E0/\rE m.B7.ab/\rE m.B7.C8/\rE m.B7.Frame/\rE m.B7.C9/\rE m.B7.F5/\rE m.B7.C5/\rE m.B7.C6/\rE m.B7.C7/\rE m.D4.Frame/\rE m.D4.F6/\rE m.D4.D1/\rE m.D4.D2/\rE m.D4.C4/\rE m.D4.F9/\rE m.A6.A2/\rE m.A6.D0/\rE m.B6/\rE m.B2/\rE m.B5/\Q
abbrev mR(f:Nat->D)(M:List Int):bg:=(⟨(⟨(⟨(f 0).toInt,(f 1).toInt,(f 2).toInt,(f 3).toInt,(f 4).toInt,(f 5).toInt,(f 6).toInt,(f 7).toInt,(f 8).toInt,(f 9).toInt,(f 10).toInt,(f 11).toInt,(f 12).toInt,(f 13).toInt,(f 14).toInt,(f 15).toInt⟩:(iI Int)),(f 16).toInt,(⟨(f 17).toInt,(f 18).toInt,(f 19).toInt,(f 20).toInt,(f 21).toInt,(f 22).toInt,(f 23).toInt,(f 24).toInt⟩:(A8 Int))⟩:bq),M,(⟨(f 26).toStr⟩:iV),(⟨(f 27).toBool,(f 28).toInt,(f 29).toBool⟩:jc),(⟨(f 30).toInt,(f 31).toInt,(f 32).toInt,(f 33).toInt,(f 34).toInt,(f 35).toInt,(f 36).toInt,(f 37).toStr⟩:gh),(⟨(f 38).toInt,(f 39).toInt,(f 40).toBool,(f 41).toInt,(f 42).toBool,(f 43).toInt⟩:ik),(⟨(f 44).toInt,(f 45).toInt⟩:gx),(f 46).toInt,(f 47).toBool,(f 48).toBool⟩:bg)
abbrev mD(x:bg)(d:D):List D:=[.int u32 x.B4.X.a0,.int u32 x.B4.X.a1,.int u32 x.B4.X.a2,.int u32 x.B4.X.a3,.int u32 x.B4.X.a4,.int u32 x.B4.X.a5,.int u32 x.B4.X.a6,.int u32 x.B4.X.a7,.int u32 x.B4.X.a8,.int u32 x.B4.X.a9,.int u32 x.B4.X.kO,.int u32 x.B4.X.kP,.int u32 x.B4.X.a12,.int u32 x.B4.X.kQ,.int u32 x.B4.X.kR,.int u32 x.B4.X.kS,.int u32 x.B4.Pc,.int u32 x.B4.C3.a0,.int u32 x.B4.C3.a1,.int u32 x.B4.C3.a2,.int u32 x.B4.C3.a3,.int u32 x.B4.C3.a4,.int u32 x.B4.C3.a5,.int u32 x.B4.C3.a6,.int u32 x.B4.C3.a7,d,.str x.B1.D9,.bool x.B8.F1,.int u32 x.B8.D3,.bool x.B8.E0,.int u32 x.B7.ab,.int u32 x.B7.C8,.int u32 x.B7.Frame,.int i64 x.B7.C9,.int i64 x.B7.F5,.int u32 x.B7.C5,.int u32 x.B7.C6,.str x.B7.C7,.int u32 x.D4.Frame,.int u32 x.D4.F6,.bool x.D4.D1,.int u32 x.D4.D2,.bool x.D4.C4,.int u32 x.D4.F9,.int u32 x.A6.A2,.int u32 x.A6.D0,.int u64 x.B6,.bool x.B2,.bool x.B5]
abbrev mB(f:Nat->D):List D:=[f 0,f 1,f 2,f 3,f 4,f 5,f 6,f 7,f 8,f 9,f 10,f 11,f 12,f 13,f 14,f 15,f 16,f 17,f 18,f 19,f 20,f 21,f 22,f 23,f 24,f 25,f 26,f 27,f 28,f 29,f 30,f 31,f 32,f 33,f 34,f 35,f 36,f 37,f 38,f 39,f 40,f 41,f 42,f 43,f 44,f 45,f 46,f 47,f 48]
abbrev rZ:Prop:=rE (0:Nat)/\rE (0:Nat)
abbrev nR(k:RK)(n:Nat)(x:List (RK.T k)):Prop:=(ai.Nil (ai.ah k x)\/rE n)/\rE x
abbrev aC(l:List D)(n:Nat):List D:=(l.getD n .dead).cells
theorem lU{p:Prop}(h:p:=by((subst_vars;first|trivial|assumption|omega|((simp(config:={decide:=true,failIfUnchanged:=false}) only[aE,Bool.or_eq_true,Bool.and_eq_false_iff,Bool.or_eq_false_iff,Bool.not_eq_true',Bool.not_eq_false',Bool.not_eq_true,Bool.not_eq_false,decide_eq_true_eq,decide_eq_false_iff_not,Q36,Q23,Q39,Q24,beq_iff_eq,beq_eq_false_iff_ne,bne_iff_ne,bne_eq_false_iff_eq,ne_eq,List.all_cons,List.all_nil,D.plain,List.length_cons,List.length_nil,lA,List.length_set,List.length_replicate,wrap_i64,wrap_u64,wrap_u32,wrap_i32,wrap_u8,true_and,and_true,or_false,false_or,or_true,true_or,not_true_eq_false,not_false_eq_true,Prod.fst,Prod.snd]at*);first|done|assumption|omega)|((simp(config:={decide:=true,failIfUnchanged:=false}) only[aE,Bool.or_eq_true,Bool.and_eq_false_iff,Bool.or_eq_false_iff,Bool.not_eq_true',Bool.not_eq_false',Bool.not_eq_true,Bool.not_eq_false,decide_eq_true_eq,decide_eq_false_iff_not,Q36,Q23,Q39,Q24,beq_iff_eq,beq_eq_false_iff_ne,bne_iff_ne,bne_eq_false_iff_eq,ne_eq,List.all_cons,List.all_nil,D.plain,List.length_cons,List.length_nil,lA,List.length_set,List.length_replicate,wrap_i64,wrap_u64,wrap_u32,wrap_i32,wrap_u8,true_and,and_true,or_false,false_or,or_true,true_or,not_true_eq_false,not_false_eq_true,Prod.fst,Prod.snd]at*);simp only[<-List.length_pos_iff]at*;omega)|(simp_all;done)|(have:= @Qd4;simp_all;try omega)))):p:=h
def run{α β:Type}[Inhabited β](F:α->α⊕β):Nat->α->β
 |0,_=>default
 |k+1,a=>match F a with|.inl a'=>run F k a'|.inr b=>b
theorem xC{α β:Type}[Inhabited β]{F:α->α⊕β}{P:α->Prop}{R:β->Prop}{μ:α->Nat}(h:∀a,P a->match F a with|.inl a'=>P a'/\μ a'<μ a|.inr b=>R b):∀k a,P a->μ a<k->R (run F k a):=by
 intro k
 induction k with
 |zero=>intro a _ hk;omega
 |succ k ih=>
  intro a ha hk
  have:=h a ha
  unfold run
  split at this
  ·rename_i a' he;exact ih a' this.1 (by omega)
  ·exact this
inductive Tree:Type->Type 1 where
 |lf {β:Type} (x:β):Tree β
 |nx {β:Type} (f:Prop) (x:β) (h:f:=by first|trivial|(simp[ki];done)|decide|(simp only[and_true,true_and,or_true,true_or,and_self];done)|((repeat'(first|exact True.intro|apply And.intro|exact rfl|exact Or.inr rfl));done)):Tree β
 |br {β:Type} (c:Bool) (t e:Tree β):Tree β
 |cn {β:Type} (c:Bool) (t:Tree β):Tree β
 |fl {β:Type} (c:Bool) (t:Tree β):Tree β
 |an {β:Type} (p:Prop) (t:Tree β):Tree β
 |lv {α β:Type} (x:α) (k:α->Tree β):Tree β
 |lp {α β:Type} (d:Inhabited β) (n:Nat) (f:Prop) (x:α) (t:α->Tree (α⊕β)) (h:f:=by first|trivial|(simp[ki];done)|decide|(simp only[and_true,true_and,or_true,true_or,and_self];done)|((repeat'(first|exact True.intro|apply And.intro|exact rfl|exact Or.inr rfl));done)):Tree β
def Tree.m{β:Type}:Tree β->β
 |.lf x=>x
 |.nx _ x _=>x
 |.br c t e=>cond c t.m e.m
 |.cn _ t=>t.m
 |.fl _ t=>t.m
 |.an _ t=>t.m
 |.lv x k=>eh x λy=>(k y).m
 |.lp _ n _ x t _=>run (λy=>(t y).m) n x
def mf{α β:Type}(B:α->(α⊕β->Prop)->Prop)(W:β->Prop)(n:Nat)(y:α):Prop:=
 match n with
 |0=>False
 |k+1=>B y (iA (λz=>mf B W k z) W)
termination_by n
theorem Z63{α β:Type}{B:α->(α⊕β->Prop)->Prop}{W:β->Prop}{y:α}:mf B W 0 y=False:=by rw[mf]
theorem Nd{α β:Type}{B:α->(α⊕β->Prop)->Prop}{W:β->Prop}{y:α}:mf B W (k+1) y=B y (iA (λz=>mf B W k z) W):=by rw[mf]
def Tree.w{β:Type}:Tree β->(β->Prop)->Prop
 |.lf x,W=>W x
 |.nx _ x _,W=>W x
 |.br c t e,W=>Ae c (t.w W) (e.w W)
 |.cn c t,W=>cv c (t.w W)
 |.fl c t,W=>Ae c False (t.w W)
 |.an p t,W=>p/\t.w W
 |.lv x k,W=>∀y,y=x->(k y).w W
 |.lp _ n _ x t _,W=>mf (λy V=>(t y).w V) W n x
def Tree.q{β:Type}:Tree β->(β->Prop)->Prop
 |.lf x,L=>L x
 |.nx f x _,L=>L x/\f
 |.br c t e,L=>Ae c (t.q L) (e.q L)
 |.cn c t,L=>cv c (t.q L)
 |.fl c t,L=>Ae c False (t.q L)
 |.an p t,L=>p/\t.q L
 |.lv x k,L=>∀y,y=x->(k y).q L
 |.lp (α:=α) _ _ f x t _,L=>∃(wm:α->Prop),∃(ν:α->Nat),wm x/\f/\∀y,wm y->(t y).q (iA (λz=>wm z/\ν z<ν y) L)
theorem Tree.main{β:Type}(t:Tree β):∀{W L E:β->Prop},(∀x,W x->E x->L x)->t.w W->E t.m->t.q L:=by
 induction t with
 |lf x=>intro W L E h hw he;exact h x hw he
 |nx f x hf=>intro W L E h hw he;exact⟨h x hw he,hf⟩
 |br c t e Kf Kg=>
  intro W L E h hw he
  cases c with
  |true=>exact Kf h hw he
  |false=>exact Kg h hw he
 |cn c t ih=>intro W L E h hw he;exact dd.2 ⟨(dd.1 hw).1,ih h (dd.1 hw).2 he⟩
 |fl c t ih=>
  intro W L E h hw he
  cases c with
  |true=>exact hw.elim
  |false=>exact ih h hw he
 |an p t ih=>intro W L E h hw he;exact⟨hw.1,ih h hw.2 he⟩
 |lv x k ih=>intro W L E h hw he y hy;subst hy;exact ih y h (hw y rfl) he
 |lp d n f x t hf ih=>
  intro W L E h hw he
  have H:∀k y,mf (λy V=>(t y).w V) W k y->E (@run _ _ d (λy=>(t y).m) k y)->∃j,j<k/\k=j+1:=by
   intro k y h1 _
   cases k with
   |zero=>rw[Z63]at h1;exact h1.elim
   |succ k=>exact⟨k,Nat.lt_succ_self k,rfl⟩
  let P:Nat->_->Prop:=λk y=>mf (λy V=>(t y).w V) W k y/\E (@run _ _ d (λy=>(t y).m) k y)
  have least:∀y,(∃k,P k y)->∃k,P k y/\∀j,P j y->k<=j:=by
   intro y ⟨k,hk⟩
   induction k using Nat.strongRecOn with
   |ind k ihk=>
    by_cases hj:∃j,j<k/\P j y
    ·obtain⟨j,h1,h2⟩:=hj;exact ihk j h1 h2
    ·exact⟨k,hk,λj h2=>Nat.le_of_not_lt λh1=>hj ⟨j,h1,h2⟩⟩
  have ch:∃ν:_->Nat,∀y,(∃k,P k y)->P (ν y) y/\∀j,P j y->ν y<=j:=Classical.axiomOfChoice (r:=λy k=>(∃k,P k y)->P k y/\∀j,P j y->k<=j) λy=>by
   by_cases hy:∃k,P k y
   ·obtain⟨k,hk⟩:=least y hy;exact⟨k,λ_=>hk⟩
   ·exact⟨0,λh=>absurd h hy⟩
  obtain⟨ν,hν⟩:=ch
  refine⟨λy=>∃k,P k y,ν,⟨n,hw,he⟩,hf,λy hy=>?_⟩
  have Sj:=hν y hy
  generalize Ad:ν y=k0 at Sj
  obtain⟨⟨h1,h2⟩,_⟩:=Sj
  obtain⟨j,_,rfl⟩:=H k0 y h1 h2
  rw[Nd]at h1
  refine ih y (E:=iA (λz=>E (@run _ _ d (λy=>(t y).m) j z)) E) ?_ h1 ?_
  ·intro z HW hz2
   cases z with
   |inl z=>
    have hz:∃k,P k z:=⟨j,HW,hz2⟩
    refine⟨hz,?_⟩
    have:=(hν z hz).2 j ⟨HW,hz2⟩
    show ν z<j+1
    omega
   |inr z=>exact h z HW hz2
  ·unfold run at h2
   cases hF:(t y).m with
   |inl z=>rw[hF]at h2;exact h2
   |inr z=>rw[hF]at h2;exact h2
abbrev Tree.p{β:Type}(t:Tree β):Prop:=t.w λ_=>True
theorem Tree.main'{β:Type}{t:Tree β}{L:β->Prop}(hw:t.p)(h:L t.m):t.q L:=t.main (λ_ _ h=>h) hw h
theorem Tree.mono{β:Type}(t:Tree β):∀{W V:β->Prop},(∀x,W x->V x)->t.w W->t.w V:=by
 induction t with
 |lf x=>intro W V h hw;exact h x hw
 |nx f x hf=>intro W V h hw;exact h x hw
 |br c t e Kf Kg=>
  intro W V h hw
  cases c with
  |true=>exact Kf h hw
  |false=>exact Kg h hw
 |cn c t ih=>intro W V h hw;exact dd.2 ⟨(dd.1 hw).1,ih h (dd.1 hw).2⟩
 |fl c t ih=>
  intro W V h hw
  cases c with
  |true=>exact hw.elim
  |false=>exact ih h hw
 |an p t ih=>intro W V h hw;exact⟨hw.1,ih h hw.2⟩
 |lv x k ih=>intro W V h hw y hy;exact ih y h (hw y hy)
 |lp d n f x t hf ih=>
  intro W V h hw
  revert x
  show∀x,mf (λy V=>(t y).w V) W n x->mf (λy V=>(t y).w V) V n x
  induction n with
  |zero=>intro x hw;rw[Z63]at hw;exact hw.elim
  |succ n ihn=>
   intro x hw
   rw[Nd]at hw⊢
   refine ih x (λz hz=>?_) hw
   cases z with
   |inl z=>exact ihn z hz
   |inr z=>exact h z hz
theorem Tree.post{β:Type}(t:Tree β):∀{W:β->Prop},t.w W->W t.m:=by
 induction t with
 |lf x=>intro W hw;exact hw
 |nx f x hf=>intro W hw;exact hw
 |br c t e Kf Kg=>
  intro W hw
  cases c with
  |true=>exact Kf hw
  |false=>exact Kg hw
 |cn c t ih=>intro W hw;exact ih (dd.1 hw).2
 |fl c t ih=>
  intro W hw
  cases c with
  |true=>exact hw.elim
  |false=>exact ih hw
 |an p t ih=>intro W hw;exact ih hw.2
 |lv x k ih=>intro W hw;exact ih x (hw x rfl)
 |lp d n f x t hf ih=>
  intro W hw
  revert x
  show∀x,mf (λy V=>(t y).w V) W n x->W (@run _ _ d (λy=>(t y).m) n x)
  induction n with
  |zero=>intro x hw;rw[Z63]at hw;exact hw.elim
  |succ n ihn=>
   intro x hw
   rw[Nd]at hw
   have:=ih x hw
   unfold run
   cases hF:(t x).m with
   |inl z=>rw[hF]at this;exact ihn z this
   |inr z=>rw[hF]at this;exact this
theorem Tree.pp{β:Type}{t:Tree β}{W:β->Prop}(h:t.w W):t.p/\W t.m:=⟨t.mono (λ_ _=>trivial) h,t.post h⟩
section
variable {α β:Type} {W:β->Prop} {c:Bool} {t e:Tree β}
theorem ba{x:β}(h:W x):(Tree.lf x).w W:=h
theorem ee{f:Prop}{x:β}{hf:f}(h:W x):(Tree.nx f x hf).w W:=h
theorem ae(h:c=true->t.w W)(g:c=false->e.w W):(Tree.br c t e).w W:=Z8y.2 ⟨h,g⟩
theorem av(h:c=true)(g:t.w W):(Tree.cn c t).w W:=dd.2 ⟨h,g⟩
theorem Wn(h:c=false)(g:t.w W):(Tree.fl c t).w W:=Z8y.2 ⟨λe=>(by rw[h]at e;cases e),λ_=>g⟩
theorem cg{p:Prop}(h:p)(g:t.w W):(Tree.an p t).w W:=⟨h,g⟩
theorem aq{x:α}{k:α->Tree β}(h:∀y,y=x->(k y).w W):(Tree.lv x k).w W:=h
theorem eu{d:Inhabited β}{n:Nat}{f:Prop}{x:α}{k:α->Tree (α⊕β)}{hf:f}{inv:α->Prop}{μ:α->Nat}(h:inv x)(hn:μ x<n)(g:∀y,inv y->(k y).w (iA (λz=>inv z/\μ z<μ y) W)):(Tree.lp d n f x k hf).w W:=by
 show mf (λy V=>(k y).w V) W n x
 revert x
 induction n with
 |zero=>intro x h hn;omega
 |succ n ih=>
  intro x h hn
  rw[Nd]
  refine(k x).mono (λz hz=>?_) (g x h)
  cases z with
  |inl z=>exact ih hz.1 (by have:=hz.2;omega)
  |inr z=>exact hz
end
theorem wL{β:Type}{x:β}:(Tree.lf x).p:=trivial
theorem wB{β:Type}{c:Bool}{t e:Tree β}(h:t.p)(g:e.p):(Tree.br c t e).p:=by cases c<;>assumption
structure lV(T:iy)(G:List bb)(L:Code->St->(Ex->St->Prop)->Prop)(fn:Func)(args:List D)(rows:List Row)(ds:List nd)(Q:D->List Row->Prop):Prop where
 h:ko T G L fn args rows λd R=>nU rows.length ds d R Q
theorem lV.of{G:List bb}{L:Code->St->(Ex->St->Prop)->Prop}{rows:List Row}{Q:D->List Row->Prop}{p:Prop}(e:(ko T G L fn args rows λd R=>nU rows.length ds d R Q)=p)(hl:p):lV T G L fn args rows ds Q:=⟨by rw[e];exact hl⟩
theorem lV.calls(hD:pB P)(hT:ji P T){G:List bb}(hG:jB P G)(hf:P.funcs[f]?=some fn){rows:List Row}{aj:List Row}
 {rf:Option Nat} (mI:∀code,fn.body=some code->RF rf fn.ntmps code) {L:Code->St->(Ex->St->Prop)->Prop} (hL:∀code st Q,RF rf fn.ntmps code->L code st Q->Tr P fn.ntmps rows.length code st Q) {ds:List nd} (h:lV T G L fn args rows ds λr o=>r=res/\o=aj):kr P f args rows res aj:=
 zw hD hT hG hf mI hL (λd R hQ=>by obtain⟨r,o,⟨rfl,rfl⟩,hE⟩:=Ze4 hQ;exact hE) h.h
structure tt(T:iy)(G:List bb)(L:Code->St->(Ex->St->Prop)->Prop)(fn:Func)(args:List D)(rows:List Row)(k:Nat)(ds:List nd)(Q:D->List Row->Prop):Prop where
 h:FI T G L fn args rows (λd R=>nU k ds d R Q) k
theorem tt.of{G:List bb}{L:Code->St->(Ex->St->Prop)->Prop}{rows:List Row}{Q:D->List Row->Prop}{p:Prop}(e:(FI T G L fn args rows (λd R=>nU k ds d R Q) k)=p)(hl:p):tt T G L fn args rows k ds Q:=⟨by rw[e];exact hl⟩
theorem tt.calls(hD:pB P)(hT:ji P T){G:List bb}(hG:jB P G){rows:List Row}{aj:List Row}{rf:Option Nat}(hf:oV P f fn (pY (ow args++kE rows)=true/\rf=none))(mI:∀code,fn.body=some code->RF rf fn.ntmps code)
 {L:Code->St->(Ex->St->Prop)->Prop} (hL:∀ro,(ro=none\/rf=none)->∀code st Q,RF rf fn.ntmps code->L code st Q->tW ro P fn.ntmps k code st Q) {ds:List nd} (h:tt T G L fn args rows k ds λr o=>r=res/\o=aj):Qd P f k args rows res aj:=
 xaL hD hT hG hf mI hL (λd R hQ=>by obtain⟨r,o,⟨rfl,rfl⟩,hE⟩:=Ze4 hQ;exact hE) h.h
section
variable {P:Program} {T:iy} {G:List bb} {f:FuncId} {fn:Func} {refs:List Bool} {flat:Bool} {sig:List PT} {dt:List RT} {pre:List D->List Row->Prop} {β:Type} {v:List D->List Row->β} {enc:β->D} {out:β->List Row}
theorem oV.imp{cl cl':Prop}(h:oV P f fn cl)(g:cl->cl'):oV P f fn cl':=by
 cases h with
 |real a b c=>exact .real a b c
 |yield a y d b c e f g1 g2 h i=>exact .yield a y d b c e f g1 g2 h (g i)
 |uT a y q b c e f g1 h i j k=>exact .uT a y q b c e f g1 h i j (g k)
theorem Ze6(rf:Option Nat)(mI:∀code,fn.body=some code->RF rf fn.ntmps code)(hD:pB P)(hT:ji P T)(hG:jB P G)(hf:P.funcs[f]?=some fn)(t:List D->List Row->Tree β)(ds:List nd)(fq:List (Nat×bu))(dep:Nat)
 (hn:∀args rows Q,(ko T G (AU T G fn.ntmps dt.length fq rf dep) fn (kZ sig args 0) (kA dt rows 0) λd R=>nU dt.length ds d R Q)=(t args rows).q λX=>Q (enc X) (out X)) (hv:∀args rows,(t args rows).m=v args rows) {args:List D} {rows:List Row} (hp:(t args rows).p):
 kr P f (kZ sig args 0) (kA dt rows 0) (enc (v args rows)) (out (v args rows)):=by
 have e:(kA dt rows 0).length=dt.length:=VJ
 refine lV.calls hD hT hG hf mI (L:=AU T G fn.ntmps dt.length fq rf dep) (λcode st Q hc hl=>by rw[e];exact Gu hD hT hG (.inl rfl) dep _ _ _ hc hl) (ds:=ds) ⟨?_⟩
 rw[e,hn]
 refine Tree.main' hp ?_
 rw[hv]
 exact⟨rfl,rfl⟩
theorem Z8s(rf:Option Nat)(mI:∀code,fn.body=some code->RF rf fn.ntmps code)(hD:pB P)(hT:ji P T)(hG:jB P G)(hf:oV P f fn ((∀args rows,pY (ow (kZ sig args 0)++kE (kA dt rows 0))=true)/\rf=none))(t:List D->List Row->Tree β)(ds:List nd)(fq:List (Nat×bu))(dep:Nat)
 (hn:∀args rows Q,(FI T G (AU T G fn.ntmps k fq rf dep) fn (kZ sig args 0) (kA dt rows 0) (λd R=>nU k ds d R Q) k)=(t args rows).q λX=>Q (enc X) (out X)) (hv:∀args rows,(t args rows).m=v args rows) {args:List D} {rows:List Row} (hp:(t args rows).p):
 Qd P f k (kZ sig args 0) (kA dt rows 0) (enc (v args rows)) (out (v args rows)):=by
 refine tt.calls hD hT hG (hf.imp λh=>⟨h.1 args rows,h.2⟩) mI (L:=AU T G fn.ntmps k fq rf dep) (λro DG=>Gu hD hT hG DG dep) (ds:=ds) ⟨?_⟩
 rw[hn]
 refine Tree.main' hp ?_
 rw[hv]
 exact⟨rfl,rfl⟩
theorem Zp3(rf:Option Nat)(mI:∀code,fn.body=some code->RF rf fn.ntmps code)(hD:pB P)(hT:ji P T)(hG:jB P G)(hf:P.funcs[f]?=some fn)(he:∀args w,(callFunc f args).run P w=.ok (.enter f args) w)(t:List D->List Row->Tree β)(ds:List nd)(fq:List (Nat×bu))(dep:Nat)
 (hn:∀args rows Q,(ko T G (AU T G fn.ntmps dt.length fq rf dep) fn (kZ sig args 0) (kA dt rows 0) λd R=>nU dt.length ds d R Q)=(t args rows).q λX=>Q (enc X) (out X):=by intro _ _ _;kernel_rfl) (hv:∀args rows,(t args rows).m=v args rows:=by exactλ_ _=>rfl)
 (hp:∀args rows,pre args rows->(t args rows).p:=by exactλ_ _ h=>h) (jy:flat=true->∀X,(tv (enc X)&&jz (out X))=true:=by intro _ _;kernel_rfl) (hy:bN f YB=true:=by rfl):bj P (kH f refs flat sig dt pre v enc out):=
 FQ he (λargs rows hw=>Ze6 rf mI hD hT hG hf t ds fq dep hn hv (hp _ _ hw)) jy hy
theorem rU(hD:pB P)(hT:ji P T)(hG:jB P G)(hf:P.funcs[f]?=some fn)(he:∀args w,(callFunc f args).run P w=.ok (.enter f args) w)(t:List D->List Row->Tree β)(ds:List nd)(fq:List (Nat×bu))(dep:Nat)
 (hn:∀args rows Q,(ko T G (LL T G fn.ntmps dt.length fq dep) fn (kZ sig args 0) (kA dt rows 0) λd R=>nU dt.length ds d R Q)=(t args rows).q λX=>Q (enc X) (out X):=by intro _ _ _;kernel_rfl) (hv:∀args rows,(t args rows).m=v args rows:=by exactλ_ _=>rfl)
 (hp:∀args rows,pre args rows->(t args rows).p:=by exactλ_ _ h=>h) (jy:flat=true->∀X,(tv (enc X)&&jz (out X))=true:=by intro _ _;kernel_rfl) (hy:bN f YB=true:=by rfl):bj P (kH f refs flat sig dt pre v enc out):=
 Zp3 none (λ_ _=>trivial) hD hT hG hf he t ds fq dep hn hv hp jy hy
theorem qaC(rf:Option Nat)(mI:∀code,fn.body=some code->RF rf fn.ntmps code)(hD:pB P)(hT:ji P T)(hG:jB P G)(hf:P.funcs[f]?=some fn)(he:∀args w,(callFunc f args).run P w=.ok (.enter f args) w)(t:List D->List Row->Tree β)(ds:List nd)(fq:List (Nat×bu))(dep:Nat)
 (hn:∀args rows Q,(ko T G (AU T G fn.ntmps dt.length fq rf dep) fn (kZ sig args 0) (kA dt rows 0) λd R=>nU dt.length ds d R Q)=(t args rows).q λX=>Q (enc X) (out X)) (hv:∀args rows,(t args rows).m=v args rows)
 (hp:∀args rows,(t args rows).p) (jy:flat=true->∀X,(tv (enc X)&&jz (out X))=true) (hy:bN f YB=true:=by rfl):bj P (Ga f refs flat sig dt v enc out):=
 zaO he (λargs rows=>Ze6 rf mI hD hT hG hf t ds fq dep hn hv (hp _ _)) jy hy
theorem Q11(hD:pB P)(hT:ji P T)(hG:jB P G)(hf:P.funcs[f]?=some fn)(he:∀args w,(callFunc f args).run P w=.ok (.enter f args) w)(t:List D->List Row->Tree β)(ds:List nd)(fq:List (Nat×bu))(dep:Nat)
 (hn:∀args rows Q,(ko T G (LL T G fn.ntmps dt.length fq dep) fn (kZ sig args 0) (kA dt rows 0) λd R=>nU dt.length ds d R Q)=(t args rows).q λX=>Q (enc X) (out X):=by intro _ _ _;kernel_rfl) (hv:∀args rows,(t args rows).m=v args rows:=by exactλ_ _=>rfl)
 (hp:∀args rows,(t args rows).p:=by intro _ _;exact Tree.nN (by kernel_rfl)) (jy:flat=true->∀X,(tv (enc X)&&jz (out X))=true:=by intro _ _;kernel_rfl) (hy:bN f YB=true:=by rfl):bj P (Ga f refs flat sig dt v enc out):=
 qaC none (λ_ _=>trivial) hD hT hG hf he t ds fq dep hn hv hp jy hy
theorem Zsa(rf:Option Nat)(mI:∀code,fn.body=some code->RF rf fn.ntmps code)(hD:pB P)(hT:ji P T)(hG:jB P G)(hf:oV P f fn ((∀args rows,pY (ow (kZ sig args 0)++kE (kA dt rows 0))=true)/\rf=none))(he:f<YB->∀args w,(callFunc f args).run P w=.ok (.enter f args) w)(t:List D->List Row->Tree β)(ds:List nd)(fq:List (Nat×bu))(dep:Nat)
 (hn:∀args rows Q,(FI T G (AU T G fn.ntmps k fq rf dep) fn (kZ sig args 0) (kA dt rows 0) (λd R=>nU k ds d R Q) k)=(t args rows).q λX=>Q (enc X) (out X)) (hv:∀args rows,(t args rows).m=v args rows)
 (hp:∀args rows,pre args rows->(t args rows).p):bj P (jS k f refs sig dt pre v enc out):=
 xaB he (λargs rows hw=>Z8s rf mI hD hT hG hf t ds fq dep hn hv (hp _ _ hw))
theorem tu(hD:pB P)(hT:ji P T)(hG:jB P G)(hf:P.funcs[f]?=some fn)(he:∀args w,(callFunc f args).run P w=.ok (.enter f args) w)(t:List D->List Row->Tree β)(ds:List nd)(fq:List (Nat×bu))(dep:Nat)
 (hn:∀args rows Q,(FI T G (LL T G fn.ntmps k fq dep) fn (kZ sig args 0) (kA dt rows 0) (λd R=>nU k ds d R Q) k)=(t args rows).q λX=>Q (enc X) (out X)) (hv:∀args rows,(t args rows).m=v args rows)
 (hp:∀args rows,pre args rows->(t args rows).p) (hy:bN f YB=true:=by rfl) (hb:Nat.ble YB fn.nfree=false:=by rfl):bj P (jS k f refs sig dt pre v enc out):=
 Zsa none (λ_ _=>trivial) hD hT hG (.real (lE hy) hf hb) (λ_=>he) t ds fq dep hn hv hp
theorem zC(rf:Option Nat)(mI:∀code,fn.body=some code->RF rf fn.ntmps code)(hD:pB P)(hT:ji P T)(hG:jB P G)(hf:oV P f fn ((∀args rows,pY (ow (kZ sig args 0)++kE (kA dt rows 0))=true)/\rf=none))(he:f<YB->∀args w,(callFunc f args).run P w=.ok (.enter f args) w)(t:List D->List Row->Tree β)(ds:List nd)(fq:List (Nat×bu))(dep:Nat)
 (hn:∀args rows Q,(FI T G (AU T G fn.ntmps k fq rf dep) fn (kZ sig args 0) (kA dt rows 0) (λd R=>nU k ds d R Q) k)=(t args rows).q λX=>Q (enc X) (out X)) (hv:∀args rows,(t args rows).m=v args rows)
 (hp:∀args rows,(t args rows).p):bj P (Kd k f refs sig dt v enc out):=
 xaO he (λargs rows=>Z8s rf mI hD hT hG hf t ds fq dep hn hv (hp _ _))
theorem qaP(hD:pB P)(hT:ji P T)(hG:jB P G)(hf:P.funcs[f]?=some fn)(he:∀args w,(callFunc f args).run P w=.ok (.enter f args) w)(t:List D->List Row->Tree β)(ds:List nd)(fq:List (Nat×bu))(dep:Nat)
 (hn:∀args rows Q,(FI T G (LL T G fn.ntmps k fq dep) fn (kZ sig args 0) (kA dt rows 0) (λd R=>nU k ds d R Q) k)=(t args rows).q λX=>Q (enc X) (out X)) (hv:∀args rows,(t args rows).m=v args rows)
 (hp:∀args rows,(t args rows).p) (hy:bN f YB=true:=by rfl) (hb:Nat.ble YB fn.nfree=false:=by rfl):bj P (Kd k f refs sig dt v enc out):=
 zC none (λ_ _=>trivial) hD hT hG (.real (lE hy) hf hb) (λ_=>he) t ds fq dep hn hv hp
theorem yC(h:bj P (kH f refs flat sig dt pre v enc out)){rows:List Row}(hs:(Bp sig args&&Bq dt rows)=true)(hw:pre args rows):kr P f args rows (enc (v args rows)) (out (v args rows)):=
 (h.lB rfl args rows (pre args rows) β (v args rows) enc out (by simp only[kH,hs]) hw).1
end
def Tree.pU{β:Type}:Tree β->Bool
 |.lf _=>true
 |.br _ t e=>t.pU&&e.pU
 |.lv x k=>(k x).pU
 |_=>false
theorem Tree.nN{β:Type}{t:Tree β}(h:t.pU=true):t.p:=by
 induction t with
 |lf x=>trivial
 |br c t e Kf Kg=>
  simp only[Tree.pU,aE]at h
  cases c with
  |true=>exact Kf h.1
  |false=>exact Kg h.2
 |lv x k ih=>intro y hy;subst hy;exact ih _ h
 |_=>simp[Tree.pU]at h
theorem jB.nil:jB P []:=λx hx=>by cases hx
theorem jB.cons{x:bb}{G:List bb}(h:bj P x)(g:jB P G):jB P (x::G):=λy hy=>by
 simp only[List.mem_cons]at hy
 rcases hy with rfl|hy
 ·exact h
 ·exact g y hy

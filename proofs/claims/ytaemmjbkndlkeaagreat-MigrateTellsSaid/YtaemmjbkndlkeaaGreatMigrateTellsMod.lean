import Derived.Test.YtaemmjbkndlkeaaGreatMigrateTellsFc
open Nat renaming blt->bN,beq->bX,le_refl->aX
open List renaming map_cons->fX,getD->aV,getElem?_eq_getElem->aI,range'->bO,all_cons->hJ,all_nil->iN,length_cons->dD,length_nil->dE,length_set->dC,length_replicate->cS
open Bool renaming false_eq_true->aA,or_eq_true->aT,and_eq_false_iff->iI,or_eq_false_iff->iJ,not_eq_true'->bB,not_eq_false'->iK,not_eq_true->iL,not_eq_false->iM
open Sum renaming elim->iO
set_option linter.all false
namespace Go.GD
open Go
open Go.IntKind(i64 u32 u64 wrap_i64 wrap_u32 wrap_u64 wrap_u8 wrap_i32)
variable {P:Program}{T:iz}{a b k s:Nat}{args pj:List D}{d res:D}{ds:List nh}{f:FuncId}{flat fr:Bool}{fn:Func}{refs:List Bool}
def lk(st:St)(t:Nat):D:=look st.env t
def rN(st:St)(t:Nat):Nat:=jq (look st.env t) 1000000
def cT(st:St)(t j:Nat):D:=bg st.rows (jq (look st.env t) 1000000) j
def cN(st:St)(t:Nat):Nat->Nat->List D
 |_,0=>[]
 |j,n+1=>cT st t j::cN st t (j+1) n
def rX(st:St)(t k:Nat):Nat:=jq (look st.env t) (st.rows.length+k)
theorem Qee{α:Type}{l:List α}(h:l≠[]):0<l.length:=by cases l<;>simp_all
theorem Q3a{a b:Nat}:bN a b=true↔a<b:=by simp[bN,Nat.lt_iff_add_one_le]
theorem Q25:bN a b=false↔ ¬a<b:=by have:= @Q3a a b;cases h:bN a b<;>simp_all
theorem Q3d{a b:Nat}:bX a b=true↔a=b:=iff_of_eq Nat.beq_eq
theorem Q26:bX a b=false↔ ¬a=b:=by have:= @Q3d a b;cases h:bX a b<;>simp_all
def gr(d e:D):Prop:=∀c w v,dc c w d v->dc c w e v
def ki:List D->List D->Prop
 |[],[]=>True
 |d::l,e::m=>gr d e/\ki l m
 |_,_=>False
def tU:D->D->Prop
 |.agg cs,.agg ds=>ki cs ds
 |.agg _,_=>False
 |d,e=>gr d e
def Ei:List D->List D->Prop
 |[],[]=>True
 |d::l,e::m=>tU d e/\Ei l m
 |_,_=>False
theorem gr.rfl:gr d d:=λ_ _ _ h=>h
theorem gr.ints{k:IntKind}{E:ag}{l:List Int}(h:E.toI k=some l):gr (.sl s E fr) (.sl 1 (.ints k l) false):=by
 intro c w v hv
 have he:=ag.toI_l h
 obtain⟨a,cap,hv,hc,gz⟩:=hv
 rw[he]at hv hc gz
 refine⟨a,cap,hv,hc,?_⟩
 rcases gz with gz|⟨b,off,arr,ty,fz,ha,hI,hf,hh,hE⟩
 ·exact .inl gz
 ·cases l with
  |nil=>exact .inl (by simp[ag.l])
  |cons n l=>
   have h1:s=1:=by
    simp only[ag.l,fX,rV,rF]at hE
    exact hE.1.symm
   subst h1
   exact .inr ⟨b,off,arr,ty,fz,ha,hI,(λe=>by cases e),hh,hE⟩
theorem gr.ah{E:ag}{l:List Bool}(h:E.toB=some l):gr (.sl s E fr) (.sl 1 (.ah l) false):=by
 intro c w v hv
 have he:=ag.toB_l h
 obtain⟨a,cap,hv,hc,gz⟩:=hv
 rw[he]at hv hc gz
 refine⟨a,cap,hv,hc,?_⟩
 rcases gz with gz|⟨b,off,arr,ty,fz,ha,hI,hf,hh,hE⟩
 ·exact .inl gz
 ·cases l with
  |nil=>exact .inl (by simp[ag.l])
  |cons n l=>
   have h1:s=1:=by
    simp only[ag.l,fX,rV,rF]at hE
    exact hE.1.symm
   subst h1
   exact .inr ⟨b,off,arr,ty,fz,ha,hI,(λe=>by cases e),hh,hE⟩
theorem ki.rep{c:Ctx}{w:World}:∀{ds es:List D} {vs:List Value},ki ds es->jG c w ds vs->jG c w es vs
 |[],[],[],_,_=>trivial
 |d::l,e::m,v::vs,h,hr=>⟨h.1 _ _ _ hr.1,ki.rep h.2 hr.2⟩
 |[],_::_,_,h,_=>h.elim
 |_::_,[],_,h,_=>h.elim
 |[],[],_::_,_,hr=>hr.elim
 |_::_,_::_,[],_,hr=>hr.elim
theorem tU.rep{c:Ctx}{w:World}{d e:D}{v:Value}(h:tU d e)(hr:VRep c w d v):VRep c w e v:=by
 cases d with
 |agg cs=>
  cases e with
  |agg ds=>obtain⟨vs,hv,hx⟩:=hr;exact⟨vs,hv,ki.rep h hx⟩
  |_=>exact h.elim
 |_=>
  have h1:=VRep.toC (λcs e=>by cases e) hr
  have h2:gr _ e:=h
  exact VRep.Fs (h2 _ _ _ h1)
theorem Ei.rep{c:Ctx}{w:World}:∀{ds es:List D} {vs:List Value},Ei ds es->kJ c w ds vs->kJ c w es vs
 |[],[],[],_,_=>trivial
 |d::l,e::m,v::vs,h,hr=>⟨tU.rep h.1 hr.1,Ei.rep h.2 hr.2⟩
 |[],_::_,_,h,_=>h.elim
 |_::_,[],_,h,_=>h.elim
 |[],[],_::_,_,hr=>hr.elim
 |_::_,_::_,[],_,hr=>hr.elim
theorem kM.sub{rows:List Row}{aj:List Row}(hs:Ei args pj)(h:kM P f pj rows res aj):kM P f args rows res aj:=
 λc w vs hm hb hR ha=>h c w vs hm hb hR (Ei.rep hs ha)
theorem gr.ao{k:RK}{E:ag}{l:List (RK.T k)}(h:E.toR k=some l):gr (.sl s E fr) (.sl k.size (.ao k l) false):=by
 intro c w v hv
 have he:=ag.toR_l h
 obtain⟨a,cap,hv,hc,gz⟩:=hv
 rw[he]at hv hc gz
 refine⟨a,cap,hv,hc,?_⟩
 rcases gz with gz|⟨b,off,arr,ty,fz,ha,hI,hf,hh,hE⟩
 ·exact .inl gz
 ·cases l with
  |nil=>exact .inl (by simp[ag.l])
  |cons x l=>
   have h1:s=k.size:=by
    simp only[ag.l,fX,rF]at hE
    rw[<-hE.1];exact RK.sj k x
   subst h1
   exact .inr ⟨b,off,arr,ty,fz,ha,hI,(λe=>by cases e),hh,hE⟩
theorem gr.Ej{E:ag}(h:E.l=[]):gr .c8 (.sl s E false):=by
 intro c w v hv
 exact⟨none,0,by rw[h];exact hv,by rw[h];exact aX _,.inl h⟩
theorem gr.K6{E:ag}(h:E.l=[]):gr .emp (.sl s E false):=by
 intro c w v hv
 obtain⟨a,hv,_⟩:=hv
 exact⟨a,0,by rw[h];exact hv,by rw[h];exact aX _,.inl h⟩
def BB:List (Nat×Nat×Nat)->List (Nat×Nat×Nat)->Bool
 |[],[]=>true
 |(a,b,c)::l,(x,y,z)::m=>bX a x&&(bX b y&&(bX c z&&BB l m))
 |_,_=>false
def tV:List iS->List iS->Bool
 |[],[]=>true
 |.ptr a b c::l,.ptr x y z::m=>bX a x&&(bX b y&&(bX c z&&tV l m))
 |.fn f ps::l,.fn g qs::m=>bX f g&&(BB ps qs&&tV l m)
 |_,_=>false
theorem vB:∀{l m:List (Nat×Nat×Nat)},BB l m=true->l=m
 |[],[],_=>rfl
 |(a,b,c)::l,(x,y,z)::m,h=>by
  simp only[BB,aE]at h
  rw[bE h.1,bE h.2.1,bE h.2.2.1,vB h.2.2.2]
 |[],_::_,h=>by simp[BB]at h
 |_::_,[],h=>by simp[BB]at h
theorem qC:∀{l m:List iS},tV l m=true->l=m:=by
 intro l
 induction l with
 |nil=>intro m h;cases m with
  |nil=>rfl
  |cons _ _=>simp[tV]at h
 |cons a l ih=>
  intro m h
  cases m with
  |nil=>cases a<;>simp[tV]at h
  |cons b m=>
   cases a<;>cases b<;>simp only[tV,aE,aA]at h
   ·rw[bE h.1,bE h.2.1,bE h.2.2.1,ih h.2.2.2]
   ·rw[bE h.1,vB h.2.1,ih h.2.2]
def BC:CT->D->Bool
 |.int k,.int j _=>decide (j=k)
 |.bool,.bool _=>true
 |.str,.str _=>true
 |.ints k,.sl _ E _=>(match E.toI k with|some _=>true|none=>false)
 |.ah,.sl _ E _=>(match E.toB with|some _=>true|none=>false)
 |.ao k,.sl _ E _=>(match E.toR k with|some _=>true|none=>false)
 |.ints _,.c8=>true
 |.ah,.c8=>true
 |.ao _,.c8=>true
 |.ints _,.emp=>true
 |.ah,.emp=>true
 |.ao _,.emp=>true
 |.row i,.all r=>bX r i
 |.nil,.sl s (.gen []) false=>bX s 0
 |.Jb,.c8=>true
 |.self _,.iQ=>true
 |.gv f cs,.gv g ds=>bX g f&&tV ds cs
 |.self i,.gw r=>bX r i
 |.self i,.ptr r o f=>bX r i&&(bX o 0&&bX f 0)
 |.pt i a b,.ptr r o f=>bX r i&&(bX o a&&bX f b)
 |_,_=>false
inductive PT where
 |one (t:CT)
 |agg (ts:List CT)
 |ptr (i:Nat)
 |gv (f:Nat) (cs:List iS)
inductive RT where
 |box (ty sz:Nat) (ts:List CT)
 |arr (ty sz:Nat) (t:CT)
def K7:List CT->List D->Bool
 |[],[]=>true
 |t::ts,d::ds=>BC t d&&K7 ts ds
 |_,_=>false
def wN:PT->D->Bool
 |.agg ts,.agg cs=>K7 ts cs
 |.one t,d=>BC t d
 |.ptr i,.ptr r j o=>bX r i&&(bX j 0&&bX o 0)
 |.gv f cs,.gv g ds=>bX g f&&tV ds cs
 |_,_=>false
def IQ:PT->D->D
 |.agg ts,d=>.agg (wV ts d.cells 0)
 |.one t,d=>Ey t d
 |.ptr i,_=>.ptr i 0 0
 |.gv f cs,_=>.gv f cs
def Ce:List PT->List D->Bool
 |[],[]=>true
 |s::l,d::ds=>wN s d&&Ce l ds
 |_,_=>false
def lN:List PT->List D->Nat->List D
 |[],_,_=>[]
 |s::l,args,i=>IQ s (args.getD i .dead)::lN l args (i+1)
def Row.cs(r:Row):List D:=match r.es with|.gen [e]=>e|_=>[]
def wO:RT->Row->Bool
 |.box ty sz ts,⟨true,kg,kC,.gen [e]⟩=>bX kg ty&&(bX kC sz&&K7 ts e)
 |.arr ty sz t,⟨false,kg,kC,E⟩=>bX kg ty&&(bX kC sz&&(match toCT t E with|some _=>true|none=>false))
 |_,_=>false
def TF(t:CT)(E:ag):ag:=match t with
 |.ints k=>.ints k (match E.toI k with|some l=>l|none=>[])
 |.ah=>.ah (match E.toB with|some l=>l|none=>[])
 |.ao k=>.ao k (match E.toR k with|some l=>l|none=>[])
 |_=>.gen []
theorem zaH{t:CT}{E E':ag}(h:toCT t E=some E'):TF t E=E':=by
 cases t with
 |ints k=>
  simp only[toCT]at h
  split at h
  ·rename_i l hl
   cases h
   show ag.ints k (match E.toI k with|some l=>l|none=>[])=_
   rw[hl]
  ·cases h
 |ah=>
  simp only[toCT]at h
  split at h
  ·rename_i l hl
   cases h
   show ag.ah (match E.toB with|some l=>l|none=>[])=_
   rw[hl]
  ·cases h
 |ao k=>
  simp only[toCT]at h
  split at h
  ·rename_i l hl
   cases h
   show ag.ao k (match E.toR k with|some l=>l|none=>[])=_
   rw[hl]
  ·cases h
 |_=>simp[toCT]at h
def AE:RT->Row->Row
 |.box ty sz ts,r=>⟨true,ty,sz,.gen [wV ts r.cs 0]⟩
 |.arr ty sz t,r=>⟨false,ty,sz,TF t r.es⟩
def Cf:List RT->List Row->Bool
 |[],[]=>true
 |s::l,r::rs=>wO s r&&Cf l rs
 |_,_=>false
def kR:List RT->List Row->Nat->List Row
 |[],_,_=>[]
 |s::l,rows,i=>AE s (rows.getD i default)::kR l rows (i+1)
def au(args:List D)(i:Nat):Int:=(args.getD i .dead).toInt
def kZ(args:List D)(i:Nat):Bool:=(args.getD i .dead).toBool
def jT(args:List D)(i:Nat):List UInt8:=(args.getD i .dead).toStr
def c9(k:IntKind)(args:List D)(i:Nat):List Int:=iv k (args.getD i .dead)
def nG(args:List D)(i:Nat):List Bool:=mb (args.getD i .dead)
def ji(k:RK)(args:List D)(i:Nat):List (RK.T k):=nN k (args.getD i .dead)
def tW(rows:List Row)(i j:Nat):D:=((rows.getD i default).cs.getD j .dead)
def mA(k:IntKind)(rows:List Row)(i:Nat):List Int:=match(rows.getD i default).es.toI k with|some l=>l|none=>[]
def tX(k:RK)(rows:List Row)(i:Nat):List (RK.T k):=match(rows.getD i default).es.toR k with|some l=>l|none=>[]
theorem Zh6{t:CT}(h:BC t d=true):gr d (Ey t d):=by
 cases t<;>cases d<;>(try(simp[BC]at h;done))
 case int.int=>simp[BC]at h;subst h;exact gr.rfl
 case nil.sl s E fr=>
  unfold BC at h
  split at h<;>simp_all
  exact gr.rfl
 case Jb.c8=>exact gr.rfl
 case bool.bool=>exact gr.rfl
 case str.str=>exact gr.rfl
 case ints.sl k sz E fr=>
  simp only[BC]at h
  split at h
  ·rename_i l hl
   simp only[Ey,iv,hl]
   exact gr.ints hl
  ·cases h
 case ints.c8=>exact gr.Ej rfl
 case ints.emp=>exact gr.K6 rfl
 case ah.sl sz E fr=>
  simp only[BC]at h
  split at h
  ·rename_i l hl
   simp only[Ey,mb,hl]
   exact gr.ah hl
  ·cases h
 case ah.c8=>exact gr.Ej rfl
 case ah.emp=>exact gr.K6 rfl
 case ao.sl k sz E fr=>
  simp only[BC]at h
  split at h
  ·rename_i l hl
   simp only[Ey,nN,hl]
   exact gr.ao hl
  ·cases h
 case ao.c8=>exact gr.Ej rfl
 case ao.emp=>exact gr.K6 rfl
 case row.all i r=>rw[bE h];exact gr.rfl
 case gv.gv f cs g ds=>
  simp only[BC,aE]at h
  rw[bE h.1,qC h.2]
  exact gr.rfl
 case self.iQ i=>exactλc w v hv=>.inl hv
 case self.gw i r=>rw[bE h];exact gr.rfl
 case self.ptr i r o f=>
  simp only[BC,aE]at h
  rw[bE h.1,bE h.2.1,bE h.2.2]
  exactλc w v hv=>.inr hv
 case pt.ptr i a b r o f=>
  simp only[BC,aE]at h
  rw[bE h.1,bE h.2.1,bE h.2.2]
  exact gr.rfl
theorem Z3h:∀{ts:List CT} {pre ds:List D},K7 ts ds=true->ki ds (wV ts (pre++ds) pre.length)
 |[],pre,[],_=>trivial
 |t::ts,pre,d::ds,h=>by
  simp only[K7,aE]at h
  have h2:=Z3h (pre:=pre++[d]) h.2
  simp only[wV]
  refine⟨?_,by simpa using h2⟩
  have:(pre++d::ds).getD pre.length .dead=d:=by simp[aV]
  rw[this];exact Zh6 h.1
 |[],_,_::_,h=>by simp[K7]at h
 |_::_,_,[],h=>by simp[K7]at h
theorem tU.of1{d e:D}(hd:∀cs,d≠.agg cs)(h:gr d e):tU d e:=by
 cases d<;>first|exact h|exact absurd rfl (hd _)
theorem Zzp{s:PT}(h:wN s d=true):tU d (IQ s d):=by
 unfold wN at h
 split at h
 ·rename_i ts cs
  exact Z3h (pre:=[]) h
 ·rename_i t d
  refine tU.of1 (λcs e=>?_) (Zh6 h)
  subst e
  cases t<;>simp[BC]at h
 ·rename_i i r j o
  simp only[aE]at h
  rw[bE h.1,bE h.2.1,bE h.2.2]
  exact gr.rfl
 ·rename_i f cs g ds
  simp only[aE]at h
  rw[bE h.1,qC h.2]
  exact gr.rfl
 ·cases h
theorem Z5q:∀{l:List PT} {pre ds:List D},Ce l ds=true->Ei ds (lN l (pre++ds) pre.length)
 |[],pre,[],_=>trivial
 |s::l,pre,d::ds,h=>by
  simp only[Ce,aE]at h
  have h2:=Z5q (pre:=pre++[d]) h.2
  simp only[lN]
  refine⟨?_,by simpa using h2⟩
  have:(pre++d::ds).getD pre.length .dead=d:=by simp[aV]
  rw[this];exact Zzp h.1
 |[],_,_::_,h=>by simp[Ce]at h
 |_::_,_,[],h=>by simp[Ce]at h
def tY(a b:Row):Prop:=b.box=a.box/\b.ty=a.ty/\b.sz=a.sz/\b.es.l.length=a.es.l.length/\match a.box with
 |true=>∃e e',a.es=.gen [e]/\b.es=.gen [e']/\e'.length=e.length/\ki e e'
 |false=>b.es.l=a.es.l
theorem ki.length:∀{ds es:List D},ki ds es->ds.length=es.length
 |[],[],_=>rfl
 |_::_,_::_,h=>by simp[ki.length h.2]
 |[],_::_,h=>h.elim
 |_::_,[],h=>h.elim
theorem Zxu{s:RT}{r:Row}(h:wO s r=true):tY r (AE s r):=by
 unfold wO at h
 split at h
 ·rename_i ty sz ts kg kC e
  simp only[aE]at h
  have h3:=Z3h (pre:=[]) h.2.2
  have hl:=h3.length
  exact⟨rfl,(bE h.1).symm,(bE h.2.1).symm,rfl,_,_,rfl,rfl,hl.symm,h3⟩
 ·rename_i ty sz t kg kC E
  simp only[aE]at h
  obtain⟨h1,h2,h3⟩:=h
  split at h3
  ·rename_i E' hE
   have he:=ag.AU (OL hE)
   have hc:AE (.arr ty sz t) ⟨false,kg,kC,E⟩=⟨false,ty,sz,E'⟩:=by simp[AE,zaH hE]
   rw[hc]
   exact⟨rfl,(bE h1).symm,(bE h2).symm,by simp only[he],he.symm⟩
  ·cases h3
 ·cases h
theorem Qyz:∀{l:List RT} {pre rs:List Row},Cf l rs=true->rs.length=l.length/\∀(i:Nat) r,rs[i]?=some r->∃r',(kR l (pre++rs) pre.length)[i]?=some r'/\tY r r'
 |[],pre,[],_=>⟨rfl,λi r h=>by simp at h⟩
 |s ::l,pre,r::rs,h=>by
  simp only[Cf,aE]at h
  obtain⟨h1,h2⟩:=Qyz (pre:=pre++[r]) h.2
  refine⟨by simp[h1],λi q hq=>?_⟩
  cases i with
  |zero=>
   simp at hq;subst hq
   have:(pre++r::rs).getD pre.length default=r:=by simp[aV]
   exact⟨_,by simp only[kR,this];rfl,Zxu h.1⟩
  |succ i=>
   obtain⟨q',g1,g2⟩:=h2 i q (by simpa using hq)
   refine⟨q',?_,g2⟩
   simp only[kR,List.getElem?_cons_succ]
   simpa using g1
 |[],_,_::_,h=>by simp[Cf]at h
 |_::_,_,[],h=>by simp[Cf]at h
theorem Xt:∀{l:List RT} {rows:List Row} {i:Nat},(kR l rows i).length=l.length
 |[],_,_=>rfl
 |s::l,rows,i=>by simp[kR,Xt]
theorem xC:d.na (λr=>r) true=d:=by
 cases d with
 |gv f cs=>simp only[D.na,Zb2]
 |_=>simp[D.na]
theorem Xu:∀{ds:List D},D.nb (λr=>r) true ds=ds
 |[]=>rfl
 |d::l=>by simp[D.nb,xC,Xu (ds:=l)]
theorem zaU:d.jB (λr=>r) true=d:=by
 cases d with
 |agg cs=>show D.agg (D.nb _ true cs)=_;rw[Xu]
 |gv f cs=>exact xC (d:=.gv f cs)
 |_=>simp[D.jB,D.na]
theorem ki.cells{c:Ctx}{w:World}:∀{ds es:List D} {arr:Array Value} {off:Nat},ki ds es->lg c w ds arr off->lg c w es arr off
 |[],[],_,_,_,_=>trivial
 |d::l,e::m,_,_,h,⟨⟨v,hv,h1⟩,h2⟩=>⟨⟨v,hv,h.1 _ _ _ h1⟩,ki.cells h.2 h2⟩
 |[],_::_,_,_,h,_=>h.elim
 |_::_,[],_,_,h,_=>h.elim
theorem Zju{c1 c2:Ctx}{w:World}(hn:EZ (λ_=>True) (λr=>r) true c1 c2)(hI:∀b,c1.I b->c2.I b):∀{ds:List D} {vs:List Value},kJ c1 w ds vs->kJ c2 w ds vs
 |[],[],_=>trivial
 |d::ds,v::vs,h=>⟨by have:=SC hn (flat:=False) (.inl hI) (λ_ _=>trivial) (λe=>e.elim) h.1;rwa [zaU]at this,Zju hn hI h.2⟩
 |[],_::_,h=>h.elim
 |_::_,[],h=>h.elim
theorem kM.K8{rows lB:List Row}{aj:List Row}(hs:Ei args pj)(hl:lB.length=rows.length)(hr:∀(i:Nat) r,rows[i]?=some r->∃r',lB[i]?=some r'/\tY r r')(h:kM P f pj lB res aj):kM P f args rows res aj:=by
 intro c w vs hm hb hR ha
 let c2:Ctx:={c with R:=λr=>lB[r]? }
 have TG:∀r row,c.R r=some row->∃aq,c2.R r=some aq/\tY row aq:=λr row c6=>by
  rw[hR]at c6;exact hr r row c6
 have wP:∀r aq,c2.R r=some aq->∃row,c.R r=some row/\tY row aq:=λr aq c6=>by
  have c6:lB[r]?=some aq:=c6
  have bc:=(List.getElem?_eq_some_iff.1 c6).1
  have h1:rows[r]?=some rows[r]:=aI (by omega)
  obtain⟨jS,g1,g2⟩:=hr r _ h1
  rw[c6]at g1;cases g1
  exact⟨_,by rw[hR];exact h1,g2⟩
 have hn:EZ (λ_=>True) (λr=>r) true c c2:=⟨λi row _ c6=>by
  obtain⟨aq,g1,g2,g3,g4,g5,_⟩:=TG i row c6
  exact⟨aq,g1,g2,g3,g4,g5,rfl,Iff.rfl⟩,λ_=>aX _,aX _⟩
 have CI:Mem c2 w:=by
  refine⟨λr aq c6=>?_,λr s x y h1 h2 v1 v2 he=>?_,λb ik=>⟨(hm.fk b ik).1,λr x h1 v=>?_⟩,hm.top,hm.kb⟩
  ·obtain⟨row,g1,g2,g3,g4,g5,g6⟩:=wP r aq c6
   rcases hm.row r row g1 with⟨k1,k2,k3,k4⟩|⟨k1,arr,k2,k3,k4⟩
   ·refine .inl ⟨k1,g2.trans k2,?_,by rw[g4];exact k4⟩
    rw[k2]at g6;simp only at g6;rw[g6,k3]
   ·refine .inr ⟨k1,arr,by rw[g3];exact k2,by rw[g4];exact k3,?_⟩
    rw[g2,g4]
    cases Ap:row.box with
    |false=>
     simp only[Ap,aA,if_false]at k4 g6⊢
     rw[g6];exact k4
    |true=>
     simp only[Ap,if_true]at k4 g6⊢
     obtain⟨e,e',q1,q2,q3,q4⟩:=g6
     obtain⟨e0,p1,p2,p3,p4⟩:=k4
     rw[q1]at p1;cases p1
     refine⟨e',q2,by rw[q3];exact p2,p3,?_⟩
     have:=WX hn (flat:=False) (.inl λb hb=>hb) (λ_ _=>trivial) (λe=>e.elim) (ki.cells q4 p4)
     rwa [Xu]at this
  ·obtain⟨x',g1,_⟩:=wP r x h1
   obtain⟨y',g2,_⟩:=wP s y h2
   exact hm.inj r s x' y' g1 g2 v1 v2 he
  ·obtain⟨x',g1,_⟩:=wP r x h1
   exact(hm.fk b ik).2 r x' g1 v
 refine(h c2 w vs CI hb (λr=>rfl) (Zju hn (λb h=>h) (Ei.rep hs ha))).mono λe w' hq=>?_
 obtain⟨v,c',he,hx,ku,hv⟩:=hq
 refine⟨v,c',he,⟨hx.mem,⟨hx.cz.base,hx.cz.top,hx.cz.I,λr row c6=>?_⟩,hx.fr.mono λb _ ⟨r,x,h1,h2,h3⟩=>?_,hx.fk,λr aq h1 h2=>?_⟩,ku,hv⟩
 ·obtain⟨jS,g1,g2,g3,g4,g5,g6⟩:=TG r row c6
  obtain⟨aq,k1,k2,k3,k4,k5,k6,k7,k8⟩:=hx.cz.R r jS g1
  exact⟨aq,k1,k2.trans g2,k3.trans g3,k4.trans g4,k5.trans g5,k6,k7,λnv arr ha=>by rw[<-g3]at ha⊢;exact k8 nv arr ha⟩
 ·obtain⟨x',g1,_⟩:=wP r x h1
  exact⟨r,x',g1,h2,h3⟩
 ·rcases hx.oO r aq h1 h2 with⟨⟨x,pP⟩,h3,h4⟩|h3
  ·obtain⟨x',g1,_⟩:=wP r x pP
   exact .inl ⟨⟨x',g1⟩,h3,h4⟩
  ·exact .inr h3
theorem uG.K8{rows lB:List Row}{aj:List Row}(hs:Ei args pj)(hl:lB.length=rows.length)(hr:∀(i:Nat) r,rows[i]?=some r->∃r',lB[i]?=some r'/\tY r r')(h:uG P f k pj lB res aj):uG P f k args rows res aj:=by
 intro c w vs hm hb hR ha
 let c2:Ctx:={c with R:=λr=>lB[r]? }
 have TG:∀r row,c.R r=some row->∃aq,c2.R r=some aq/\tY row aq:=λr row c6=>by
  rw[hR]at c6;exact hr r row c6
 have wP:∀r aq,c2.R r=some aq->∃row,c.R r=some row/\tY row aq:=λr aq c6=>by
  have c6:lB[r]?=some aq:=c6
  have bc:=(List.getElem?_eq_some_iff.1 c6).1
  have h1:rows[r]?=some rows[r]:=aI (by omega)
  obtain⟨jS,g1,g2⟩:=hr r _ h1
  rw[c6]at g1;cases g1
  exact⟨_,by rw[hR];exact h1,g2⟩
 have hn:EZ (λ_=>True) (λr=>r) true c c2:=⟨λi row _ c6=>by
  obtain⟨aq,g1,g2,g3,g4,g5,_⟩:=TG i row c6
  exact⟨aq,g1,g2,g3,g4,g5,rfl,Iff.rfl⟩,λ_=>aX _,aX _⟩
 have CI:Mem c2 w:=by
  refine⟨λr aq c6=>?_,λr s x y h1 h2 v1 v2 he=>?_,λb ik=>⟨(hm.fk b ik).1,λr x h1 v=>?_⟩,hm.top,hm.kb⟩
  ·obtain⟨row,g1,g2,g3,g4,g5,g6⟩:=wP r aq c6
   rcases hm.row r row g1 with⟨k1,k2,k3,k4⟩|⟨k1,arr,k2,k3,k4⟩
   ·refine .inl ⟨k1,g2.trans k2,?_,by rw[g4];exact k4⟩
    rw[k2]at g6;simp only at g6;rw[g6,k3]
   ·refine .inr ⟨k1,arr,by rw[g3];exact k2,by rw[g4];exact k3,?_⟩
    rw[g2,g4]
    cases Ap:row.box with
    |false=>
     simp only[Ap,aA,if_false]at k4 g6⊢
     rw[g6];exact k4
    |true=>
     simp only[Ap,if_true]at k4 g6⊢
     obtain⟨e,e',q1,q2,q3,q4⟩:=g6
     obtain⟨e0,p1,p2,p3,p4⟩:=k4
     rw[q1]at p1;cases p1
     refine⟨e',q2,by rw[q3];exact p2,p3,?_⟩
     have:=WX hn (flat:=False) (.inl λb hb=>hb) (λ_ _=>trivial) (λe=>e.elim) (ki.cells q4 p4)
     rwa [Xu]at this
  ·obtain⟨x',g1,_⟩:=wP r x h1
   obtain⟨y',g2,_⟩:=wP s y h2
   exact hm.inj r s x' y' g1 g2 v1 v2 he
  ·obtain⟨x',g1,_⟩:=wP r x h1
   exact(hm.fk b ik).2 r x' g1 v
 refine(h c2 w vs CI hb (λr=>rfl) (Zju hn (λb h=>h) (Ei.rep hs ha))).mono (λb hb=>hb) λe w' hq=>?_
 obtain⟨v,c',he,hx,ku,hv⟩:=hq
 rw[hl]at hx
 refine⟨v,c',he,⟨hx.mem,⟨hx.cz.base,hx.cz.top,hx.cz.I,λr row c6=>?_⟩,hx.fr.mono λb _ ⟨r,x,h1,h2,h3⟩=>?_,λb hb=>?_,λr aq h1 h2=>?_⟩,ku,hv⟩
 ·obtain⟨q,j0,DX,rfl⟩:=nK c6
  obtain⟨jS,g1,g2,g3,g4,g5,g6⟩:=TG r j0 DX
  obtain⟨aq,k1,k2,k3,k4,k5,k6,k7,k8⟩:=hx.cz.R r (jS.kill _) (by simp only[Ctx.kill];rw[if_neg (by rw[q];simp),g1];rfl)
  obtain⟨s1,s2,s3,s4⟩:=wZ (bO k (rows.length-k)) j0
  obtain⟨t1,t2,t3,t4⟩:=wZ (bO k (rows.length-k)) jS
  refine⟨aq,k1,k2.trans (t1.trans (g2.trans s1.symm)),k3.trans (t2.trans (g3.trans s2.symm)),k4.trans (t3.trans (g4.trans s3.symm)),k5.trans (t4.trans (g5.trans s4.symm)),k6,k7,λnv arr ha=>?_⟩
  rw[s2]at ha⊢
  have:=k8 nv arr (by rw[t2,g3];exact ha)
  rw[t2,g3]at this
  exact this
 ·obtain⟨x',g1,_⟩:=wP r x h1
  exact⟨r,x',g1,h2,h3⟩
 ·rcases hx.fk b hb with h|⟨s,x,h1,h2,h3,h4⟩|h
  ·exact .inl h
  ·obtain⟨x',g1,_⟩:=wP s x h2
   exact .inr (.inl ⟨s,x',h1,g1,h3,h4⟩)
  ·exact .inr (.inr h)
 ·rcases hx.oO r aq h1 h2 with⟨⟨x,pP⟩,h3,h4⟩|⟨s,x,q1,q2,q3,q4⟩|h3
  ·obtain⟨x',g1,_⟩:=wP r x pP
   exact .inl ⟨⟨x',g1⟩,h3,h4⟩
  ·obtain⟨x',g1,_⟩:=wP s x q2
   exact .inr (.inl ⟨s,x',q1,g1,q3,q4⟩)
  ·exact .inr (.inr h3)
def G7(f:FuncId)(refs:List Bool)(flat:Bool)(sig:List PT)(du:List RT){α:Type}(v:List D->List Row->α)(enc:α->D)(out:α->List Row):bd:=
 ⟨f,refs,flat,λargs rows=>match Ce sig args&&Cf du rows with|true=>.abs α (v args rows) enc out|false=>.no,none,false⟩
def lj(f:FuncId)(refs:List Bool)(flat:Bool)(sig:List PT)(du:List RT)(pre:List D->List Row->Prop){α:Type}(v:List D->List Row->α)(enc:α->D)(out:α->List Row):bd:=
 ⟨f,refs,flat,λargs rows=>match Ce sig args&&Cf du rows with|true=>.lX (pre args rows) α (v args rows) enc out|false=>.no,none,false⟩
def bd.fz(x:bd):bd:={x with pL:=true}
theorem AF{x:bd}(h:bu P x):bu P x.fz:=⟨h.enters,h.real,h.ok,h.when,h.abs,h.lX,h.So,h.Ik⟩
def K9(k:Nat)(f:FuncId)(refs:List Bool)(sig:List PT)(du:List RT){α:Type}(v:List D->List Row->α)(enc:α->D)(out:α->List Row):bd:=
 ⟨f,refs,false,λargs rows=>match Ce sig args&&Cf du rows with|true=>.abs α (v args rows) enc out|false=>.no,some k,false⟩
def ka(k:Nat)(f:FuncId)(refs:List Bool)(sig:List PT)(du:List RT)(pre:List D->List Row->Prop){α:Type}(v:List D->List Row->α)(enc:α->D)(out:α->List Row):bd:=
 ⟨f,refs,false,λargs rows=>match Ce sig args&&Cf du rows with|true=>.lX (pre args rows) α (v args rows) enc out|false=>.no,some k,false⟩
def ag.AG:ag->Bool
 |.gen _=>false
 |.ao k _=>k.nE
 |_=>true
theorem ag.tZ{E:ag}(h:E.AG=true):E.Gu:=by
 cases E with
 |gen es=>simp[ag.AG]at h
 |ao k l=>exact h
 |_=>trivial
def Ek:D->Bool|.sl _ E fr=>fr&&E.AG|.iu _ _ _ _=>false|.gv _ _=>false|_=>true
def El:List D->Bool|[]=>true|d::l=>Ek d&&El l
def La:D->Bool|.agg cs=>El cs|d=>Ek d
def GQ:List D->Bool|[]=>true|d::l=>La d&&GQ l
def ue:D->Bool|.dw ds=>GQ ds|d=>La d
def jP:List Row->Bool
 |[]=>true
 |⟨true,_,_,.gen [e]⟩::l=>El e&&jP l
 |⟨false,_,_,E⟩::l=>E.AG&&jP l
 |_=>false
theorem TH(h:Ek d=true):SB d:=by
 cases d<;>first|trivial|(simp[Ek]at h;done)|skip
 case sl sz E fr=>simp only[Ek,aE]at h;exact⟨.inr h.1,ag.tZ h.2⟩
theorem Xv:∀{ds:List D},El ds=true->NJ ds
 |[],_=>trivial
 |d::l,h=>by simp only[El,aE]at h;exact⟨TH h.1,Xv h.2⟩
theorem xaH(h:La d=true):WW d:=by
 cases d with
 |agg cs=>exact Xv h
 |sl a b c=>exact TH (d:=.sl a b c) h
 |iu a b c e=>exact TH (d:=.iu a b c e) h
 |_=>trivial
theorem zC:∀{ds:List D},GQ ds=true->Gv ds
 |[],_=>trivial
 |d::l,h=>by simp only[GQ,aE]at h;exact⟨xaH h.1,zC h.2⟩
theorem xag(h:ue d=true):FF d:=by
 cases d with
 |dw ds=>exact zC h
 |agg cs=>exact Xv h
 |sl a b c=>exact TH (d:=.sl a b c) h
 |iu a b c e=>exact TH (d:=.iu a b c e) h
 |_=>trivial
theorem Xw:∀{rs:List Row},jP rs=true->si rs
 |[],_=>trivial
 |⟨true,_,_,.gen [e]⟩::l,h=>by
  simp only[jP,aE]at h
  refine⟨?_,Xw h.2⟩
  simp only[KF,if_true,ag.l,List.mem_singleton,forall_eq]
  exact Xv h.1
 |⟨false,_,_,E⟩::l,h=>by
  simp only[jP,aE]at h
  refine⟨?_,Xw h.2⟩
  simp only[KF,aA,if_false]
  exact ag.tZ h.1
 |⟨true,_,_,.gen []⟩::l,h=>by simp[jP]at h
 |⟨true,_,_,.gen (_::_::_)⟩::l,h=>by simp[jP]at h
 |⟨true,_,_,.ints _ _⟩::l,h=>by simp[jP]at h
 |⟨true,_,_,.ah _⟩::l,h=>by simp[jP]at h
 |⟨true,_,_,.ao _ _⟩::l,h=>by simp[jP]at h
theorem qah{sig:List PT}{du:List RT}{rows:List Row}{out:List Row}(hs:(Ce sig args&&Cf du rows)=true)(h:kM P f (lN sig args 0) (kR du rows 0) res out):kM P f args rows res out:=by
 simp only[aE]at hs
 obtain⟨h1,h2⟩:=Qyz (pre:=[]) hs.2
 exact kM.K8 (Z5q (pre:=[]) hs.1) (by rw[Xt,h1]) h2 h
theorem xaU{sig:List PT}{du:List RT}{α:Type}{v:List D->List Row->α}{enc:α->D}{out:α->List Row}(he:∀args w,(callFunc f args).run P w=.ok (.enter f args) w)(h:∀args rows,kM P f (lN sig args 0) (kR du rows 0) (enc (v args rows)) (out (v args rows)))
 (hf:flat=true->∀X,(ue (enc X)&&jP (out X))=true) (hy:bN f YB=true:=by rfl):bu P (G7 f refs flat sig du v enc out):=by
 refine⟨λ_=>he,λ_=>lE hy,λ_ args rows r r' hm=>?_,λ_ args rows p r r' hm=>?_,λ_ args rows α' v' r r' hm=>?_,λ_ args rows p α' v' r r' hm=>?_,λk hk=>(by cases hk),λk hk=>(by cases hk)⟩
 ·simp only[G7]at hm
  split at hm<;>cases hm
 ·simp only[G7]at hm
  split at hm<;>cases hm
 ·simp only[G7]at hm
  split at hm
  ·rename_i hs
   cases hm
   exact⟨qah hs (h args rows),λe=>by have:=hf e (v args rows);simp only[aE]at this;exact⟨xag this.1,Xw this.2⟩⟩
  ·cases hm
 ·simp only[G7]at hm
  split at hm<;>cases hm
theorem GR{sig:List PT}{du:List RT}{pre:List D->List Row->Prop}{α:Type}{v:List D->List Row->α}{enc:α->D}{out:α->List Row}(he:∀args w,(callFunc f args).run P w=.ok (.enter f args) w)(h:∀args rows,pre args rows->kM P f (lN sig args 0) (kR du rows 0) (enc (v args rows)) (out (v args rows)))
 (hf:flat=true->∀X,(ue (enc X)&&jP (out X))=true) (hy:bN f YB=true:=by rfl):bu P (lj f refs flat sig du pre v enc out):=by
 refine⟨λ_=>he,λ_=>lE hy,λ_ args rows r r' hm=>?_,λ_ args rows p r r' hm=>?_,λ_ args rows α' v' r r' hm=>?_,λ_ args rows p α' v' r r' hm hp=>?_,λk hk=>(by cases hk),λk hk=>(by cases hk)⟩
 ·simp only[lj]at hm
  split at hm<;>cases hm
 ·simp only[lj]at hm
  split at hm<;>cases hm
 ·simp only[lj]at hm
  split at hm<;>cases hm
 ·simp only[lj]at hm
  split at hm
  ·rename_i hs
   cases hm
   exact⟨qah hs (h args rows hp),λe=>by have:=hf e (v args rows);simp only[aE]at this;exact⟨xag this.1,Xw this.2⟩⟩
  ·cases hm
theorem yC{sig:List PT}{du:List RT}{rows:List Row}{out:List Row}(hs:(Ce sig args&&Cf du rows)=true)(h:uG P f k (lN sig args 0) (kR du rows 0) res out):uG P f k args rows res out:=by
 simp only[aE]at hs
 obtain⟨h1,h2⟩:=Qyz (pre:=[]) hs.2
 exact uG.K8 (Z5q (pre:=[]) hs.1) (by rw[Xt,h1]) h2 h
theorem qaV{sig:List PT}{du:List RT}{α:Type}{v:List D->List Row->α}{enc:α->D}{out:α->List Row}(he:f<YB->∀args w,(callFunc f args).run P w=.ok (.enter f args) w)(h:∀args rows,uG P f k (lN sig args 0) (kR du rows 0) (enc (v args rows)) (out (v args rows))):
 bu P (K9 k f refs sig du v enc out):=by
 refine⟨he,λhk=>(by cases hk),λhk=>(by cases hk),λhk=>(by cases hk),λhk=>(by cases hk),λhk=>(by cases hk),λk' hk args rows α' v' r r' hm=>?_,λk' hk args rows p α' v' r r' hm hp=>?_⟩
 ·cases hk
  simp only[K9]at hm
  split at hm
  ·rename_i hs
   cases hm
   exact yC hs (h args rows)
  ·cases hm
 ·simp only[K9]at hm
  split at hm<;>cases hm
theorem qaI{sig:List PT}{du:List RT}{pre:List D->List Row->Prop}{α:Type}{v:List D->List Row->α}{enc:α->D}{out:α->List Row}(he:f<YB->∀args w,(callFunc f args).run P w=.ok (.enter f args) w)(h:∀args rows,pre args rows->uG P f k (lN sig args 0) (kR du rows 0) (enc (v args rows)) (out (v args rows))):
 bu P (ka k f refs sig du pre v enc out):=by
 refine⟨he,λhk=>(by cases hk),λhk=>(by cases hk),λhk=>(by cases hk),λhk=>(by cases hk),λhk=>(by cases hk),λk' hk args rows α' v' r r' hm=>?_,λk' hk args rows p α' v' r r' hm hp=>?_⟩
 ·simp only[ka]at hm
  split at hm<;>cases hm
 ·cases hk
  simp only[ka]at hm
  split at hm
  ·rename_i hs
   cases hm
   exact yC hs (h args rows hp)
  ·cases hm
def eu{α β:Type}(v:α)(m:α->β):β:=m v
def fp(α:Type)(x y:α):Prop:=x=y
abbrev rE{α:Type}(x:α):Prop:=x=x
abbrev zM:bj:={B2:={X:={a0:=0,a1:=0,a2:=0,a3:=0,a4:=0,a5:=0,a6:=0,a7:=0,a8:=0,a9:=0,ug:=0,uh:=0,a12:=0,ui:=0,uj:=0,uk:=0},Pc:=0,C4:={a0:=0,a1:=0,a2:=0,a3:=0,a4:=0,a5:=0,a6:=0,a7:=0}},Mem:=[],B3:={D9:=[]},C1:={E0:=false,D0:=0,D8:=false},B6:={ab:=0,C8:=0,Frame:=0,C9:=0,F5:=0,C5:=0,C6:=0,C7:=[]},D4:={Frame:=0,F7:=0,D2:=false,D5:=0,C3:=false,F8:=0},B0:={A2:=0,D1:=0},B9:=0,B4:=false,B8:=false}
abbrev mE(m:bj)(P Q:Prop):Prop:=rE m.B2.X.a0/\rE m.B2.X.a1/\rE m.B2.X.a2/\rE m.B2.X.a3/\rE m.B2.X.a4/\rE m.B2.X.a5/\rE m.B2.X.a6/\rE m.B2.X.a7/\rE m.B2.X.a8/\rE m.B2.X.a9/\rE m.B2.X.ug/\rE m.B2.X.uh/\rE m.B2.X.a12/\rE m.B2.X.ui/\rE m.B2.X.uj/\rE m.B2.X.uk/\rE m.B2.Pc/\rE m.B2.C4.a0/\rE m.B2.C4.a1/\rE m.B2.C4.a2/\rE m.B2.C4.a3/\rE m.B2.C4.a4/\rE m.B2.C4.a5/\rE m.B2.C4.a6/\rE m.B2.C4.a7/\P/\rE m.B3.D9/\rE m.C1.E0/\rE m.C1.D0/\rE m.C1.D8/\rE m.B6.ab/\rE m.B6.C8/\rE m.B6.Frame/\rE m.B6.C9/\rE m.B6.F5/\rE m.B6.C5/\rE m.B6.C6/\rE m.B6.C7/\rE m.D4.Frame/\rE m.D4.F7/\rE m.D4.D2/\rE m.D4.D5/\rE m.D4.C3/\rE m.D4.F8/\rE m.B0.A2/\rE m.B0.D1/\rE m.B9/\rE m.B4/\rE m.B8/\Q
abbrev mR(f:Nat->D)(M:List Int):bj:=(⟨(⟨(⟨(f 0).toInt,(f 1).toInt,(f 2).toInt,(f 3).toInt,(f 4).toInt,(f 5).toInt,(f 6).toInt,(f 7).toInt,(f 8).toInt,(f 9).toInt,(f 10).toInt,(f 11).toInt,(f 12).toInt,(f 13).toInt,(f 14).toInt,(f 15).toInt⟩:(jg Int)),(f 16).toInt,(⟨(f 17).toInt,(f 18).toInt,(f 19).toInt,(f 20).toInt,(f 21).toInt,(f 22).toInt,(f 23).toInt,(f 24).toInt⟩:(A8 Int))⟩:cq),M,(⟨(f 26).toStr⟩:jn),(⟨(f 27).toBool,(f 28).toInt,(f 29).toBool⟩:jx),(⟨(f 30).toInt,(f 31).toInt,(f 32).toInt,(f 33).toInt,(f 34).toInt,(f 35).toInt,(f 36).toInt,(f 37).toStr⟩:gk),(⟨(f 38).toInt,(f 39).toInt,(f 40).toBool,(f 41).toInt,(f 42).toBool,(f 43).toInt⟩:iq),(⟨(f 44).toInt,(f 45).toInt⟩:ie),(f 46).toInt,(f 47).toBool,(f 48).toBool⟩:bj)
abbrev mD(x:bj)(d:D):List D:=[.int u32 x.B2.X.a0,.int u32 x.B2.X.a1,.int u32 x.B2.X.a2,.int u32 x.B2.X.a3,.int u32 x.B2.X.a4,.int u32 x.B2.X.a5,.int u32 x.B2.X.a6,.int u32 x.B2.X.a7,.int u32 x.B2.X.a8,.int u32 x.B2.X.a9,.int u32 x.B2.X.ug,.int u32 x.B2.X.uh,.int u32 x.B2.X.a12,.int u32 x.B2.X.ui,.int u32 x.B2.X.uj,.int u32 x.B2.X.uk,.int u32 x.B2.Pc,.int u32 x.B2.C4.a0,.int u32 x.B2.C4.a1,.int u32 x.B2.C4.a2,.int u32 x.B2.C4.a3,.int u32 x.B2.C4.a4,.int u32 x.B2.C4.a5,.int u32 x.B2.C4.a6,.int u32 x.B2.C4.a7,d,.str x.B3.D9,.bool x.C1.E0,.int u32 x.C1.D0,.bool x.C1.D8,.int u32 x.B6.ab,.int u32 x.B6.C8,.int u32 x.B6.Frame,.int i64 x.B6.C9,.int i64 x.B6.F5,.int u32 x.B6.C5,.int u32 x.B6.C6,.str x.B6.C7,.int u32 x.D4.Frame,.int u32 x.D4.F7,.bool x.D4.D2,.int u32 x.D4.D5,.bool x.D4.C3,.int u32 x.D4.F8,.int u32 x.B0.A2,.int u32 x.B0.D1,.int u64 x.B9,.bool x.B4,.bool x.B8]
abbrev mB(f:Nat->D):List D:=[f 0,f 1,f 2,f 3,f 4,f 5,f 6,f 7,f 8,f 9,f 10,f 11,f 12,f 13,f 14,f 15,f 16,f 17,f 18,f 19,f 20,f 21,f 22,f 23,f 24,f 25,f 26,f 27,f 28,f 29,f 30,f 31,f 32,f 33,f 34,f 35,f 36,f 37,f 38,f 39,f 40,f 41,f 42,f 43,f 44,f 45,f 46,f 47,f 48]
abbrev rZ:Prop:=rE (0:Nat)/\rE (0:Nat)
abbrev nR(k:RK)(n:Nat)(x:List (RK.T k)):Prop:=(ag.Nil (ag.ao k x)\/rE n)/\rE x
abbrev aC(l:List D)(n:Nat):List D:=(l.getD n .dead).cells
theorem mC{p:Prop}(h:p:=by((subst_vars;first|trivial|assumption|omega|((simp(config:={decide:=true,failIfUnchanged:=false}) only[aE,Bool.or_eq_true,Bool.and_eq_false_iff,Bool.or_eq_false_iff,Bool.not_eq_true',Bool.not_eq_false',Bool.not_eq_true,Bool.not_eq_false,decide_eq_true_eq,decide_eq_false_iff_not,Q3a,Q25,Q3d,Q26,beq_iff_eq,beq_eq_false_iff_ne,bne_iff_ne,bne_eq_false_iff_eq,ne_eq,List.all_cons,List.all_nil,D.plain,List.length_cons,List.length_nil,lA,List.length_set,List.length_replicate,wrap_i64,wrap_u64,wrap_u32,wrap_i32,wrap_u8,true_and,and_true,or_false,false_or,or_true,true_or,not_true_eq_false,not_false_eq_true,Prod.fst,Prod.snd]at*);first|done|assumption|omega)|((simp(config:={decide:=true,failIfUnchanged:=false}) only[aE,Bool.or_eq_true,Bool.and_eq_false_iff,Bool.or_eq_false_iff,Bool.not_eq_true',Bool.not_eq_false',Bool.not_eq_true,Bool.not_eq_false,decide_eq_true_eq,decide_eq_false_iff_not,Q3a,Q25,Q3d,Q26,beq_iff_eq,beq_eq_false_iff_ne,bne_iff_ne,bne_eq_false_iff_eq,ne_eq,List.all_cons,List.all_nil,D.plain,List.length_cons,List.length_nil,lA,List.length_set,List.length_replicate,wrap_i64,wrap_u64,wrap_u32,wrap_i32,wrap_u8,true_and,and_true,or_false,false_or,or_true,true_or,not_true_eq_false,not_false_eq_true,Prod.fst,Prod.snd]at*);simp only[<-List.length_pos_iff]at*;omega)|(simp_all;done)|(have:= @Qee;simp_all;try omega)))):p:=h
def run{α β:Type}[Inhabited β](F:α->α⊕β):Nat->α->β
 |0,_=>default
 |k+1,a=>match F a with|.inl a'=>run F k a'|.inr b=>b
theorem vC{α β:Type}[Inhabited β]{F:α->α⊕β}{P:α->Prop}{R:β->Prop}{μ:α->Nat}(h:∀a,P a->match F a with|.inl a'=>P a'/\μ a'<μ a|.inr b=>R b):∀k a,P a->μ a<k->R (run F k a):=by
 intro k
 induction k with
 |zero=>intro a _ hk;omega
 |succ k ih=>
  intro a ha hk
  have:=h a ha
  unfold run
  split at this
  ·rename_i a' he;exact ih a' this.1 (by omega)
  ·exact this
inductive Tree:Type->Type 1 where
 |lf {β:Type} (x:β):Tree β
 |nx {β:Type} (f:Prop) (x:β) (h:f:=by first|trivial|(simp[fp];done)|decide|(simp only[and_true,true_and,or_true,true_or,and_self];done)|((repeat'(first|exact True.intro|apply And.intro|exact rfl|exact Or.inr rfl));done)):Tree β
 |br {β:Type} (c:Bool) (t e:Tree β):Tree β
 |cn {β:Type} (c:Bool) (t:Tree β):Tree β
 |fl {β:Type} (c:Bool) (t:Tree β):Tree β
 |an {β:Type} (p:Prop) (t:Tree β):Tree β
 |lv {α β:Type} (x:α) (k:α->Tree β):Tree β
 |lp {α β:Type} (d:Inhabited β) (n:Nat) (f:Prop) (x:α) (t:α->Tree (α⊕β)) (h:f:=by first|trivial|(simp[fp];done)|decide|(simp only[and_true,true_and,or_true,true_or,and_self];done)|((repeat'(first|exact True.intro|apply And.intro|exact rfl|exact Or.inr rfl));done)):Tree β
def Tree.m{β:Type}:Tree β->β
 |.lf x=>x
 |.nx _ x _=>x
 |.br c t e=>cond c t.m e.m
 |.cn _ t=>t.m
 |.fl _ t=>t.m
 |.an _ t=>t.m
 |.lv x k=>eu x λy=>(k y).m
 |.lp _ n _ x t _=>run (λy=>(t y).m) n x
def mM{α β:Type}(B:α->(α⊕β->Prop)->Prop)(W:β->Prop)(n:Nat)(y:α):Prop:=
 match n with
 |0=>False
 |k+1=>B y (iO (λz=>mM B W k z) W)
termination_by n
theorem Z9v{α β:Type}{B:α->(α⊕β->Prop)->Prop}{W:β->Prop}{y:α}:mM B W 0 y=False:=by rw[mM]
theorem Oi{α β:Type}{B:α->(α⊕β->Prop)->Prop}{W:β->Prop}{y:α}:mM B W (k+1) y=B y (iO (λz=>mM B W k z) W):=by rw[mM]
def Tree.w{β:Type}:Tree β->(β->Prop)->Prop
 |.lf x,W=>W x
 |.nx _ x _,W=>W x
 |.br c t e,W=>AT c (t.w W) (e.w W)
 |.cn c t,W=>cy c (t.w W)
 |.fl c t,W=>AT c False (t.w W)
 |.an p t,W=>p/\t.w W
 |.lv x k,W=>∀y,y=x->(k y).w W
 |.lp _ n _ x t _,W=>mM (λy V=>(t y).w V) W n x
def Tree.q{β:Type}:Tree β->(β->Prop)->Prop
 |.lf x,L=>L x
 |.nx f x _,L=>L x/\f
 |.br c t e,L=>AT c (t.q L) (e.q L)
 |.cn c t,L=>cy c (t.q L)
 |.fl c t,L=>AT c False (t.q L)
 |.an p t,L=>p/\t.q L
 |.lv x k,L=>∀y,y=x->(k y).q L
 |.lp (α:=α) _ _ f x t _,L=>∃(w5:α->Prop),∃(ν:α->Nat),w5 x/\f/\∀y,w5 y->(t y).q (iO (λz=>w5 z/\ν z<ν y) L)
theorem Tree.main{β:Type}(t:Tree β):∀{W L E:β->Prop},(∀x,W x->E x->L x)->t.w W->E t.m->t.q L:=by
 induction t with
 |lf x=>intro W L E h hw he;exact h x hw he
 |nx f x hf=>intro W L E h hw he;exact⟨h x hw he,hf⟩
 |br c t e Lb Lc=>
  intro W L E h hw he
  cases c with
  |true=>exact Lb h hw he
  |false=>exact Lc h hw he
 |cn c t ih=>intro W L E h hw he;exact de.2 ⟨(de.1 hw).1,ih h (de.1 hw).2 he⟩
 |fl c t ih=>
  intro W L E h hw he
  cases c with
  |true=>exact hw.elim
  |false=>exact ih h hw he
 |an p t ih=>intro W L E h hw he;exact⟨hw.1,ih h hw.2 he⟩
 |lv x k ih=>intro W L E h hw he y hy;subst hy;exact ih y h (hw y rfl) he
 |lp d n f x t hf ih=>
  intro W L E h hw he
  have H:∀k y,mM (λy V=>(t y).w V) W k y->E (@run _ _ d (λy=>(t y).m) k y)->∃j,j<k/\k=j+1:=by
   intro k y h1 _
   cases k with
   |zero=>rw[Z9v]at h1;exact h1.elim
   |succ k=>exact⟨k,Nat.lt_succ_self k,rfl⟩
  let P:Nat->_->Prop:=λk y=>mM (λy V=>(t y).w V) W k y/\E (@run _ _ d (λy=>(t y).m) k y)
  have least:∀y,(∃k,P k y)->∃k,P k y/\∀j,P j y->k<=j:=by
   intro y ⟨k,hk⟩
   induction k using Nat.strongRecOn with
   |ind k ihk=>
    by_cases hj:∃j,j<k/\P j y
    ·obtain⟨j,h1,h2⟩:=hj;exact ihk j h1 h2
    ·exact⟨k,hk,λj h2=>Nat.le_of_not_lt λh1=>hj ⟨j,h1,h2⟩⟩
  have ch:∃ν:_->Nat,∀y,(∃k,P k y)->P (ν y) y/\∀j,P j y->ν y<=j:=Classical.axiomOfChoice (r:=λy k=>(∃k,P k y)->P k y/\∀j,P j y->k<=j) λy=>by
   by_cases hy:∃k,P k y
   ·obtain⟨k,hk⟩:=least y hy;exact⟨k,λ_=>hk⟩
   ·exact⟨0,λh=>absurd h hy⟩
  obtain⟨ν,hν⟩:=ch
  refine⟨λy=>∃k,P k y,ν,⟨n,hw,he⟩,hf,λy hy=>?_⟩
  have TJ:=hν y hy
  generalize AS:ν y=k0 at TJ
  obtain⟨⟨h1,h2⟩,_⟩:=TJ
  obtain⟨j,_,rfl⟩:=H k0 y h1 h2
  rw[Oi]at h1
  refine ih y (E:=iO (λz=>E (@run _ _ d (λy=>(t y).m) j z)) E) ?_ h1 ?_
  ·intro z I3 hz2
   cases z with
   |inl z=>
    have hz:∃k,P k z:=⟨j,I3,hz2⟩
    refine⟨hz,?_⟩
    have:=(hν z hz).2 j ⟨I3,hz2⟩
    show ν z<j+1
    omega
   |inr z=>exact h z I3 hz2
  ·unfold run at h2
   cases hF:(t y).m with
   |inl z=>rw[hF]at h2;exact h2
   |inr z=>rw[hF]at h2;exact h2
abbrev Tree.p{β:Type}(t:Tree β):Prop:=t.w λ_=>True
theorem Tree.main'{β:Type}{t:Tree β}{L:β->Prop}(hw:t.p)(h:L t.m):t.q L:=t.main (λ_ _ h=>h) hw h
theorem Tree.mono{β:Type}(t:Tree β):∀{W V:β->Prop},(∀x,W x->V x)->t.w W->t.w V:=by
 induction t with
 |lf x=>intro W V h hw;exact h x hw
 |nx f x hf=>intro W V h hw;exact h x hw
 |br c t e Lb Lc=>
  intro W V h hw
  cases c with
  |true=>exact Lb h hw
  |false=>exact Lc h hw
 |cn c t ih=>intro W V h hw;exact de.2 ⟨(de.1 hw).1,ih h (de.1 hw).2⟩
 |fl c t ih=>
  intro W V h hw
  cases c with
  |true=>exact hw.elim
  |false=>exact ih h hw
 |an p t ih=>intro W V h hw;exact⟨hw.1,ih h hw.2⟩
 |lv x k ih=>intro W V h hw y hy;exact ih y h (hw y hy)
 |lp d n f x t hf ih=>
  intro W V h hw
  revert x
  show∀x,mM (λy V=>(t y).w V) W n x->mM (λy V=>(t y).w V) V n x
  induction n with
  |zero=>intro x hw;rw[Z9v]at hw;exact hw.elim
  |succ n ihn=>
   intro x hw
   rw[Oi]at hw⊢
   refine ih x (λz hz=>?_) hw
   cases z with
   |inl z=>exact ihn z hz
   |inr z=>exact h z hz
theorem Tree.post{β:Type}(t:Tree β):∀{W:β->Prop},t.w W->W t.m:=by
 induction t with
 |lf x=>intro W hw;exact hw
 |nx f x hf=>intro W hw;exact hw
 |br c t e Lb Lc=>
  intro W hw
  cases c with
  |true=>exact Lb hw
  |false=>exact Lc hw
 |cn c t ih=>intro W hw;exact ih (de.1 hw).2
 |fl c t ih=>
  intro W hw
  cases c with
  |true=>exact hw.elim
  |false=>exact ih hw
 |an p t ih=>intro W hw;exact ih hw.2
 |lv x k ih=>intro W hw;exact ih x (hw x rfl)
 |lp d n f x t hf ih=>
  intro W hw
  revert x
  show∀x,mM (λy V=>(t y).w V) W n x->W (@run _ _ d (λy=>(t y).m) n x)
  induction n with
  |zero=>intro x hw;rw[Z9v]at hw;exact hw.elim
  |succ n ihn=>
   intro x hw
   rw[Oi]at hw
   have:=ih x hw
   unfold run
   cases hF:(t x).m with
   |inl z=>rw[hF]at this;exact ihn z this
   |inr z=>rw[hF]at this;exact this
theorem Tree.pp{β:Type}{t:Tree β}{W:β->Prop}(h:t.w W):t.p/\W t.m:=⟨t.mono (λ_ _=>trivial) h,t.post h⟩
section
variable {α β:Type} {W:β->Prop} {c:Bool} {t e:Tree β}
theorem aw{x:β}(h:W x):(Tree.lf x).w W:=h
theorem dj{f:Prop}{x:β}{hf:f}(h:W x):(Tree.nx f x hf).w W:=h
theorem aa(h:c=true->t.w W)(g:c=false->e.w W):(Tree.br c t e).w W:=Zb4.2 ⟨h,g⟩
theorem ar(h:c=true)(g:t.w W):(Tree.cn c t).w W:=de.2 ⟨h,g⟩
theorem Ya(h:c=false)(g:t.w W):(Tree.fl c t).w W:=Zb4.2 ⟨λe=>(by rw[h]at e;cases e),λ_=>g⟩
theorem bz{p:Prop}(h:p)(g:t.w W):(Tree.an p t).w W:=⟨h,g⟩
theorem ai{x:α}{k:α->Tree β}(h:∀y,y=x->(k y).w W):(Tree.lv x k).w W:=h
theorem ed{d:Inhabited β}{n:Nat}{f:Prop}{x:α}{k:α->Tree (α⊕β)}{hf:f}{inv:α->Prop}{μ:α->Nat}(h:inv x)(hn:μ x<n)(g:∀y,inv y->(k y).w (iO (λz=>inv z/\μ z<μ y) W)):(Tree.lp d n f x k hf).w W:=by
 show mM (λy V=>(k y).w V) W n x
 revert x
 induction n with
 |zero=>intro x h hn;omega
 |succ n ih=>
  intro x h hn
  rw[Oi]
  refine(k x).mono (λz hz=>?_) (g x h)
  cases z with
  |inl z=>exact ih hz.1 (by have:=hz.2;omega)
  |inr z=>exact hz
end
theorem wL{β:Type}{x:β}:(Tree.lf x).p:=trivial
theorem wB{β:Type}{c:Bool}{t e:Tree β}(h:t.p)(g:e.p):(Tree.br c t e).p:=by cases c<;>assumption
structure mF(T:iz)(G:List bd)(L:Code->St->(Ex->St->Prop)->Prop)(fn:Func)(args:List D)(rows:List Row)(ds:List nh)(Q:D->List Row->Prop):Prop where
 h:ky T G L fn args rows λd R=>ow rows.length ds d R Q
theorem mF.of{G:List bd}{L:Code->St->(Ex->St->Prop)->Prop}{rows:List Row}{Q:D->List Row->Prop}{p:Prop}(e:(ky T G L fn args rows λd R=>ow rows.length ds d R Q)=p)(hl:p):mF T G L fn args rows ds Q:=⟨by rw[e];exact hl⟩
theorem mF.calls(hD:rm P)(hT:jC P T){G:List bd}(hG:jU P G)(hf:P.funcs[f]?=some fn){rows:List Row}{aj:List Row}
 {rf:Option Nat} (nm:∀code,fn.body=some code->RF rf fn.ntmps code) {L:Code->St->(Ex->St->Prop)->Prop} (hL:∀code st Q,RF rf fn.ntmps code->L code st Q->Tr P fn.ntmps rows.length code st Q) {ds:List nh} (h:mF T G L fn args rows ds λr o=>r=res/\o=aj):kM P f args rows res aj:=
 xx hD hT hG hf nm hL (λd R hQ=>by obtain⟨r,o,⟨rfl,rfl⟩,hE⟩:=Zhl hQ;exact hE) h.h
structure ua(T:iz)(G:List bd)(L:Code->St->(Ex->St->Prop)->Prop)(fn:Func)(args:List D)(rows:List Row)(k:Nat)(ds:List nh)(Q:D->List Row->Prop):Prop where
 h:GJ T G L fn args rows (λd R=>ow k ds d R Q) k
theorem ua.of{G:List bd}{L:Code->St->(Ex->St->Prop)->Prop}{rows:List Row}{Q:D->List Row->Prop}{p:Prop}(e:(GJ T G L fn args rows (λd R=>ow k ds d R Q) k)=p)(hl:p):ua T G L fn args rows k ds Q:=⟨by rw[e];exact hl⟩
theorem ua.calls(hD:rm P)(hT:jC P T){G:List bd}(hG:jU P G){rows:List Row}{aj:List Row}{rf:Option Nat}(hf:pI P f fn (rW (o6 args++kY rows)=true/\rf=none))(nm:∀code,fn.body=some code->RF rf fn.ntmps code)
 {L:Code->St->(Ex->St->Prop)->Prop} (hL:∀ro,(ro=none\/rf=none)->∀code st Q,RF rf fn.ntmps code->L code st Q->uL ro P fn.ntmps k code st Q) {ds:List nh} (h:ua T G L fn args rows k ds λr o=>r=res/\o=aj):uG P f k args rows res aj:=
 zaS hD hT hG hf nm hL (λd R hQ=>by obtain⟨r,o,⟨rfl,rfl⟩,hE⟩:=Zhl hQ;exact hE) h.h
section
variable {P:Program} {T:iz} {G:List bd} {f:FuncId} {fn:Func} {refs:List Bool} {flat:Bool} {sig:List PT} {du:List RT} {pre:List D->List Row->Prop} {β:Type} {v:List D->List Row->β} {enc:β->D} {out:β->List Row}
theorem pI.imp{cl cl':Prop}(h:pI P f fn cl)(g:cl->cl'):pI P f fn cl':=by
 cases h with
 |real a b c=>exact .real a b c
 |yield a y d b c e f g1 g2 h i=>exact .yield a y d b c e f g1 g2 h (g i)
 |wI a y q b c e f g1 h i j k=>exact .wI a y q b c e f g1 h i j (g k)
theorem Zh8(rf:Option Nat)(nm:∀code,fn.body=some code->RF rf fn.ntmps code)(hD:rm P)(hT:jC P T)(hG:jU P G)(hf:P.funcs[f]?=some fn)(t:List D->List Row->Tree β)(ds:List nh)(fx:List (Nat×bw))(dep:Nat)
 (hn:∀args rows Q,(ky T G (BJ T G fn.ntmps du.length fx rf dep) fn (lN sig args 0) (kR du rows 0) λd R=>ow du.length ds d R Q)=(t args rows).q λX=>Q (enc X) (out X)) (hv:∀args rows,(t args rows).m=v args rows) {args:List D} {rows:List Row} (hp:(t args rows).p):
 kM P f (lN sig args 0) (kR du rows 0) (enc (v args rows)) (out (v args rows)):=by
 have e:(kR du rows 0).length=du.length:=Xt
 refine mF.calls hD hT hG hf nm (L:=BJ T G fn.ntmps du.length fx rf dep) (λcode st Q hc hl=>by rw[e];exact Ho hD hT hG (.inl rfl) dep _ _ _ hc hl) (ds:=ds) ⟨?_⟩
 rw[e,hn]
 refine Tree.main' hp ?_
 rw[hv]
 exact⟨rfl,rfl⟩
theorem Zcz(rf:Option Nat)(nm:∀code,fn.body=some code->RF rf fn.ntmps code)(hD:rm P)(hT:jC P T)(hG:jU P G)(hf:pI P f fn ((∀args rows,rW (o6 (lN sig args 0)++kY (kR du rows 0))=true)/\rf=none))(t:List D->List Row->Tree β)(ds:List nh)(fx:List (Nat×bw))(dep:Nat)
 (hn:∀args rows Q,(GJ T G (BJ T G fn.ntmps k fx rf dep) fn (lN sig args 0) (kR du rows 0) (λd R=>ow k ds d R Q) k)=(t args rows).q λX=>Q (enc X) (out X)) (hv:∀args rows,(t args rows).m=v args rows) {args:List D} {rows:List Row} (hp:(t args rows).p):
 uG P f k (lN sig args 0) (kR du rows 0) (enc (v args rows)) (out (v args rows)):=by
 refine ua.calls hD hT hG (hf.imp λh=>⟨h.1 args rows,h.2⟩) nm (L:=BJ T G fn.ntmps k fx rf dep) (λro ED=>Ho hD hT hG ED dep) (ds:=ds) ⟨?_⟩
 rw[hn]
 refine Tree.main' hp ?_
 rw[hv]
 exact⟨rfl,rfl⟩
theorem Zt0(rf:Option Nat)(nm:∀code,fn.body=some code->RF rf fn.ntmps code)(hD:rm P)(hT:jC P T)(hG:jU P G)(hf:P.funcs[f]?=some fn)(he:∀args w,(callFunc f args).run P w=.ok (.enter f args) w)(t:List D->List Row->Tree β)(ds:List nh)(fx:List (Nat×bw))(dep:Nat)
 (hn:∀args rows Q,(ky T G (BJ T G fn.ntmps du.length fx rf dep) fn (lN sig args 0) (kR du rows 0) λd R=>ow du.length ds d R Q)=(t args rows).q λX=>Q (enc X) (out X):=by intro _ _ _;kernel_rfl) (hv:∀args rows,(t args rows).m=v args rows:=by exactλ_ _=>rfl)
 (hp:∀args rows,pre args rows->(t args rows).p:=by exactλ_ _ h=>h) (jc:flat=true->∀X,(ue (enc X)&&jP (out X))=true:=by intro _ _;kernel_rfl) (hy:bN f YB=true:=by rfl):bu P (lj f refs flat sig du pre v enc out):=
 GR he (λargs rows hw=>Zh8 rf nm hD hT hG hf t ds fx dep hn hv (hp _ _ hw)) jc hy
theorem sF(hD:rm P)(hT:jC P T)(hG:jU P G)(hf:P.funcs[f]?=some fn)(he:∀args w,(callFunc f args).run P w=.ok (.enter f args) w)(t:List D->List Row->Tree β)(ds:List nh)(fx:List (Nat×bw))(dep:Nat)
 (hn:∀args rows Q,(ky T G (LL T G fn.ntmps du.length fx dep) fn (lN sig args 0) (kR du rows 0) λd R=>ow du.length ds d R Q)=(t args rows).q λX=>Q (enc X) (out X):=by intro _ _ _;kernel_rfl) (hv:∀args rows,(t args rows).m=v args rows:=by exactλ_ _=>rfl)
 (hp:∀args rows,pre args rows->(t args rows).p:=by exactλ_ _ h=>h) (jc:flat=true->∀X,(ue (enc X)&&jP (out X))=true:=by intro _ _;kernel_rfl) (hy:bN f YB=true:=by rfl):bu P (lj f refs flat sig du pre v enc out):=
 Zt0 none (λ_ _=>trivial) hD hT hG hf he t ds fx dep hn hv hp jc hy
theorem zaI(rf:Option Nat)(nm:∀code,fn.body=some code->RF rf fn.ntmps code)(hD:rm P)(hT:jC P T)(hG:jU P G)(hf:P.funcs[f]?=some fn)(he:∀args w,(callFunc f args).run P w=.ok (.enter f args) w)(t:List D->List Row->Tree β)(ds:List nh)(fx:List (Nat×bw))(dep:Nat)
 (hn:∀args rows Q,(ky T G (BJ T G fn.ntmps du.length fx rf dep) fn (lN sig args 0) (kR du rows 0) λd R=>ow du.length ds d R Q)=(t args rows).q λX=>Q (enc X) (out X)) (hv:∀args rows,(t args rows).m=v args rows)
 (hp:∀args rows,(t args rows).p) (jc:flat=true->∀X,(ue (enc X)&&jP (out X))=true) (hy:bN f YB=true:=by rfl):bu P (G7 f refs flat sig du v enc out):=
 xaU he (λargs rows=>Zh8 rf nm hD hT hG hf t ds fx dep hn hv (hp _ _)) jc hy
theorem Q10(hD:rm P)(hT:jC P T)(hG:jU P G)(hf:P.funcs[f]?=some fn)(he:∀args w,(callFunc f args).run P w=.ok (.enter f args) w)(t:List D->List Row->Tree β)(ds:List nh)(fx:List (Nat×bw))(dep:Nat)
 (hn:∀args rows Q,(ky T G (LL T G fn.ntmps du.length fx dep) fn (lN sig args 0) (kR du rows 0) λd R=>ow du.length ds d R Q)=(t args rows).q λX=>Q (enc X) (out X):=by intro _ _ _;kernel_rfl) (hv:∀args rows,(t args rows).m=v args rows:=by exactλ_ _=>rfl)
 (hp:∀args rows,(t args rows).p:=by intro _ _;exact Tree.mL (by kernel_rfl)) (jc:flat=true->∀X,(ue (enc X)&&jP (out X))=true:=by intro _ _;kernel_rfl) (hy:bN f YB=true:=by rfl):bu P (G7 f refs flat sig du v enc out):=
 zaI none (λ_ _=>trivial) hD hT hG hf he t ds fx dep hn hv hp jc hy
theorem Zvu(rf:Option Nat)(nm:∀code,fn.body=some code->RF rf fn.ntmps code)(hD:rm P)(hT:jC P T)(hG:jU P G)(hf:pI P f fn ((∀args rows,rW (o6 (lN sig args 0)++kY (kR du rows 0))=true)/\rf=none))(he:f<YB->∀args w,(callFunc f args).run P w=.ok (.enter f args) w)(t:List D->List Row->Tree β)(ds:List nh)(fx:List (Nat×bw))(dep:Nat)
 (hn:∀args rows Q,(GJ T G (BJ T G fn.ntmps k fx rf dep) fn (lN sig args 0) (kR du rows 0) (λd R=>ow k ds d R Q) k)=(t args rows).q λX=>Q (enc X) (out X)) (hv:∀args rows,(t args rows).m=v args rows)
 (hp:∀args rows,pre args rows->(t args rows).p):bu P (ka k f refs sig du pre v enc out):=
 qaI he (λargs rows hw=>Zcz rf nm hD hT hG hf t ds fx dep hn hv (hp _ _ hw))
theorem ub(hD:rm P)(hT:jC P T)(hG:jU P G)(hf:P.funcs[f]?=some fn)(he:∀args w,(callFunc f args).run P w=.ok (.enter f args) w)(t:List D->List Row->Tree β)(ds:List nh)(fx:List (Nat×bw))(dep:Nat)
 (hn:∀args rows Q,(GJ T G (LL T G fn.ntmps k fx dep) fn (lN sig args 0) (kR du rows 0) (λd R=>ow k ds d R Q) k)=(t args rows).q λX=>Q (enc X) (out X)) (hv:∀args rows,(t args rows).m=v args rows)
 (hp:∀args rows,pre args rows->(t args rows).p) (hy:bN f YB=true:=by rfl) (hb:Nat.ble YB fn.nfree=false:=by rfl):bu P (ka k f refs sig du pre v enc out):=
 Zvu none (λ_ _=>trivial) hD hT hG (.real (lE hy) hf hb) (λ_=>he) t ds fx dep hn hv hp
theorem qD(rf:Option Nat)(nm:∀code,fn.body=some code->RF rf fn.ntmps code)(hD:rm P)(hT:jC P T)(hG:jU P G)(hf:pI P f fn ((∀args rows,rW (o6 (lN sig args 0)++kY (kR du rows 0))=true)/\rf=none))(he:f<YB->∀args w,(callFunc f args).run P w=.ok (.enter f args) w)(t:List D->List Row->Tree β)(ds:List nh)(fx:List (Nat×bw))(dep:Nat)
 (hn:∀args rows Q,(GJ T G (BJ T G fn.ntmps k fx rf dep) fn (lN sig args 0) (kR du rows 0) (λd R=>ow k ds d R Q) k)=(t args rows).q λX=>Q (enc X) (out X)) (hv:∀args rows,(t args rows).m=v args rows)
 (hp:∀args rows,(t args rows).p):bu P (K9 k f refs sig du v enc out):=
 qaV he (λargs rows=>Zcz rf nm hD hT hG hf t ds fx dep hn hv (hp _ _))
theorem zaV(hD:rm P)(hT:jC P T)(hG:jU P G)(hf:P.funcs[f]?=some fn)(he:∀args w,(callFunc f args).run P w=.ok (.enter f args) w)(t:List D->List Row->Tree β)(ds:List nh)(fx:List (Nat×bw))(dep:Nat)
 (hn:∀args rows Q,(GJ T G (LL T G fn.ntmps k fx dep) fn (lN sig args 0) (kR du rows 0) (λd R=>ow k ds d R Q) k)=(t args rows).q λX=>Q (enc X) (out X)) (hv:∀args rows,(t args rows).m=v args rows)
 (hp:∀args rows,(t args rows).p) (hy:bN f YB=true:=by rfl) (hb:Nat.ble YB fn.nfree=false:=by rfl):bu P (K9 k f refs sig du v enc out):=
 qD none (λ_ _=>trivial) hD hT hG (.real (lE hy) hf hb) (λ_=>he) t ds fx dep hn hv hp
theorem xD(h:bu P (lj f refs flat sig du pre v enc out)){rows:List Row}(hs:(Ce sig args&&Cf du rows)=true)(hw:pre args rows):kM P f args rows (enc (v args rows)) (out (v args rows)):=
 (h.lX rfl args rows (pre args rows) β (v args rows) enc out (by simp only[lj,hs]) hw).1
end
def Tree.rR{β:Type}:Tree β->Bool
 |.lf _=>true
 |.br _ t e=>t.rR&&e.rR
 |.lv x k=>(k x).rR
 |_=>false
theorem Tree.mL{β:Type}{t:Tree β}(h:t.rR=true):t.p:=by
 induction t with
 |lf x=>trivial
 |br c t e Lb Lc=>
  simp only[Tree.rR,aE]at h
  cases c with
  |true=>exact Lb h.1
  |false=>exact Lc h.2
 |lv x k ih=>intro y hy;subst hy;exact ih _ h
 |_=>simp[Tree.rR]at h
theorem jU.nil:jU P []:=λx hx=>by cases hx
theorem jU.cons{x:bd}{G:List bd}(h:bu P x)(g:jU P G):jU P (x::G):=λy hy=>by
 simp only[List.mem_cons]at hy
 rcases hy with rfl|hy
 ·exact h
 ·exact g y hy

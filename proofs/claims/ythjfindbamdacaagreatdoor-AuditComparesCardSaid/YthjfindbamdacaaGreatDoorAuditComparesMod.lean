import Derived.Test.YthjfindbamdacaaGreatDoorAuditComparesFc
open Nat renaming blt->bJ,beq->bT,le_refl->aO
open List renaming map_cons->fS,getD->aK,getElem?_eq_getElem->cG,range'->bK,all_cons->iG,all_nil->iH,length_cons->dI,length_nil->dJ,length_set->dH,length_replicate->cU
open Bool renaming false_eq_true->aN,or_eq_true->aI,and_eq_false_iff->iB,or_eq_false_iff->iC,not_eq_true'->aS,not_eq_false'->iD,not_eq_true->iE,not_eq_false->iF
open Sum renaming elim->iI
set_option linter.all false
namespace Go.GD
open Go
open Go.IntKind(i64 u32 u64 wrap_i64 wrap_u32 wrap_u64 wrap_u8 wrap_i32)
def lk(st:St)(t:Nat):D:=look st.env t
def rN(st:St)(t:Nat):Nat:=sZ (look st.env t) 1000000
def cT(st:St)(t j:Nat):D:=iM st.rows (sZ (look st.env t) 1000000) j
def rX(st:St)(t k:Nat):Nat:=sZ (look st.env t) (st.rows.length+k)
theorem Qh9{α:Type}{l:List α}(h:l≠[]):0<l.length:=by cases l<;>simp_all
theorem Y6{a b:Nat}:bJ a b=true↔a<b:=by simp[bJ,Nat.lt_iff_add_one_le]
theorem Q38{a b:Nat}:bJ a b=false↔ ¬a<b:=by have:= @Y6 a b;cases h:bJ a b<;>simp_all
theorem Y7{a b:Nat}:bT a b=true↔a=b:=iff_of_eq Nat.beq_eq
theorem Q37{a b:Nat}:bT a b=false↔ ¬a=b:=by have:= @Y7 a b;cases h:bT a b<;>simp_all
def gm(d e:D):Prop:=∀c w v,cu c w d v->cu c w e v
def jB:List D->List D->Prop
 |[],[]=>True
 |d::l,e::m=>gm d e/\jB l m
 |_,_=>False
def sO:D->D->Prop
 |.agg cs,.agg ds=>jB cs ds
 |.agg _,_=>False
 |d,e=>gm d e
def CP:List D->List D->Prop
 |[],[]=>True
 |d::l,e::m=>sO d e/\CP l m
 |_,_=>False
theorem gm.rfl{d:D}:gm d d:=λ_ _ _ h=>h
theorem gm.ints{k:IntKind}{s:Nat}{E:ak}{fr:Bool}{l:List Int}(h:E.toI k=some l):gm (.sl s E fr) (.sl 1 (.ints k l) false):=by
 intro c w v hv
 have he:=ak.toI_l h
 obtain⟨a,cap,hv,hc,ia⟩:=hv
 rw[he]at hv hc ia
 refine⟨a,cap,hv,hc,?_⟩
 rcases ia with ia|⟨b,off,arr,ty,fz,ha,hI,hf,hh,hE⟩
 ·exact .inl ia
 ·cases l with
  |nil=>exact .inl (by simp[ak.l])
  |cons n l=>
   have h1:s=1:=by
    simp only[ak.l,fS,pr,nU]at hE
    exact hE.1.symm
   subst h1
   exact .inr ⟨b,off,arr,ty,fz,ha,hI,(λe=>by cases e),hh,hE⟩
theorem gm.bn{s:Nat}{E:ak}{fr:Bool}{l:List Bool}(h:E.toB=some l):gm (.sl s E fr) (.sl 1 (.bn l) false):=by
 intro c w v hv
 have he:=ak.toB_l h
 obtain⟨a,cap,hv,hc,ia⟩:=hv
 rw[he]at hv hc ia
 refine⟨a,cap,hv,hc,?_⟩
 rcases ia with ia|⟨b,off,arr,ty,fz,ha,hI,hf,hh,hE⟩
 ·exact .inl ia
 ·cases l with
  |nil=>exact .inl (by simp[ak.l])
  |cons n l=>
   have h1:s=1:=by
    simp only[ak.l,fS,pr,nU]at hE
    exact hE.1.symm
   subst h1
   exact .inr ⟨b,off,arr,ty,fz,ha,hI,(λe=>by cases e),hh,hE⟩
theorem jB.rep{c:Ctx}{w:World}:∀{ds es:List D} {vs:List Value},jB ds es->jh c w ds vs->jh c w es vs
 |[],[],[],_,_=>trivial
 |d::l,e::m,v::vs,h,hr=>⟨h.1 _ _ _ hr.1,jB.rep h.2 hr.2⟩
 |[],_::_,_,h,_=>h.elim
 |_::_,[],_,h,_=>h.elim
 |[],[],_::_,_,hr=>hr.elim
 |_::_,_::_,[],_,hr=>hr.elim
theorem sO.rep{c:Ctx}{w:World}{d e:D}{v:Value}(h:sO d e)(hr:VRep c w d v):VRep c w e v:=by
 cases d with
 |agg cs=>
  cases e with
  |agg ds=>obtain⟨vs,hv,hx⟩:=hr;exact⟨vs,hv,jB.rep h hx⟩
  |_=>exact h.elim
 |_=>
  have h1:=VRep.toC (λcs e=>by cases e) hr
  have h2:gm _ e:=h
  exact VRep.Ed (h2 _ _ _ h1)
theorem CP.rep{c:Ctx}{w:World}:∀{ds es:List D} {vs:List Value},CP ds es->jY c w ds vs->jY c w es vs
 |[],[],[],_,_=>trivial
 |d::l,e::m,v::vs,h,hr=>⟨sO.rep h.1 hr.1,CP.rep h.2 hr.2⟩
 |[],_::_,_,h,_=>h.elim
 |_::_,[],_,h,_=>h.elim
 |[],[],_::_,_,hr=>hr.elim
 |_::_,_::_,[],_,hr=>hr.elim
theorem jZ.sub{P:Program}{f:FuncId}{args mZ:List D}{rows:List Row}{res:D}{ai:List Row}(hs:CP args mZ)(h:jZ P f mZ rows res ai):jZ P f args rows res ai:=
 λc w vs hm hb hR ha=>h c w vs hm hb hR (CP.rep hs ha)
theorem gm.bc{k:RK}{s:Nat}{E:ak}{fr:Bool}{l:List (RK.T k)}(h:E.toR k=some l):gm (.sl s E fr) (.sl k.size (.bc k l) false):=by
 intro c w v hv
 have he:=ak.toR_l h
 obtain⟨a,cap,hv,hc,ia⟩:=hv
 rw[he]at hv hc ia
 refine⟨a,cap,hv,hc,?_⟩
 rcases ia with ia|⟨b,off,arr,ty,fz,ha,hI,hf,hh,hE⟩
 ·exact .inl ia
 ·cases l with
  |nil=>exact .inl (by simp[ak.l])
  |cons x l=>
   have h1:s=k.size:=by
    simp only[ak.l,fS,nU]at hE
    rw[<-hE.1];exact RK.pX k x
   subst h1
   exact .inr ⟨b,off,arr,ty,fz,ha,hI,(λe=>by cases e),hh,hE⟩
theorem gm.CQ{s:Nat}{E:ak}(h:E.l=[]):gm .dq (.sl s E false):=by
 intro c w v hv
 exact⟨none,0,by rw[h];exact hv,by rw[h];exact aO _,.inl h⟩
theorem gm.Jz{s:Nat}{E:ak}(h:E.l=[]):gm .emp (.sl s E false):=by
 intro c w v hv
 obtain⟨a,hv,_⟩:=hv
 exact⟨a,0,by rw[h];exact hv,by rw[h];exact aO _,.inl h⟩
def AG:List (Nat×Nat×Nat)->List (Nat×Nat×Nat)->Bool
 |[],[]=>true
 |(a,b,c)::l,(x,y,z)::m=>bT a x&&(bT b y&&(bT c z&&AG l m))
 |_,_=>false
def sP:List ij->List ij->Bool
 |[],[]=>true
 |.ptr a b c::l,.ptr x y z::m=>bT a x&&(bT b y&&(bT c z&&sP l m))
 |.fn f ps::l,.fn g qs::m=>bT f g&&(AG ps qs&&sP l m)
 |_,_=>false
theorem xz:∀{l m:List (Nat×Nat×Nat)},AG l m=true->l=m
 |[],[],_=>rfl
 |(a,b,c)::l,(x,y,z)::m,h=>by
  simp only[AG,aE]at h
  rw[bE h.1,bE h.2.1,bE h.2.2.1,xz h.2.2.2]
 |[],_::_,h=>by simp[AG]at h
 |_::_,[],h=>by simp[AG]at h
theorem zz:∀{l m:List ij},sP l m=true->l=m:=by
 intro l
 induction l with
 |nil=>intro m h;cases m with
  |nil=>rfl
  |cons _ _=>simp[sP]at h
 |cons a l ih=>
  intro m h
  cases m with
  |nil=>cases a<;>simp[sP]at h
  |cons b m=>
   cases a<;>cases b<;>simp only[sP,aE,aN]at h
   ·rw[bE h.1,bE h.2.1,bE h.2.2.1,ih h.2.2.2]
   ·rw[bE h.1,xz h.2.1,ih h.2.2]
def AH:CT->D->Bool
 |.int k,.int j _=>decide (j=k)
 |.bool,.bool _=>true
 |.str,.str _=>true
 |.ints k,.sl _ E _=>(match E.toI k with|some _=>true|none=>false)
 |.bn,.sl _ E _=>(match E.toB with|some _=>true|none=>false)
 |.bc k,.sl _ E _=>(match E.toR k with|some _=>true|none=>false)
 |.ints _,.dq=>true
 |.bn,.dq=>true
 |.bc _,.dq=>true
 |.ints _,.emp=>true
 |.bn,.emp=>true
 |.bc _,.emp=>true
 |.row i,.all r=>bT r i
 |.nil,.sl s (.gen []) false=>bT s 0
 |.HH,.dq=>true
 |.self _,.iy=>true
 |.gb f cs,.gb g ds=>bT g f&&sP ds cs
 |.self i,.cy r=>bT r i
 |.self i,.ptr r o f=>bT r i&&(bT o 0&&bT f 0)
 |.pt i a b,.ptr r o f=>bT r i&&(bT o a&&bT f b)
 |_,_=>false
inductive PT where
 |one (t:CT)
 |agg (ts:List CT)
 |ptr (i:Nat)
 |gb (f:Nat) (cs:List ij)
inductive RT where
 |box (ty sz:Nat) (ts:List CT)
 |arr (ty sz:Nat) (t:CT)
def JA:List CT->List D->Bool
 |[],[]=>true
 |t::ts,d::ds=>AH t d&&JA ts ds
 |_,_=>false
def uz:PT->D->Bool
 |.agg ts,.agg cs=>JA ts cs
 |.one t,d=>AH t d
 |.ptr i,.ptr r j o=>bT r i&&(bT j 0&&bT o 0)
 |.gb f cs,.gb g ds=>bT g f&&sP ds cs
 |_,_=>false
def Ho:PT->D->D
 |.agg ts,d=>.agg (uO ts d.cells 0)
 |.one t,d=>Df t d
 |.ptr i,_=>.ptr i 0 0
 |.gb f cs,_=>.gb f cs
def AZ:List PT->List D->Bool
 |[],[]=>true
 |s::l,d::ds=>uz s d&&AZ l ds
 |_,_=>false
def lL:List PT->List D->Nat->List D
 |[],_,_=>[]
 |s::l,args,i=>Ho s (args.getD i .dead)::lL l args (i+1)
def Row.cs(r:Row):List D:=match r.es with|.gen [e]=>e|_=>[]
def uA:RT->Row->Bool
 |.box ty sz ts,⟨true,jP,ka,.gen [e]⟩=>bT jP ty&&(bT ka sz&&JA ts e)
 |.arr ty sz t,⟨false,jP,ka,E⟩=>bT jP ty&&(bT ka sz&&(match toCT t E with|some _=>true|none=>false))
 |_,_=>false
def QM(t:CT)(E:ak):ak:=match t with
 |.ints k=>.ints k (match E.toI k with|some l=>l|none=>[])
 |.bn=>.bn (match E.toB with|some l=>l|none=>[])
 |.bc k=>.bc k (match E.toR k with|some l=>l|none=>[])
 |_=>.gen []
theorem zax{t:CT}{E E':ak}(h:toCT t E=some E'):QM t E=E':=by
 cases t with
 |ints k=>
  simp only[toCT]at h
  split at h
  ·rename_i l hl
   cases h
   show ak.ints k (match E.toI k with|some l=>l|none=>[])=_
   rw[hl]
  ·cases h
 |bn=>
  simp only[toCT]at h
  split at h
  ·rename_i l hl
   cases h
   show ak.bn (match E.toB with|some l=>l|none=>[])=_
   rw[hl]
  ·cases h
 |bc k=>
  simp only[toCT]at h
  split at h
  ·rename_i l hl
   cases h
   show ak.bc k (match E.toR k with|some l=>l|none=>[])=_
   rw[hl]
  ·cases h
 |_=>simp[toCT]at h
def wI:RT->Row->Row
 |.box ty sz ts,r=>⟨true,ty,sz,.gen [uO ts r.cs 0]⟩
 |.arr ty sz t,r=>⟨false,ty,sz,QM t r.es⟩
def Ba:List RT->List Row->Bool
 |[],[]=>true
 |s::l,r::rs=>uA s r&&Ba l rs
 |_,_=>false
def kU:List RT->List Row->Nat->List Row
 |[],_,_=>[]
 |s::l,rows,i=>wI s (rows.getD i default)::kU l rows (i+1)
def ar(args:List D)(i:Nat):Int:=(args.getD i .dead).toInt
def uB(args:List D)(i:Nat):Bool:=(args.getD i .dead).toBool
def gw(args:List D)(i:Nat):List UInt8:=(args.getD i .dead).toStr
def du(k:IntKind)(args:List D)(i:Nat):List Int:=ng k (args.getD i .dead)
def jc(k:RK)(args:List D)(i:Nat):List (RK.T k):=sV k (args.getD i .dead)
def nG(rows:List Row)(i j:Nat):D:=((rows.getD i default).cs.getD j .dead)
def gx(k:IntKind)(rows:List Row)(i:Nat):List Int:=match(rows.getD i default).es.toI k with|some l=>l|none=>[]
def AI(k:RK)(rows:List Row)(i:Nat):List (RK.T k):=match(rows.getD i default).es.toR k with|some l=>l|none=>[]
theorem Z60{t:CT}{d:D}(h:AH t d=true):gm d (Df t d):=by
 cases t<;>cases d<;>(try(simp[AH]at h;done))
 case int.int=>simp[AH]at h;subst h;exact gm.rfl
 case nil.sl s E fr=>
  unfold AH at h
  split at h<;>simp_all
  exact gm.rfl
 case HH.dq=>exact gm.rfl
 case bool.bool=>exact gm.rfl
 case str.str=>exact gm.rfl
 case ints.sl k sz E fr=>
  simp only[AH]at h
  split at h
  ·rename_i l hl
   simp only[Df,ng,hl]
   exact gm.ints hl
  ·cases h
 case ints.dq=>exact gm.CQ rfl
 case ints.emp=>exact gm.Jz rfl
 case bn.sl sz E fr=>
  simp only[AH]at h
  split at h
  ·rename_i l hl
   simp only[Df,RJ,hl]
   exact gm.bn hl
  ·cases h
 case bn.dq=>exact gm.CQ rfl
 case bn.emp=>exact gm.Jz rfl
 case bc.sl k sz E fr=>
  simp only[AH]at h
  split at h
  ·rename_i l hl
   simp only[Df,sV,hl]
   exact gm.bc hl
  ·cases h
 case bc.dq=>exact gm.CQ rfl
 case bc.emp=>exact gm.Jz rfl
 case row.all i r=>rw[bE h];exact gm.rfl
 case gb.gb f cs g ds=>
  simp only[AH,aE]at h
  rw[bE h.1,zz h.2]
  exact gm.rfl
 case self.iy i=>exactλc w v hv=>.inl hv
 case self.cy i r=>rw[bE h];exact gm.rfl
 case self.ptr i r o f=>
  simp only[AH,aE]at h
  rw[bE h.1,bE h.2.1,bE h.2.2]
  exactλc w v hv=>.inr hv
 case pt.ptr i a b r o f=>
  simp only[AH,aE]at h
  rw[bE h.1,bE h.2.1,bE h.2.2]
  exact gm.rfl
theorem Qv:∀{ts:List CT} {pre ds:List D},JA ts ds=true->jB ds (uO ts (pre++ds) pre.length)
 |[],pre,[],_=>trivial
 |t::ts,pre,d::ds,h=>by
  simp only[JA,aE]at h
  have h2:=Qv (pre:=pre++[d]) h.2
  simp only[uO]
  refine⟨?_,by simpa using h2⟩
  have:(pre++d::ds).getD pre.length .dead=d:=by simp[aK]
  rw[this];exact Z60 h.1
 |[],_,_::_,h=>by simp[JA]at h
 |_::_,_,[],h=>by simp[JA]at h
theorem sO.of1{d e:D}(hd:∀cs,d≠.agg cs)(h:gm d e):sO d e:=by
 cases d<;>first|exact h|exact absurd rfl (hd _)
theorem Znj{s:PT}{d:D}(h:uz s d=true):sO d (Ho s d):=by
 unfold uz at h
 split at h
 ·rename_i ts cs
  exact Qv (pre:=[]) h
 ·rename_i t d
  refine sO.of1 (λcs e=>?_) (Z60 h)
  subst e
  cases t<;>simp[AH]at h
 ·rename_i i r j o
  simp only[aE]at h
  rw[bE h.1,bE h.2.1,bE h.2.2]
  exact gm.rfl
 ·rename_i f cs g ds
  simp only[aE]at h
  rw[bE h.1,zz h.2]
  exact gm.rfl
 ·cases h
theorem Y8:∀{l:List PT} {pre ds:List D},AZ l ds=true->CP ds (lL l (pre++ds) pre.length)
 |[],pre,[],_=>trivial
 |s::l,pre,d::ds,h=>by
  simp only[AZ,aE]at h
  have h2:=Y8 (pre:=pre++[d]) h.2
  simp only[lL]
  refine⟨?_,by simpa using h2⟩
  have:(pre++d::ds).getD pre.length .dead=d:=by simp[aK]
  rw[this];exact Znj h.1
 |[],_,_::_,h=>by simp[AZ]at h
 |_::_,_,[],h=>by simp[AZ]at h
def sQ(a b:Row):Prop:=b.box=a.box/\b.ty=a.ty/\b.sz=a.sz/\b.es.l.length=a.es.l.length/\match a.box with
 |true=>∃e e',a.es=.gen [e]/\b.es=.gen [e']/\e'.length=e.length/\jB e e'
 |false=>b.es.l=a.es.l
theorem jB.length:∀{ds es:List D},jB ds es->ds.length=es.length
 |[],[],_=>rfl
 |_::_,_::_,h=>by simp[jB.length h.2]
 |[],_::_,h=>h.elim
 |_::_,[],h=>h.elim
theorem Znu{s:RT}{r:Row}(h:uA s r=true):sQ r (wI s r):=by
 unfold uA at h
 split at h
 ·rename_i ty sz ts jP ka e
  simp only[aE]at h
  have h3:=Qv (pre:=[]) h.2.2
  have hl:=h3.length
  exact⟨rfl,(bE h.1).symm,(bE h.2.1).symm,rfl,_,_,rfl,rfl,hl.symm,h3⟩
 ·rename_i ty sz t jP ka E
  simp only[aE]at h
  obtain⟨h1,h2,h3⟩:=h
  split at h3
  ·rename_i E' hE
   have he:=ak.w4 (MM hE)
   have hc:wI (.arr ty sz t) ⟨false,jP,ka,E⟩=⟨false,ty,sz,E'⟩:=by simp[wI,zax hE]
   rw[hc]
   exact⟨rfl,(bE h1).symm,(bE h2).symm,by simp only[he],he.symm⟩
  ·cases h3
 ·cases h
theorem Y9:∀{l:List RT} {pre rs:List Row},Ba l rs=true->rs.length=l.length/\∀(i:Nat) r,rs[i]?=some r->∃r',(kU l (pre++rs) pre.length)[i]?=some r'/\sQ r r'
 |[],pre,[],_=>⟨rfl,λi r h=>by simp at h⟩
 |s ::l,pre,r::rs,h=>by
  simp only[Ba,aE]at h
  obtain⟨h1,h2⟩:=Y9 (pre:=pre++[r]) h.2
  refine⟨by simp[h1],λi q hq=>?_⟩
  cases i with
  |zero=>
   simp at hq;subst hq
   have:(pre++r::rs).getD pre.length default=r:=by simp[aK]
   exact⟨_,by simp only[kU,this];rfl,Znu h.1⟩
  |succ i=>
   obtain⟨q',g1,g2⟩:=h2 i q (by simpa using hq)
   refine⟨q',?_,g2⟩
   simp only[kU,List.getElem?_cons_succ]
   simpa using g1
 |[],_,_::_,h=>by simp[Ba]at h
 |_::_,_,[],h=>by simp[Ba]at h
theorem Ut:∀{l:List RT} {rows:List Row} {i:Nat},(kU l rows i).length=l.length
 |[],_,_=>rfl
 |s::l,rows,i=>by simp[kU,Ut]
theorem yz{d:D}:d.lY (λr=>r) true=d:=by
 cases d with
 |gb f cs=>simp only[D.lY,X4]
 |_=>simp[D.lY]
theorem Uu:∀{ds:List D},D.lZ (λr=>r) true ds=ds
 |[]=>rfl
 |d::l=>by simp[D.lZ,yz,Uu (ds:=l)]
theorem qaL{d:D}:d.jb (λr=>r) true=d:=by
 cases d with
 |agg cs=>show D.agg (D.lZ _ true cs)=_;rw[Uu]
 |gb f cs=>exact yz (d:=.gb f cs)
 |_=>simp[D.jb,D.lY]
theorem jB.cells{c:Ctx}{w:World}:∀{ds es:List D} {arr:Array Value} {off:Nat},jB ds es->kA c w ds arr off->kA c w es arr off
 |[],[],_,_,_,_=>trivial
 |d::l,e::m,_,_,h,⟨⟨v,hv,h1⟩,h2⟩=>⟨⟨v,hv,h.1 _ _ _ h1⟩,jB.cells h.2 h2⟩
 |[],_::_,_,_,h,_=>h.elim
 |_::_,[],_,_,h,_=>h.elim
theorem Zp{c1 c2:Ctx}{w:World}(hn:DK (λ_=>True) (λr=>r) true c1 c2)(hI:∀b,c1.I b->c2.I b):∀{ds:List D} {vs:List Value},jY c1 w ds vs->jY c2 w ds vs
 |[],[],_=>trivial
 |d::ds,v::vs,h=>⟨by have:=Pm hn (flat:=False) (.inl hI) (λ_ _=>trivial) (λe=>e.elim) h.1;rwa [qaL]at this,Zp hn hI h.2⟩
 |[],_::_,h=>h.elim
 |_::_,[],h=>h.elim
theorem jZ.JB{P:Program}{f:FuncId}{args mZ:List D}{rows kO:List Row}{res:D}{ai:List Row}(hs:CP args mZ)(hl:kO.length=rows.length)(hr:∀(i:Nat) r,rows[i]?=some r->∃r',kO[i]?=some r'/\sQ r r')(h:jZ P f mZ kO res ai):jZ P f args rows res ai:=by
 intro c w vs hm hb hR ha
 let c2:Ctx:={c with R:=λr=>kO[r]? }
 have QN:∀r row,c.R r=some row->∃ao,c2.R r=some ao/\sQ row ao:=λr row cb=>by
  rw[hR]at cb;exact hr r row cb
 have uD:∀r ao,c2.R r=some ao->∃row,c.R r=some row/\sQ row ao:=λr ao cb=>by
  have cb:kO[r]?=some ao:=cb
  have cj:=(List.getElem?_eq_some_iff.1 cb).1
  have h1:rows[r]?=some rows[r]:=cG (by omega)
  obtain⟨jr,g1,g2⟩:=hr r _ h1
  rw[cb]at g1;cases g1
  exact⟨_,by rw[hR];exact h1,g2⟩
 have hn:DK (λ_=>True) (λr=>r) true c c2:=⟨λi row _ cb=>by
  obtain⟨ao,g1,g2,g3,g4,g5,_⟩:=QN i row cb
  exact⟨ao,g1,g2,g3,g4,g5,rfl,Iff.rfl⟩,λ_=>aO _,aO _⟩
 have By:Mem c2 w:=by
  refine⟨λr ao cb=>?_,λr s x y h1 h2 v1 v2 he=>?_,λb iq=>⟨(hm.fh b iq).1,λr x h1 v=>?_⟩,hm.top,hm.kC⟩
  ·obtain⟨row,g1,g2,g3,g4,g5,g6⟩:=uD r ao cb
   rcases hm.row r row g1 with⟨k1,k2,k3,k4⟩|⟨k1,arr,k2,k3,k4⟩
   ·refine .inl ⟨k1,g2.trans k2,?_,by rw[g4];exact k4⟩
    rw[k2]at g6;simp only at g6;rw[g6,k3]
   ·refine .inr ⟨k1,arr,by rw[g3];exact k2,by rw[g4];exact k3,?_⟩
    rw[g2,g4]
    cases wx:row.box with
    |false=>
     simp only[wx,aN,if_false]at k4 g6⊢
     rw[g6];exact k4
    |true=>
     simp only[wx,if_true]at k4 g6⊢
     obtain⟨e,e',q1,q2,q3,q4⟩:=g6
     obtain⟨e0,p1,p2,p3,p4⟩:=k4
     rw[q1]at p1;cases p1
     refine⟨e',q2,by rw[q3];exact p2,p3,?_⟩
     have:=TR hn (flat:=False) (.inl λb hb=>hb) (λ_ _=>trivial) (λe=>e.elim) (jB.cells q4 p4)
     rwa [Uu]at this
  ·obtain⟨x',g1,_⟩:=uD r x h1
   obtain⟨y',g2,_⟩:=uD s y h2
   exact hm.inj r s x' y' g1 g2 v1 v2 he
  ·obtain⟨x',g1,_⟩:=uD r x h1
   exact(hm.fh b iq).2 r x' g1 v
 refine(h c2 w vs By hb (λr=>rfl) (Zp hn (λb h=>h) (CP.rep hs ha))).mono λe w' hq=>?_
 obtain⟨v,c',he,hx,jQ,hv⟩:=hq
 refine⟨v,c',he,⟨hx.mem,⟨hx.bz.base,hx.bz.top,hx.bz.I,λr row cb=>?_⟩,hx.fr.mono λb _ ⟨r,x,h1,h2,h3⟩=>?_,hx.fh,λr ao h1 h2=>?_⟩,jQ,hv⟩
 ·obtain⟨jr,g1,g2,g3,g4,g5,g6⟩:=QN r row cb
  obtain⟨ao,k1,k2,k3,k4,k5,k6,k7,k8⟩:=hx.bz.R r jr g1
  exact⟨ao,k1,k2.trans g2,k3.trans g3,k4.trans g4,k5.trans g5,k6,k7,λnv arr ha=>by rw[<-g3]at ha⊢;exact k8 nv arr ha⟩
 ·obtain⟨x',g1,_⟩:=uD r x h1
  exact⟨r,x',g1,h2,h3⟩
 ·rcases hx.nS r ao h1 h2 with⟨⟨x,nm⟩,h3,h4⟩|h3
  ·obtain⟨x',g1,_⟩:=uD r x nm
   exact .inl ⟨⟨x',g1⟩,h3,h4⟩
  ·exact .inr h3
theorem r9.JB{P:Program}{f:FuncId}{k:Nat}{args mZ:List D}{rows kO:List Row}{res:D}{ai:List Row}(hs:CP args mZ)(hl:kO.length=rows.length)(hr:∀(i:Nat) r,rows[i]?=some r->∃r',kO[i]?=some r'/\sQ r r')(h:r9 P f k mZ kO res ai):r9 P f k args rows res ai:=by
 intro c w vs hm hb hR ha
 let c2:Ctx:={c with R:=λr=>kO[r]? }
 have QN:∀r row,c.R r=some row->∃ao,c2.R r=some ao/\sQ row ao:=λr row cb=>by
  rw[hR]at cb;exact hr r row cb
 have uD:∀r ao,c2.R r=some ao->∃row,c.R r=some row/\sQ row ao:=λr ao cb=>by
  have cb:kO[r]?=some ao:=cb
  have cj:=(List.getElem?_eq_some_iff.1 cb).1
  have h1:rows[r]?=some rows[r]:=cG (by omega)
  obtain⟨jr,g1,g2⟩:=hr r _ h1
  rw[cb]at g1;cases g1
  exact⟨_,by rw[hR];exact h1,g2⟩
 have hn:DK (λ_=>True) (λr=>r) true c c2:=⟨λi row _ cb=>by
  obtain⟨ao,g1,g2,g3,g4,g5,_⟩:=QN i row cb
  exact⟨ao,g1,g2,g3,g4,g5,rfl,Iff.rfl⟩,λ_=>aO _,aO _⟩
 have By:Mem c2 w:=by
  refine⟨λr ao cb=>?_,λr s x y h1 h2 v1 v2 he=>?_,λb iq=>⟨(hm.fh b iq).1,λr x h1 v=>?_⟩,hm.top,hm.kC⟩
  ·obtain⟨row,g1,g2,g3,g4,g5,g6⟩:=uD r ao cb
   rcases hm.row r row g1 with⟨k1,k2,k3,k4⟩|⟨k1,arr,k2,k3,k4⟩
   ·refine .inl ⟨k1,g2.trans k2,?_,by rw[g4];exact k4⟩
    rw[k2]at g6;simp only at g6;rw[g6,k3]
   ·refine .inr ⟨k1,arr,by rw[g3];exact k2,by rw[g4];exact k3,?_⟩
    rw[g2,g4]
    cases wx:row.box with
    |false=>
     simp only[wx,aN,if_false]at k4 g6⊢
     rw[g6];exact k4
    |true=>
     simp only[wx,if_true]at k4 g6⊢
     obtain⟨e,e',q1,q2,q3,q4⟩:=g6
     obtain⟨e0,p1,p2,p3,p4⟩:=k4
     rw[q1]at p1;cases p1
     refine⟨e',q2,by rw[q3];exact p2,p3,?_⟩
     have:=TR hn (flat:=False) (.inl λb hb=>hb) (λ_ _=>trivial) (λe=>e.elim) (jB.cells q4 p4)
     rwa [Uu]at this
  ·obtain⟨x',g1,_⟩:=uD r x h1
   obtain⟨y',g2,_⟩:=uD s y h2
   exact hm.inj r s x' y' g1 g2 v1 v2 he
  ·obtain⟨x',g1,_⟩:=uD r x h1
   exact(hm.fh b iq).2 r x' g1 v
 refine(h c2 w vs By hb (λr=>rfl) (Zp hn (λb h=>h) (CP.rep hs ha))).mono (λb hb=>hb) λe w' hq=>?_
 obtain⟨v,c',he,hx,jQ,hv⟩:=hq
 rw[hl]at hx
 refine⟨v,c',he,⟨hx.mem,⟨hx.bz.base,hx.bz.top,hx.bz.I,λr row cb=>?_⟩,hx.fr.mono λb _ ⟨r,x,h1,h2,h3⟩=>?_,λb hb=>?_,λr ao h1 h2=>?_⟩,jQ,hv⟩
 ·obtain⟨q,jT,CE,rfl⟩:=nT cb
  obtain⟨jr,g1,g2,g3,g4,g5,g6⟩:=QN r jT CE
  obtain⟨ao,k1,k2,k3,k4,k5,k6,k7,k8⟩:=hx.bz.R r (jr.kill _) (by simp only[Ctx.kill];rw[if_neg (by rw[q];simp),g1];rfl)
  obtain⟨s1,s2,s3,s4⟩:=uT (bK k (rows.length-k)) jT
  obtain⟨t1,t2,t3,t4⟩:=uT (bK k (rows.length-k)) jr
  refine⟨ao,k1,k2.trans (t1.trans (g2.trans s1.symm)),k3.trans (t2.trans (g3.trans s2.symm)),k4.trans (t3.trans (g4.trans s3.symm)),k5.trans (t4.trans (g5.trans s4.symm)),k6,k7,λnv arr ha=>?_⟩
  rw[s2]at ha⊢
  have:=k8 nv arr (by rw[t2,g3];exact ha)
  rw[t2,g3]at this
  exact this
 ·obtain⟨x',g1,_⟩:=uD r x h1
  exact⟨r,x',g1,h2,h3⟩
 ·rcases hx.fh b hb with h|⟨s,x,h1,h2,h3,h4⟩|h
  ·exact .inl h
  ·obtain⟨x',g1,_⟩:=uD s x h2
   exact .inr (.inl ⟨s,x',h1,g1,h3,h4⟩)
  ·exact .inr (.inr h)
 ·rcases hx.nS r ao h1 h2 with⟨⟨x,nm⟩,h3,h4⟩|⟨s,x,q1,q2,q3,q4⟩|h3
  ·obtain⟨x',g1,_⟩:=uD r x nm
   exact .inl ⟨⟨x',g1⟩,h3,h4⟩
  ·obtain⟨x',g1,_⟩:=uD s x q2
   exact .inr (.inl ⟨s,x',q1,g1,q3,q4⟩)
  ·exact .inr (.inr h3)
def DV(f:FuncId)(refs:List Bool)(flat:Bool)(sig:List PT)(dm:List RT){α:Type}(v:List D->List Row->α)(enc:α->D)(out:α->List Row):ba:=
 ⟨f,refs,flat,λargs rows=>match AZ sig args&&Ba dm rows with|true=>.abs α (v args rows) enc out|false=>.no,none,false⟩
def mo(f:FuncId)(refs:List Bool)(flat:Bool)(sig:List PT)(dm:List RT)(pre:List D->List Row->Prop){α:Type}(v:List D->List Row->α)(enc:α->D)(out:α->List Row):ba:=
 ⟨f,refs,flat,λargs rows=>match AZ sig args&&Ba dm rows with|true=>.lr (pre args rows) α (v args rows) enc out|false=>.no,none,false⟩
def ba.fz(x:ba):ba:={x with oM:=true}
theorem L7{P:Program}{x:ba}(h:bj P x):bj P x.fz:=⟨h.enters,h.real,h.ok,h.when,h.abs,h.lr,h.O9,h.GX⟩
def Uv(k:Nat)(f:FuncId)(refs:List Bool)(sig:List PT)(dm:List RT){α:Type}(v:List D->List Row->α)(enc:α->D)(out:α->List Row):ba:=
 ⟨f,refs,false,λargs rows=>match AZ sig args&&Ba dm rows with|true=>.abs α (v args rows) enc out|false=>.no,some k,false⟩
def mc(k:Nat)(f:FuncId)(refs:List Bool)(sig:List PT)(dm:List RT)(pre:List D->List Row->Prop){α:Type}(v:List D->List Row->α)(enc:α->D)(out:α->List Row):ba:=
 ⟨f,refs,false,λargs rows=>match AZ sig args&&Ba dm rows with|true=>.lr (pre args rows) α (v args rows) enc out|false=>.no,some k,false⟩
def ak.wJ:ak->Bool
 |.gen _=>false
 |.bc k _=>k.kG
 |_=>true
theorem ak.sR{E:ak}(h:E.wJ=true):E.Fc:=by
 cases E with
 |gen es=>simp[ak.wJ]at h
 |bc k l=>exact h
 |_=>trivial
def CR:D->Bool|.sl _ E fr=>fr&&E.wJ|.ig _ _ _ _=>false|.gb _ _=>false|_=>true
def CS:List D->Bool|[]=>true|d::l=>CR d&&CS l
def JC:D->Bool|.agg cs=>CS cs|d=>CR d
def Ft:List D->Bool|[]=>true|d::l=>JC d&&Ft l
def uJ:D->Bool|.dt ds=>Ft ds|d=>JC d
def jE:List Row->Bool
 |[]=>true
 |⟨true,_,_,.gen [e]⟩::l=>CS e&&jE l
 |⟨false,_,_,E⟩::l=>E.wJ&&jE l
 |_=>false
theorem QO{d:D}(h:CR d=true):Pl d:=by
 cases d<;>first|trivial|(simp[CR]at h;done)|skip
 case sl sz E fr=>simp only[CR,aE]at h;exact⟨.inr h.1,ak.sR h.2⟩
theorem Uw:∀{ds:List D},CS ds=true->LU ds
 |[],_=>trivial
 |d::l,h=>by simp only[CS,aE]at h;exact⟨QO h.1,Uw h.2⟩
theorem xax{d:D}(h:JC d=true):TQ d:=by
 cases d with
 |agg cs=>exact Uw h
 |sl a b c=>exact QO (d:=.sl a b c) h
 |ig a b c e=>exact QO (d:=.ig a b c e) h
 |_=>trivial
theorem vz:∀{ds:List D},Ft ds=true->Fe ds
 |[],_=>trivial
 |d::l,h=>by simp only[Ft,aE]at h;exact⟨xax h.1,vz h.2⟩
theorem y9{d:D}(h:uJ d=true):FF d:=by
 cases d with
 |dt ds=>exact vz h
 |agg cs=>exact Uw h
 |sl a b c=>exact QO (d:=.sl a b c) h
 |ig a b c e=>exact QO (d:=.ig a b c e) h
 |_=>trivial
theorem Ux:∀{rs:List Row},jE rs=true->pW rs
 |[],_=>trivial
 |⟨true,_,_,.gen [e]⟩::l,h=>by
  simp only[jE,aE]at h
  refine⟨?_,Ux h.2⟩
  simp only[I9,if_true,ak.l,List.mem_singleton,forall_eq]
  exact Uw h.1
 |⟨false,_,_,E⟩::l,h=>by
  simp only[jE,aE]at h
  refine⟨?_,Ux h.2⟩
  simp only[I9,aN,if_false]
  exact ak.sR h.1
 |⟨true,_,_,.gen []⟩::l,h=>by simp[jE]at h
 |⟨true,_,_,.gen (_::_::_)⟩::l,h=>by simp[jE]at h
 |⟨true,_,_,.ints _ _⟩::l,h=>by simp[jE]at h
 |⟨true,_,_,.bn _⟩::l,h=>by simp[jE]at h
 |⟨true,_,_,.bc _ _⟩::l,h=>by simp[jE]at h
theorem qaa{P:Program}{f:FuncId}{sig:List PT}{dm:List RT}{args:List D}{rows:List Row}{res:D}{out:List Row}(hs:(AZ sig args&&Ba dm rows)=true)(h:jZ P f (lL sig args 0) (kU dm rows 0) res out):jZ P f args rows res out:=by
 simp only[aE]at hs
 obtain⟨h1,h2⟩:=Y9 (pre:=[]) hs.2
 exact jZ.JB (Y8 (pre:=[]) hs.1) (by rw[Ut,h1]) h2 h
theorem zaa{P:Program}{f:FuncId}{refs:List Bool}{flat:Bool}{sig:List PT}{dm:List RT}{α:Type}{v:List D->List Row->α}{enc:α->D}{out:α->List Row}(he:∀args w,(callFunc f args).run P w=.ok (.enter f args) w)(h:∀args rows,jZ P f (lL sig args 0) (kU dm rows 0) (enc (v args rows)) (out (v args rows)))
 (hf:flat=true->∀X,(uJ (enc X)&&jE (out X))=true) (hy:bJ f YB=true:=by rfl):bj P (DV f refs flat sig dm v enc out):=by
 refine⟨λ_=>he,λ_=>lE hy,λ_ args rows r r' hm=>?_,λ_ args rows p r r' hm=>?_,λ_ args rows α' v' r r' hm=>?_,λ_ args rows p α' v' r r' hm=>?_,λk hk=>(by cases hk),λk hk=>(by cases hk)⟩
 ·simp only[DV]at hm
  split at hm<;>cases hm
 ·simp only[DV]at hm
  split at hm<;>cases hm
 ·simp only[DV]at hm
  split at hm
  ·rename_i hs
   cases hm
   exact⟨qaa hs (h args rows),λe=>by have:=hf e (v args rows);simp only[aE]at this;exact⟨y9 this.1,Ux this.2⟩⟩
  ·cases hm
 ·simp only[DV]at hm
  split at hm<;>cases hm
theorem L9{P:Program}{f:FuncId}{refs:List Bool}{flat:Bool}{sig:List PT}{dm:List RT}{pre:List D->List Row->Prop}{α:Type}{v:List D->List Row->α}{enc:α->D}{out:α->List Row}(he:∀args w,(callFunc f args).run P w=.ok (.enter f args) w)(h:∀args rows,pre args rows->jZ P f (lL sig args 0) (kU dm rows 0) (enc (v args rows)) (out (v args rows)))
 (hf:flat=true->∀X,(uJ (enc X)&&jE (out X))=true) (hy:bJ f YB=true:=by rfl):bj P (mo f refs flat sig dm pre v enc out):=by
 refine⟨λ_=>he,λ_=>lE hy,λ_ args rows r r' hm=>?_,λ_ args rows p r r' hm=>?_,λ_ args rows α' v' r r' hm=>?_,λ_ args rows p α' v' r r' hm hp=>?_,λk hk=>(by cases hk),λk hk=>(by cases hk)⟩
 ·simp only[mo]at hm
  split at hm<;>cases hm
 ·simp only[mo]at hm
  split at hm<;>cases hm
 ·simp only[mo]at hm
  split at hm<;>cases hm
 ·simp only[mo]at hm
  split at hm
  ·rename_i hs
   cases hm
   exact⟨qaa hs (h args rows hp),λe=>by have:=hf e (v args rows);simp only[aE]at this;exact⟨y9 this.1,Ux this.2⟩⟩
  ·cases hm
theorem qA{P:Program}{f:FuncId}{k:Nat}{sig:List PT}{dm:List RT}{args:List D}{rows:List Row}{res:D}{out:List Row}(hs:(AZ sig args&&Ba dm rows)=true)(h:r9 P f k (lL sig args 0) (kU dm rows 0) res out):r9 P f k args rows res out:=by
 simp only[aE]at hs
 obtain⟨h1,h2⟩:=Y9 (pre:=[]) hs.2
 exact r9.JB (Y8 (pre:=[]) hs.1) (by rw[Ut,h1]) h2 h
theorem zaL{P:Program}{k:Nat}{f:FuncId}{refs:List Bool}{sig:List PT}{dm:List RT}{α:Type}{v:List D->List Row->α}{enc:α->D}{out:α->List Row}(he:f<YB->∀args w,(callFunc f args).run P w=.ok (.enter f args) w)(h:∀args rows,r9 P f k (lL sig args 0) (kU dm rows 0) (enc (v args rows)) (out (v args rows))):
 bj P (Uv k f refs sig dm v enc out):=by
 refine⟨he,λhk=>(by cases hk),λhk=>(by cases hk),λhk=>(by cases hk),λhk=>(by cases hk),λhk=>(by cases hk),λk' hk args rows α' v' r r' hm=>?_,λk' hk args rows p α' v' r r' hm hp=>?_⟩
 ·cases hk
  simp only[Uv]at hm
  split at hm
  ·rename_i hs
   cases hm
   exact qA hs (h args rows)
  ·cases hm
 ·simp only[Uv]at hm
  split at hm<;>cases hm
theorem qay{P:Program}{k:Nat}{f:FuncId}{refs:List Bool}{sig:List PT}{dm:List RT}{pre:List D->List Row->Prop}{α:Type}{v:List D->List Row->α}{enc:α->D}{out:α->List Row}(he:f<YB->∀args w,(callFunc f args).run P w=.ok (.enter f args) w)(h:∀args rows,pre args rows->r9 P f k (lL sig args 0) (kU dm rows 0) (enc (v args rows)) (out (v args rows))):
 bj P (mc k f refs sig dm pre v enc out):=by
 refine⟨he,λhk=>(by cases hk),λhk=>(by cases hk),λhk=>(by cases hk),λhk=>(by cases hk),λhk=>(by cases hk),λk' hk args rows α' v' r r' hm=>?_,λk' hk args rows p α' v' r r' hm hp=>?_⟩
 ·simp only[mc]at hm
  split at hm<;>cases hm
 ·cases hk
  simp only[mc]at hm
  split at hm
  ·rename_i hs
   cases hm
   exact qA hs (h args rows hp)
  ·cases hm
def dj{α β:Type}(v:α)(m:α->β):β:=m v
def nA(α:Type)(x y:α):Prop:=x=y
abbrev rE{α:Type}(x:α):Prop:=x=x
abbrev zM:au:={A9:={X:={a0:=0,a1:=0,a2:=0,a3:=0,a4:=0,a5:=0,a6:=0,a7:=0,a8:=0,a9:=0,kj:=0,ko:=0,a12:=0,kp:=0,kq:=0,kr:=0},Pc:=0,B2:={a0:=0,a1:=0,a2:=0,a3:=0,a4:=0,a5:=0,a6:=0,a7:=0}},Mem:=[],A2:={C5:=[]},A7:={C9:=false,B8:=0,C8:=false},A6:={ab:=0,B9:=0,Frame:=0,B5:=0,D1:=0,B4:=0,B0:=0,B6:=[]},C1:={Frame:=0,D6:=0,C2:=false,B7:=0,B3:=false,D8:=0},A1:={C3:=0,C0:=0},A0:=0,A3:=false,A4:=false}
abbrev mE(m:au)(P Q:Prop):Prop:=rE m.A9.X.a0/\rE m.A9.X.a1/\rE m.A9.X.a2/\rE m.A9.X.a3/\rE m.A9.X.a4/\rE m.A9.X.a5/\rE m.A9.X.a6/\rE m.A9.X.a7/\rE m.A9.X.a8/\rE m.A9.X.a9/\rE m.A9.X.kj/\rE m.A9.X.ko/\rE m.A9.X.a12/\rE m.A9.X.kp/\rE m.A9.X.kq/\rE m.A9.X.kr/\rE m.A9.Pc/\rE m.A9.B2.a0/\rE m.A9.B2.a1/\rE m.A9.B2.a2/\rE m.A9.B2.a3/\rE m.A9.B2.a4/\rE m.A9.B2.a5/\rE m.A9.B2.a6/\rE m.A9.B2.a7/\P/\rE m.A2.C5/\rE m.A7.C9/\rE m.A7.B8/\rE m.A7.C8/\rE m.A6.ab/\rE m.A6.B9/\rE m.A6.Frame/\rE m.A6.B5/\rE m.A6.D1/\rE m.A6.B4/\rE m.A6.B0/\rE m.A6.B6/\rE m.C1.Frame/\rE m.C1.D6/\rE m.C1.C2/\rE m.C1.B7/\rE m.C1.B3/\rE m.C1.D8/\rE m.A1.C3/\rE m.A1.C0/\rE m.A0/\rE m.A3/\rE m.A4/\Q
abbrev mR(f:Nat->D)(M:List Int):au:=(⟨(⟨(⟨(f 0).toInt,(f 1).toInt,(f 2).toInt,(f 3).toInt,(f 4).toInt,(f 5).toInt,(f 6).toInt,(f 7).toInt,(f 8).toInt,(f 9).toInt,(f 10).toInt,(f 11).toInt,(f 12).toInt,(f 13).toInt,(f 14).toInt,(f 15).toInt⟩:(fv Int)),(f 16).toInt,(⟨(f 17).toInt,(f 18).toInt,(f 19).toInt,(f 20).toInt,(f 21).toInt,(f 22).toInt,(f 23).toInt,(f 24).toInt⟩:(A8 Int))⟩:bg),M,(⟨(f 26).toStr⟩:iO),(⟨(f 27).toBool,(f 28).toInt,(f 29).toBool⟩:iS),(⟨(f 30).toInt,(f 31).toInt,(f 32).toInt,(f 33).toInt,(f 34).toInt,(f 35).toInt,(f 36).toInt,(f 37).toStr⟩:fe),(⟨(f 38).toInt,(f 39).toInt,(f 40).toBool,(f 41).toInt,(f 42).toBool,(f 43).toInt⟩:gq),(⟨(f 44).toInt,(f 45).toInt⟩:gh),(f 46).toInt,(f 47).toBool,(f 48).toBool⟩:au)
abbrev mD(x:au)(d:D):List D:=[.int u32 x.A9.X.a0,.int u32 x.A9.X.a1,.int u32 x.A9.X.a2,.int u32 x.A9.X.a3,.int u32 x.A9.X.a4,.int u32 x.A9.X.a5,.int u32 x.A9.X.a6,.int u32 x.A9.X.a7,.int u32 x.A9.X.a8,.int u32 x.A9.X.a9,.int u32 x.A9.X.kj,.int u32 x.A9.X.ko,.int u32 x.A9.X.a12,.int u32 x.A9.X.kp,.int u32 x.A9.X.kq,.int u32 x.A9.X.kr,.int u32 x.A9.Pc,.int u32 x.A9.B2.a0,.int u32 x.A9.B2.a1,.int u32 x.A9.B2.a2,.int u32 x.A9.B2.a3,.int u32 x.A9.B2.a4,.int u32 x.A9.B2.a5,.int u32 x.A9.B2.a6,.int u32 x.A9.B2.a7,d,.str x.A2.C5,.bool x.A7.C9,.int u32 x.A7.B8,.bool x.A7.C8,.int u32 x.A6.ab,.int u32 x.A6.B9,.int u32 x.A6.Frame,.int i64 x.A6.B5,.int i64 x.A6.D1,.int u32 x.A6.B4,.int u32 x.A6.B0,.str x.A6.B6,.int u32 x.C1.Frame,.int u32 x.C1.D6,.bool x.C1.C2,.int u32 x.C1.B7,.bool x.C1.B3,.int u32 x.C1.D8,.int u32 x.A1.C3,.int u32 x.A1.C0,.int u64 x.A0,.bool x.A3,.bool x.A4]
abbrev mB(f:Nat->D):List D:=[f 0,f 1,f 2,f 3,f 4,f 5,f 6,f 7,f 8,f 9,f 10,f 11,f 12,f 13,f 14,f 15,f 16,f 17,f 18,f 19,f 20,f 21,f 22,f 23,f 24,f 25,f 26,f 27,f 28,f 29,f 30,f 31,f 32,f 33,f 34,f 35,f 36,f 37,f 38,f 39,f 40,f 41,f 42,f 43,f 44,f 45,f 46,f 47,f 48]
abbrev rZ:Prop:=rE (0:Nat)/\rE (0:Nat)
abbrev nR(k:RK)(n:Nat)(x:List (RK.T k)):Prop:=(ak.Nil (ak.bc k x)\/rE n)/\rE x
abbrev aC(l:List D)(n:Nat):List D:=(l.getD n .dead).cells
theorem ou{p:Prop}(h:p:=by((subst_vars;first|trivial|assumption|omega|((simp(config:={decide:=true,failIfUnchanged:=false}) only[aE,Bool.or_eq_true,Bool.and_eq_false_iff,Bool.or_eq_false_iff,Bool.not_eq_true',Bool.not_eq_false',Bool.not_eq_true,Bool.not_eq_false,decide_eq_true_eq,decide_eq_false_iff_not,Y6,Q38,Y7,Q37,beq_iff_eq,beq_eq_false_iff_ne,bne_iff_ne,bne_eq_false_iff_eq,ne_eq,List.all_cons,List.all_nil,D.plain,List.length_cons,List.length_nil,lA,List.length_set,List.length_replicate,wrap_i64,wrap_u64,wrap_u32,wrap_i32,wrap_u8,true_and,and_true,or_false,false_or,or_true,true_or,not_true_eq_false,not_false_eq_true,Prod.fst,Prod.snd]at*);first|done|assumption|omega)|((simp(config:={decide:=true,failIfUnchanged:=false}) only[aE,Bool.or_eq_true,Bool.and_eq_false_iff,Bool.or_eq_false_iff,Bool.not_eq_true',Bool.not_eq_false',Bool.not_eq_true,Bool.not_eq_false,decide_eq_true_eq,decide_eq_false_iff_not,Y6,Q38,Y7,Q37,beq_iff_eq,beq_eq_false_iff_ne,bne_iff_ne,bne_eq_false_iff_eq,ne_eq,List.all_cons,List.all_nil,D.plain,List.length_cons,List.length_nil,lA,List.length_set,List.length_replicate,wrap_i64,wrap_u64,wrap_u32,wrap_i32,wrap_u8,true_and,and_true,or_false,false_or,or_true,true_or,not_true_eq_false,not_false_eq_true,Prod.fst,Prod.snd]at*);simp only[<-List.length_pos_iff]at*;omega)|(simp_all;done)|(have:= @Qh9;simp_all;try omega)))):p:=h
def run{α β:Type}[Inhabited β](F:α->α⊕β):Nat->α->β
 |0,_=>default
 |k+1,a=>match F a with|.inl a'=>run F k a'|.inr b=>b
theorem zay{α β:Type}[Inhabited β]{F:α->α⊕β}{P:α->Prop}{R:β->Prop}{μ:α->Nat}(h:∀a,P a->match F a with|.inl a'=>P a'/\μ a'<μ a|.inr b=>R b):∀k a,P a->μ a<k->R (run F k a):=by
 intro k
 induction k with
 |zero=>intro a _ hk;omega
 |succ k ih=>
  intro a ha hk
  have:=h a ha
  unfold run
  split at this
  ·rename_i a' he;exact ih a' this.1 (by omega)
  ·exact this
inductive Tree:Type->Type 1 where
 |lf {β:Type} (x:β):Tree β
 |nx {β:Type} (f:Prop) (x:β) (h:f:=by first|trivial|(simp[nA];done)|decide|(simp only[and_true,true_and,or_true,true_or,and_self];done)|((repeat'(first|exact True.intro|apply And.intro|exact rfl|exact Or.inr rfl));done)):Tree β
 |br {β:Type} (c:Bool) (t e:Tree β):Tree β
 |cn {β:Type} (c:Bool) (t:Tree β):Tree β
 |fl {β:Type} (c:Bool) (t:Tree β):Tree β
 |an {β:Type} (p:Prop) (t:Tree β):Tree β
 |lv {α β:Type} (x:α) (k:α->Tree β):Tree β
 |lp {α β:Type} (d:Inhabited β) (n:Nat) (f:Prop) (x:α) (t:α->Tree (α⊕β)) (h:f:=by first|trivial|(simp[nA];done)|decide|(simp only[and_true,true_and,or_true,true_or,and_self];done)|((repeat'(first|exact True.intro|apply And.intro|exact rfl|exact Or.inr rfl));done)):Tree β
def Tree.m{β:Type}:Tree β->β
 |.lf x=>x
 |.nx _ x _=>x
 |.br c t e=>cond c t.m e.m
 |.cn _ t=>t.m
 |.fl _ t=>t.m
 |.an _ t=>t.m
 |.lv x k=>dj x λy=>(k y).m
 |.lp _ n _ x t _=>run (λy=>(t y).m) n x
def lM{α β:Type}(B:α->(α⊕β->Prop)->Prop)(W:β->Prop)(n:Nat)(y:α):Prop:=
 match n with
 |0=>False
 |k+1=>B y (iI (λz=>lM B W k z) W)
termination_by n
theorem Zq{α β:Type}{B:α->(α⊕β->Prop)->Prop}{W:β->Prop}{y:α}:lM B W 0 y=False:=by rw[lM]
theorem Ml{α β:Type}{B:α->(α⊕β->Prop)->Prop}{W:β->Prop}{k:Nat}{y:α}:lM B W (k+1) y=B y (iI (λz=>lM B W k z) W):=by rw[lM]
def Tree.w{β:Type}:Tree β->(β->Prop)->Prop
 |.lf x,W=>W x
 |.nx _ x _,W=>W x
 |.br c t e,W=>Dh c (t.w W) (e.w W)
 |.cn c t,W=>cg c (t.w W)
 |.fl c t,W=>Dh c False (t.w W)
 |.an p t,W=>p/\t.w W
 |.lv x k,W=>∀y,y=x->(k y).w W
 |.lp _ n _ x t _,W=>lM (λy V=>(t y).w V) W n x
def Tree.q{β:Type}:Tree β->(β->Prop)->Prop
 |.lf x,L=>L x
 |.nx f x _,L=>L x/\f
 |.br c t e,L=>Dh c (t.q L) (e.q L)
 |.cn c t,L=>cg c (t.q L)
 |.fl c t,L=>Dh c False (t.q L)
 |.an p t,L=>p/\t.q L
 |.lv x k,L=>∀y,y=x->(k y).q L
 |.lp (α:=α) _ _ f x t _,L=>∃(uV:α->Prop),∃(ν:α->Nat),uV x/\f/\∀y,uV y->(t y).q (iI (λz=>uV z/\ν z<ν y) L)
theorem Tree.main{β:Type}(t:Tree β):∀{W L E:β->Prop},(∀x,W x->E x->L x)->t.w W->E t.m->t.q L:=by
 induction t with
 |lf x=>intro W L E h hw he;exact h x hw he
 |nx f x hf=>intro W L E h hw he;exact⟨h x hw he,hf⟩
 |br c t e JD JE=>
  intro W L E h hw he
  cases c with
  |true=>exact JD h hw he
  |false=>exact JE h hw he
 |cn c t ih=>intro W L E h hw he;exact c7.2 ⟨(c7.1 hw).1,ih h (c7.1 hw).2 he⟩
 |fl c t ih=>
  intro W L E h hw he
  cases c with
  |true=>exact hw.elim
  |false=>exact ih h hw he
 |an p t ih=>intro W L E h hw he;exact⟨hw.1,ih h hw.2 he⟩
 |lv x k ih=>intro W L E h hw he y hy;subst hy;exact ih y h (hw y rfl) he
 |lp d n f x t hf ih=>
  intro W L E h hw he
  have H:∀k y,lM (λy V=>(t y).w V) W k y->E (@run _ _ d (λy=>(t y).m) k y)->∃j,j<k/\k=j+1:=by
   intro k y h1 _
   cases k with
   |zero=>rw[Zq]at h1;exact h1.elim
   |succ k=>exact⟨k,Nat.lt_succ_self k,rfl⟩
  let P:Nat->_->Prop:=λk y=>lM (λy V=>(t y).w V) W k y/\E (@run _ _ d (λy=>(t y).m) k y)
  have least:∀y,(∃k,P k y)->∃k,P k y/\∀j,P j y->k<=j:=by
   intro y ⟨k,hk⟩
   induction k using Nat.strongRecOn with
   |ind k ihk=>
    by_cases hj:∃j,j<k/\P j y
    ·obtain⟨j,h1,h2⟩:=hj;exact ihk j h1 h2
    ·exact⟨k,hk,λj h2=>Nat.le_of_not_lt λh1=>hj ⟨j,h1,h2⟩⟩
  have ch:∃ν:_->Nat,∀y,(∃k,P k y)->P (ν y) y/\∀j,P j y->ν y<=j:=Classical.axiomOfChoice (r:=λy k=>(∃k,P k y)->P k y/\∀j,P j y->k<=j) λy=>by
   by_cases hy:∃k,P k y
   ·obtain⟨k,hk⟩:=least y hy;exact⟨k,λ_=>hk⟩
   ·exact⟨0,λh=>absurd h hy⟩
  obtain⟨ν,hν⟩:=ch
  refine⟨λy=>∃k,P k y,ν,⟨n,hw,he⟩,hf,λy hy=>?_⟩
  have QP:=hν y hy
  generalize wV:ν y=k0 at QP
  obtain⟨⟨h1,h2⟩,_⟩:=QP
  obtain⟨j,_,rfl⟩:=H k0 y h1 h2
  rw[Ml]at h1
  refine ih y (E:=iI (λz=>E (@run _ _ d (λy=>(t y).m) j z)) E) ?_ h1 ?_
  ·intro z Zr Zs
   cases z with
   |inl z=>
    have hz:∃k,P k z:=⟨j,Zr,Zs⟩
    refine⟨hz,?_⟩
    have:=(hν z hz).2 j ⟨Zr,Zs⟩
    show ν z<j+1
    omega
   |inr z=>exact h z Zr Zs
  ·unfold run at h2
   cases hF:(t y).m with
   |inl z=>rw[hF]at h2;exact h2
   |inr z=>rw[hF]at h2;exact h2
abbrev Tree.p{β:Type}(t:Tree β):Prop:=t.w λ_=>True
theorem Tree.main'{β:Type}{t:Tree β}{L:β->Prop}(hw:t.p)(h:L t.m):t.q L:=t.main (λ_ _ h=>h) hw h
theorem Tree.mono{β:Type}(t:Tree β):∀{W V:β->Prop},(∀x,W x->V x)->t.w W->t.w V:=by
 induction t with
 |lf x=>intro W V h hw;exact h x hw
 |nx f x hf=>intro W V h hw;exact h x hw
 |br c t e JD JE=>
  intro W V h hw
  cases c with
  |true=>exact JD h hw
  |false=>exact JE h hw
 |cn c t ih=>intro W V h hw;exact c7.2 ⟨(c7.1 hw).1,ih h (c7.1 hw).2⟩
 |fl c t ih=>
  intro W V h hw
  cases c with
  |true=>exact hw.elim
  |false=>exact ih h hw
 |an p t ih=>intro W V h hw;exact⟨hw.1,ih h hw.2⟩
 |lv x k ih=>intro W V h hw y hy;exact ih y h (hw y hy)
 |lp d n f x t hf ih=>
  intro W V h hw
  revert x
  show∀x,lM (λy V=>(t y).w V) W n x->lM (λy V=>(t y).w V) V n x
  induction n with
  |zero=>intro x hw;rw[Zq]at hw;exact hw.elim
  |succ n Zt=>
   intro x hw
   rw[Ml]at hw⊢
   refine ih x (λz hz=>?_) hw
   cases z with
   |inl z=>exact Zt z hz
   |inr z=>exact h z hz
theorem Tree.post{β:Type}(t:Tree β):∀{W:β->Prop},t.w W->W t.m:=by
 induction t with
 |lf x=>intro W hw;exact hw
 |nx f x hf=>intro W hw;exact hw
 |br c t e JD JE=>
  intro W hw
  cases c with
  |true=>exact JD hw
  |false=>exact JE hw
 |cn c t ih=>intro W hw;exact ih (c7.1 hw).2
 |fl c t ih=>
  intro W hw
  cases c with
  |true=>exact hw.elim
  |false=>exact ih hw
 |an p t ih=>intro W hw;exact ih hw.2
 |lv x k ih=>intro W hw;exact ih x (hw x rfl)
 |lp d n f x t hf ih=>
  intro W hw
  revert x
  show∀x,lM (λy V=>(t y).w V) W n x->W (@run _ _ d (λy=>(t y).m) n x)
  induction n with
  |zero=>intro x hw;rw[Zq]at hw;exact hw.elim
  |succ n Zt=>
   intro x hw
   rw[Ml]at hw
   have:=ih x hw
   unfold run
   cases hF:(t x).m with
   |inl z=>rw[hF]at this;exact Zt z this
   |inr z=>rw[hF]at this;exact this
theorem Tree.pp{β:Type}{t:Tree β}{W:β->Prop}(h:t.w W):t.p/\W t.m:=⟨t.mono (λ_ _=>trivial) h,t.post h⟩
section
variable {α β:Type} {W:β->Prop} {c:Bool} {t e:Tree β}
theorem bu{x:β}(h:W x):(Tree.lf x).w W:=h
theorem ek{f:Prop}{x:β}{hf:f}(h:W x):(Tree.nx f x hf).w W:=h
theorem aa(h:c=true->t.w W)(g:c=false->e.w W):(Tree.br c t e).w W:=Zfj.2 ⟨h,g⟩
theorem ax(h:c=true)(g:t.w W):(Tree.cn c t).w W:=c7.2 ⟨h,g⟩
theorem U7(h:c=false)(g:t.w W):(Tree.fl c t).w W:=Zfj.2 ⟨λe=>(by rw[h]at e;cases e),λ_=>g⟩
theorem cr{p:Prop}(h:p)(g:t.w W):(Tree.an p t).w W:=⟨h,g⟩
theorem aq{x:α}{k:α->Tree β}(h:∀y,y=x->(k y).w W):(Tree.lv x k).w W:=h
theorem fg{d:Inhabited β}{n:Nat}{f:Prop}{x:α}{k:α->Tree (α⊕β)}{hf:f}{inv:α->Prop}{μ:α->Nat}(h:inv x)(hn:μ x<n)(g:∀y,inv y->(k y).w (iI (λz=>inv z/\μ z<μ y) W)):(Tree.lp d n f x k hf).w W:=by
 show lM (λy V=>(k y).w V) W n x
 revert x
 induction n with
 |zero=>intro x h hn;omega
 |succ n ih=>
  intro x h hn
  rw[Ml]
  refine(k x).mono (λz hz=>?_) (g x h)
  cases z with
  |inl z=>exact ih hz.1 (by have:=hz.2;omega)
  |inr z=>exact hz
end
theorem wL{β:Type}{x:β}:(Tree.lf x).p:=trivial
theorem wB{β:Type}{c:Bool}{t e:Tree β}(h:t.p)(g:e.p):(Tree.br c t e).p:=by cases c<;>assumption
structure uE(T:ff)(G:List ba)(L:Code->St->(Ex->St->Prop)->Prop)(fn:Func)(args:List D)(rows:List Row)(ds:List oG)(Q:D->List Row->Prop):Prop where
 h:na T G L fn args rows λd R=>rG rows.length ds d R Q
theorem uE.of{T:ff}{G:List ba}{L:Code->St->(Ex->St->Prop)->Prop}{fn:Func}{args:List D}{rows:List Row}{ds:List oG}{Q:D->List Row->Prop}{p:Prop}(e:(na T G L fn args rows λd R=>rG rows.length ds d R Q)=p)(hl:p):uE T G L fn args rows ds Q:=⟨by rw[e];exact hl⟩
theorem uE.calls{P:Program}(hD:rF P){T:ff}(hT:jt P T){G:List ba}(hG:jO P G){f:FuncId}{fn:Func}(hf:P.funcs[f]?=some fn){args:List D}{rows:List Row}{res:D}{ai:List Row}
 {rf:Option Nat} (mQ:∀code,fn.body=some code->RF rf fn.ntmps code) {L:Code->St->(Ex->St->Prop)->Prop} (hL:∀code st Q,RF rf fn.ntmps code->L code st Q->Tr P fn.ntmps rows.length code st Q) {ds:List oG} (h:uE T G L fn args rows ds λr o=>r=res/\o=ai):jZ P f args rows res ai:=
 xaI hD hT hG hf mQ hL (λd R hQ=>by obtain⟨r,o,⟨rfl,rfl⟩,hE⟩:=Z6n hQ;exact hE) h.h
structure sS(T:ff)(G:List ba)(L:Code->St->(Ex->St->Prop)->Prop)(fn:Func)(args:List D)(rows:List Row)(k:Nat)(ds:List oG)(Q:D->List Row->Prop):Prop where
 h:Jj T G L fn args rows (λd R=>rG k ds d R Q) k
theorem sS.of{T:ff}{G:List ba}{L:Code->St->(Ex->St->Prop)->Prop}{fn:Func}{args:List D}{rows:List Row}{k:Nat}{ds:List oG}{Q:D->List Row->Prop}{p:Prop}(e:(Jj T G L fn args rows (λd R=>rG k ds d R Q) k)=p)(hl:p):sS T G L fn args rows k ds Q:=⟨by rw[e];exact hl⟩
theorem sS.calls{P:Program}(hD:rF P){T:ff}(hT:jt P T){G:List ba}(hG:jO P G){f:FuncId}{fn:Func}{args:List D}{rows:List Row}{k:Nat}{res:D}{ai:List Row}{rf:Option Nat}(hf:uv P f fn (rW (o4 args++kN rows)=true/\rf=none))(mQ:∀code,fn.body=some code->RF rf fn.ntmps code)
 {L:Code->St->(Ex->St->Prop)->Prop} (hL:∀ro,(ro=none\/rf=none)->∀code st Q,RF rf fn.ntmps code->L code st Q->tz ro P fn.ntmps k code st Q) {ds:List oG} (h:sS T G L fn args rows k ds λr o=>r=res/\o=ai):r9 P f k args rows res ai:=
 qaJ hD hT hG hf mQ hL (λd R hQ=>by obtain⟨r,o,⟨rfl,rfl⟩,hE⟩:=Z6n hQ;exact hE) h.h
section
variable {P:Program} {T:ff} {G:List ba} {f:FuncId} {fn:Func} {refs:List Bool} {flat:Bool} {sig:List PT} {dm:List RT} {pre:List D->List Row->Prop} {β:Type} {v:List D->List Row->β} {enc:β->D} {out:β->List Row}
theorem uv.imp{cl cl':Prop}(h:uv P f fn cl)(g:cl->cl'):uv P f fn cl':=by
 cases h with
 |real a b c=>exact .real a b c
 |yield a y d b c e f g1 g2 h i=>exact .yield a y d b c e f g1 g2 h (g i)
 |uw a y q b c e f g1 h i j k=>exact .uw a y q b c e f g1 h i j (g k)
theorem Z6s(rf:Option Nat)(mQ:∀code,fn.body=some code->RF rf fn.ntmps code)(hD:rF P)(hT:jt P T)(hG:jO P G)(hf:P.funcs[f]?=some fn)(t:List D->List Row->Tree β)(ds:List oG)(gn:List (Nat×bw))(dep:Nat)
 (hn:∀args rows Q,(na T G (BD T G fn.ntmps dm.length gn rf dep) fn (lL sig args 0) (kU dm rows 0) λd R=>rG dm.length ds d R Q)=(t args rows).q λX=>Q (enc X) (out X)) (hv:∀args rows,(t args rows).m=v args rows) {args:List D} {rows:List Row} (hp:(t args rows).p):
 jZ P f (lL sig args 0) (kU dm rows 0) (enc (v args rows)) (out (v args rows)):=by
 have e:(kU dm rows 0).length=dm.length:=Ut
 refine uE.calls hD hT hG hf mQ (L:=BD T G fn.ntmps dm.length gn rf dep) (λcode st Q hc hl=>by rw[e];exact uX hD hT hG (.inl rfl) dep _ _ _ hc hl) (ds:=ds) ⟨?_⟩
 rw[e,hn]
 refine Tree.main' hp ?_
 rw[hv]
 exact⟨rfl,rfl⟩
theorem Zi2(rf:Option Nat)(mQ:∀code,fn.body=some code->RF rf fn.ntmps code){k:Nat}(hD:rF P)(hT:jt P T)(hG:jO P G)(hf:uv P f fn ((∀args rows,rW (o4 (lL sig args 0)++kN (kU dm rows 0))=true)/\rf=none))(t:List D->List Row->Tree β)(ds:List oG)(gn:List (Nat×bw))(dep:Nat)
 (hn:∀args rows Q,(Jj T G (BD T G fn.ntmps k gn rf dep) fn (lL sig args 0) (kU dm rows 0) (λd R=>rG k ds d R Q) k)=(t args rows).q λX=>Q (enc X) (out X)) (hv:∀args rows,(t args rows).m=v args rows) {args:List D} {rows:List Row} (hp:(t args rows).p):
 r9 P f k (lL sig args 0) (kU dm rows 0) (enc (v args rows)) (out (v args rows)):=by
 refine sS.calls hD hT hG (hf.imp λh=>⟨h.1 args rows,h.2⟩) mQ (L:=BD T G fn.ntmps k gn rf dep) (λro Dj=>uX hD hT hG Dj dep) (ds:=ds) ⟨?_⟩
 rw[hn]
 refine Tree.main' hp ?_
 rw[hv]
 exact⟨rfl,rfl⟩
theorem xay(rf:Option Nat)(mQ:∀code,fn.body=some code->RF rf fn.ntmps code)(hD:rF P)(hT:jt P T)(hG:jO P G)(hf:P.funcs[f]?=some fn)(he:∀args w,(callFunc f args).run P w=.ok (.enter f args) w)(t:List D->List Row->Tree β)(ds:List oG)(gn:List (Nat×bw))(dep:Nat)
 (hn:∀args rows Q,(na T G (BD T G fn.ntmps dm.length gn rf dep) fn (lL sig args 0) (kU dm rows 0) λd R=>rG dm.length ds d R Q)=(t args rows).q λX=>Q (enc X) (out X)) (hv:∀args rows,(t args rows).m=v args rows)
 (hp:∀args rows,pre args rows->(t args rows).p) (jJ:flat=true->∀X,(uJ (enc X)&&jE (out X))=true) (hy:bJ f YB=true:=by rfl):bj P (mo f refs flat sig dm pre v enc out):=
 L9 he (λargs rows hw=>Z6s rf mQ hD hT hG hf t ds gn dep hn hv (hp _ _ hw)) jJ hy
theorem uK(hD:rF P)(hT:jt P T)(hG:jO P G)(hf:P.funcs[f]?=some fn)(he:∀args w,(callFunc f args).run P w=.ok (.enter f args) w)(t:List D->List Row->Tree β)(ds:List oG)(gn:List (Nat×bw))(dep:Nat)
 (hn:∀args rows Q,(na T G (LL T G fn.ntmps dm.length gn dep) fn (lL sig args 0) (kU dm rows 0) λd R=>rG dm.length ds d R Q)=(t args rows).q λX=>Q (enc X) (out X):=by intro _ _ _;kernel_rfl) (hv:∀args rows,(t args rows).m=v args rows:=by exactλ_ _=>rfl)
 (hp:∀args rows,pre args rows->(t args rows).p:=by exactλ_ _ h=>h) (jJ:flat=true->∀X,(uJ (enc X)&&jE (out X))=true:=by intro _ _;kernel_rfl) (hy:bJ f YB=true:=by rfl):bj P (mo f refs flat sig dm pre v enc out):=
 xay none (λ_ _=>trivial) hD hT hG hf he t ds gn dep hn hv hp jJ hy
theorem qaz(rf:Option Nat)(mQ:∀code,fn.body=some code->RF rf fn.ntmps code)(hD:rF P)(hT:jt P T)(hG:jO P G)(hf:P.funcs[f]?=some fn)(he:∀args w,(callFunc f args).run P w=.ok (.enter f args) w)(t:List D->List Row->Tree β)(ds:List oG)(gn:List (Nat×bw))(dep:Nat)
 (hn:∀args rows Q,(na T G (BD T G fn.ntmps dm.length gn rf dep) fn (lL sig args 0) (kU dm rows 0) λd R=>rG dm.length ds d R Q)=(t args rows).q λX=>Q (enc X) (out X)) (hv:∀args rows,(t args rows).m=v args rows)
 (hp:∀args rows,(t args rows).p) (jJ:flat=true->∀X,(uJ (enc X)&&jE (out X))=true) (hy:bJ f YB=true:=by rfl):bj P (DV f refs flat sig dm v enc out):=
 zaa he (λargs rows=>Z6s rf mQ hD hT hG hf t ds gn dep hn hv (hp _ _)) jJ hy
theorem Q10(hD:rF P)(hT:jt P T)(hG:jO P G)(hf:P.funcs[f]?=some fn)(he:∀args w,(callFunc f args).run P w=.ok (.enter f args) w)(t:List D->List Row->Tree β)(ds:List oG)(gn:List (Nat×bw))(dep:Nat)
 (hn:∀args rows Q,(na T G (LL T G fn.ntmps dm.length gn dep) fn (lL sig args 0) (kU dm rows 0) λd R=>rG dm.length ds d R Q)=(t args rows).q λX=>Q (enc X) (out X):=by intro _ _ _;kernel_rfl) (hv:∀args rows,(t args rows).m=v args rows:=by exactλ_ _=>rfl)
 (hp:∀args rows,(t args rows).p:=by intro _ _;exact Tree.uL (by kernel_rfl)) (jJ:flat=true->∀X,(uJ (enc X)&&jE (out X))=true:=by intro _ _;kernel_rfl) (hy:bJ f YB=true:=by rfl):bj P (DV f refs flat sig dm v enc out):=
 qaz none (λ_ _=>trivial) hD hT hG hf he t ds gn dep hn hv hp jJ hy
theorem vU(rf:Option Nat)(mQ:∀code,fn.body=some code->RF rf fn.ntmps code){k:Nat}(hD:rF P)(hT:jt P T)(hG:jO P G)(hf:uv P f fn ((∀args rows,rW (o4 (lL sig args 0)++kN (kU dm rows 0))=true)/\rf=none))(he:f<YB->∀args w,(callFunc f args).run P w=.ok (.enter f args) w)(t:List D->List Row->Tree β)(ds:List oG)(gn:List (Nat×bw))(dep:Nat)
 (hn:∀args rows Q,(Jj T G (BD T G fn.ntmps k gn rf dep) fn (lL sig args 0) (kU dm rows 0) (λd R=>rG k ds d R Q) k)=(t args rows).q λX=>Q (enc X) (out X)) (hv:∀args rows,(t args rows).m=v args rows)
 (hp:∀args rows,pre args rows->(t args rows).p):bj P (mc k f refs sig dm pre v enc out):=
 qay he (λargs rows hw=>Zi2 rf mQ hD hT hG hf t ds gn dep hn hv (hp _ _ hw))
theorem Fu{k:Nat}(hD:rF P)(hT:jt P T)(hG:jO P G)(hf:P.funcs[f]?=some fn)(he:∀args w,(callFunc f args).run P w=.ok (.enter f args) w)(t:List D->List Row->Tree β)(ds:List oG)(gn:List (Nat×bw))(dep:Nat)
 (hn:∀args rows Q,(Jj T G (LL T G fn.ntmps k gn dep) fn (lL sig args 0) (kU dm rows 0) (λd R=>rG k ds d R Q) k)=(t args rows).q λX=>Q (enc X) (out X)) (hv:∀args rows,(t args rows).m=v args rows)
 (hp:∀args rows,pre args rows->(t args rows).p) (hy:bJ f YB=true:=by rfl) (hb:Nat.ble YB fn.nfree=false:=by rfl):bj P (mc k f refs sig dm pre v enc out):=
 vU none (λ_ _=>trivial) hD hT hG (.real (lE hy) hf hb) (λ_=>he) t ds gn dep hn hv hp
theorem xA(h:bj P (mo f refs flat sig dm pre v enc out)){args:List D}{rows:List Row}(hs:(AZ sig args&&Ba dm rows)=true)(hw:pre args rows):jZ P f args rows (enc (v args rows)) (out (v args rows)):=
 (h.lr rfl args rows (pre args rows) β (v args rows) enc out (by simp only[mo,hs]) hw).1
end
def Tree.pD{β:Type}:Tree β->Bool
 |.lf _=>true
 |.br _ t e=>t.pD&&e.pD
 |.lv x k=>(k x).pD
 |_=>false
theorem Tree.uL{β:Type}{t:Tree β}(h:t.pD=true):t.p:=by
 induction t with
 |lf x=>trivial
 |br c t e JD JE=>
  simp only[Tree.pD,aE]at h
  cases c with
  |true=>exact JD h.1
  |false=>exact JE h.2
 |lv x k ih=>intro y hy;subst hy;exact ih _ h
 |_=>simp[Tree.pD]at h
theorem jO.nil{P:Program}:jO P []:=λx hx=>by cases hx
theorem jO.cons{P:Program}{x:ba}{G:List ba}(h:bj P x)(g:jO P G):jO P (x::G):=λy hy=>by
 simp only[List.mem_cons]at hy
 rcases hy with rfl|hy
 ·exact h
 ·exact g y hy

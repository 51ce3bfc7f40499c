import Derived.Test.YtoijmgbahaekiaaGreatTopJournalFc
open Nat renaming blt->bK,beq->bV,le_refl->aO
open List renaming map_cons->eJ,getD->aK,getElem?_eq_getElem->cI,range'->bL,all_cons->gM,all_nil->gZ,length_cons->cZ,length_nil->fB,length_set->hH,length_replicate->hJ
open Bool renaming false_eq_true->aN,or_eq_true->aI,and_eq_false_iff->gT,or_eq_false_iff->gU,not_eq_true'->aS,not_eq_false'->gW,not_eq_true->gX,not_eq_false->gY
open Sum renaming elim->hU
set_option linter.all false
namespace Go.GD
open Go
open Go.IntKind(i64 u32 u64 wrap_i64 wrap_u32 wrap_u64 wrap_u8 wrap_i32)
def lk(st:St)(t:Nat):D:=look st.env t
def rN(st:St)(t:Nat):Nat:=Q0y (look st.env t) 1000000
def cT(st:St)(t j:Nat):D:=cellOf st.rows (Q0y (look st.env t) 1000000) j
def rX(st:St)(t k:Nat):Nat:=Q0y (look st.env t) (st.rows.length+k)
theorem Qm0{α:Type}{l:List α}(h:l≠[]):0<l.length:=by cases l<;>simp_all
theorem Q9p{a b:Nat}:bK a b=true↔a<b:=by simp[bK,Nat.lt_iff_add_one_le]
theorem Q70{a b:Nat}:bK a b=false↔ ¬a<b:=by have:= @Q9p a b;cases h:bK a b<;>simp_all
theorem Q9t{a b:Nat}:bV a b=true↔a=b:=iff_of_eq Nat.beq_eq
theorem Q6y{a b:Nat}:bV a b=false↔ ¬a=b:=by have:= @Q9t a b;cases h:bV a b<;>simp_all
def Sub1(d e:D):Prop:=∀c w v,CRep c w d v->CRep c w e v
def SubL:List D->List D->Prop
 |[],[]=>True
 |d::l,e::m=>Sub1 d e/\SubL l m
 |_,_=>False
def SubV:D->D->Prop
 |.agg cs,.agg ds=>SubL cs ds
 |.agg _,_=>False
 |d,e=>Sub1 d e
def Qu7:List D->List D->Prop
 |[],[]=>True
 |d::l,e::m=>SubV d e/\Qu7 l m
 |_,_=>False
theorem Sub1.rfl{d:D}:Sub1 d d:=λ_ _ _ h=>h
theorem Sub1.ints{k:IntKind}{s:Nat}{E:Els}{fr:Bool}{l:List Int}(h:E.toI k=some l):Sub1 (.sl s E fr) (.sl 1 (.ints k l) false):=by
 intro c w v hv
 have he:=Els.toI_l h
 obtain⟨a,cap,hv,hc,hes⟩:=hv
 rw[he]at hv hc hes
 refine⟨a,cap,hv,hc,?_⟩
 rcases hes with hes|⟨b,off,arr,ty,fz,ha,hI,hf,hh,hE⟩
 ·exact .inl hes
 ·cases l with
  |nil=>exact .inl (by simp[Els.l])
  |cons n l=>
   have h1:s=1:=by
    simp only[Els.l,eJ,Q25,Q1u]at hE
    exact hE.1.symm
   subst h1
   exact .inr ⟨b,off,arr,ty,fz,ha,hI,(λe=>by cases e),hh,hE⟩
theorem Sub1.bools{s:Nat}{E:Els}{fr:Bool}{l:List Bool}(h:E.toB=some l):Sub1 (.sl s E fr) (.sl 1 (.bools l) false):=by
 intro c w v hv
 have he:=Els.toB_l h
 obtain⟨a,cap,hv,hc,hes⟩:=hv
 rw[he]at hv hc hes
 refine⟨a,cap,hv,hc,?_⟩
 rcases hes with hes|⟨b,off,arr,ty,fz,ha,hI,hf,hh,hE⟩
 ·exact .inl hes
 ·cases l with
  |nil=>exact .inl (by simp[Els.l])
  |cons n l=>
   have h1:s=1:=by
    simp only[Els.l,eJ,Q25,Q1u]at hE
    exact hE.1.symm
   subst h1
   exact .inr ⟨b,off,arr,ty,fz,ha,hI,(λe=>by cases e),hh,hE⟩
theorem SubL.rep{c:Ctx}{w:World}:∀{ds es:List D} {vs:List Value},SubL ds es->Q2y c w ds vs->Q2y c w es vs
 |[],[],[],_,_=>trivial
 |d::l,e::m,v::vs,h,hr=>⟨h.1 _ _ _ hr.1,SubL.rep h.2 hr.2⟩
 |[],_::_,_,h,_=>h.elim
 |_::_,[],_,h,_=>h.elim
 |[],[],_::_,_,hr=>hr.elim
 |_::_,_::_,[],_,hr=>hr.elim
theorem SubV.rep{c:Ctx}{w:World}{d e:D}{v:Value}(h:SubV d e)(hr:VRep c w d v):VRep c w e v:=by
 cases d with
 |agg cs=>
  cases e with
  |agg ds=>obtain⟨vs,hv,hx⟩:=hr;exact⟨vs,hv,SubL.rep h hx⟩
  |_=>exact h.elim
 |_=>
  have h1:=VRep.toC (λcs e=>by cases e) hr
  have h2:Sub1 _ e:=h
  exact VRep.ofC (h2 _ _ _ h1)
theorem Qu7.rep{c:Ctx}{w:World}:∀{ds es:List D} {vs:List Value},Qu7 ds es->Q5p c w ds vs->Q5p c w es vs
 |[],[],[],_,_=>trivial
 |d::l,e::m,v::vs,h,hr=>⟨SubV.rep h.1 hr.1,Qu7.rep h.2 hr.2⟩
 |[],_::_,_,h,_=>h.elim
 |_::_,[],_,h,_=>h.elim
 |[],[],_::_,_,hr=>hr.elim
 |_::_,_::_,[],_,hr=>hr.elim
theorem Q2f.sub{P:Program}{f:FuncId}{args args':List D}{rows:List Row}{res:D}{rows':List Row}(hs:Qu7 args args')(h:Q2f P f args' rows res rows'):Q2f P f args rows res rows':=
 λc w vs hm hb hR ha=>h c w vs hm hb hR (Qu7.rep hs ha)
theorem Sub1.recs{k:RK}{s:Nat}{E:Els}{fr:Bool}{l:List (RK.T k)}(h:E.toR k=some l):Sub1 (.sl s E fr) (.sl k.size (.recs k l) false):=by
 intro c w v hv
 have he:=Els.toR_l h
 obtain⟨a,cap,hv,hc,hes⟩:=hv
 rw[he]at hv hc hes
 refine⟨a,cap,hv,hc,?_⟩
 rcases hes with hes|⟨b,off,arr,ty,fz,ha,hI,hf,hh,hE⟩
 ·exact .inl hes
 ·cases l with
  |nil=>exact .inl (by simp[Els.l])
  |cons x l=>
   have h1:s=k.size:=by
    simp only[Els.l,eJ,Q1u]at hE
    rw[<-hE.1];exact RK.cells_length k x
   subst h1
   exact .inr ⟨b,off,arr,ty,fz,ha,hI,(λe=>by cases e),hh,hE⟩
theorem Sub1.nils0{s:Nat}{E:Els}(h:E.l=[]):Sub1 .nils (.sl s E false):=by
 intro c w v hv
 exact⟨none,0,by rw[h];exact hv,by rw[h];exact aO _,.inl h⟩
theorem Sub1.emp0{s:Nat}{E:Els}(h:E.l=[]):Sub1 .emp (.sl s E false):=by
 intro c w v hv
 obtain⟨a,hv,_⟩:=hv
 exact⟨a,0,by rw[h];exact hv,by rw[h];exact aO _,.inl h⟩
def ptrB:List (Nat×Nat×Nat)->List (Nat×Nat×Nat)->Bool
 |[],[]=>true
 |(a,b,c)::l,(x,y,z)::m=>bV a x&&(bV b y&&(bV c z&&ptrB l m))
 |_,_=>false
def capB:List Cap->List Cap->Bool
 |[],[]=>true
 |.ptr a b c::l,.ptr x y z::m=>bV a x&&(bV b y&&(bV c z&&capB l m))
 |.fn f ps::l,.fn g qs::m=>bV f g&&(ptrB ps qs&&capB l m)
 |_,_=>false
theorem zq:∀{l m:List (Nat×Nat×Nat)},ptrB l m=true->l=m
 |[],[],_=>rfl
 |(a,b,c)::l,(x,y,z)::m,h=>by
  simp only[ptrB,aE]at h
  rw[bE h.1,bE h.2.1,bE h.2.2.1,zq h.2.2.2]
 |[],_::_,h=>by simp[ptrB]at h
 |_::_,[],h=>by simp[ptrB]at h
theorem yq:∀{l m:List Cap},capB l m=true->l=m:=by
 intro l
 induction l with
 |nil=>intro m h;cases m with
  |nil=>rfl
  |cons _ _=>simp[capB]at h
 |cons a l ih=>
  intro m h
  cases m with
  |nil=>cases a<;>simp[capB]at h
  |cons b m=>
   cases a<;>cases b<;>simp only[capB,aE,aN]at h
   ·rw[bE h.1,bE h.2.1,bE h.2.2.1,ih h.2.2.2]
   ·rw[bE h.1,zq h.2.1,ih h.2.2]
def Qgc:CT->D->Bool
 |.int k,.int j _=>decide (j=k)
 |.bool,.bool _=>true
 |.str,.str _=>true
 |.ints k,.sl _ E _=>(match E.toI k with|some _=>true|none=>false)
 |.bools,.sl _ E _=>(match E.toB with|some _=>true|none=>false)
 |.recs k,.sl _ E _=>(match E.toR k with|some _=>true|none=>false)
 |.ints _,.nils=>true
 |.bools,.nils=>true
 |.recs _,.nils=>true
 |.ints _,.emp=>true
 |.bools,.emp=>true
 |.recs _,.emp=>true
 |.row i,.all r=>bV r i
 |.nil,.sl s (.gen []) false=>bV s 0
 |.nil0,.nils=>true
 |.self _,.nilp=>true
 |.clo f cs,.clo g ds=>bV g f&&capB ds cs
 |.self i,.selfp r=>bV r i
 |.self i,.ptr r o f=>bV r i&&(bV o 0&&bV f 0)
 |.pt i a b,.ptr r o f=>bV r i&&(bV o a&&bV f b)
 |_,_=>false
inductive PT where
 |one (t:CT)
 |agg (ts:List CT)
 |ptr (i:Nat)
 |clo (f:Nat) (cs:List Cap)
inductive RT where
 |box (ty sz:Nat) (ts:List CT)
 |arr (ty sz:Nat) (t:CT)
def Qve:List CT->List D->Bool
 |[],[]=>true
 |t::ts,d::ds=>Qgc t d&&Qve ts ds
 |_,_=>false
def shapeV:PT->D->Bool
 |.agg ts,.agg cs=>Qve ts cs
 |.one t,d=>Qgc t d
 |.ptr i,.ptr r j o=>bV r i&&(bV j 0&&bV o 0)
 |.clo f cs,.clo g ds=>bV g f&&capB ds cs
 |_,_=>false
def convV:PT->D->D
 |.agg ts,d=>.agg (Qn5 ts d.cells 0)
 |.one t,d=>Qlo t d
 |.ptr i,_=>.ptr i 0 0
 |.clo f cs,_=>.clo f cs
def Qje:List PT->List D->Bool
 |[],[]=>true
 |s::l,d::ds=>shapeV s d&&Qje l ds
 |_,_=>false
def Qc8:List PT->List D->Nat->List D
 |[],_,_=>[]
 |s::l,args,i=>convV s (args.getD i .dead)::Qc8 l args (i+1)
def Row.cs(r:Row):List D:=match r.es with|.gen [e]=>e|_=>[]
def shapeR:RT->Row->Bool
 |.box ty sz ts,⟨true,ty',sz',.gen [e]⟩=>bV ty' ty&&(bV sz' sz&&Qve ts e)
 |.arr ty sz t,⟨false,ty',sz',E⟩=>bV ty' ty&&(bV sz' sz&&(match toCT t E with|some _=>true|none=>false))
 |_,_=>false
def elsT(t:CT)(E:Els):Els:=match t with
 |.ints k=>.ints k (match E.toI k with|some l=>l|none=>[])
 |.bools=>.bools (match E.toB with|some l=>l|none=>[])
 |.recs k=>.recs k (match E.toR k with|some l=>l|none=>[])
 |_=>.gen []
theorem vX{t:CT}{E E':Els}(h:toCT t E=some E'):elsT t E=E':=by
 cases t with
 |ints k=>
  simp only[toCT]at h
  split at h
  ·rename_i l hl
   cases h
   show Els.ints k (match E.toI k with|some l=>l|none=>[])=_
   rw[hl]
  ·cases h
 |bools=>
  simp only[toCT]at h
  split at h
  ·rename_i l hl
   cases h
   show Els.bools (match E.toB with|some l=>l|none=>[])=_
   rw[hl]
  ·cases h
 |recs k=>
  simp only[toCT]at h
  split at h
  ·rename_i l hl
   cases h
   show Els.recs k (match E.toR k with|some l=>l|none=>[])=_
   rw[hl]
  ·cases h
 |_=>simp[toCT]at h
def convR:RT->Row->Row
 |.box ty sz ts,r=>⟨true,ty,sz,.gen [Qn5 ts r.cs 0]⟩
 |.arr ty sz t,r=>⟨false,ty,sz,elsT t r.es⟩
def Qdm:List RT->List Row->Bool
 |[],[]=>true
 |s::l,r::rs=>shapeR s r&&Qdm l rs
 |_,_=>false
def Q4d:List RT->List Row->Nat->List Row
 |[],_,_=>[]
 |s::l,rows,i=>convR s (rows.getD i default)::Q4d l rows (i+1)
def argI(args:List D)(i:Nat):Int:=(args.getD i .dead).toInt
def argB(args:List D)(i:Nat):Bool:=(args.getD i .dead).toBool
def argS(args:List D)(i:Nat):List UInt8:=(args.getD i .dead).toStr
def argL(k:IntKind)(args:List D)(i:Nat):List Int:=slI k (args.getD i .dead)
def argR(k:RK)(args:List D)(i:Nat):List (RK.T k):=slR k (args.getD i .dead)
def rowL(k:IntKind)(rows:List Row)(i:Nat):List Int:=match(rows.getD i default).es.toI k with|some l=>l|none=>[]
def rowR(k:RK)(rows:List Row)(i:Nat):List (RK.T k):=match(rows.getD i default).es.toR k with|some l=>l|none=>[]
theorem Qz0{t:CT}{d:D}(h:Qgc t d=true):Sub1 d (Qlo t d):=by
 cases t<;>cases d<;>(try(simp[Qgc]at h;done))
 case int.int=>simp[Qgc]at h;subst h;exact Sub1.rfl
 case nil.sl s E fr=>
  unfold Qgc at h
  split at h<;>simp_all
  exact Sub1.rfl
 case nil0.nils=>exact Sub1.rfl
 case bool.bool=>exact Sub1.rfl
 case str.str=>exact Sub1.rfl
 case ints.sl k sz E fr=>
  simp only[Qgc]at h
  split at h
  ·rename_i l hl
   simp only[Qlo,slI,hl]
   exact Sub1.ints hl
  ·cases h
 case ints.nils=>exact Sub1.nils0 rfl
 case ints.emp=>exact Sub1.emp0 rfl
 case bools.sl sz E fr=>
  simp only[Qgc]at h
  split at h
  ·rename_i l hl
   simp only[Qlo,slB,hl]
   exact Sub1.bools hl
  ·cases h
 case bools.nils=>exact Sub1.nils0 rfl
 case bools.emp=>exact Sub1.emp0 rfl
 case recs.sl k sz E fr=>
  simp only[Qgc]at h
  split at h
  ·rename_i l hl
   simp only[Qlo,slR,hl]
   exact Sub1.recs hl
  ·cases h
 case recs.nils=>exact Sub1.nils0 rfl
 case recs.emp=>exact Sub1.emp0 rfl
 case row.all i r=>rw[bE h];exact Sub1.rfl
 case clo.clo f cs g ds=>
  simp only[Qgc,aE]at h
  rw[bE h.1,yq h.2]
  exact Sub1.rfl
 case self.nilp i=>exactλc w v hv=>.inl hv
 case self.selfp i r=>rw[bE h];exact Sub1.rfl
 case self.ptr i r o f=>
  simp only[Qgc,aE]at h
  rw[bE h.1,bE h.2.1,bE h.2.2]
  exactλc w v hv=>.inr hv
 case pt.ptr i a b r o f=>
  simp only[Qgc,aE]at h
  rw[bE h.1,bE h.2.1,bE h.2.2]
  exact Sub1.rfl
theorem Qqz:∀{ts:List CT} {pre ds:List D},Qve ts ds=true->SubL ds (Qn5 ts (pre++ds) pre.length)
 |[],pre,[],_=>trivial
 |t::ts,pre,d::ds,h=>by
  simp only[Qve,aE]at h
  have h2:=Qqz (pre:=pre++[d]) h.2
  simp only[Qn5]
  refine⟨?_,by simpa using h2⟩
  have:(pre++d::ds).getD pre.length .dead=d:=by simp[aK]
  rw[this];exact Qz0 h.1
 |[],_,_::_,h=>by simp[Qve]at h
 |_::_,_,[],h=>by simp[Qve]at h
theorem SubV.of1{d e:D}(hd:∀cs,d≠.agg cs)(h:Sub1 d e):SubV d e:=by
 cases d<;>first|exact h|exact absurd rfl (hd _)
theorem Zcb{s:PT}{d:D}(h:shapeV s d=true):SubV d (convV s d):=by
 unfold shapeV at h
 split at h
 ·rename_i ts cs
  exact Qqz (pre:=[]) h
 ·rename_i t d
  refine SubV.of1 (λcs e=>?_) (Qz0 h)
  subst e
  cases t<;>simp[Qgc]at h
 ·rename_i i r j o
  simp only[aE]at h
  rw[bE h.1,bE h.2.1,bE h.2.2]
  exact Sub1.rfl
 ·rename_i f cs g ds
  simp only[aE]at h
  rw[bE h.1,yq h.2]
  exact Sub1.rfl
 ·cases h
theorem Qpb:∀{l:List PT} {pre ds:List D},Qje l ds=true->Qu7 ds (Qc8 l (pre++ds) pre.length)
 |[],pre,[],_=>trivial
 |s::l,pre,d::ds,h=>by
  simp only[Qje,aE]at h
  have h2:=Qpb (pre:=pre++[d]) h.2
  simp only[Qc8]
  refine⟨?_,by simpa using h2⟩
  have:(pre++d::ds).getD pre.length .dead=d:=by simp[aK]
  rw[this];exact Zcb h.1
 |[],_,_::_,h=>by simp[Qje]at h
 |_::_,_,[],h=>by simp[Qje]at h
def SubR(a b:Row):Prop:=b.box=a.box/\b.ty=a.ty/\b.sz=a.sz/\b.es.l.length=a.es.l.length/\match a.box with
 |true=>∃e e',a.es=.gen [e]/\b.es=.gen [e']/\e'.length=e.length/\SubL e e'
 |false=>b.es.l=a.es.l
theorem SubL.length:∀{ds es:List D},SubL ds es->ds.length=es.length
 |[],[],_=>rfl
 |_::_,_::_,h=>by simp[SubL.length h.2]
 |[],_::_,h=>h.elim
 |_::_,[],h=>h.elim
theorem Zaw{s:RT}{r:Row}(h:shapeR s r=true):SubR r (convR s r):=by
 unfold shapeR at h
 split at h
 ·rename_i ty sz ts ty' sz' e
  simp only[aE]at h
  have h3:=Qqz (pre:=[]) h.2.2
  have hl:=h3.length
  exact⟨rfl,(bE h.1).symm,(bE h.2.1).symm,rfl,_,_,rfl,rfl,hl.symm,h3⟩
 ·rename_i ty sz t ty' sz' E
  simp only[aE]at h
  obtain⟨h1,h2,h3⟩:=h
  split at h3
  ·rename_i E' hE
   have he:=Els.Eq_l (Qvk hE)
   have hc:convR (.arr ty sz t) ⟨false,ty',sz',E⟩=⟨false,ty,sz,E'⟩:=by simp[convR,vX hE]
   rw[hc]
   exact⟨rfl,(bE h1).symm,(bE h2).symm,by simp only[he],he.symm⟩
  ·cases h3
 ·cases h
theorem Qm3:∀{l:List RT} {pre rs:List Row},Qdm l rs=true->rs.length=l.length/\∀(i:Nat) r,rs[i]?=some r->∃r',(Q4d l (pre++rs) pre.length)[i]?=some r'/\SubR r r'
 |[],pre,[],_=>⟨rfl,λi r h=>by simp at h⟩
 |s ::l,pre,r::rs,h=>by
  simp only[Qdm,aE]at h
  obtain⟨h1,h2⟩:=Qm3 (pre:=pre++[r]) h.2
  refine⟨by simp[h1],λi q hq=>?_⟩
  cases i with
  |zero=>
   simp at hq;subst hq
   have:(pre++r::rs).getD pre.length default=r:=by simp[aK]
   exact⟨_,by simp only[Q4d,this];rfl,Zaw h.1⟩
  |succ i=>
   obtain⟨q',g1,g2⟩:=h2 i q (by simpa using hq)
   refine⟨q',?_,g2⟩
   simp only[Q4d,List.getElem?_cons_succ]
   simpa using g1
 |[],_,_::_,h=>by simp[Qdm]at h
 |_::_,_,[],h=>by simp[Qdm]at h
theorem Qdc:∀{l:List RT} {rows:List Row} {i:Nat},(Q4d l rows i).length=l.length
 |[],_,_=>rfl
 |s::l,rows,i=>by simp[Q4d,Qdc]
theorem vq{d:D}:d.ren1 (λr=>r) true=d:=by
 cases d with
 |clo f cs=>simp only[D.ren1,Qws]
 |_=>simp[D.ren1]
theorem Z2y:∀{ds:List D},D.rens (λr=>r) true ds=ds
 |[]=>rfl
 |d::l=>by simp[D.rens,vq,Z2y (ds:=l)]
theorem zae{d:D}:d.ren (λr=>r) true=d:=by
 cases d with
 |agg cs=>show D.agg (D.rens _ true cs)=_;rw[Z2y]
 |clo f cs=>exact vq (d:=.clo f cs)
 |_=>simp[D.ren,D.ren1]
theorem SubL.cells{c:Ctx}{w:World}:∀{ds es:List D} {arr:Array Value} {off:Nat},SubL ds es->Q32 c w ds arr off->Q32 c w es arr off
 |[],[],_,_,_,_=>trivial
 |d::l,e::m,_,_,h,⟨⟨v,hv,h1⟩,h2⟩=>⟨⟨v,hv,h.1 _ _ _ h1⟩,SubL.cells h.2 h2⟩
 |[],_::_,_,_,h,_=>h.elim
 |_::_,[],_,_,h,_=>h.elim
theorem Z1w{c1 c2:Ctx}{w:World}(hn:Qyt (λ_=>True) (λr=>r) true c1 c2)(hI:∀b,c1.I b->c2.I b):∀{ds:List D} {vs:List Value},Q5p c1 w ds vs->Q5p c2 w ds vs
 |[],[],_=>trivial
 |d::ds,v::vs,h=>⟨by have:=Qv1 hn (flat:=False) (.inl hI) (λ_ _=>trivial) (λe=>e.elim) h.1;rwa [zae]at this,Z1w hn hI h.2⟩
 |[],_::_,h=>h.elim
 |_::_,[],h=>h.elim
theorem Q2f.subR{P:Program}{f:FuncId}{args args':List D}{rows rows2:List Row}{res:D}{rows':List Row}(hs:Qu7 args args')(hl:rows2.length=rows.length)(hr:∀(i:Nat) r,rows[i]?=some r->∃r',rows2[i]?=some r'/\SubR r r')(h:Q2f P f args' rows2 res rows'):Q2f P f args rows res rows':=by
 intro c w vs hm hb hR ha
 let c2:Ctx:={c with R:=λr=>rows2[r]? }
 have at1:∀r row,c.R r=some row->∃row',c2.R r=some row'/\SubR row row':=λr row hrow=>by
  rw[hR]at hrow;exact hr r row hrow
 have at2:∀r row',c2.R r=some row'->∃row,c.R r=some row/\SubR row row':=λr row' hrow=>by
  have hrow:rows2[r]?=some row':=hrow
  have hlt:=(List.getElem?_eq_some_iff.1 hrow).1
  have h1:rows[r]?=some rows[r]:=cI (by omega)
  obtain⟨row2,g1,g2⟩:=hr r _ h1
  rw[hrow]at g1;cases g1
  exact⟨_,by rw[hR];exact h1,g2⟩
 have hn:Qyt (λ_=>True) (λr=>r) true c c2:=⟨λi row _ hrow=>by
  obtain⟨row',g1,g2,g3,g4,g5,_⟩:=at1 i row hrow
  exact⟨row',g1,g2,g3,g4,g5,rfl,Iff.rfl⟩,λ_=>aO _,aO _⟩
 have hm2:Mem c2 w:=by
  refine⟨λr row' hrow=>?_,λr s x y h1 h2 v1 v2 he=>?_,λb hbI=>⟨(hm.imm b hbI).1,λr x h1 v=>?_⟩,hm.top,hm.tab⟩
  ·obtain⟨row,g1,g2,g3,g4,g5,g6⟩:=at2 r row' hrow
   rcases hm.row r row g1 with⟨k1,k2,k3,k4⟩|⟨k1,arr,k2,k3,k4⟩
   ·refine .inl ⟨k1,g2.trans k2,?_,by rw[g4];exact k4⟩
    rw[k2]at g6;simp only at g6;rw[g6,k3]
   ·refine .inr ⟨k1,arr,by rw[g3];exact k2,by rw[g4];exact k3,?_⟩
    rw[g2,g4]
    cases hbx:row.box with
    |false=>
     simp only[hbx,aN,if_false]at k4 g6⊢
     rw[g6];exact k4
    |true=>
     simp only[hbx,if_true]at k4 g6⊢
     obtain⟨e,e',q1,q2,q3,q4⟩:=g6
     obtain⟨e0,p1,p2,p3,p4⟩:=k4
     rw[q1]at p1;cases p1
     refine⟨e',q2,by rw[q3];exact p2,p3,?_⟩
     have:=Qmu hn (flat:=False) (.inl λb hb=>hb) (λ_ _=>trivial) (λe=>e.elim) (SubL.cells q4 p4)
     rwa [Z2y]at this
  ·obtain⟨x',g1,_⟩:=at2 r x h1
   obtain⟨y',g2,_⟩:=at2 s y h2
   exact hm.inj r s x' y' g1 g2 v1 v2 he
  ·obtain⟨x',g1,_⟩:=at2 r x h1
   exact(hm.imm b hbI).2 r x' g1 v
 refine(h c2 w vs hm2 hb (λr=>rfl) (Z1w hn (λb h=>h) (Qu7.rep hs ha))).mono λe w' hq=>?_
 obtain⟨v,c',he,hx,hR',hv⟩:=hq
 refine⟨v,c',he,⟨hx.mem,⟨hx.grows.base,hx.grows.top,hx.grows.I,λr row hrow=>?_⟩,hx.fr.mono λb _ ⟨r,x,h1,h2,h3⟩=>?_,hx.imm,λr row' h1 h2=>?_⟩,hR',hv⟩
 ·obtain⟨row2,g1,g2,g3,g4,g5,g6⟩:=at1 r row hrow
  obtain⟨row',k1,k2,k3,k4,k5,k6,k7,k8⟩:=hx.grows.R r row2 g1
  exact⟨row',k1,k2.trans g2,k3.trans g3,k4.trans g4,k5.trans g5,k6,k7,λnv arr ha=>by rw[<-g3]at ha⊢;exact k8 nv arr ha⟩
 ·obtain⟨x',g1,_⟩:=at2 r x h1
  exact⟨r,x',g1,h2,h3⟩
 ·rcases hx.rho r row' h1 h2 with⟨⟨x,hx1⟩,h3,h4⟩|h3
  ·obtain⟨x',g1,_⟩:=at2 r x hx1
   exact .inl ⟨⟨x',g1⟩,h3,h4⟩
  ·exact .inr h3
theorem Q9l.subR{P:Program}{f:FuncId}{k:Nat}{args args':List D}{rows rows2:List Row}{res:D}{rows':List Row}(hs:Qu7 args args')(hl:rows2.length=rows.length)(hr:∀(i:Nat) r,rows[i]?=some r->∃r',rows2[i]?=some r'/\SubR r r')(h:Q9l P f k args' rows2 res rows'):Q9l P f k args rows res rows':=by
 intro c w vs hm hb hR ha
 let c2:Ctx:={c with R:=λr=>rows2[r]? }
 have at1:∀r row,c.R r=some row->∃row',c2.R r=some row'/\SubR row row':=λr row hrow=>by
  rw[hR]at hrow;exact hr r row hrow
 have at2:∀r row',c2.R r=some row'->∃row,c.R r=some row/\SubR row row':=λr row' hrow=>by
  have hrow:rows2[r]?=some row':=hrow
  have hlt:=(List.getElem?_eq_some_iff.1 hrow).1
  have h1:rows[r]?=some rows[r]:=cI (by omega)
  obtain⟨row2,g1,g2⟩:=hr r _ h1
  rw[hrow]at g1;cases g1
  exact⟨_,by rw[hR];exact h1,g2⟩
 have hn:Qyt (λ_=>True) (λr=>r) true c c2:=⟨λi row _ hrow=>by
  obtain⟨row',g1,g2,g3,g4,g5,_⟩:=at1 i row hrow
  exact⟨row',g1,g2,g3,g4,g5,rfl,Iff.rfl⟩,λ_=>aO _,aO _⟩
 have hm2:Mem c2 w:=by
  refine⟨λr row' hrow=>?_,λr s x y h1 h2 v1 v2 he=>?_,λb hbI=>⟨(hm.imm b hbI).1,λr x h1 v=>?_⟩,hm.top,hm.tab⟩
  ·obtain⟨row,g1,g2,g3,g4,g5,g6⟩:=at2 r row' hrow
   rcases hm.row r row g1 with⟨k1,k2,k3,k4⟩|⟨k1,arr,k2,k3,k4⟩
   ·refine .inl ⟨k1,g2.trans k2,?_,by rw[g4];exact k4⟩
    rw[k2]at g6;simp only at g6;rw[g6,k3]
   ·refine .inr ⟨k1,arr,by rw[g3];exact k2,by rw[g4];exact k3,?_⟩
    rw[g2,g4]
    cases hbx:row.box with
    |false=>
     simp only[hbx,aN,if_false]at k4 g6⊢
     rw[g6];exact k4
    |true=>
     simp only[hbx,if_true]at k4 g6⊢
     obtain⟨e,e',q1,q2,q3,q4⟩:=g6
     obtain⟨e0,p1,p2,p3,p4⟩:=k4
     rw[q1]at p1;cases p1
     refine⟨e',q2,by rw[q3];exact p2,p3,?_⟩
     have:=Qmu hn (flat:=False) (.inl λb hb=>hb) (λ_ _=>trivial) (λe=>e.elim) (SubL.cells q4 p4)
     rwa [Z2y]at this
  ·obtain⟨x',g1,_⟩:=at2 r x h1
   obtain⟨y',g2,_⟩:=at2 s y h2
   exact hm.inj r s x' y' g1 g2 v1 v2 he
  ·obtain⟨x',g1,_⟩:=at2 r x h1
   exact(hm.imm b hbI).2 r x' g1 v
 refine(h c2 w vs hm2 hb (λr=>rfl) (Z1w hn (λb h=>h) (Qu7.rep hs ha))).mono (λb hb=>hb) λe w' hq=>?_
 obtain⟨v,c',he,hx,hR',hv⟩:=hq
 rw[hl]at hx
 refine⟨v,c',he,⟨hx.mem,⟨hx.grows.base,hx.grows.top,hx.grows.I,λr row hrow=>?_⟩,hx.fr.mono λb _ ⟨r,x,h1,h2,h3⟩=>?_,λb hb=>?_,λr row' h1 h2=>?_⟩,hR',hv⟩
 ·obtain⟨q,row0,hrow0,rfl⟩:=Q2b hrow
  obtain⟨row2,g1,g2,g3,g4,g5,g6⟩:=at1 r row0 hrow0
  obtain⟨row',k1,k2,k3,k4,k5,k6,k7,k8⟩:=hx.grows.R r (row2.kill _) (by simp only[Ctx.kill];rw[if_neg (by rw[q];simp),g1];rfl)
  obtain⟨s1,s2,s3,s4⟩:=Q3f (bL k (rows.length-k)) row0
  obtain⟨t1,t2,t3,t4⟩:=Q3f (bL k (rows.length-k)) row2
  refine⟨row',k1,k2.trans (t1.trans (g2.trans s1.symm)),k3.trans (t2.trans (g3.trans s2.symm)),k4.trans (t3.trans (g4.trans s3.symm)),k5.trans (t4.trans (g5.trans s4.symm)),k6,k7,λnv arr ha=>?_⟩
  rw[s2]at ha⊢
  have:=k8 nv arr (by rw[t2,g3];exact ha)
  rw[t2,g3]at this
  exact this
 ·obtain⟨x',g1,_⟩:=at2 r x h1
  exact⟨r,x',g1,h2,h3⟩
 ·rcases hx.imm b hb with h|⟨s,x,h1,h2,h3,h4⟩|h
  ·exact .inl h
  ·obtain⟨x',g1,_⟩:=at2 s x h2
   exact .inr (.inl ⟨s,x',h1,g1,h3,h4⟩)
  ·exact .inr (.inr h)
 ·rcases hx.rho r row' h1 h2 with⟨⟨x,hx1⟩,h3,h4⟩|⟨s,x,q1,q2,q3,q4⟩|h3
  ·obtain⟨x',g1,_⟩:=at2 r x hx1
   exact .inl ⟨⟨x',g1⟩,h3,h4⟩
  ·obtain⟨x',g1,_⟩:=at2 s x q2
   exact .inr (.inl ⟨s,x',q1,g1,q3,q4⟩)
  ·exact .inr (.inr h3)
def mkR(f:FuncId)(refs:List Bool)(flat:Bool)(sig:List PT)(rsig:List RT){α:Type}(v:List D->List Row->α)(enc:α->D)(out:α->List Row):Q09:=
 ⟨f,refs,flat,λargs rows=>match Qje sig args&&Qdm rsig rows with|true=>.abs α (v args rows) enc out|false=>.no,none,false⟩
def mkP(f:FuncId)(refs:List Bool)(flat:Bool)(sig:List PT)(rsig:List RT)(pre:List D->List Row->Prop){α:Type}(v:List D->List Row->α)(enc:α->D)(out:α->List Row):Q09:=
 ⟨f,refs,flat,λargs rows=>match Qje sig args&&Qdm rsig rows with|true=>.absW (pre args rows) α (v args rows) enc out|false=>.no,none,false⟩
def Q09.fz(x:Q09):Q09:={x with frz:=true}
theorem fz_ok{P:Program}{x:Q09}(h:Q05 P x):Q05 P x.fz:=⟨h.enters,h.real,h.ok,h.when,h.abs,h.absW,h.kabs,h.kabsW⟩
def mkKP(k:Nat)(f:FuncId)(refs:List Bool)(sig:List PT)(rsig:List RT)(pre:List D->List Row->Prop){α:Type}(v:List D->List Row->α)(enc:α->D)(out:α->List Row):Q09:=
 ⟨f,refs,false,λargs rows=>match Qje sig args&&Qdm rsig rows with|true=>.absW (pre args rows) α (v args rows) enc out|false=>.no,some k,false⟩
def Els.scalB:Els->Bool
 |.gen _=>false
 |.recs k _=>k.scal
 |_=>true
theorem Els.scalB_ok{E:Els}(h:E.scalB=true):E.Scal:=by
 cases E with
 |gen es=>simp[Els.scalB]at h
 |recs k l=>exact h
 |_=>trivial
def ffB1:D->Bool|.sl _ E fr=>fr&&E.scalB|.iptr _ _ _ _=>false|.clo _ _=>false|_=>true
def ffBs:List D->Bool|[]=>true|d::l=>ffB1 d&&ffBs l
def ffB2:D->Bool|.agg cs=>ffBs cs|d=>ffB1 d
def ffBT:List D->Bool|[]=>true|d::l=>ffB2 d&&ffBT l
def ffB:D->Bool|.tup ds=>ffBT ds|d=>ffB2 d
def ffBR:List Row->Bool
 |[]=>true
 |⟨true,_,_,.gen [e]⟩::l=>ffBs e&&ffBR l
 |⟨false,_,_,E⟩::l=>E.scalB&&ffBR l
 |_=>false
theorem Quz{d:D}(h:ffB1 d=true):FF1 d:=by
 cases d<;>first|trivial|(simp[ffB1]at h;done)|skip
 case sl sz E fr=>simp only[ffB1,aE]at h;exact⟨.inr h.1,Els.scalB_ok h.2⟩
theorem Z38:∀{ds:List D},ffBs ds=true->FFs ds
 |[],_=>trivial
 |d::l,h=>by simp only[ffBs,aE]at h;exact⟨Quz h.1,Z38 h.2⟩
theorem qY{d:D}(h:ffB2 d=true):FF2 d:=by
 cases d with
 |agg cs=>exact Z38 h
 |sl a b c=>exact Quz (d:=.sl a b c) h
 |iptr a b c e=>exact Quz (d:=.iptr a b c e) h
 |_=>trivial
theorem qr:∀{ds:List D},ffBT ds=true->FF2s ds
 |[],_=>trivial
 |d::l,h=>by simp only[ffBT,aE]at h;exact⟨qY h.1,qr h.2⟩
theorem qO{d:D}(h:ffB d=true):FF d:=by
 cases d with
 |tup ds=>exact qr h
 |agg cs=>exact Z38 h
 |sl a b c=>exact Quz (d:=.sl a b c) h
 |iptr a b c e=>exact Quz (d:=.iptr a b c e) h
 |_=>trivial
theorem Z1a:∀{rs:List Row},ffBR rs=true->FFRs rs
 |[],_=>trivial
 |⟨true,_,_,.gen [e]⟩::l,h=>by
  simp only[ffBR,aE]at h
  refine⟨?_,Z1a h.2⟩
  simp only[FFR,if_true,Els.l,List.mem_singleton,forall_eq]
  exact Z38 h.1
 |⟨false,_,_,E⟩::l,h=>by
  simp only[ffBR,aE]at h
  refine⟨?_,Z1a h.2⟩
  simp only[FFR,aN,if_false]
  exact Els.scalB_ok h.1
 |⟨true,_,_,.gen []⟩::l,h=>by simp[ffBR]at h
 |⟨true,_,_,.gen (_::_::_)⟩::l,h=>by simp[ffBR]at h
 |⟨true,_,_,.ints _ _⟩::l,h=>by simp[ffBR]at h
 |⟨true,_,_,.bools _⟩::l,h=>by simp[ffBR]at h
 |⟨true,_,_,.recs _ _⟩::l,h=>by simp[ffBR]at h
theorem xO{P:Program}{f:FuncId}{sig:List PT}{rsig:List RT}{args:List D}{rows:List Row}{res:D}{out:List Row}(hs:(Qje sig args&&Qdm rsig rows)=true)(h:Q2f P f (Qc8 sig args 0) (Q4d rsig rows 0) res out):Q2f P f args rows res out:=by
 simp only[aE]at hs
 obtain⟨h1,h2⟩:=Qm3 (pre:=[]) hs.2
 exact Q2f.subR (Qpb (pre:=[]) hs.1) (by rw[Qdc,h1]) h2 h
theorem zO{P:Program}{f:FuncId}{refs:List Bool}{flat:Bool}{sig:List PT}{rsig:List RT}{α:Type}{v:List D->List Row->α}{enc:α->D}{out:α->List Row}(he:∀args w,(callFunc f args).run P w=.ok (.enter f args) w)(h:∀args rows,Q2f P f (Qc8 sig args 0) (Q4d rsig rows 0) (enc (v args rows)) (out (v args rows)))
 (hf:flat=true->∀X,(ffB (enc X)&&ffBR (out X))=true) (hy:bK f YB=true:=by rfl):Q05 P (mkR f refs flat sig rsig v enc out):=by
 refine⟨λ_=>he,λ_=>lE hy,λ_ args rows r r' hm=>?_,λ_ args rows p r r' hm=>?_,λ_ args rows α' v' r r' hm=>?_,λ_ args rows p α' v' r r' hm=>?_,λk hk=>(by cases hk),λk hk=>(by cases hk)⟩
 ·simp only[mkR]at hm
  split at hm<;>cases hm
 ·simp only[mkR]at hm
  split at hm<;>cases hm
 ·simp only[mkR]at hm
  split at hm
  ·rename_i hs
   cases hm
   exact⟨xO hs (h args rows),λe=>by have:=hf e (v args rows);simp only[aE]at this;exact⟨qO this.1,Z1a this.2⟩⟩
  ·cases hm
 ·simp only[mkR]at hm
  split at hm<;>cases hm
theorem Qxh{P:Program}{f:FuncId}{refs:List Bool}{flat:Bool}{sig:List PT}{rsig:List RT}{pre:List D->List Row->Prop}{α:Type}{v:List D->List Row->α}{enc:α->D}{out:α->List Row}(he:∀args w,(callFunc f args).run P w=.ok (.enter f args) w)(h:∀args rows,pre args rows->Q2f P f (Qc8 sig args 0) (Q4d rsig rows 0) (enc (v args rows)) (out (v args rows)))
 (hf:flat=true->∀X,(ffB (enc X)&&ffBR (out X))=true) (hy:bK f YB=true:=by rfl):Q05 P (mkP f refs flat sig rsig pre v enc out):=by
 refine⟨λ_=>he,λ_=>lE hy,λ_ args rows r r' hm=>?_,λ_ args rows p r r' hm=>?_,λ_ args rows α' v' r r' hm=>?_,λ_ args rows p α' v' r r' hm hp=>?_,λk hk=>(by cases hk),λk hk=>(by cases hk)⟩
 ·simp only[mkP]at hm
  split at hm<;>cases hm
 ·simp only[mkP]at hm
  split at hm<;>cases hm
 ·simp only[mkP]at hm
  split at hm<;>cases hm
 ·simp only[mkP]at hm
  split at hm
  ·rename_i hs
   cases hm
   exact⟨xO hs (h args rows hp),λe=>by have:=hf e (v args rows);simp only[aE]at this;exact⟨qO this.1,Z1a this.2⟩⟩
  ·cases hm
theorem xY{P:Program}{f:FuncId}{k:Nat}{sig:List PT}{rsig:List RT}{args:List D}{rows:List Row}{res:D}{out:List Row}(hs:(Qje sig args&&Qdm rsig rows)=true)(h:Q9l P f k (Qc8 sig args 0) (Q4d rsig rows 0) res out):Q9l P f k args rows res out:=by
 simp only[aE]at hs
 obtain⟨h1,h2⟩:=Qm3 (pre:=[]) hs.2
 exact Q9l.subR (Qpb (pre:=[]) hs.1) (by rw[Qdc,h1]) h2 h
theorem zY{P:Program}{k:Nat}{f:FuncId}{refs:List Bool}{sig:List PT}{rsig:List RT}{pre:List D->List Row->Prop}{α:Type}{v:List D->List Row->α}{enc:α->D}{out:α->List Row}(he:f<YB->∀args w,(callFunc f args).run P w=.ok (.enter f args) w)(h:∀args rows,pre args rows->Q9l P f k (Qc8 sig args 0) (Q4d rsig rows 0) (enc (v args rows)) (out (v args rows))):
 Q05 P (mkKP k f refs sig rsig pre v enc out):=by
 refine⟨he,λhk=>(by cases hk),λhk=>(by cases hk),λhk=>(by cases hk),λhk=>(by cases hk),λhk=>(by cases hk),λk' hk args rows α' v' r r' hm=>?_,λk' hk args rows p α' v' r r' hm hp=>?_⟩
 ·simp only[mkKP]at hm
  split at hm<;>cases hm
 ·cases hk
  simp only[mkKP]at hm
  split at hm
  ·rename_i hs
   cases hm
   exact xY hs (h args rows hp)
  ·cases hm
def letv{α β:Type}(v:α)(m:α->β):β:=m v
def eqAt(α:Type)(x y:α):Prop:=x=y
abbrev rE{α:Type}(x:α):Prop:=x=x
abbrev zM:Q00:={A7:={X:={a0:=0,a1:=0,a2:=0,a3:=0,a4:=0,a5:=0,a6:=0,a7:=0,a8:=0,a9:=0,a10:=0,a11:=0,a12:=0,a13:=0,a14:=0,a15:=0},Pc:=0,C6:={a0:=0,a1:=0,a2:=0,a3:=0,a4:=0,a5:=0,a6:=0,a7:=0}},Mem:=[],B0:={F0:=[]},B7:={F5:=false,D1:=0,F1:=false},B5:={Blocks:=0,C8:=0,Frame:=0,D5:=0,Cmd:=0,C4:=0,C3:=0,D0:=[]},D6:={Frame:=0,Len:=0,D4:=false,D2:=0,C2:=false,Got:=0},A6:={D9:=0,E0:=0},B6:=0,B2:=false,B4:=false}
abbrev mE(m:Q00)(P Q:Prop):Prop:=rE m.A7.X.a0/\rE m.A7.X.a1/\rE m.A7.X.a2/\rE m.A7.X.a3/\rE m.A7.X.a4/\rE m.A7.X.a5/\rE m.A7.X.a6/\rE m.A7.X.a7/\rE m.A7.X.a8/\rE m.A7.X.a9/\rE m.A7.X.a10/\rE m.A7.X.a11/\rE m.A7.X.a12/\rE m.A7.X.a13/\rE m.A7.X.a14/\rE m.A7.X.a15/\rE m.A7.Pc/\rE m.A7.C6.a0/\rE m.A7.C6.a1/\rE m.A7.C6.a2/\rE m.A7.C6.a3/\rE m.A7.C6.a4/\rE m.A7.C6.a5/\rE m.A7.C6.a6/\rE m.A7.C6.a7/\P/\rE m.B0.F0/\rE m.B7.F5/\rE m.B7.D1/\rE m.B7.F1/\rE m.B5.Blocks/\rE m.B5.C8/\rE m.B5.Frame/\rE m.B5.D5/\rE m.B5.Cmd/\rE m.B5.C4/\rE m.B5.C3/\rE m.B5.D0/\rE m.D6.Frame/\rE m.D6.Len/\rE m.D6.D4/\rE m.D6.D2/\rE m.D6.C2/\rE m.D6.Got/\rE m.A6.D9/\rE m.A6.E0/\rE m.B6/\rE m.B2/\rE m.B4/\Q
abbrev mR(f:Nat->D)(M:List Int):Q00:=(⟨(⟨(⟨(f 0).toInt,(f 1).toInt,(f 2).toInt,(f 3).toInt,(f 4).toInt,(f 5).toInt,(f 6).toInt,(f 7).toInt,(f 8).toInt,(f 9).toInt,(f 10).toInt,(f 11).toInt,(f 12).toInt,(f 13).toInt,(f 14).toInt,(f 15).toInt⟩:(A16 Int)),(f 16).toInt,(⟨(f 17).toInt,(f 18).toInt,(f 19).toInt,(f 20).toInt,(f 21).toInt,(f 22).toInt,(f 23).toInt,(f 24).toInt⟩:(A8 Int))⟩:Q0e),M,(⟨(f 26).toStr⟩:Q0m),(⟨(f 27).toBool,(f 28).toInt,(f 29).toBool⟩:Q14),(⟨(f 30).toInt,(f 31).toInt,(f 32).toInt,(f 33).toInt,(f 34).toInt,(f 35).toInt,(f 36).toInt,(f 37).toStr⟩:Q0l),(⟨(f 38).toInt,(f 39).toInt,(f 40).toBool,(f 41).toInt,(f 42).toBool,(f 43).toInt⟩:Q1f),(⟨(f 44).toInt,(f 45).toInt⟩:Q0f),(f 46).toInt,(f 47).toBool,(f 48).toBool⟩:Q00)
abbrev mD(x:Q00)(d:D):List D:=[.int u32 x.A7.X.a0,.int u32 x.A7.X.a1,.int u32 x.A7.X.a2,.int u32 x.A7.X.a3,.int u32 x.A7.X.a4,.int u32 x.A7.X.a5,.int u32 x.A7.X.a6,.int u32 x.A7.X.a7,.int u32 x.A7.X.a8,.int u32 x.A7.X.a9,.int u32 x.A7.X.a10,.int u32 x.A7.X.a11,.int u32 x.A7.X.a12,.int u32 x.A7.X.a13,.int u32 x.A7.X.a14,.int u32 x.A7.X.a15,.int u32 x.A7.Pc,.int u32 x.A7.C6.a0,.int u32 x.A7.C6.a1,.int u32 x.A7.C6.a2,.int u32 x.A7.C6.a3,.int u32 x.A7.C6.a4,.int u32 x.A7.C6.a5,.int u32 x.A7.C6.a6,.int u32 x.A7.C6.a7,d,.str x.B0.F0,.bool x.B7.F5,.int u32 x.B7.D1,.bool x.B7.F1,.int u32 x.B5.Blocks,.int u32 x.B5.C8,.int u32 x.B5.Frame,.int i64 x.B5.D5,.int i64 x.B5.Cmd,.int u32 x.B5.C4,.int u32 x.B5.C3,.str x.B5.D0,.int u32 x.D6.Frame,.int u32 x.D6.Len,.bool x.D6.D4,.int u32 x.D6.D2,.bool x.D6.C2,.int u32 x.D6.Got,.int u32 x.A6.D9,.int u32 x.A6.E0,.int u64 x.B6,.bool x.B2,.bool x.B4]
abbrev mB(f:Nat->D):List D:=[f 0,f 1,f 2,f 3,f 4,f 5,f 6,f 7,f 8,f 9,f 10,f 11,f 12,f 13,f 14,f 15,f 16,f 17,f 18,f 19,f 20,f 21,f 22,f 23,f 24,f 25,f 26,f 27,f 28,f 29,f 30,f 31,f 32,f 33,f 34,f 35,f 36,f 37,f 38,f 39,f 40,f 41,f 42,f 43,f 44,f 45,f 46,f 47,f 48]
abbrev rZ:Prop:=rE (0:Nat)/\rE (0:Nat)
abbrev nR(k:RK)(n:Nat)(x:List (RK.T k)):Prop:=(Els.Nil (Els.recs k x)\/rE n)/\rE x
abbrev aC(l:List D)(n:Nat):List D:=(l.getD n .dead).cells
theorem fin0{p:Prop}(h:p:=by((subst_vars;first|trivial|assumption|omega|((simp(config:={decide:=true,failIfUnchanged:=false}) only[aE,Bool.or_eq_true,Bool.and_eq_false_iff,Bool.or_eq_false_iff,Bool.not_eq_true',Bool.not_eq_false',Bool.not_eq_true,Bool.not_eq_false,decide_eq_true_eq,decide_eq_false_iff_not,Q9p,Q70,Q9t,Q6y,beq_iff_eq,beq_eq_false_iff_ne,bne_iff_ne,bne_eq_false_iff_eq,ne_eq,List.all_cons,List.all_nil,D.plain,List.length_cons,List.length_nil,lA,List.length_set,List.length_replicate,wrap_i64,wrap_u64,wrap_u32,wrap_i32,wrap_u8,true_and,and_true,or_false,false_or,or_true,true_or,not_true_eq_false,not_false_eq_true,Prod.fst,Prod.snd]at*);first|done|assumption|omega)|((simp(config:={decide:=true,failIfUnchanged:=false}) only[aE,Bool.or_eq_true,Bool.and_eq_false_iff,Bool.or_eq_false_iff,Bool.not_eq_true',Bool.not_eq_false',Bool.not_eq_true,Bool.not_eq_false,decide_eq_true_eq,decide_eq_false_iff_not,Q9p,Q70,Q9t,Q6y,beq_iff_eq,beq_eq_false_iff_ne,bne_iff_ne,bne_eq_false_iff_eq,ne_eq,List.all_cons,List.all_nil,D.plain,List.length_cons,List.length_nil,lA,List.length_set,List.length_replicate,wrap_i64,wrap_u64,wrap_u32,wrap_i32,wrap_u8,true_and,and_true,or_false,false_or,or_true,true_or,not_true_eq_false,not_false_eq_true,Prod.fst,Prod.snd]at*);simp only[<-List.length_pos_iff]at*;omega)|(simp_all;done)|(have:= @Qm0;simp_all;try omega)))):p:=h
def run{α β:Type}[Inhabited β](F:α->α⊕β):Nat->α->β
 |0,_=>default
 |k+1,a=>match F a with|.inl a'=>run F k a'|.inr b=>b
inductive Tree:Type->Type 1 where
 |lf {β:Type} (x:β):Tree β
 |nx {β:Type} (f:Prop) (x:β) (h:f:=by first|trivial|(simp[eqAt];done)|decide|(simp only[and_true,true_and,or_true,true_or,and_self];done)|((repeat'(first|exact True.intro|apply And.intro|exact rfl|exact Or.inr rfl));done)):Tree β
 |br {β:Type} (c:Bool) (t e:Tree β):Tree β
 |cn {β:Type} (c:Bool) (t:Tree β):Tree β
 |fl {β:Type} (c:Bool) (t:Tree β):Tree β
 |an {β:Type} (p:Prop) (t:Tree β):Tree β
 |lv {α β:Type} (x:α) (k:α->Tree β):Tree β
 |lp {α β:Type} (d:Inhabited β) (n:Nat) (f:Prop) (x:α) (t:α->Tree (α⊕β)) (h:f:=by first|trivial|(simp[eqAt];done)|decide|(simp only[and_true,true_and,or_true,true_or,and_self];done)|((repeat'(first|exact True.intro|apply And.intro|exact rfl|exact Or.inr rfl));done)):Tree β
def Tree.m{β:Type}:Tree β->β
 |.lf x=>x
 |.nx _ x _=>x
 |.br c t e=>cond c t.m e.m
 |.cn _ t=>t.m
 |.fl _ t=>t.m
 |.an _ t=>t.m
 |.lv x k=>letv x λy=>(k y).m
 |.lp _ n _ x t _=>run (λy=>(t y).m) n x
def runW{α β:Type}(B:α->(α⊕β->Prop)->Prop)(W:β->Prop)(n:Nat)(y:α):Prop:=
 match n with
 |0=>False
 |k+1=>B y (hU (λz=>runW B W k z) W)
termination_by n
theorem Qut{α β:Type}{B:α->(α⊕β->Prop)->Prop}{W:β->Prop}{y:α}:runW B W 0 y=False:=by rw[runW]
theorem Qk6{α β:Type}{B:α->(α⊕β->Prop)->Prop}{W:β->Prop}{k:Nat}{y:α}:runW B W (k+1) y=B y (hU (λz=>runW B W k z) W):=by rw[runW]
def Tree.w{β:Type}:Tree β->(β->Prop)->Prop
 |.lf x,W=>W x
 |.nx _ x _,W=>W x
 |.br c t e,W=>Qqx c (t.w W) (e.w W)
 |.cn c t,W=>cand c (t.w W)
 |.fl c t,W=>Qqx c False (t.w W)
 |.an p t,W=>p/\t.w W
 |.lv x k,W=>∀y,y=x->(k y).w W
 |.lp _ n _ x t _,W=>runW (λy V=>(t y).w V) W n x
def Tree.q{β:Type}:Tree β->(β->Prop)->Prop
 |.lf x,L=>L x
 |.nx f x _,L=>L x/\f
 |.br c t e,L=>Qqx c (t.q L) (e.q L)
 |.cn c t,L=>cand c (t.q L)
 |.fl c t,L=>Qqx c False (t.q L)
 |.an p t,L=>p/\t.q L
 |.lv x k,L=>∀y,y=x->(k y).q L
 |.lp (α:=α) _ _ f x t _,L=>∃(Pre:α->Prop),∃(ν:α->Nat),Pre x/\f/\∀y,Pre y->(t y).q (hU (λz=>Pre z/\ν z<ν y) L)
theorem Tree.main{β:Type}(t:Tree β):∀{W L E:β->Prop},(∀x,W x->E x->L x)->t.w W->E t.m->t.q L:=by
 induction t with
 |lf x=>intro W L E h hw he;exact h x hw he
 |nx f x hf=>intro W L E h hw he;exact⟨h x hw he,hf⟩
 |br c t e iht ihe=>
  intro W L E h hw he
  cases c with
  |true=>exact iht h hw he
  |false=>exact ihe h hw he
 |cn c t ih=>intro W L E h hw he;exact Q02.2 ⟨(Q02.1 hw).1,ih h (Q02.1 hw).2 he⟩
 |fl c t ih=>
  intro W L E h hw he
  cases c with
  |true=>exact hw.elim
  |false=>exact ih h hw he
 |an p t ih=>intro W L E h hw he;exact⟨hw.1,ih h hw.2 he⟩
 |lv x k ih=>intro W L E h hw he y hy;subst hy;exact ih y h (hw y rfl) he
 |lp d n f x t hf ih=>
  intro W L E h hw he
  have H:∀k y,runW (λy V=>(t y).w V) W k y->E (@run _ _ d (λy=>(t y).m) k y)->∃j,j<k/\k=j+1:=by
   intro k y h1 _
   cases k with
   |zero=>rw[Qut]at h1;exact h1.elim
   |succ k=>exact⟨k,Nat.lt_succ_self k,rfl⟩
  let P:Nat->_->Prop:=λk y=>runW (λy V=>(t y).w V) W k y/\E (@run _ _ d (λy=>(t y).m) k y)
  have least:∀y,(∃k,P k y)->∃k,P k y/\∀j,P j y->k<=j:=by
   intro y ⟨k,hk⟩
   induction k using Nat.strongRecOn with
   |ind k ihk=>
    by_cases hj:∃j,j<k/\P j y
    ·obtain⟨j,h1,h2⟩:=hj;exact ihk j h1 h2
    ·exact⟨k,hk,λj h2=>Nat.le_of_not_lt λh1=>hj ⟨j,h1,h2⟩⟩
  have ch:∃ν:_->Nat,∀y,(∃k,P k y)->P (ν y) y/\∀j,P j y->ν y<=j:=Classical.axiomOfChoice (r:=λy k=>(∃k,P k y)->P k y/\∀j,P j y->k<=j) λy=>by
   by_cases hy:∃k,P k y
   ·obtain⟨k,hk⟩:=least y hy;exact⟨k,λ_=>hk⟩
   ·exact⟨0,λh=>absurd h hy⟩
  obtain⟨ν,hν⟩:=ch
  refine⟨λy=>∃k,P k y,ν,⟨n,hw,he⟩,hf,λy hy=>?_⟩
  have hmin:=hν y hy
  generalize hk0:ν y=k0 at hmin
  obtain⟨⟨h1,h2⟩,_⟩:=hmin
  obtain⟨j,_,rfl⟩:=H k0 y h1 h2
  rw[Qk6]at h1
  refine ih y (E:=hU (λz=>E (@run _ _ d (λy=>(t y).m) j z)) E) ?_ h1 ?_
  ·intro z hz1 hz2
   cases z with
   |inl z=>
    have hz:∃k,P k z:=⟨j,hz1,hz2⟩
    refine⟨hz,?_⟩
    have:=(hν z hz).2 j ⟨hz1,hz2⟩
    show ν z<j+1
    omega
   |inr z=>exact h z hz1 hz2
  ·unfold run at h2
   cases hF:(t y).m with
   |inl z=>rw[hF]at h2;exact h2
   |inr z=>rw[hF]at h2;exact h2
abbrev Tree.p{β:Type}(t:Tree β):Prop:=t.w λ_=>True
theorem Tree.main'{β:Type}{t:Tree β}{L:β->Prop}(hw:t.p)(h:L t.m):t.q L:=t.main (λ_ _ h=>h) hw h
theorem Tree.mono{β:Type}(t:Tree β):∀{W V:β->Prop},(∀x,W x->V x)->t.w W->t.w V:=by
 induction t with
 |lf x=>intro W V h hw;exact h x hw
 |nx f x hf=>intro W V h hw;exact h x hw
 |br c t e iht ihe=>
  intro W V h hw
  cases c with
  |true=>exact iht h hw
  |false=>exact ihe h hw
 |cn c t ih=>intro W V h hw;exact Q02.2 ⟨(Q02.1 hw).1,ih h (Q02.1 hw).2⟩
 |fl c t ih=>
  intro W V h hw
  cases c with
  |true=>exact hw.elim
  |false=>exact ih h hw
 |an p t ih=>intro W V h hw;exact⟨hw.1,ih h hw.2⟩
 |lv x k ih=>intro W V h hw y hy;exact ih y h (hw y hy)
 |lp d n f x t hf ih=>
  intro W V h hw
  revert x
  show∀x,runW (λy V=>(t y).w V) W n x->runW (λy V=>(t y).w V) V n x
  induction n with
  |zero=>intro x hw;rw[Qut]at hw;exact hw.elim
  |succ n ihn=>
   intro x hw
   rw[Qk6]at hw⊢
   refine ih x (λz hz=>?_) hw
   cases z with
   |inl z=>exact ihn z hz
   |inr z=>exact h z hz
theorem Tree.post{β:Type}(t:Tree β):∀{W:β->Prop},t.w W->W t.m:=by
 induction t with
 |lf x=>intro W hw;exact hw
 |nx f x hf=>intro W hw;exact hw
 |br c t e iht ihe=>
  intro W hw
  cases c with
  |true=>exact iht hw
  |false=>exact ihe hw
 |cn c t ih=>intro W hw;exact ih (Q02.1 hw).2
 |fl c t ih=>
  intro W hw
  cases c with
  |true=>exact hw.elim
  |false=>exact ih hw
 |an p t ih=>intro W hw;exact ih hw.2
 |lv x k ih=>intro W hw;exact ih x (hw x rfl)
 |lp d n f x t hf ih=>
  intro W hw
  revert x
  show∀x,runW (λy V=>(t y).w V) W n x->W (@run _ _ d (λy=>(t y).m) n x)
  induction n with
  |zero=>intro x hw;rw[Qut]at hw;exact hw.elim
  |succ n ihn=>
   intro x hw
   rw[Qk6]at hw
   have:=ih x hw
   unfold run
   cases hF:(t x).m with
   |inl z=>rw[hF]at this;exact ihn z this
   |inr z=>rw[hF]at this;exact this
theorem Tree.pp{β:Type}{t:Tree β}{W:β->Prop}(h:t.w W):t.p/\W t.m:=⟨t.mono (λ_ _=>trivial) h,t.post h⟩
section
variable {α β:Type} {W:β->Prop} {c:Bool} {t e:Tree β}
theorem w_lf{x:β}(h:W x):(Tree.lf x).w W:=h
theorem w_nx{f:Prop}{x:β}{hf:f}(h:W x):(Tree.nx f x hf).w W:=h
theorem w_br(h:c=true->t.w W)(g:c=false->e.w W):(Tree.br c t e).w W:=Qwb.2 ⟨h,g⟩
theorem w_cn(h:c=true)(g:t.w W):(Tree.cn c t).w W:=Q02.2 ⟨h,g⟩
theorem w_fl(h:c=false)(g:t.w W):(Tree.fl c t).w W:=Qwb.2 ⟨λe=>(by rw[h]at e;cases e),λ_=>g⟩
theorem w_an{p:Prop}(h:p)(g:t.w W):(Tree.an p t).w W:=⟨h,g⟩
theorem w_lv{x:α}{k:α->Tree β}(h:∀y,y=x->(k y).w W):(Tree.lv x k).w W:=h
theorem w_lp{d:Inhabited β}{n:Nat}{f:Prop}{x:α}{k:α->Tree (α⊕β)}{hf:f}{inv:α->Prop}{μ:α->Nat}(h:inv x)(hn:μ x<n)(g:∀y,inv y->(k y).w (hU (λz=>inv z/\μ z<μ y) W)):(Tree.lp d n f x k hf).w W:=by
 show runW (λy V=>(k y).w V) W n x
 revert x
 induction n with
 |zero=>intro x h hn;omega
 |succ n ih=>
  intro x h hn
  rw[Qk6]
  refine(k x).mono (λz hz=>?_) (g x h)
  cases z with
  |inl z=>exact ih hz.1 (by have:=hz.2;omega)
  |inr z=>exact hz
end
structure FnOK(T:Tab)(G:List Q09)(L:Code->St->(Ex->St->Prop)->Prop)(fn:Func)(args:List D)(rows:List Row)(ds:List Dir)(Q:D->List Row->Prop):Prop where
 h:fnVC T G L fn args rows λd R=>Q7p rows.length ds d R Q
theorem FnOK.of{T:Tab}{G:List Q09}{L:Code->St->(Ex->St->Prop)->Prop}{fn:Func}{args:List D}{rows:List Row}{ds:List Dir}{Q:D->List Row->Prop}{p:Prop}(e:(fnVC T G L fn args rows λd R=>Q7p rows.length ds d R Q)=p)(hl:p):FnOK T G L fn args rows ds Q:=⟨by rw[e];exact hl⟩
theorem FnOK.calls{P:Program}(hD:Qbz P){T:Tab}(hT:Q34 P T){G:List Q09}(hG:Q57 P G){f:FuncId}{fn:Func}(hf:P.funcs[f]?=some fn){args:List D}{rows:List Row}{res:D}{rows':List Row}
 {rf:Option Nat} (hrf:∀code,fn.body=some code->RF rf fn.ntmps code) {L:Code->St->(Ex->St->Prop)->Prop} (hL:∀code st Q,RF rf fn.ntmps code->L code st Q->Tr P fn.ntmps rows.length code st Q) {ds:List Dir} (h:FnOK T G L fn args rows ds λr o=>r=res/\o=rows'):Q2f P f args rows res rows':=
 xad hD hT hG hf hrf hL (λd R hQ=>by obtain⟨r,o,⟨rfl,rfl⟩,hE⟩:=Z08 hQ;exact hE) h.h
structure FnOKM(T:Tab)(G:List Q09)(L:Code->St->(Ex->St->Prop)->Prop)(fn:Func)(args:List D)(rows:List Row)(k:Nat)(ds:List Dir)(Q:D->List Row->Prop):Prop where
 h:Z6w T G L fn args rows (λd R=>Q7p k ds d R Q) k
theorem FnOKM.of{T:Tab}{G:List Q09}{L:Code->St->(Ex->St->Prop)->Prop}{fn:Func}{args:List D}{rows:List Row}{k:Nat}{ds:List Dir}{Q:D->List Row->Prop}{p:Prop}(e:(Z6w T G L fn args rows (λd R=>Q7p k ds d R Q) k)=p)(hl:p):FnOKM T G L fn args rows k ds Q:=⟨by rw[e];exact hl⟩
theorem FnOKM.calls{P:Program}(hD:Qbz P){T:Tab}(hT:Q34 P T){G:List Q09}(hG:Q57 P G){f:FuncId}{fn:Func}{args:List D}{rows:List Row}{k:Nat}{res:D}{rows':List Row}{rf:Option Nat}(hf:FnAt P f fn (noYs (fnsT args++fnsR rows)=true/\rf=none))(hrf:∀code,fn.body=some code->RF rf fn.ntmps code)
 {L:Code->St->(Ex->St->Prop)->Prop} (hL:∀ro,(ro=none\/rf=none)->∀code st Q,RF rf fn.ntmps code->L code st Q->TrR ro P fn.ntmps k code st Q) {ds:List Dir} (h:FnOKM T G L fn args rows k ds λr o=>r=res/\o=rows'):Q9l P f k args rows res rows':=
 qae hD hT hG hf hrf hL (λd R hQ=>by obtain⟨r,o,⟨rfl,rfl⟩,hE⟩:=Z08 hQ;exact hE) h.h
section
variable {P:Program} {T:Tab} {G:List Q09} {f:FuncId} {fn:Func} {refs:List Bool} {flat:Bool} {sig:List PT} {rsig:List RT} {pre:List D->List Row->Prop} {β:Type} {v:List D->List Row->β} {enc:β->D} {out:β->List Row}
theorem FnAt.imp{cl cl':Prop}(h:FnAt P f fn cl)(g:cl->cl'):FnAt P f fn cl':=by
 cases h with
 |real a b c=>exact .real a b c
 |yield a y d b c e f g1 g2 h i=>exact .yield a y d b c e f g1 g2 h (g i)
 |yieldB a y q b c e f g1 h i j k=>exact .yieldB a y q b c e f g1 h i j (g k)
theorem Qzb(rf:Option Nat)(hrf:∀code,fn.body=some code->RF rf fn.ntmps code)(hD:Qbz P)(hT:Q34 P T)(hG:Q57 P G)(hf:P.funcs[f]?=some fn)(t:List D->List Row->Tree β)(ds:List Dir)(invs:List (Nat×LInv))(dep:Nat)
 (hn:∀args rows Q,(fnVC T G (LLr T G fn.ntmps rsig.length invs rf dep) fn (Qc8 sig args 0) (Q4d rsig rows 0) λd R=>Q7p rsig.length ds d R Q)=(t args rows).q λX=>Q (enc X) (out X)) (hv:∀args rows,(t args rows).m=v args rows) {args:List D} {rows:List Row} (hp:(t args rows).p):
 Q2f P f (Qc8 sig args 0) (Q4d rsig rows 0) (enc (v args rows)) (out (v args rows)):=by
 have e:(Q4d rsig rows 0).length=rsig.length:=Qdc
 refine FnOK.calls hD hT hG hf hrf (L:=LLr T G fn.ntmps rsig.length invs rf dep) (λcode st Q hc hl=>by rw[e];exact Z8e hD hT hG (.inl rfl) dep _ _ _ hc hl) (ds:=ds) ⟨?_⟩
 rw[e,hn]
 refine Tree.main' hp ?_
 rw[hv]
 exact⟨rfl,rfl⟩
theorem Z70(rf:Option Nat)(hrf:∀code,fn.body=some code->RF rf fn.ntmps code){k:Nat}(hD:Qbz P)(hT:Q34 P T)(hG:Q57 P G)(hf:FnAt P f fn ((∀args rows,noYs (fnsT (Qc8 sig args 0)++fnsR (Q4d rsig rows 0))=true)/\rf=none))(t:List D->List Row->Tree β)(ds:List Dir)(invs:List (Nat×LInv))(dep:Nat)
 (hn:∀args rows Q,(Z6w T G (LLr T G fn.ntmps k invs rf dep) fn (Qc8 sig args 0) (Q4d rsig rows 0) (λd R=>Q7p k ds d R Q) k)=(t args rows).q λX=>Q (enc X) (out X)) (hv:∀args rows,(t args rows).m=v args rows) {args:List D} {rows:List Row} (hp:(t args rows).p):
 Q9l P f k (Qc8 sig args 0) (Q4d rsig rows 0) (enc (v args rows)) (out (v args rows)):=by
 refine FnOKM.calls hD hT hG (hf.imp λh=>⟨h.1 args rows,h.2⟩) hrf (L:=LLr T G fn.ntmps k invs rf dep) (λro hro=>Z8e hD hT hG hro dep) (ds:=ds) ⟨?_⟩
 rw[hn]
 refine Tree.main' hp ?_
 rw[hv]
 exact⟨rfl,rfl⟩
theorem yY(rf:Option Nat)(hrf:∀code,fn.body=some code->RF rf fn.ntmps code)(hD:Qbz P)(hT:Q34 P T)(hG:Q57 P G)(hf:P.funcs[f]?=some fn)(he:∀args w,(callFunc f args).run P w=.ok (.enter f args) w)(t:List D->List Row->Tree β)(ds:List Dir)(invs:List (Nat×LInv))(dep:Nat)
 (hn:∀args rows Q,(fnVC T G (LLr T G fn.ntmps rsig.length invs rf dep) fn (Qc8 sig args 0) (Q4d rsig rows 0) λd R=>Q7p rsig.length ds d R Q)=(t args rows).q λX=>Q (enc X) (out X)) (hv:∀args rows,(t args rows).m=v args rows)
 (hp:∀args rows,pre args rows->(t args rows).p) (hff:flat=true->∀X,(ffB (enc X)&&ffBR (out X))=true) (hy:bK f YB=true:=by rfl):Q05 P (mkP f refs flat sig rsig pre v enc out):=
 Qxh he (λargs rows hw=>Qzb rf hrf hD hT hG hf t ds invs dep hn hv (hp _ _ hw)) hff hy
theorem Q0o(hD:Qbz P)(hT:Q34 P T)(hG:Q57 P G)(hf:P.funcs[f]?=some fn)(he:∀args w,(callFunc f args).run P w=.ok (.enter f args) w)(t:List D->List Row->Tree β)(ds:List Dir)(invs:List (Nat×LInv))(dep:Nat)
 (hn:∀args rows Q,(fnVC T G (LL T G fn.ntmps rsig.length invs dep) fn (Qc8 sig args 0) (Q4d rsig rows 0) λd R=>Q7p rsig.length ds d R Q)=(t args rows).q λX=>Q (enc X) (out X):=by intro _ _ _;kernel_rfl) (hv:∀args rows,(t args rows).m=v args rows:=by exactλ_ _=>rfl)
 (hp:∀args rows,pre args rows->(t args rows).p:=by exactλ_ _ h=>h) (hff:flat=true->∀X,(ffB (enc X)&&ffBR (out X))=true:=by intro _ _;kernel_rfl) (hy:bK f YB=true:=by rfl):Q05 P (mkP f refs flat sig rsig pre v enc out):=
 yY none (λ_ _=>trivial) hD hT hG hf he t ds invs dep hn hv hp hff hy
theorem vY(rf:Option Nat)(hrf:∀code,fn.body=some code->RF rf fn.ntmps code)(hD:Qbz P)(hT:Q34 P T)(hG:Q57 P G)(hf:P.funcs[f]?=some fn)(he:∀args w,(callFunc f args).run P w=.ok (.enter f args) w)(t:List D->List Row->Tree β)(ds:List Dir)(invs:List (Nat×LInv))(dep:Nat)
 (hn:∀args rows Q,(fnVC T G (LLr T G fn.ntmps rsig.length invs rf dep) fn (Qc8 sig args 0) (Q4d rsig rows 0) λd R=>Q7p rsig.length ds d R Q)=(t args rows).q λX=>Q (enc X) (out X)) (hv:∀args rows,(t args rows).m=v args rows)
 (hp:∀args rows,(t args rows).p) (hff:flat=true->∀X,(ffB (enc X)&&ffBR (out X))=true) (hy:bK f YB=true:=by rfl):Q05 P (mkR f refs flat sig rsig v enc out):=
 zO he (λargs rows=>Qzb rf hrf hD hT hG hf t ds invs dep hn hv (hp _ _)) hff hy
theorem Q1z(hD:Qbz P)(hT:Q34 P T)(hG:Q57 P G)(hf:P.funcs[f]?=some fn)(he:∀args w,(callFunc f args).run P w=.ok (.enter f args) w)(t:List D->List Row->Tree β)(ds:List Dir)(invs:List (Nat×LInv))(dep:Nat)
 (hn:∀args rows Q,(fnVC T G (LL T G fn.ntmps rsig.length invs dep) fn (Qc8 sig args 0) (Q4d rsig rows 0) λd R=>Q7p rsig.length ds d R Q)=(t args rows).q λX=>Q (enc X) (out X):=by intro _ _ _;kernel_rfl) (hv:∀args rows,(t args rows).m=v args rows:=by exactλ_ _=>rfl)
 (hp:∀args rows,(t args rows).p:=by intro _ _;exact Tree.free_ok (by kernel_rfl)) (hff:flat=true->∀X,(ffB (enc X)&&ffBR (out X))=true:=by intro _ _;kernel_rfl) (hy:bK f YB=true:=by rfl):Q05 P (mkR f refs flat sig rsig v enc out):=
 vY none (λ_ _=>trivial) hD hT hG hf he t ds invs dep hn hv hp hff hy
theorem yH(rf:Option Nat)(hrf:∀code,fn.body=some code->RF rf fn.ntmps code){k:Nat}(hD:Qbz P)(hT:Q34 P T)(hG:Q57 P G)(hf:FnAt P f fn ((∀args rows,noYs (fnsT (Qc8 sig args 0)++fnsR (Q4d rsig rows 0))=true)/\rf=none))(he:f<YB->∀args w,(callFunc f args).run P w=.ok (.enter f args) w)(t:List D->List Row->Tree β)(ds:List Dir)(invs:List (Nat×LInv))(dep:Nat)
 (hn:∀args rows Q,(Z6w T G (LLr T G fn.ntmps k invs rf dep) fn (Qc8 sig args 0) (Q4d rsig rows 0) (λd R=>Q7p k ds d R Q) k)=(t args rows).q λX=>Q (enc X) (out X)) (hv:∀args rows,(t args rows).m=v args rows)
 (hp:∀args rows,pre args rows->(t args rows).p):Q05 P (mkKP k f refs sig rsig pre v enc out):=
 zY he (λargs rows hw=>Z70 rf hrf hD hT hG hf t ds invs dep hn hv (hp _ _ hw))
theorem Qph{k:Nat}(hD:Qbz P)(hT:Q34 P T)(hG:Q57 P G)(hf:P.funcs[f]?=some fn)(he:∀args w,(callFunc f args).run P w=.ok (.enter f args) w)(t:List D->List Row->Tree β)(ds:List Dir)(invs:List (Nat×LInv))(dep:Nat)
 (hn:∀args rows Q,(Z6w T G (LL T G fn.ntmps k invs dep) fn (Qc8 sig args 0) (Q4d rsig rows 0) (λd R=>Q7p k ds d R Q) k)=(t args rows).q λX=>Q (enc X) (out X)) (hv:∀args rows,(t args rows).m=v args rows)
 (hp:∀args rows,pre args rows->(t args rows).p) (hy:bK f YB=true:=by rfl) (hb:Nat.ble YB fn.nfree=false:=by rfl):Q05 P (mkKP k f refs sig rsig pre v enc out):=
 yH none (λ_ _=>trivial) hD hT hG (.real (lE hy) hf hb) (λ_=>he) t ds invs dep hn hv hp
theorem xr(h:Q05 P (mkP f refs flat sig rsig pre v enc out)){args:List D}{rows:List Row}(hs:(Qje sig args&&Qdm rsig rows)=true)(hw:pre args rows):Q2f P f args rows (enc (v args rows)) (out (v args rows)):=
 (h.absW rfl args rows (pre args rows) β (v args rows) enc out (by simp only[mkP,hs]) hw).1
end
def Tree.freeB{β:Type}:Tree β->Bool
 |.lf _=>true
 |.br _ t e=>t.freeB&&e.freeB
 |.lv x k=>(k x).freeB
 |_=>false
theorem Tree.free_ok{β:Type}{t:Tree β}(h:t.freeB=true):t.p:=by
 induction t with
 |lf x=>trivial
 |br c t e iht ihe=>
  simp only[Tree.freeB,aE]at h
  cases c with
  |true=>exact iht h.1
  |false=>exact ihe h.2
 |lv x k ih=>intro y hy;subst hy;exact ih _ h
 |_=>simp[Tree.freeB]at h
theorem Q57.nil{P:Program}:Q57 P []:=λx hx=>by cases hx
theorem Q57.cons{P:Program}{x:Q09}{G:List Q09}(h:Q05 P x)(g:Q57 P G):Q57 P (x::G):=λy hy=>by
 simp only[List.mem_cons]at hy
 rcases hy with rfl|hy
 ·exact h
 ·exact g y hy

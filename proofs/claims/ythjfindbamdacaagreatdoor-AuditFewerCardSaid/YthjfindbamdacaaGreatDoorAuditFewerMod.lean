import Derived.Test.YthjfindbamdacaaGreatDoorAuditFewerFc
open Nat renaming blt->bJ,beq->bT,le_refl->aO
open List renaming map_cons->fT,getD->aK,getElem?_eq_getElem->cG,range'->bK,all_cons->iG,all_nil->iH,length_cons->dI,length_nil->dJ,length_set->dH,length_replicate->cV
open Bool renaming false_eq_true->aN,or_eq_true->aI,and_eq_false_iff->iB,or_eq_false_iff->iC,not_eq_true'->aS,not_eq_false'->iD,not_eq_true->iE,not_eq_false->iF
open Sum renaming elim->iI
set_option linter.all false
namespace Go.GD
open Go
open Go.IntKind(i64 u32 u64 wrap_i64 wrap_u32 wrap_u64 wrap_u8 wrap_i32)
def lk(st:St)(t:Nat):D:=look st.env t
def rN(st:St)(t:Nat):Nat:=kU (look st.env t) 1000000
def cT(st:St)(t j:Nat):D:=iT st.rows (kU (look st.env t) 1000000) j
def rX(st:St)(t k:Nat):Nat:=kU (look st.env t) (st.rows.length+k)
theorem Qhd{α:Type}{l:List α}(h:l≠[]):0<l.length:=by cases l<;>simp_all
theorem Q59{a b:Nat}:bJ a b=true↔a<b:=by simp[bJ,Nat.lt_iff_add_one_le]
theorem Q3a{a b:Nat}:bJ a b=false↔ ¬a<b:=by have:= @Q59 a b;cases h:bJ a b<;>simp_all
theorem Q56{a b:Nat}:bT a b=true↔a=b:=iff_of_eq Nat.beq_eq
theorem Q39{a b:Nat}:bT a b=false↔ ¬a=b:=by have:= @Q56 a b;cases h:bT a b<;>simp_all
def gz(d e:D):Prop:=∀c w v,cv c w d v->cv c w e v
def jI:List D->List D->Prop
 |[],[]=>True
 |d::l,e::m=>gz d e/\jI l m
 |_,_=>False
def tB:D->D->Prop
 |.agg cs,.agg ds=>jI cs ds
 |.agg _,_=>False
 |d,e=>gz d e
def DC:List D->List D->Prop
 |[],[]=>True
 |d::l,e::m=>tB d e/\DC l m
 |_,_=>False
theorem gz.rfl{d:D}:gz d d:=λ_ _ _ h=>h
theorem gz.ints{k:IntKind}{s:Nat}{E:ao}{fr:Bool}{l:List Int}(h:E.toI k=some l):gz (.sl s E fr) (.sl 1 (.ints k l) false):=by
 intro c w v hv
 have he:=ao.toI_l h
 obtain⟨a,cap,hv,hc,ij⟩:=hv
 rw[he]at hv hc ij
 refine⟨a,cap,hv,hc,?_⟩
 rcases ij with ij|⟨b,off,arr,ty,fz,ha,hI,hf,hh,hE⟩
 ·exact .inl ij
 ·cases l with
  |nil=>exact .inl (by simp[ao.l])
  |cons n l=>
   have h1:s=1:=by
    simp only[ao.l,fT,pV,oy]at hE
    exact hE.1.symm
   subst h1
   exact .inr ⟨b,off,arr,ty,fz,ha,hI,(λe=>by cases e),hh,hE⟩
theorem gz.bu{s:Nat}{E:ao}{fr:Bool}{l:List Bool}(h:E.toB=some l):gz (.sl s E fr) (.sl 1 (.bu l) false):=by
 intro c w v hv
 have he:=ao.toB_l h
 obtain⟨a,cap,hv,hc,ij⟩:=hv
 rw[he]at hv hc ij
 refine⟨a,cap,hv,hc,?_⟩
 rcases ij with ij|⟨b,off,arr,ty,fz,ha,hI,hf,hh,hE⟩
 ·exact .inl ij
 ·cases l with
  |nil=>exact .inl (by simp[ao.l])
  |cons n l=>
   have h1:s=1:=by
    simp only[ao.l,fT,pV,oy]at hE
    exact hE.1.symm
   subst h1
   exact .inr ⟨b,off,arr,ty,fz,ha,hI,(λe=>by cases e),hh,hE⟩
theorem jI.rep{c:Ctx}{w:World}:∀{ds es:List D} {vs:List Value},jI ds es->jr c w ds vs->jr c w es vs
 |[],[],[],_,_=>trivial
 |d::l,e::m,v::vs,h,hr=>⟨h.1 _ _ _ hr.1,jI.rep h.2 hr.2⟩
 |[],_::_,_,h,_=>h.elim
 |_::_,[],_,h,_=>h.elim
 |[],[],_::_,_,hr=>hr.elim
 |_::_,_::_,[],_,hr=>hr.elim
theorem tB.rep{c:Ctx}{w:World}{d e:D}{v:Value}(h:tB d e)(hr:VRep c w d v):VRep c w e v:=by
 cases d with
 |agg cs=>
  cases e with
  |agg ds=>obtain⟨vs,hv,hx⟩:=hr;exact⟨vs,hv,jI.rep h hx⟩
  |_=>exact h.elim
 |_=>
  have h1:=VRep.toC (λcs e=>by cases e) hr
  have h2:gz _ e:=h
  exact VRep.EW (h2 _ _ _ h1)
theorem DC.rep{c:Ctx}{w:World}:∀{ds es:List D} {vs:List Value},DC ds es->kh c w ds vs->kh c w es vs
 |[],[],[],_,_=>trivial
 |d::l,e::m,v::vs,h,hr=>⟨tB.rep h.1 hr.1,DC.rep h.2 hr.2⟩
 |[],_::_,_,h,_=>h.elim
 |_::_,[],_,h,_=>h.elim
 |[],[],_::_,_,hr=>hr.elim
 |_::_,_::_,[],_,hr=>hr.elim
theorem kj.sub{P:Program}{f:FuncId}{args nE:List D}{rows:List Row}{res:D}{aj:List Row}(hs:DC args nE)(h:kj P f nE rows res aj):kj P f args rows res aj:=
 λc w vs hm hb hR ha=>h c w vs hm hb hR (DC.rep hs ha)
theorem gz.av{k:RK}{s:Nat}{E:ao}{fr:Bool}{l:List (RK.T k)}(h:E.toR k=some l):gz (.sl s E fr) (.sl k.size (.av k l) false):=by
 intro c w v hv
 have he:=ao.toR_l h
 obtain⟨a,cap,hv,hc,ij⟩:=hv
 rw[he]at hv hc ij
 refine⟨a,cap,hv,hc,?_⟩
 rcases ij with ij|⟨b,off,arr,ty,fz,ha,hI,hf,hh,hE⟩
 ·exact .inl ij
 ·cases l with
  |nil=>exact .inl (by simp[ao.l])
  |cons x l=>
   have h1:s=k.size:=by
    simp only[ao.l,fT,oy]at hE
    rw[<-hE.1];exact RK.rM k x
   subst h1
   exact .inr ⟨b,off,arr,ty,fz,ha,hI,(λe=>by cases e),hh,hE⟩
theorem gz.DD{s:Nat}{E:ao}(h:E.l=[]):gz .dx (.sl s E false):=by
 intro c w v hv
 exact⟨none,0,by rw[h];exact hv,by rw[h];exact aO _,.inl h⟩
theorem gz.Kp{s:Nat}{E:ao}(h:E.l=[]):gz .emp (.sl s E false):=by
 intro c w v hv
 obtain⟨a,hv,_⟩:=hv
 exact⟨a,0,by rw[h];exact hv,by rw[h];exact aO _,.inl h⟩
def Bn:List (Nat×Nat×Nat)->List (Nat×Nat×Nat)->Bool
 |[],[]=>true
 |(a,b,c)::l,(x,y,z)::m=>bT a x&&(bT b y&&(bT c z&&Bn l m))
 |_,_=>false
def tC:List iw->List iw->Bool
 |[],[]=>true
 |.ptr a b c::l,.ptr x y z::m=>bT a x&&(bT b y&&(bT c z&&tC l m))
 |.fn f ps::l,.fn g qs::m=>bT f g&&(Bn ps qs&&tC l m)
 |_,_=>false
theorem xB:∀{l m:List (Nat×Nat×Nat)},Bn l m=true->l=m
 |[],[],_=>rfl
 |(a,b,c)::l,(x,y,z)::m,h=>by
  simp only[Bn,aE]at h
  rw[bE h.1,bE h.2.1,bE h.2.2.1,xB h.2.2.2]
 |[],_::_,h=>by simp[Bn]at h
 |_::_,[],h=>by simp[Bn]at h
theorem zB:∀{l m:List iw},tC l m=true->l=m:=by
 intro l
 induction l with
 |nil=>intro m h;cases m with
  |nil=>rfl
  |cons _ _=>simp[tC]at h
 |cons a l ih=>
  intro m h
  cases m with
  |nil=>cases a<;>simp[tC]at h
  |cons b m=>
   cases a<;>cases b<;>simp only[tC,aE,aN]at h
   ·rw[bE h.1,bE h.2.1,bE h.2.2.1,ih h.2.2.2]
   ·rw[bE h.1,xB h.2.1,ih h.2.2]
def Bo:CT->D->Bool
 |.int k,.int j _=>decide (j=k)
 |.bool,.bool _=>true
 |.str,.str _=>true
 |.ints k,.sl _ E _=>(match E.toI k with|some _=>true|none=>false)
 |.bu,.sl _ E _=>(match E.toB with|some _=>true|none=>false)
 |.av k,.sl _ E _=>(match E.toR k with|some _=>true|none=>false)
 |.ints _,.dx=>true
 |.bu,.dx=>true
 |.av _,.dx=>true
 |.ints _,.emp=>true
 |.bu,.emp=>true
 |.av _,.emp=>true
 |.row i,.all r=>bT r i
 |.nil,.sl s (.gen []) false=>bT s 0
 |.IB,.dx=>true
 |.self _,.iN=>true
 |.gn f cs,.gn g ds=>bT g f&&tC ds cs
 |.self i,.c9 r=>bT r i
 |.self i,.ptr r o f=>bT r i&&(bT o 0&&bT f 0)
 |.pt i a b,.ptr r o f=>bT r i&&(bT o a&&bT f b)
 |_,_=>false
inductive PT where
 |one (t:CT)
 |agg (ts:List CT)
 |ptr (i:Nat)
 |gn (f:Nat) (cs:List iw)
inductive RT where
 |box (ty sz:Nat) (ts:List CT)
 |arr (ty sz:Nat) (t:CT)
def Kq:List CT->List D->Bool
 |[],[]=>true
 |t::ts,d::ds=>Bo t d&&Kq ts ds
 |_,_=>false
def u7:PT->D->Bool
 |.agg ts,.agg cs=>Kq ts cs
 |.one t,d=>Bo t d
 |.ptr i,.ptr r j o=>bT r i&&(bT j 0&&bT o 0)
 |.gn f cs,.gn g ds=>bT g f&&tC ds cs
 |_,_=>false
def Ie:PT->D->D
 |.agg ts,d=>.agg (wv ts d.cells 0)
 |.one t,d=>DQ t d
 |.ptr i,_=>.ptr i 0 0
 |.gn f cs,_=>.gn f cs
def BG:List PT->List D->Bool
 |[],[]=>true
 |s::l,d::ds=>u7 s d&&BG l ds
 |_,_=>false
def mr:List PT->List D->Nat->List D
 |[],_,_=>[]
 |s::l,args,i=>Ie s (args.getD i .dead)::mr l args (i+1)
def Row.cs(r:Row):List D:=match r.es with|.gen [e]=>e|_=>[]
def u9:RT->Row->Bool
 |.box ty sz ts,⟨true,j0,kG,.gen [e]⟩=>bT j0 ty&&(bT kG sz&&Kq ts e)
 |.arr ty sz t,⟨false,j0,kG,E⟩=>bT j0 ty&&(bT kG sz&&(match toCT t E with|some _=>true|none=>false))
 |_,_=>false
def R3(t:CT)(E:ao):ao:=match t with
 |.ints k=>.ints k (match E.toI k with|some l=>l|none=>[])
 |.bu=>.bu (match E.toB with|some l=>l|none=>[])
 |.av k=>.av k (match E.toR k with|some l=>l|none=>[])
 |_=>.gen []
theorem xaC{t:CT}{E E':ao}(h:toCT t E=some E'):R3 t E=E':=by
 cases t with
 |ints k=>
  simp only[toCT]at h
  split at h
  ·rename_i l hl
   cases h
   show ao.ints k (match E.toI k with|some l=>l|none=>[])=_
   rw[hl]
  ·cases h
 |bu=>
  simp only[toCT]at h
  split at h
  ·rename_i l hl
   cases h
   show ao.bu (match E.toB with|some l=>l|none=>[])=_
   rw[hl]
  ·cases h
 |av k=>
  simp only[toCT]at h
  split at h
  ·rename_i l hl
   cases h
   show ao.av k (match E.toR k with|some l=>l|none=>[])=_
   rw[hl]
  ·cases h
 |_=>simp[toCT]at h
def Ai:RT->Row->Row
 |.box ty sz ts,r=>⟨true,ty,sz,.gen [wv ts r.cs 0]⟩
 |.arr ty sz t,r=>⟨false,ty,sz,R3 t r.es⟩
def BH:List RT->List Row->Bool
 |[],[]=>true
 |s::l,r::rs=>u9 s r&&BH l rs
 |_,_=>false
def lG:List RT->List Row->Nat->List Row
 |[],_,_=>[]
 |s::l,rows,i=>Ai s (rows.getD i default)::lG l rows (i+1)
def aq(args:List D)(i:Nat):Int:=(args.getD i .dead).toInt
def wa(args:List D)(i:Nat):Bool:=(args.getD i .dead).toBool
def iq(args:List D)(i:Nat):List UInt8:=(args.getD i .dead).toStr
def ei(k:IntKind)(args:List D)(i:Nat):List Int:=nK k (args.getD i .dead)
def Jam(args:List D)(i:Nat):List Bool:=Nx (args.getD i .dead)
def jj(k:RK)(args:List D)(i:Nat):List (RK.T k):=tI k (args.getD i .dead)
def od(rows:List Row)(i j:Nat):D:=((rows.getD i default).cs.getD j .dead)
def gk(k:IntKind)(rows:List Row)(i:Nat):List Int:=match(rows.getD i default).es.toI k with|some l=>l|none=>[]
def jQ(k:RK)(rows:List Row)(i:Nat):List (RK.T k):=match(rows.getD i default).es.toR k with|some l=>l|none=>[]
theorem Z97{t:CT}{d:D}(h:Bo t d=true):gz d (DQ t d):=by
 cases t<;>cases d<;>(try(simp[Bo]at h;done))
 case int.int=>simp[Bo]at h;subst h;exact gz.rfl
 case nil.sl s E fr=>
  unfold Bo at h
  split at h<;>simp_all
  exact gz.rfl
 case IB.dx=>exact gz.rfl
 case bool.bool=>exact gz.rfl
 case str.str=>exact gz.rfl
 case ints.sl k sz E fr=>
  simp only[Bo]at h
  split at h
  ·rename_i l hl
   simp only[DQ,nK,hl]
   exact gz.ints hl
  ·cases h
 case ints.dx=>exact gz.DD rfl
 case ints.emp=>exact gz.Kp rfl
 case bu.sl sz E fr=>
  simp only[Bo]at h
  split at h
  ·rename_i l hl
   simp only[DQ,Nx,hl]
   exact gz.bu hl
  ·cases h
 case bu.dx=>exact gz.DD rfl
 case bu.emp=>exact gz.Kp rfl
 case av.sl k sz E fr=>
  simp only[Bo]at h
  split at h
  ·rename_i l hl
   simp only[DQ,tI,hl]
   exact gz.av hl
  ·cases h
 case av.dx=>exact gz.DD rfl
 case av.emp=>exact gz.Kp rfl
 case row.all i r=>rw[bE h];exact gz.rfl
 case gn.gn f cs g ds=>
  simp only[Bo,aE]at h
  rw[bE h.1,zB h.2]
  exact gz.rfl
 case self.iN i=>exactλc w v hv=>.inl hv
 case self.c9 i r=>rw[bE h];exact gz.rfl
 case self.ptr i r o f=>
  simp only[Bo,aE]at h
  rw[bE h.1,bE h.2.1,bE h.2.2]
  exactλc w v hv=>.inr hv
 case pt.ptr i a b r o f=>
  simp only[Bo,aE]at h
  rw[bE h.1,bE h.2.1,bE h.2.2]
  exact gz.rfl
theorem Qxj:∀{ts:List CT} {pre ds:List D},Kq ts ds=true->jI ds (wv ts (pre++ds) pre.length)
 |[],pre,[],_=>trivial
 |t::ts,pre,d::ds,h=>by
  simp only[Kq,aE]at h
  have h2:=Qxj (pre:=pre++[d]) h.2
  simp only[wv]
  refine⟨?_,by simpa using h2⟩
  have:(pre++d::ds).getD pre.length .dead=d:=by simp[aK]
  rw[this];exact Z97 h.1
 |[],_,_::_,h=>by simp[Kq]at h
 |_::_,_,[],h=>by simp[Kq]at h
theorem tB.of1{d e:D}(hd:∀cs,d≠.agg cs)(h:gz d e):tB d e:=by
 cases d<;>first|exact h|exact absurd rfl (hd _)
theorem Zq8{s:PT}{d:D}(h:u7 s d=true):tB d (Ie s d):=by
 unfold u7 at h
 split at h
 ·rename_i ts cs
  exact Qxj (pre:=[]) h
 ·rename_i t d
  refine tB.of1 (λcs e=>?_) (Z97 h)
  subst e
  cases t<;>simp[Bo]at h
 ·rename_i i r j o
  simp only[aE]at h
  rw[bE h.1,bE h.2.1,bE h.2.2]
  exact gz.rfl
 ·rename_i f cs g ds
  simp only[aE]at h
  rw[bE h.1,zB h.2]
  exact gz.rfl
 ·cases h
theorem Qx8:∀{l:List PT} {pre ds:List D},BG l ds=true->DC ds (mr l (pre++ds) pre.length)
 |[],pre,[],_=>trivial
 |s::l,pre,d::ds,h=>by
  simp only[BG,aE]at h
  have h2:=Qx8 (pre:=pre++[d]) h.2
  simp only[mr]
  refine⟨?_,by simpa using h2⟩
  have:(pre++d::ds).getD pre.length .dead=d:=by simp[aK]
  rw[this];exact Zq8 h.1
 |[],_,_::_,h=>by simp[BG]at h
 |_::_,_,[],h=>by simp[BG]at h
def tD(a b:Row):Prop:=b.box=a.box/\b.ty=a.ty/\b.sz=a.sz/\b.es.l.length=a.es.l.length/\match a.box with
 |true=>∃e e',a.es=.gen [e]/\b.es=.gen [e']/\e'.length=e.length/\jI e e'
 |false=>b.es.l=a.es.l
theorem jI.length:∀{ds es:List D},jI ds es->ds.length=es.length
 |[],[],_=>rfl
 |_::_,_::_,h=>by simp[jI.length h.2]
 |[],_::_,h=>h.elim
 |_::_,[],h=>h.elim
theorem Zq3{s:RT}{r:Row}(h:u9 s r=true):tD r (Ai s r):=by
 unfold u9 at h
 split at h
 ·rename_i ty sz ts j0 kG e
  simp only[aE]at h
  have h3:=Qxj (pre:=[]) h.2.2
  have hl:=h3.length
  exact⟨rfl,(bE h.1).symm,(bE h.2.1).symm,rfl,_,_,rfl,rfl,hl.symm,h3⟩
 ·rename_i ty sz t j0 kG E
  simp only[aE]at h
  obtain⟨h1,h2,h3⟩:=h
  split at h3
  ·rename_i E' hE
   have he:=ao.AA (NM hE)
   have hc:Ai (.arr ty sz t) ⟨false,j0,kG,E⟩=⟨false,ty,sz,E'⟩:=by simp[Ai,xaC hE]
   rw[hc]
   exact⟨rfl,(bE h1).symm,(bE h2).symm,by simp only[he],he.symm⟩
  ·cases h3
 ·cases h
theorem Qss:∀{l:List RT} {pre rs:List Row},BH l rs=true->rs.length=l.length/\∀(i:Nat) r,rs[i]?=some r->∃r',(lG l (pre++rs) pre.length)[i]?=some r'/\tD r r'
 |[],pre,[],_=>⟨rfl,λi r h=>by simp at h⟩
 |s ::l,pre,r::rs,h=>by
  simp only[BH,aE]at h
  obtain⟨h1,h2⟩:=Qss (pre:=pre++[r]) h.2
  refine⟨by simp[h1],λi q hq=>?_⟩
  cases i with
  |zero=>
   simp at hq;subst hq
   have:(pre++r::rs).getD pre.length default=r:=by simp[aK]
   exact⟨_,by simp only[lG,this];rfl,Zq3 h.1⟩
  |succ i=>
   obtain⟨q',g1,g2⟩:=h2 i q (by simpa using hq)
   refine⟨q',?_,g2⟩
   simp only[lG,List.getElem?_cons_succ]
   simpa using g1
 |[],_,_::_,h=>by simp[BH]at h
 |_::_,_,[],h=>by simp[BH]at h
theorem VK:∀{l:List RT} {rows:List Row} {i:Nat},(lG l rows i).length=l.length
 |[],_,_=>rfl
 |s::l,rows,i=>by simp[lG,VK]
theorem yB{d:D}:d.mK (λr=>r) true=d:=by
 cases d with
 |gn f cs=>simp only[D.mK,ZQ]
 |_=>simp[D.mK]
theorem VL:∀{ds:List D},D.mL (λr=>r) true ds=ds
 |[]=>rfl
 |d::l=>by simp[D.mL,yB,VL (ds:=l)]
theorem qaS{d:D}:d.ji (λr=>r) true=d:=by
 cases d with
 |agg cs=>show D.agg (D.mL _ true cs)=_;rw[VL]
 |gn f cs=>exact yB (d:=.gn f cs)
 |_=>simp[D.ji,D.mK]
theorem jI.cells{c:Ctx}{w:World}:∀{ds es:List D} {arr:Array Value} {off:Nat},jI ds es->kO c w ds arr off->kO c w es arr off
 |[],[],_,_,_,_=>trivial
 |d::l,e::m,_,_,h,⟨⟨v,hv,h1⟩,h2⟩=>⟨⟨v,hv,h.1 _ _ _ h1⟩,jI.cells h.2 h2⟩
 |[],_::_,_,_,h,_=>h.elim
 |_::_,[],_,_,h,_=>h.elim
theorem Zdy{c1 c2:Ctx}{w:World}(hn:Ey (λ_=>True) (λr=>r) true c1 c2)(hI:∀b,c1.I b->c2.I b):∀{ds:List D} {vs:List Value},kh c1 w ds vs->kh c2 w ds vs
 |[],[],_=>trivial
 |d::ds,v::vs,h=>⟨by have:=Z2 hn (flat:=False) (.inl hI) (λ_ _=>trivial) (λe=>e.elim) h.1;rwa [qaS]at this,Zdy hn hI h.2⟩
 |[],_::_,h=>h.elim
 |_::_,[],h=>h.elim
theorem kj.Kr{P:Program}{f:FuncId}{args nE:List D}{rows lq:List Row}{res:D}{aj:List Row}(hs:DC args nE)(hl:lq.length=rows.length)(hr:∀(i:Nat) r,rows[i]?=some r->∃r',lq[i]?=some r'/\tD r r')(h:kj P f nE lq res aj):kj P f args rows res aj:=by
 intro c w vs hm hb hR ha
 let c2:Ctx:={c with R:=λr=>lq[r]? }
 have R4:∀r row,c.R r=some row->∃ak,c2.R r=some ak/\tD row ak:=λr row cg=>by
  rw[hR]at cg;exact hr r row cg
 have wc:∀r ak,c2.R r=some ak->∃row,c.R r=some row/\tD row ak:=λr ak cg=>by
  have cg:lq[r]?=some ak:=cg
  have cj:=(List.getElem?_eq_some_iff.1 cg).1
  have h1:rows[r]?=some rows[r]:=cG (by omega)
  obtain⟨jA,g1,g2⟩:=hr r _ h1
  rw[cg]at g1;cases g1
  exact⟨_,by rw[hR];exact h1,g2⟩
 have hn:Ey (λ_=>True) (λr=>r) true c c2:=⟨λi row _ cg=>by
  obtain⟨ak,g1,g2,g3,g4,g5,_⟩:=R4 i row cg
  exact⟨ak,g1,g2,g3,g4,g5,rfl,Iff.rfl⟩,λ_=>aO _,aO _⟩
 have Cf:Mem c2 w:=by
  refine⟨λr ak cg=>?_,λr s x y h1 h2 v1 v2 he=>?_,λb iK=>⟨(hm.fu b iK).1,λr x h1 v=>?_⟩,hm.top,hm.kR⟩
  ·obtain⟨row,g1,g2,g3,g4,g5,g6⟩:=wc r ak cg
   rcases hm.row r row g1 with⟨k1,k2,k3,k4⟩|⟨k1,arr,k2,k3,k4⟩
   ·refine .inl ⟨k1,g2.trans k2,?_,by rw[g4];exact k4⟩
    rw[k2]at g6;simp only at g6;rw[g6,k3]
   ·refine .inr ⟨k1,arr,by rw[g3];exact k2,by rw[g4];exact k3,?_⟩
    rw[g2,g4]
    cases w7:row.box with
    |false=>
     simp only[w7,aN,if_false]at k4 g6⊢
     rw[g6];exact k4
    |true=>
     simp only[w7,if_true]at k4 g6⊢
     obtain⟨e,e',q1,q2,q3,q4⟩:=g6
     obtain⟨e0,p1,p2,p3,p4⟩:=k4
     rw[q1]at p1;cases p1
     refine⟨e',q2,by rw[q3];exact p2,p3,?_⟩
     have:=Ve hn (flat:=False) (.inl λb hb=>hb) (λ_ _=>trivial) (λe=>e.elim) (jI.cells q4 p4)
     rwa [VL]at this
  ·obtain⟨x',g1,_⟩:=wc r x h1
   obtain⟨y',g2,_⟩:=wc s y h2
   exact hm.inj r s x' y' g1 g2 v1 v2 he
  ·obtain⟨x',g1,_⟩:=wc r x h1
   exact(hm.fu b iK).2 r x' g1 v
 refine(h c2 w vs Cf hb (λr=>rfl) (Zdy hn (λb h=>h) (DC.rep hs ha))).mono λe w' hq=>?_
 obtain⟨v,c',he,hx,j4,hv⟩:=hq
 refine⟨v,c',he,⟨hx.mem,⟨hx.cf.base,hx.cf.top,hx.cf.I,λr row cg=>?_⟩,hx.fr.mono λb _ ⟨r,x,h1,h2,h3⟩=>?_,hx.fu,λr ak h1 h2=>?_⟩,j4,hv⟩
 ·obtain⟨jA,g1,g2,g3,g4,g5,g6⟩:=R4 r row cg
  obtain⟨ak,k1,k2,k3,k4,k5,k6,k7,k8⟩:=hx.cf.R r jA g1
  exact⟨ak,k1,k2.trans g2,k3.trans g3,k4.trans g4,k5.trans g5,k6,k7,λnv arr ha=>by rw[<-g3]at ha⊢;exact k8 nv arr ha⟩
 ·obtain⟨x',g1,_⟩:=wc r x h1
  exact⟨r,x',g1,h2,h3⟩
 ·rcases hx.ov r ak h1 h2 with⟨⟨x,nQ⟩,h3,h4⟩|h3
  ·obtain⟨x',g1,_⟩:=wc r x nQ
   exact .inl ⟨⟨x',g1⟩,h3,h4⟩
  ·exact .inr h3
theorem sR.Kr{P:Program}{f:FuncId}{k:Nat}{args nE:List D}{rows lq:List Row}{res:D}{aj:List Row}(hs:DC args nE)(hl:lq.length=rows.length)(hr:∀(i:Nat) r,rows[i]?=some r->∃r',lq[i]?=some r'/\tD r r')(h:sR P f k nE lq res aj):sR P f k args rows res aj:=by
 intro c w vs hm hb hR ha
 let c2:Ctx:={c with R:=λr=>lq[r]? }
 have R4:∀r row,c.R r=some row->∃ak,c2.R r=some ak/\tD row ak:=λr row cg=>by
  rw[hR]at cg;exact hr r row cg
 have wc:∀r ak,c2.R r=some ak->∃row,c.R r=some row/\tD row ak:=λr ak cg=>by
  have cg:lq[r]?=some ak:=cg
  have cj:=(List.getElem?_eq_some_iff.1 cg).1
  have h1:rows[r]?=some rows[r]:=cG (by omega)
  obtain⟨jA,g1,g2⟩:=hr r _ h1
  rw[cg]at g1;cases g1
  exact⟨_,by rw[hR];exact h1,g2⟩
 have hn:Ey (λ_=>True) (λr=>r) true c c2:=⟨λi row _ cg=>by
  obtain⟨ak,g1,g2,g3,g4,g5,_⟩:=R4 i row cg
  exact⟨ak,g1,g2,g3,g4,g5,rfl,Iff.rfl⟩,λ_=>aO _,aO _⟩
 have Cf:Mem c2 w:=by
  refine⟨λr ak cg=>?_,λr s x y h1 h2 v1 v2 he=>?_,λb iK=>⟨(hm.fu b iK).1,λr x h1 v=>?_⟩,hm.top,hm.kR⟩
  ·obtain⟨row,g1,g2,g3,g4,g5,g6⟩:=wc r ak cg
   rcases hm.row r row g1 with⟨k1,k2,k3,k4⟩|⟨k1,arr,k2,k3,k4⟩
   ·refine .inl ⟨k1,g2.trans k2,?_,by rw[g4];exact k4⟩
    rw[k2]at g6;simp only at g6;rw[g6,k3]
   ·refine .inr ⟨k1,arr,by rw[g3];exact k2,by rw[g4];exact k3,?_⟩
    rw[g2,g4]
    cases w7:row.box with
    |false=>
     simp only[w7,aN,if_false]at k4 g6⊢
     rw[g6];exact k4
    |true=>
     simp only[w7,if_true]at k4 g6⊢
     obtain⟨e,e',q1,q2,q3,q4⟩:=g6
     obtain⟨e0,p1,p2,p3,p4⟩:=k4
     rw[q1]at p1;cases p1
     refine⟨e',q2,by rw[q3];exact p2,p3,?_⟩
     have:=Ve hn (flat:=False) (.inl λb hb=>hb) (λ_ _=>trivial) (λe=>e.elim) (jI.cells q4 p4)
     rwa [VL]at this
  ·obtain⟨x',g1,_⟩:=wc r x h1
   obtain⟨y',g2,_⟩:=wc s y h2
   exact hm.inj r s x' y' g1 g2 v1 v2 he
  ·obtain⟨x',g1,_⟩:=wc r x h1
   exact(hm.fu b iK).2 r x' g1 v
 refine(h c2 w vs Cf hb (λr=>rfl) (Zdy hn (λb h=>h) (DC.rep hs ha))).mono (λb hb=>hb) λe w' hq=>?_
 obtain⟨v,c',he,hx,j4,hv⟩:=hq
 rw[hl]at hx
 refine⟨v,c',he,⟨hx.mem,⟨hx.cf.base,hx.cf.top,hx.cf.I,λr row cg=>?_⟩,hx.fr.mono λb _ ⟨r,x,h1,h2,h3⟩=>?_,λb hb=>?_,λr ak h1 h2=>?_⟩,j4,hv⟩
 ·obtain⟨q,j7,Dq,rfl⟩:=ox cg
  obtain⟨jA,g1,g2,g3,g4,g5,g6⟩:=R4 r j7 Dq
  obtain⟨ak,k1,k2,k3,k4,k5,k6,k7,k8⟩:=hx.cf.R r (jA.kill _) (by simp only[Ctx.kill];rw[if_neg (by rw[q];simp),g1];rfl)
  obtain⟨s1,s2,s3,s4⟩:=wC (bK k (rows.length-k)) j7
  obtain⟨t1,t2,t3,t4⟩:=wC (bK k (rows.length-k)) jA
  refine⟨ak,k1,k2.trans (t1.trans (g2.trans s1.symm)),k3.trans (t2.trans (g3.trans s2.symm)),k4.trans (t3.trans (g4.trans s3.symm)),k5.trans (t4.trans (g5.trans s4.symm)),k6,k7,λnv arr ha=>?_⟩
  rw[s2]at ha⊢
  have:=k8 nv arr (by rw[t2,g3];exact ha)
  rw[t2,g3]at this
  exact this
 ·obtain⟨x',g1,_⟩:=wc r x h1
  exact⟨r,x',g1,h2,h3⟩
 ·rcases hx.fu b hb with h|⟨s,x,h1,h2,h3,h4⟩|h
  ·exact .inl h
  ·obtain⟨x',g1,_⟩:=wc s x h2
   exact .inr (.inl ⟨s,x',h1,g1,h3,h4⟩)
  ·exact .inr (.inr h)
 ·rcases hx.ov r ak h1 h2 with⟨⟨x,nQ⟩,h3,h4⟩|⟨s,x,q1,q2,q3,q4⟩|h3
  ·obtain⟨x',g1,_⟩:=wc r x nQ
   exact .inl ⟨⟨x',g1⟩,h3,h4⟩
  ·obtain⟨x',g1,_⟩:=wc s x q2
   exact .inr (.inl ⟨s,x',q1,g1,q3,q4⟩)
  ·exact .inr (.inr h3)
def EN(f:FuncId)(refs:List Bool)(flat:Bool)(sig:List PT)(dt:List RT){α:Type}(v:List D->List Row->α)(enc:α->D)(out:α->List Row):bc:=
 ⟨f,refs,flat,λargs rows=>match BG sig args&&BH dt rows with|true=>.abs α (v args rows) enc out|false=>.no,none,false⟩
def mW(f:FuncId)(refs:List Bool)(flat:Bool)(sig:List PT)(dt:List RT)(pre:List D->List Row->Prop){α:Type}(v:List D->List Row->α)(enc:α->D)(out:α->List Row):bc:=
 ⟨f,refs,flat,λargs rows=>match BG sig args&&BH dt rows with|true=>.lV (pre args rows) α (v args rows) enc out|false=>.no,none,false⟩
def bc.fz(x:bc):bc:={x with py:=true}
theorem M3{P:Program}{x:bc}(h:bn P x):bn P x.fz:=⟨h.enters,h.real,h.ok,h.when,h.abs,h.lV,h.QC,h.HK⟩
def VM(k:Nat)(f:FuncId)(refs:List Bool)(sig:List PT)(dt:List RT){α:Type}(v:List D->List Row->α)(enc:α->D)(out:α->List Row):bc:=
 ⟨f,refs,false,λargs rows=>match BG sig args&&BH dt rows with|true=>.abs α (v args rows) enc out|false=>.no,some k,false⟩
def mh(k:Nat)(f:FuncId)(refs:List Bool)(sig:List PT)(dt:List RT)(pre:List D->List Row->Prop){α:Type}(v:List D->List Row->α)(enc:α->D)(out:α->List Row):bc:=
 ⟨f,refs,false,λargs rows=>match BG sig args&&BH dt rows with|true=>.lV (pre args rows) α (v args rows) enc out|false=>.no,some k,false⟩
def ao.Aj:ao->Bool
 |.gen _=>false
 |.av k _=>k.kX
 |_=>true
theorem ao.tE{E:ao}(h:E.Aj=true):E.Ga:=by
 cases E with
 |gen es=>simp[ao.Aj]at h
 |av k l=>exact h
 |_=>trivial
def DE:D->Bool|.sl _ E fr=>fr&&E.Aj|.iv _ _ _ _=>false|.gn _ _=>false|_=>true
def DF:List D->Bool|[]=>true|d::l=>DE d&&DF l
def Ks:D->Bool|.agg cs=>DF cs|d=>DE d
def Gn:List D->Bool|[]=>true|d::l=>Ks d&&Gn l
def wm:D->Bool|.du ds=>Gn ds|d=>Ks d
def jK:List Row->Bool
 |[]=>true
 |⟨true,_,_,.gen [e]⟩::l=>DF e&&jK l
 |⟨false,_,_,E⟩::l=>E.Aj&&jK l
 |_=>false
theorem R5{d:D}(h:DE d=true):QM d:=by
 cases d<;>first|trivial|(simp[DE]at h;done)|skip
 case sl sz E fr=>simp only[DE,aE]at h;exact⟨.inr h.1,ao.tE h.2⟩
theorem VN:∀{ds:List D},DF ds=true->MN ds
 |[],_=>trivial
 |d::l,h=>by simp only[DF,aE]at h;exact⟨R5 h.1,VN h.2⟩
theorem qaD{d:D}(h:Ks d=true):Vd d:=by
 cases d with
 |agg cs=>exact VN h
 |sl a b c=>exact R5 (d:=.sl a b c) h
 |iv a b c e=>exact R5 (d:=.iv a b c e) h
 |_=>trivial
theorem vB:∀{ds:List D},Gn ds=true->Gb ds
 |[],_=>trivial
 |d::l,h=>by simp only[Gn,aE]at h;exact⟨qaD h.1,vB h.2⟩
theorem zad{d:D}(h:wm d=true):FF d:=by
 cases d with
 |du ds=>exact vB h
 |agg cs=>exact VN h
 |sl a b c=>exact R5 (d:=.sl a b c) h
 |iv a b c e=>exact R5 (d:=.iv a b c e) h
 |_=>trivial
theorem VO:∀{rs:List Row},jK rs=true->rL rs
 |[],_=>trivial
 |⟨true,_,_,.gen [e]⟩::l,h=>by
  simp only[jK,aE]at h
  refine⟨?_,VO h.2⟩
  simp only[J0,if_true,ao.l,List.mem_singleton,forall_eq]
  exact VN h.1
 |⟨false,_,_,E⟩::l,h=>by
  simp only[jK,aE]at h
  refine⟨?_,VO h.2⟩
  simp only[J0,aN,if_false]
  exact ao.tE h.1
 |⟨true,_,_,.gen []⟩::l,h=>by simp[jK]at h
 |⟨true,_,_,.gen (_::_::_)⟩::l,h=>by simp[jK]at h
 |⟨true,_,_,.ints _ _⟩::l,h=>by simp[jK]at h
 |⟨true,_,_,.bu _⟩::l,h=>by simp[jK]at h
 |⟨true,_,_,.av _ _⟩::l,h=>by simp[jK]at h
theorem xad{P:Program}{f:FuncId}{sig:List PT}{dt:List RT}{args:List D}{rows:List Row}{res:D}{out:List Row}(hs:(BG sig args&&BH dt rows)=true)(h:kj P f (mr sig args 0) (lG dt rows 0) res out):kj P f args rows res out:=by
 simp only[aE]at hs
 obtain⟨h1,h2⟩:=Qss (pre:=[]) hs.2
 exact kj.Kr (Qx8 (pre:=[]) hs.1) (by rw[VK,h1]) h2 h
theorem qae{P:Program}{f:FuncId}{refs:List Bool}{flat:Bool}{sig:List PT}{dt:List RT}{α:Type}{v:List D->List Row->α}{enc:α->D}{out:α->List Row}(he:∀args w,(callFunc f args).run P w=.ok (.enter f args) w)(h:∀args rows,kj P f (mr sig args 0) (lG dt rows 0) (enc (v args rows)) (out (v args rows)))
 (hf:flat=true->∀X,(wm (enc X)&&jK (out X))=true) (hy:bJ f YB=true:=by rfl):bn P (EN f refs flat sig dt v enc out):=by
 refine⟨λ_=>he,λ_=>lE hy,λ_ args rows r r' hm=>?_,λ_ args rows p r r' hm=>?_,λ_ args rows α' v' r r' hm=>?_,λ_ args rows p α' v' r r' hm=>?_,λk hk=>(by cases hk),λk hk=>(by cases hk)⟩
 ·simp only[EN]at hm
  split at hm<;>cases hm
 ·simp only[EN]at hm
  split at hm<;>cases hm
 ·simp only[EN]at hm
  split at hm
  ·rename_i hs
   cases hm
   exact⟨xad hs (h args rows),λe=>by have:=hf e (v args rows);simp only[aE]at this;exact⟨zad this.1,VO this.2⟩⟩
  ·cases hm
 ·simp only[EN]at hm
  split at hm<;>cases hm
theorem M4{P:Program}{f:FuncId}{refs:List Bool}{flat:Bool}{sig:List PT}{dt:List RT}{pre:List D->List Row->Prop}{α:Type}{v:List D->List Row->α}{enc:α->D}{out:α->List Row}(he:∀args w,(callFunc f args).run P w=.ok (.enter f args) w)(h:∀args rows,pre args rows->kj P f (mr sig args 0) (lG dt rows 0) (enc (v args rows)) (out (v args rows)))
 (hf:flat=true->∀X,(wm (enc X)&&jK (out X))=true) (hy:bJ f YB=true:=by rfl):bn P (mW f refs flat sig dt pre v enc out):=by
 refine⟨λ_=>he,λ_=>lE hy,λ_ args rows r r' hm=>?_,λ_ args rows p r r' hm=>?_,λ_ args rows α' v' r r' hm=>?_,λ_ args rows p α' v' r r' hm hp=>?_,λk hk=>(by cases hk),λk hk=>(by cases hk)⟩
 ·simp only[mW]at hm
  split at hm<;>cases hm
 ·simp only[mW]at hm
  split at hm<;>cases hm
 ·simp only[mW]at hm
  split at hm<;>cases hm
 ·simp only[mW]at hm
  split at hm
  ·rename_i hs
   cases hm
   exact⟨xad hs (h args rows hp),λe=>by have:=hf e (v args rows);simp only[aE]at this;exact⟨zad this.1,VO this.2⟩⟩
  ·cases hm
theorem qC{P:Program}{f:FuncId}{k:Nat}{sig:List PT}{dt:List RT}{args:List D}{rows:List Row}{res:D}{out:List Row}(hs:(BG sig args&&BH dt rows)=true)(h:sR P f k (mr sig args 0) (lG dt rows 0) res out):sR P f k args rows res out:=by
 simp only[aE]at hs
 obtain⟨h1,h2⟩:=Qss (pre:=[]) hs.2
 exact sR.Kr (Qx8 (pre:=[]) hs.1) (by rw[VK,h1]) h2 h
theorem zaS{P:Program}{k:Nat}{f:FuncId}{refs:List Bool}{sig:List PT}{dt:List RT}{α:Type}{v:List D->List Row->α}{enc:α->D}{out:α->List Row}(he:f<YB->∀args w,(callFunc f args).run P w=.ok (.enter f args) w)(h:∀args rows,sR P f k (mr sig args 0) (lG dt rows 0) (enc (v args rows)) (out (v args rows))):
 bn P (VM k f refs sig dt v enc out):=by
 refine⟨he,λhk=>(by cases hk),λhk=>(by cases hk),λhk=>(by cases hk),λhk=>(by cases hk),λhk=>(by cases hk),λk' hk args rows α' v' r r' hm=>?_,λk' hk args rows p α' v' r r' hm hp=>?_⟩
 ·cases hk
  simp only[VM]at hm
  split at hm
  ·rename_i hs
   cases hm
   exact qC hs (h args rows)
  ·cases hm
 ·simp only[VM]at hm
  split at hm<;>cases hm
theorem zaD{P:Program}{k:Nat}{f:FuncId}{refs:List Bool}{sig:List PT}{dt:List RT}{pre:List D->List Row->Prop}{α:Type}{v:List D->List Row->α}{enc:α->D}{out:α->List Row}(he:f<YB->∀args w,(callFunc f args).run P w=.ok (.enter f args) w)(h:∀args rows,pre args rows->sR P f k (mr sig args 0) (lG dt rows 0) (enc (v args rows)) (out (v args rows))):
 bn P (mh k f refs sig dt pre v enc out):=by
 refine⟨he,λhk=>(by cases hk),λhk=>(by cases hk),λhk=>(by cases hk),λhk=>(by cases hk),λhk=>(by cases hk),λk' hk args rows α' v' r r' hm=>?_,λk' hk args rows p α' v' r r' hm hp=>?_⟩
 ·simp only[mh]at hm
  split at hm<;>cases hm
 ·cases hk
  simp only[mh]at hm
  split at hm
  ·rename_i hs
   cases hm
   exact qC hs (h args rows hp)
  ·cases hm
def df{α β:Type}(v:α)(m:α->β):β:=m v
def oQ(α:Type)(x y:α):Prop:=x=y
abbrev rE{α:Type}(x:α):Prop:=x=x
abbrev zM:au:={B4:={X:={a0:=0,a1:=0,a2:=0,a3:=0,a4:=0,a5:=0,a6:=0,a7:=0,a8:=0,a9:=0,kz:=0,kA:=0,a12:=0,kB:=0,kC:=0,kD:=0},Pc:=0,B7:={a0:=0,a1:=0,a2:=0,a3:=0,a4:=0,a5:=0,a6:=0,a7:=0}},Mem:=[],A7:={D5:=[]},B2:={D7:=false,C7:=0,D6:=false},B1:={ag:=0,C4:=0,Frame:=0,C0:=0,D8:=0,B9:=0,B5:=0,C1:=[]},C6:={Frame:=0,F1:=0,C8:=false,C2:=0,B8:=false,F4:=0},A6:={C9:=0,C5:=0},A4:=0,A9:=false,B0:=false}
abbrev mE(m:au)(P Q:Prop):Prop:=rE m.B4.X.a0/\rE m.B4.X.a1/\rE m.B4.X.a2/\rE m.B4.X.a3/\rE m.B4.X.a4/\rE m.B4.X.a5/\rE m.B4.X.a6/\rE m.B4.X.a7/\rE m.B4.X.a8/\rE m.B4.X.a9/\rE m.B4.X.kz/\rE m.B4.X.kA/\rE m.B4.X.a12/\rE m.B4.X.kB/\rE m.B4.X.kC/\rE m.B4.X.kD/\rE m.B4.Pc/\rE m.B4.B7.a0/\rE m.B4.B7.a1/\rE m.B4.B7.a2/\rE m.B4.B7.a3/\rE m.B4.B7.a4/\rE m.B4.B7.a5/\rE m.B4.B7.a6/\rE m.B4.B7.a7/\P/\rE m.A7.D5/\rE m.B2.D7/\rE m.B2.C7/\rE m.B2.D6/\rE m.B1.ag/\rE m.B1.C4/\rE m.B1.Frame/\rE m.B1.C0/\rE m.B1.D8/\rE m.B1.B9/\rE m.B1.B5/\rE m.B1.C1/\rE m.C6.Frame/\rE m.C6.F1/\rE m.C6.C8/\rE m.C6.C2/\rE m.C6.B8/\rE m.C6.F4/\rE m.A6.C9/\rE m.A6.C5/\rE m.A4/\rE m.A9/\rE m.B0/\Q
abbrev mR(f:Nat->D)(M:List Int):au:=(⟨(⟨(⟨(f 0).toInt,(f 1).toInt,(f 2).toInt,(f 3).toInt,(f 4).toInt,(f 5).toInt,(f 6).toInt,(f 7).toInt,(f 8).toInt,(f 9).toInt,(f 10).toInt,(f 11).toInt,(f 12).toInt,(f 13).toInt,(f 14).toInt,(f 15).toInt⟩:(iV Int)),(f 16).toInt,(⟨(f 17).toInt,(f 18).toInt,(f 19).toInt,(f 20).toInt,(f 21).toInt,(f 22).toInt,(f 23).toInt,(f 24).toInt⟩:(A8 Int))⟩:bj),M,(⟨(f 26).toStr⟩:iW),(⟨(f 27).toBool,(f 28).toInt,(f 29).toBool⟩:iX),(⟨(f 30).toInt,(f 31).toInt,(f 32).toInt,(f 33).toInt,(f 34).toInt,(f 35).toInt,(f 36).toInt,(f 37).toStr⟩:fp),(⟨(f 38).toInt,(f 39).toInt,(f 40).toBool,(f 41).toInt,(f 42).toBool,(f 43).toInt⟩:ia),(⟨(f 44).toInt,(f 45).toInt⟩:gv),(f 46).toInt,(f 47).toBool,(f 48).toBool⟩:au)
abbrev mD(x:au)(d:D):List D:=[.int u32 x.B4.X.a0,.int u32 x.B4.X.a1,.int u32 x.B4.X.a2,.int u32 x.B4.X.a3,.int u32 x.B4.X.a4,.int u32 x.B4.X.a5,.int u32 x.B4.X.a6,.int u32 x.B4.X.a7,.int u32 x.B4.X.a8,.int u32 x.B4.X.a9,.int u32 x.B4.X.kz,.int u32 x.B4.X.kA,.int u32 x.B4.X.a12,.int u32 x.B4.X.kB,.int u32 x.B4.X.kC,.int u32 x.B4.X.kD,.int u32 x.B4.Pc,.int u32 x.B4.B7.a0,.int u32 x.B4.B7.a1,.int u32 x.B4.B7.a2,.int u32 x.B4.B7.a3,.int u32 x.B4.B7.a4,.int u32 x.B4.B7.a5,.int u32 x.B4.B7.a6,.int u32 x.B4.B7.a7,d,.str x.A7.D5,.bool x.B2.D7,.int u32 x.B2.C7,.bool x.B2.D6,.int u32 x.B1.ag,.int u32 x.B1.C4,.int u32 x.B1.Frame,.int i64 x.B1.C0,.int i64 x.B1.D8,.int u32 x.B1.B9,.int u32 x.B1.B5,.str x.B1.C1,.int u32 x.C6.Frame,.int u32 x.C6.F1,.bool x.C6.C8,.int u32 x.C6.C2,.bool x.C6.B8,.int u32 x.C6.F4,.int u32 x.A6.C9,.int u32 x.A6.C5,.int u64 x.A4,.bool x.A9,.bool x.B0]
abbrev mB(f:Nat->D):List D:=[f 0,f 1,f 2,f 3,f 4,f 5,f 6,f 7,f 8,f 9,f 10,f 11,f 12,f 13,f 14,f 15,f 16,f 17,f 18,f 19,f 20,f 21,f 22,f 23,f 24,f 25,f 26,f 27,f 28,f 29,f 30,f 31,f 32,f 33,f 34,f 35,f 36,f 37,f 38,f 39,f 40,f 41,f 42,f 43,f 44,f 45,f 46,f 47,f 48]
abbrev rZ:Prop:=rE (0:Nat)/\rE (0:Nat)
abbrev nR(k:RK)(n:Nat)(x:List (RK.T k)):Prop:=(ao.Nil (ao.av k x)\/rE n)/\rE x
abbrev aC(l:List D)(n:Nat):List D:=(l.getD n .dead).cells
theorem oR{p:Prop}(h:p:=by((subst_vars;first|trivial|assumption|omega|((simp(config:={decide:=true,failIfUnchanged:=false}) only[aE,Bool.or_eq_true,Bool.and_eq_false_iff,Bool.or_eq_false_iff,Bool.not_eq_true',Bool.not_eq_false',Bool.not_eq_true,Bool.not_eq_false,decide_eq_true_eq,decide_eq_false_iff_not,Q59,Q3a,Q56,Q39,beq_iff_eq,beq_eq_false_iff_ne,bne_iff_ne,bne_eq_false_iff_eq,ne_eq,List.all_cons,List.all_nil,D.plain,List.length_cons,List.length_nil,lA,List.length_set,List.length_replicate,wrap_i64,wrap_u64,wrap_u32,wrap_i32,wrap_u8,true_and,and_true,or_false,false_or,or_true,true_or,not_true_eq_false,not_false_eq_true,Prod.fst,Prod.snd]at*);first|done|assumption|omega)|((simp(config:={decide:=true,failIfUnchanged:=false}) only[aE,Bool.or_eq_true,Bool.and_eq_false_iff,Bool.or_eq_false_iff,Bool.not_eq_true',Bool.not_eq_false',Bool.not_eq_true,Bool.not_eq_false,decide_eq_true_eq,decide_eq_false_iff_not,Q59,Q3a,Q56,Q39,beq_iff_eq,beq_eq_false_iff_ne,bne_iff_ne,bne_eq_false_iff_eq,ne_eq,List.all_cons,List.all_nil,D.plain,List.length_cons,List.length_nil,lA,List.length_set,List.length_replicate,wrap_i64,wrap_u64,wrap_u32,wrap_i32,wrap_u8,true_and,and_true,or_false,false_or,or_true,true_or,not_true_eq_false,not_false_eq_true,Prod.fst,Prod.snd]at*);simp only[<-List.length_pos_iff]at*;omega)|(simp_all;done)|(have:= @Qhd;simp_all;try omega)))):p:=h
def run{α β:Type}[Inhabited β](F:α->α⊕β):Nat->α->β
 |0,_=>default
 |k+1,a=>match F a with|.inl a'=>run F k a'|.inr b=>b
theorem xaD{α β:Type}[Inhabited β]{F:α->α⊕β}{P:α->Prop}{R:β->Prop}{μ:α->Nat}(h:∀a,P a->match F a with|.inl a'=>P a'/\μ a'<μ a|.inr b=>R b):∀k a,P a->μ a<k->R (run F k a):=by
 intro k
 induction k with
 |zero=>intro a _ hk;omega
 |succ k ih=>
  intro a ha hk
  have:=h a ha
  unfold run
  split at this
  ·rename_i a' he;exact ih a' this.1 (by omega)
  ·exact this
inductive Tree:Type->Type 1 where
 |lf {β:Type} (x:β):Tree β
 |nx {β:Type} (f:Prop) (x:β) (h:f:=by first|trivial|(simp[oQ];done)|decide|(simp only[and_true,true_and,or_true,true_or,and_self];done)|((repeat'(first|exact True.intro|apply And.intro|exact rfl|exact Or.inr rfl));done)):Tree β
 |br {β:Type} (c:Bool) (t e:Tree β):Tree β
 |cn {β:Type} (c:Bool) (t:Tree β):Tree β
 |fl {β:Type} (c:Bool) (t:Tree β):Tree β
 |an {β:Type} (p:Prop) (t:Tree β):Tree β
 |lv {α β:Type} (x:α) (k:α->Tree β):Tree β
 |lp {α β:Type} (d:Inhabited β) (n:Nat) (f:Prop) (x:α) (t:α->Tree (α⊕β)) (h:f:=by first|trivial|(simp[oQ];done)|decide|(simp only[and_true,true_and,or_true,true_or,and_self];done)|((repeat'(first|exact True.intro|apply And.intro|exact rfl|exact Or.inr rfl));done)):Tree β
def Tree.m{β:Type}:Tree β->β
 |.lf x=>x
 |.nx _ x _=>x
 |.br c t e=>cond c t.m e.m
 |.cn _ t=>t.m
 |.fl _ t=>t.m
 |.an _ t=>t.m
 |.lv x k=>df x λy=>(k y).m
 |.lp _ n _ x t _=>run (λy=>(t y).m) n x
def mv{α β:Type}(B:α->(α⊕β->Prop)->Prop)(W:β->Prop)(n:Nat)(y:α):Prop:=
 match n with
 |0=>False
 |k+1=>B y (iI (λz=>mv B W k z) W)
termination_by n
theorem Z5x{α β:Type}{B:α->(α⊕β->Prop)->Prop}{W:β->Prop}{y:α}:mv B W 0 y=False:=by rw[mv]
theorem Ni{α β:Type}{B:α->(α⊕β->Prop)->Prop}{W:β->Prop}{k:Nat}{y:α}:mv B W (k+1) y=B y (iI (λz=>mv B W k z) W):=by rw[mv]
def Tree.w{β:Type}:Tree β->(β->Prop)->Prop
 |.lf x,W=>W x
 |.nx _ x _,W=>W x
 |.br c t e,W=>DT c (t.w W) (e.w W)
 |.cn c t,W=>cr c (t.w W)
 |.fl c t,W=>DT c False (t.w W)
 |.an p t,W=>p/\t.w W
 |.lv x k,W=>∀y,y=x->(k y).w W
 |.lp _ n _ x t _,W=>mv (λy V=>(t y).w V) W n x
def Tree.q{β:Type}:Tree β->(β->Prop)->Prop
 |.lf x,L=>L x
 |.nx f x _,L=>L x/\f
 |.br c t e,L=>DT c (t.q L) (e.q L)
 |.cn c t,L=>cr c (t.q L)
 |.fl c t,L=>DT c False (t.q L)
 |.an p t,L=>p/\t.q L
 |.lv x k,L=>∀y,y=x->(k y).q L
 |.lp (α:=α) _ _ f x t _,L=>∃(wE:α->Prop),∃(ν:α->Nat),wE x/\f/\∀y,wE y->(t y).q (iI (λz=>wE z/\ν z<ν y) L)
theorem Tree.main{β:Type}(t:Tree β):∀{W L E:β->Prop},(∀x,W x->E x->L x)->t.w W->E t.m->t.q L:=by
 induction t with
 |lf x=>intro W L E h hw he;exact h x hw he
 |nx f x hf=>intro W L E h hw he;exact⟨h x hw he,hf⟩
 |br c t e Kt Ku=>
  intro W L E h hw he
  cases c with
  |true=>exact Kt h hw he
  |false=>exact Ku h hw he
 |cn c t ih=>intro W L E h hw he;exact db.2 ⟨(db.1 hw).1,ih h (db.1 hw).2 he⟩
 |fl c t ih=>
  intro W L E h hw he
  cases c with
  |true=>exact hw.elim
  |false=>exact ih h hw he
 |an p t ih=>intro W L E h hw he;exact⟨hw.1,ih h hw.2 he⟩
 |lv x k ih=>intro W L E h hw he y hy;subst hy;exact ih y h (hw y rfl) he
 |lp d n f x t hf ih=>
  intro W L E h hw he
  have H:∀k y,mv (λy V=>(t y).w V) W k y->E (@run _ _ d (λy=>(t y).m) k y)->∃j,j<k/\k=j+1:=by
   intro k y h1 _
   cases k with
   |zero=>rw[Z5x]at h1;exact h1.elim
   |succ k=>exact⟨k,Nat.lt_succ_self k,rfl⟩
  let P:Nat->_->Prop:=λk y=>mv (λy V=>(t y).w V) W k y/\E (@run _ _ d (λy=>(t y).m) k y)
  have least:∀y,(∃k,P k y)->∃k,P k y/\∀j,P j y->k<=j:=by
   intro y ⟨k,hk⟩
   induction k using Nat.strongRecOn with
   |ind k ihk=>
    by_cases hj:∃j,j<k/\P j y
    ·obtain⟨j,h1,h2⟩:=hj;exact ihk j h1 h2
    ·exact⟨k,hk,λj h2=>Nat.le_of_not_lt λh1=>hj ⟨j,h1,h2⟩⟩
  have ch:∃ν:_->Nat,∀y,(∃k,P k y)->P (ν y) y/\∀j,P j y->ν y<=j:=Classical.axiomOfChoice (r:=λy k=>(∃k,P k y)->P k y/\∀j,P j y->k<=j) λy=>by
   by_cases hy:∃k,P k y
   ·obtain⟨k,hk⟩:=least y hy;exact⟨k,λ_=>hk⟩
   ·exact⟨0,λh=>absurd h hy⟩
  obtain⟨ν,hν⟩:=ch
  refine⟨λy=>∃k,P k y,ν,⟨n,hw,he⟩,hf,λy hy=>?_⟩
  have R6:=hν y hy
  generalize sC:ν y=k0 at R6
  obtain⟨⟨h1,h2⟩,_⟩:=R6
  obtain⟨j,_,rfl⟩:=H k0 y h1 h2
  rw[Ni]at h1
  refine ih y (E:=iI (λz=>E (@run _ _ d (λy=>(t y).m) j z)) E) ?_ h1 ?_
  ·intro z hz1 hz2
   cases z with
   |inl z=>
    have hz:∃k,P k z:=⟨j,hz1,hz2⟩
    refine⟨hz,?_⟩
    have:=(hν z hz).2 j ⟨hz1,hz2⟩
    show ν z<j+1
    omega
   |inr z=>exact h z hz1 hz2
  ·unfold run at h2
   cases hF:(t y).m with
   |inl z=>rw[hF]at h2;exact h2
   |inr z=>rw[hF]at h2;exact h2
abbrev Tree.p{β:Type}(t:Tree β):Prop:=t.w λ_=>True
theorem Tree.main'{β:Type}{t:Tree β}{L:β->Prop}(hw:t.p)(h:L t.m):t.q L:=t.main (λ_ _ h=>h) hw h
theorem Tree.mono{β:Type}(t:Tree β):∀{W V:β->Prop},(∀x,W x->V x)->t.w W->t.w V:=by
 induction t with
 |lf x=>intro W V h hw;exact h x hw
 |nx f x hf=>intro W V h hw;exact h x hw
 |br c t e Kt Ku=>
  intro W V h hw
  cases c with
  |true=>exact Kt h hw
  |false=>exact Ku h hw
 |cn c t ih=>intro W V h hw;exact db.2 ⟨(db.1 hw).1,ih h (db.1 hw).2⟩
 |fl c t ih=>
  intro W V h hw
  cases c with
  |true=>exact hw.elim
  |false=>exact ih h hw
 |an p t ih=>intro W V h hw;exact⟨hw.1,ih h hw.2⟩
 |lv x k ih=>intro W V h hw y hy;exact ih y h (hw y hy)
 |lp d n f x t hf ih=>
  intro W V h hw
  revert x
  show∀x,mv (λy V=>(t y).w V) W n x->mv (λy V=>(t y).w V) V n x
  induction n with
  |zero=>intro x hw;rw[Z5x]at hw;exact hw.elim
  |succ n ihn=>
   intro x hw
   rw[Ni]at hw⊢
   refine ih x (λz hz=>?_) hw
   cases z with
   |inl z=>exact ihn z hz
   |inr z=>exact h z hz
theorem Tree.post{β:Type}(t:Tree β):∀{W:β->Prop},t.w W->W t.m:=by
 induction t with
 |lf x=>intro W hw;exact hw
 |nx f x hf=>intro W hw;exact hw
 |br c t e Kt Ku=>
  intro W hw
  cases c with
  |true=>exact Kt hw
  |false=>exact Ku hw
 |cn c t ih=>intro W hw;exact ih (db.1 hw).2
 |fl c t ih=>
  intro W hw
  cases c with
  |true=>exact hw.elim
  |false=>exact ih hw
 |an p t ih=>intro W hw;exact ih hw.2
 |lv x k ih=>intro W hw;exact ih x (hw x rfl)
 |lp d n f x t hf ih=>
  intro W hw
  revert x
  show∀x,mv (λy V=>(t y).w V) W n x->W (@run _ _ d (λy=>(t y).m) n x)
  induction n with
  |zero=>intro x hw;rw[Z5x]at hw;exact hw.elim
  |succ n ihn=>
   intro x hw
   rw[Ni]at hw
   have:=ih x hw
   unfold run
   cases hF:(t x).m with
   |inl z=>rw[hF]at this;exact ihn z this
   |inr z=>rw[hF]at this;exact this
theorem Tree.pp{β:Type}{t:Tree β}{W:β->Prop}(h:t.w W):t.p/\W t.m:=⟨t.mono (λ_ _=>trivial) h,t.post h⟩
section
variable {α β:Type} {W:β->Prop} {c:Bool} {t e:Tree β}
theorem fe{x:β}(h:W x):(Tree.lf x).w W:=h
theorem ff{f:Prop}{x:β}{hf:f}(h:W x):(Tree.nx f x hf).w W:=h
theorem aa(h:c=true->t.w W)(g:c=false->e.w W):(Tree.br c t e).w W:=Zfx.2 ⟨h,g⟩
theorem ay(h:c=true)(g:t.w W):(Tree.cn c t).w W:=db.2 ⟨h,g⟩
theorem Wo(h:c=false)(g:t.w W):(Tree.fl c t).w W:=Zfx.2 ⟨λe=>(by rw[h]at e;cases e),λ_=>g⟩
theorem cz{p:Prop}(h:p)(g:t.w W):(Tree.an p t).w W:=⟨h,g⟩
theorem ar{x:α}{k:α->Tree β}(h:∀y,y=x->(k y).w W):(Tree.lv x k).w W:=h
theorem fy{d:Inhabited β}{n:Nat}{f:Prop}{x:α}{k:α->Tree (α⊕β)}{hf:f}{inv:α->Prop}{μ:α->Nat}(h:inv x)(hn:μ x<n)(g:∀y,inv y->(k y).w (iI (λz=>inv z/\μ z<μ y) W)):(Tree.lp d n f x k hf).w W:=by
 show mv (λy V=>(k y).w V) W n x
 revert x
 induction n with
 |zero=>intro x h hn;omega
 |succ n ih=>
  intro x h hn
  rw[Ni]
  refine(k x).mono (λz hz=>?_) (g x h)
  cases z with
  |inl z=>exact ih hz.1 (by have:=hz.2;omega)
  |inr z=>exact hz
end
theorem wL{β:Type}{x:β}:(Tree.lf x).p:=trivial
theorem wB{β:Type}{c:Bool}{t e:Tree β}(h:t.p)(g:e.p):(Tree.br c t e).p:=by cases c<;>assumption
structure we(T:fq)(G:List bc)(L:Code->St->(Ex->St->Prop)->Prop)(fn:Func)(args:List D)(rows:List Row)(ds:List pk)(Q:D->List Row->Prop):Prop where
 h:nF T G L fn args rows λd R=>sq rows.length ds d R Q
theorem we.of{T:fq}{G:List bc}{L:Code->St->(Ex->St->Prop)->Prop}{fn:Func}{args:List D}{rows:List Row}{ds:List pk}{Q:D->List Row->Prop}{p:Prop}(e:(nF T G L fn args rows λd R=>sq rows.length ds d R Q)=p)(hl:p):we T G L fn args rows ds Q:=⟨by rw[e];exact hl⟩
theorem we.calls{P:Program}(hD:sj P){T:fq}(hT:jB P T){G:List bc}(hG:jZ P G){f:FuncId}{fn:Func}(hf:P.funcs[f]?=some fn){args:List D}{rows:List Row}{res:D}{aj:List Row}
 {rf:Option Nat} (nB:∀code,fn.body=some code->RF rf fn.ntmps code) {L:Code->St->(Ex->St->Prop)->Prop} (hL:∀code st Q,RF rf fn.ntmps code->L code st Q->Tr P fn.ntmps rows.length code st Q) {ds:List pk} (h:we T G L fn args rows ds λr o=>r=res/\o=aj):kj P f args rows res aj:=
 zaQ hD hT hG hf nB hL (λd R hQ=>by obtain⟨r,o,⟨rfl,rfl⟩,hE⟩:=Z89 hQ;exact hE) h.h
structure tF(T:fq)(G:List bc)(L:Code->St->(Ex->St->Prop)->Prop)(fn:Func)(args:List D)(rows:List Row)(k:Nat)(ds:List pk)(Q:D->List Row->Prop):Prop where
 h:Ka T G L fn args rows (λd R=>sq k ds d R Q) k
theorem tF.of{T:fq}{G:List bc}{L:Code->St->(Ex->St->Prop)->Prop}{fn:Func}{args:List D}{rows:List Row}{k:Nat}{ds:List pk}{Q:D->List Row->Prop}{p:Prop}(e:(Ka T G L fn args rows (λd R=>sq k ds d R Q) k)=p)(hl:p):tF T G L fn args rows k ds Q:=⟨by rw[e];exact hl⟩
theorem tF.calls{P:Program}(hD:sj P){T:fq}(hT:jB P T){G:List bc}(hG:jZ P G){f:FuncId}{fn:Func}{args:List D}{rows:List Row}{k:Nat}{res:D}{aj:List Row}{rf:Option Nat}(hf:uZ P f fn (sL (pL args++lj rows)=true/\rf=none))(nB:∀code,fn.body=some code->RF rf fn.ntmps code)
 {L:Code->St->(Ex->St->Prop)->Prop} (hL:∀ro,(ro=none\/rf=none)->∀code st Q,RF rf fn.ntmps code->L code st Q->ub ro P fn.ntmps k code st Q) {ds:List pk} (h:tF T G L fn args rows k ds λr o=>r=res/\o=aj):sR P f k args rows res aj:=
 xaQ hD hT hG hf nB hL (λd R hQ=>by obtain⟨r,o,⟨rfl,rfl⟩,hE⟩:=Z89 hQ;exact hE) h.h
section
variable {P:Program} {T:fq} {G:List bc} {f:FuncId} {fn:Func} {refs:List Bool} {flat:Bool} {sig:List PT} {dt:List RT} {pre:List D->List Row->Prop} {β:Type} {v:List D->List Row->β} {enc:β->D} {out:β->List Row}
theorem uZ.imp{cl cl':Prop}(h:uZ P f fn cl)(g:cl->cl'):uZ P f fn cl':=by
 cases h with
 |real a b c=>exact .real a b c
 |yield a y d b c e f g1 g2 h i=>exact .yield a y d b c e f g1 g2 h (g i)
 |u5 a y q b c e f g1 h i j k=>exact .u5 a y q b c e f g1 h i j (g k)
theorem Z9s(rf:Option Nat)(nB:∀code,fn.body=some code->RF rf fn.ntmps code)(hD:sj P)(hT:jB P T)(hG:jZ P G)(hf:P.funcs[f]?=some fn)(t:List D->List Row->Tree β)(ds:List pk)(h8:List (Nat×bw))(dep:Nat)
 (hn:∀args rows Q,(nF T G (Cl T G fn.ntmps dt.length h8 rf dep) fn (mr sig args 0) (lG dt rows 0) λd R=>sq dt.length ds d R Q)=(t args rows).q λX=>Q (enc X) (out X)) (hv:∀args rows,(t args rows).m=v args rows) {args:List D} {rows:List Row} (hp:(t args rows).p):
 kj P f (mr sig args 0) (lG dt rows 0) (enc (v args rows)) (out (v args rows)):=by
 have e:(lG dt rows 0).length=dt.length:=VK
 refine we.calls hD hT hG hf nB (L:=Cl T G fn.ntmps dt.length h8 rf dep) (λcode st Q hc hl=>by rw[e];exact wG hD hT hG (.inl rfl) dep _ _ _ hc hl) (ds:=ds) ⟨?_⟩
 rw[e,hn]
 refine Tree.main' hp ?_
 rw[hv]
 exact⟨rfl,rfl⟩
theorem Zl(rf:Option Nat)(nB:∀code,fn.body=some code->RF rf fn.ntmps code){k:Nat}(hD:sj P)(hT:jB P T)(hG:jZ P G)(hf:uZ P f fn ((∀args rows,sL (pL (mr sig args 0)++lj (lG dt rows 0))=true)/\rf=none))(t:List D->List Row->Tree β)(ds:List pk)(h8:List (Nat×bw))(dep:Nat)
 (hn:∀args rows Q,(Ka T G (Cl T G fn.ntmps k h8 rf dep) fn (mr sig args 0) (lG dt rows 0) (λd R=>sq k ds d R Q) k)=(t args rows).q λX=>Q (enc X) (out X)) (hv:∀args rows,(t args rows).m=v args rows) {args:List D} {rows:List Row} (hp:(t args rows).p):
 sR P f k (mr sig args 0) (lG dt rows 0) (enc (v args rows)) (out (v args rows)):=by
 refine tF.calls hD hT hG (hf.imp λh=>⟨h.1 args rows,h.2⟩) nB (L:=Cl T G fn.ntmps k h8 rf dep) (λro DV=>wG hD hT hG DV dep) (ds:=ds) ⟨?_⟩
 rw[hn]
 refine Tree.main' hp ?_
 rw[hv]
 exact⟨rfl,rfl⟩
theorem qaE(rf:Option Nat)(nB:∀code,fn.body=some code->RF rf fn.ntmps code)(hD:sj P)(hT:jB P T)(hG:jZ P G)(hf:P.funcs[f]?=some fn)(he:∀args w,(callFunc f args).run P w=.ok (.enter f args) w)(t:List D->List Row->Tree β)(ds:List pk)(h8:List (Nat×bw))(dep:Nat)
 (hn:∀args rows Q,(nF T G (Cl T G fn.ntmps dt.length h8 rf dep) fn (mr sig args 0) (lG dt rows 0) λd R=>sq dt.length ds d R Q)=(t args rows).q λX=>Q (enc X) (out X)) (hv:∀args rows,(t args rows).m=v args rows)
 (hp:∀args rows,pre args rows->(t args rows).p) (jU:flat=true->∀X,(wm (enc X)&&jK (out X))=true) (hy:bJ f YB=true:=by rfl):bn P (mW f refs flat sig dt pre v enc out):=
 M4 he (λargs rows hw=>Z9s rf nB hD hT hG hf t ds h8 dep hn hv (hp _ _ hw)) jU hy
theorem wo(hD:sj P)(hT:jB P T)(hG:jZ P G)(hf:P.funcs[f]?=some fn)(he:∀args w,(callFunc f args).run P w=.ok (.enter f args) w)(t:List D->List Row->Tree β)(ds:List pk)(h8:List (Nat×bw))(dep:Nat)
 (hn:∀args rows Q,(nF T G (LL T G fn.ntmps dt.length h8 dep) fn (mr sig args 0) (lG dt rows 0) λd R=>sq dt.length ds d R Q)=(t args rows).q λX=>Q (enc X) (out X):=by intro _ _ _;kernel_rfl) (hv:∀args rows,(t args rows).m=v args rows:=by exactλ_ _=>rfl)
 (hp:∀args rows,pre args rows->(t args rows).p:=by exactλ_ _ h=>h) (jU:flat=true->∀X,(wm (enc X)&&jK (out X))=true:=by intro _ _;kernel_rfl) (hy:bJ f YB=true:=by rfl):bn P (mW f refs flat sig dt pre v enc out):=
 qaE none (λ_ _=>trivial) hD hT hG hf he t ds h8 dep hn hv hp jU hy
theorem zaE(rf:Option Nat)(nB:∀code,fn.body=some code->RF rf fn.ntmps code)(hD:sj P)(hT:jB P T)(hG:jZ P G)(hf:P.funcs[f]?=some fn)(he:∀args w,(callFunc f args).run P w=.ok (.enter f args) w)(t:List D->List Row->Tree β)(ds:List pk)(h8:List (Nat×bw))(dep:Nat)
 (hn:∀args rows Q,(nF T G (Cl T G fn.ntmps dt.length h8 rf dep) fn (mr sig args 0) (lG dt rows 0) λd R=>sq dt.length ds d R Q)=(t args rows).q λX=>Q (enc X) (out X)) (hv:∀args rows,(t args rows).m=v args rows)
 (hp:∀args rows,(t args rows).p) (jU:flat=true->∀X,(wm (enc X)&&jK (out X))=true) (hy:bJ f YB=true:=by rfl):bn P (EN f refs flat sig dt v enc out):=
 qae he (λargs rows=>Z9s rf nB hD hT hG hf t ds h8 dep hn hv (hp _ _)) jU hy
theorem Q1(hD:sj P)(hT:jB P T)(hG:jZ P G)(hf:P.funcs[f]?=some fn)(he:∀args w,(callFunc f args).run P w=.ok (.enter f args) w)(t:List D->List Row->Tree β)(ds:List pk)(h8:List (Nat×bw))(dep:Nat)
 (hn:∀args rows Q,(nF T G (LL T G fn.ntmps dt.length h8 dep) fn (mr sig args 0) (lG dt rows 0) λd R=>sq dt.length ds d R Q)=(t args rows).q λX=>Q (enc X) (out X):=by intro _ _ _;kernel_rfl) (hv:∀args rows,(t args rows).m=v args rows:=by exactλ_ _=>rfl)
 (hp:∀args rows,(t args rows).p:=by intro _ _;exact Tree.wq (by kernel_rfl)) (jU:flat=true->∀X,(wm (enc X)&&jK (out X))=true:=by intro _ _;kernel_rfl) (hy:bJ f YB=true:=by rfl):bn P (EN f refs flat sig dt v enc out):=
 zaE none (λ_ _=>trivial) hD hT hG hf he t ds h8 dep hn hv hp jU hy
theorem zV(rf:Option Nat)(nB:∀code,fn.body=some code->RF rf fn.ntmps code){k:Nat}(hD:sj P)(hT:jB P T)(hG:jZ P G)(hf:uZ P f fn ((∀args rows,sL (pL (mr sig args 0)++lj (lG dt rows 0))=true)/\rf=none))(he:f<YB->∀args w,(callFunc f args).run P w=.ok (.enter f args) w)(t:List D->List Row->Tree β)(ds:List pk)(h8:List (Nat×bw))(dep:Nat)
 (hn:∀args rows Q,(Ka T G (Cl T G fn.ntmps k h8 rf dep) fn (mr sig args 0) (lG dt rows 0) (λd R=>sq k ds d R Q) k)=(t args rows).q λX=>Q (enc X) (out X)) (hv:∀args rows,(t args rows).m=v args rows)
 (hp:∀args rows,pre args rows->(t args rows).p):bn P (mh k f refs sig dt pre v enc out):=
 zaD he (λargs rows hw=>Zl rf nB hD hT hG hf t ds h8 dep hn hv (hp _ _ hw))
theorem EF{k:Nat}(hD:sj P)(hT:jB P T)(hG:jZ P G)(hf:P.funcs[f]?=some fn)(he:∀args w,(callFunc f args).run P w=.ok (.enter f args) w)(t:List D->List Row->Tree β)(ds:List pk)(h8:List (Nat×bw))(dep:Nat)
 (hn:∀args rows Q,(Ka T G (LL T G fn.ntmps k h8 dep) fn (mr sig args 0) (lG dt rows 0) (λd R=>sq k ds d R Q) k)=(t args rows).q λX=>Q (enc X) (out X)) (hv:∀args rows,(t args rows).m=v args rows)
 (hp:∀args rows,pre args rows->(t args rows).p) (hy:bJ f YB=true:=by rfl) (hb:Nat.ble YB fn.nfree=false:=by rfl):bn P (mh k f refs sig dt pre v enc out):=
 zV none (λ_ _=>trivial) hD hT hG (.real (lE hy) hf hb) (λ_=>he) t ds h8 dep hn hv hp
theorem xC(h:bn P (mW f refs flat sig dt pre v enc out)){args:List D}{rows:List Row}(hs:(BG sig args&&BH dt rows)=true)(hw:pre args rows):kj P f args rows (enc (v args rows)) (out (v args rows)):=
 (h.lV rfl args rows (pre args rows) β (v args rows) enc out (by simp only[mW,hs]) hw).1
end
def Tree.ri{β:Type}:Tree β->Bool
 |.lf _=>true
 |.br _ t e=>t.ri&&e.ri
 |.lv x k=>(k x).ri
 |_=>false
theorem Tree.wq{β:Type}{t:Tree β}(h:t.ri=true):t.p:=by
 induction t with
 |lf x=>trivial
 |br c t e Kt Ku=>
  simp only[Tree.ri,aE]at h
  cases c with
  |true=>exact Kt h.1
  |false=>exact Ku h.2
 |lv x k ih=>intro y hy;subst hy;exact ih _ h
 |_=>simp[Tree.ri]at h
theorem jZ.nil{P:Program}:jZ P []:=λx hx=>by cases hx
theorem jZ.cons{P:Program}{x:bc}{G:List bc}(h:bn P x)(g:jZ P G):jZ P (x::G):=λy hy=>by
 simp only[List.mem_cons]at hy
 rcases hy with rfl|hy
 ·exact h
 ·exact g y hy

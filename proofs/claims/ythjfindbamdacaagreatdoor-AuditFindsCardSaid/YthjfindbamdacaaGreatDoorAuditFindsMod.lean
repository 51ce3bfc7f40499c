import Derived.Test.YthjfindbamdacaaGreatDoorAuditFindsFc
open Nat renaming blt->bJ,beq->bT,le_refl->aO
open List renaming map_cons->fR,getD->aK,getElem?_eq_getElem->cG,range'->bK,all_cons->iF,all_nil->iG,length_cons->dI,length_nil->dJ,length_set->dH,length_replicate->cV
open Bool renaming false_eq_true->aN,or_eq_true->aI,and_eq_false_iff->iA,or_eq_false_iff->iB,not_eq_true'->aS,not_eq_false'->iC,not_eq_true->iD,not_eq_false->iE
open Sum renaming elim->iH
set_option linter.all false
namespace Go.GD
open Go
open Go.IntKind(i64 u32 u64 wrap_i64 wrap_u32 wrap_u64 wrap_u8 wrap_i32)
def lk(st:St)(t:Nat):D:=look st.env t
def rN(st:St)(t:Nat):Nat:=lz (look st.env t) 1000000
def cT(st:St)(t j:Nat):D:=iQ st.rows (lz (look st.env t) 1000000) j
def rX(st:St)(t k:Nat):Nat:=lz (look st.env t) (st.rows.length+k)
theorem Qhq{α:Type}{l:List α}(h:l≠[]):0<l.length:=by cases l<;>simp_all
theorem Q5d{a b:Nat}:bJ a b=true↔a<b:=by simp[bJ,Nat.lt_iff_add_one_le]
theorem Q3a{a b:Nat}:bJ a b=false↔ ¬a<b:=by have:= @Q5d a b;cases h:bJ a b<;>simp_all
theorem Q55{a b:Nat}:bT a b=true↔a=b:=iff_of_eq Nat.beq_eq
theorem Q39{a b:Nat}:bT a b=false↔ ¬a=b:=by have:= @Q55 a b;cases h:bT a b<;>simp_all
def gz(d e:D):Prop:=∀c w v,cu c w d v->cu c w e v
def jF:List D->List D->Prop
 |[],[]=>True
 |d::l,e::m=>gz d e/\jF l m
 |_,_=>False
def tg:D->D->Prop
 |.agg cs,.agg ds=>jF cs ds
 |.agg _,_=>False
 |d,e=>gz d e
def Dn:List D->List D->Prop
 |[],[]=>True
 |d::l,e::m=>tg d e/\Dn l m
 |_,_=>False
theorem gz.rfl{d:D}:gz d d:=λ_ _ _ h=>h
theorem gz.ints{k:IntKind}{s:Nat}{E:ao}{fr:Bool}{l:List Int}(h:E.toI k=some l):gz (.sl s E fr) (.sl 1 (.ints k l) false):=by
 intro c w v hv
 have he:=ao.toI_l h
 obtain⟨a,cap,hv,hc,ij⟩:=hv
 rw[he]at hv hc ij
 refine⟨a,cap,hv,hc,?_⟩
 rcases ij with ij|⟨b,off,arr,ty,fz,ha,hI,hf,hh,hE⟩
 ·exact .inl ij
 ·cases l with
  |nil=>exact .inl (by simp[ao.l])
  |cons n l=>
   have h1:s=1:=by
    simp only[ao.l,fR,pM,oi]at hE
    exact hE.1.symm
   subst h1
   exact .inr ⟨b,off,arr,ty,fz,ha,hI,(λe=>by cases e),hh,hE⟩
theorem gz.bo{s:Nat}{E:ao}{fr:Bool}{l:List Bool}(h:E.toB=some l):gz (.sl s E fr) (.sl 1 (.bo l) false):=by
 intro c w v hv
 have he:=ao.toB_l h
 obtain⟨a,cap,hv,hc,ij⟩:=hv
 rw[he]at hv hc ij
 refine⟨a,cap,hv,hc,?_⟩
 rcases ij with ij|⟨b,off,arr,ty,fz,ha,hI,hf,hh,hE⟩
 ·exact .inl ij
 ·cases l with
  |nil=>exact .inl (by simp[ao.l])
  |cons n l=>
   have h1:s=1:=by
    simp only[ao.l,fR,pM,oi]at hE
    exact hE.1.symm
   subst h1
   exact .inr ⟨b,off,arr,ty,fz,ha,hI,(λe=>by cases e),hh,hE⟩
theorem jF.rep{c:Ctx}{w:World}:∀{ds es:List D} {vs:List Value},jF ds es->jm c w ds vs->jm c w es vs
 |[],[],[],_,_=>trivial
 |d::l,e::m,v::vs,h,hr=>⟨h.1 _ _ _ hr.1,jF.rep h.2 hr.2⟩
 |[],_::_,_,h,_=>h.elim
 |_::_,[],_,h,_=>h.elim
 |[],[],_::_,_,hr=>hr.elim
 |_::_,_::_,[],_,hr=>hr.elim
theorem tg.rep{c:Ctx}{w:World}{d e:D}{v:Value}(h:tg d e)(hr:VRep c w d v):VRep c w e v:=by
 cases d with
 |agg cs=>
  cases e with
  |agg ds=>obtain⟨vs,hv,hx⟩:=hr;exact⟨vs,hv,jF.rep h hx⟩
  |_=>exact h.elim
 |_=>
  have h1:=VRep.toC (λcs e=>by cases e) hr
  have h2:gz _ e:=h
  exact VRep.EL (h2 _ _ _ h1)
theorem Dn.rep{c:Ctx}{w:World}:∀{ds es:List D} {vs:List Value},Dn ds es->kb c w ds vs->kb c w es vs
 |[],[],[],_,_=>trivial
 |d::l,e::m,v::vs,h,hr=>⟨tg.rep h.1 hr.1,Dn.rep h.2 hr.2⟩
 |[],_::_,_,h,_=>h.elim
 |_::_,[],_,h,_=>h.elim
 |[],[],_::_,_,hr=>hr.elim
 |_::_,_::_,[],_,hr=>hr.elim
theorem Q3.sub{P:Program}{f:FuncId}{args nw:List D}{rows:List Row}{res:D}{aj:List Row}(hs:Dn args nw)(h:Q3 P f nw rows res aj):Q3 P f args rows res aj:=
 λc w vs hm hb hR ha=>h c w vs hm hb hR (Dn.rep hs ha)
theorem gz.av{k:RK}{s:Nat}{E:ao}{fr:Bool}{l:List (RK.T k)}(h:E.toR k=some l):gz (.sl s E fr) (.sl k.size (.av k l) false):=by
 intro c w v hv
 have he:=ao.toR_l h
 obtain⟨a,cap,hv,hc,ij⟩:=hv
 rw[he]at hv hc ij
 refine⟨a,cap,hv,hc,?_⟩
 rcases ij with ij|⟨b,off,arr,ty,fz,ha,hI,hf,hh,hE⟩
 ·exact .inl ij
 ·cases l with
  |nil=>exact .inl (by simp[ao.l])
  |cons x l=>
   have h1:s=k.size:=by
    simp only[ao.l,fR,oi]at hE
    rw[<-hE.1];exact RK.rD k x
   subst h1
   exact .inr ⟨b,off,arr,ty,fz,ha,hI,(λe=>by cases e),hh,hE⟩
theorem gz.Dp{s:Nat}{E:ao}(h:E.l=[]):gz .du (.sl s E false):=by
 intro c w v hv
 exact⟨none,0,by rw[h];exact hv,by rw[h];exact aO _,.inl h⟩
theorem gz.J7{s:Nat}{E:ao}(h:E.l=[]):gz .emp (.sl s E false):=by
 intro c w v hv
 obtain⟨a,hv,_⟩:=hv
 exact⟨a,0,by rw[h];exact hv,by rw[h];exact aO _,.inl h⟩
def Bd:List (Nat×Nat×Nat)->List (Nat×Nat×Nat)->Bool
 |[],[]=>true
 |(a,b,c)::l,(x,y,z)::m=>bT a x&&(bT b y&&(bT c z&&Bd l m))
 |_,_=>false
def th:List iu->List iu->Bool
 |[],[]=>true
 |.ptr a b c::l,.ptr x y z::m=>bT a x&&(bT b y&&(bT c z&&th l m))
 |.fn f ps::l,.fn g qs::m=>bT f g&&(Bd ps qs&&th l m)
 |_,_=>false
theorem xB:∀{l m:List (Nat×Nat×Nat)},Bd l m=true->l=m
 |[],[],_=>rfl
 |(a,b,c)::l,(x,y,z)::m,h=>by
  simp only[Bd,aE]at h
  rw[bE h.1,bE h.2.1,bE h.2.2.1,xB h.2.2.2]
 |[],_::_,h=>by simp[Bd]at h
 |_::_,[],h=>by simp[Bd]at h
theorem zB:∀{l m:List iu},th l m=true->l=m:=by
 intro l
 induction l with
 |nil=>intro m h;cases m with
  |nil=>rfl
  |cons _ _=>simp[th]at h
 |cons a l ih=>
  intro m h
  cases m with
  |nil=>cases a<;>simp[th]at h
  |cons b m=>
   cases a<;>cases b<;>simp only[th,aE,aN]at h
   ·rw[bE h.1,bE h.2.1,bE h.2.2.1,ih h.2.2.2]
   ·rw[bE h.1,xB h.2.1,ih h.2.2]
def Be:CT->D->Bool
 |.int k,.int j _=>decide (j=k)
 |.bool,.bool _=>true
 |.str,.str _=>true
 |.ints k,.sl _ E _=>(match E.toI k with|some _=>true|none=>false)
 |.bo,.sl _ E _=>(match E.toB with|some _=>true|none=>false)
 |.av k,.sl _ E _=>(match E.toR k with|some _=>true|none=>false)
 |.ints _,.du=>true
 |.bo,.du=>true
 |.av _,.du=>true
 |.ints _,.emp=>true
 |.bo,.emp=>true
 |.av _,.emp=>true
 |.row i,.all r=>bT r i
 |.nil,.sl s (.gen []) false=>bT s 0
 |.Ik,.du=>true
 |.self _,.iK=>true
 |.gn f cs,.gn g ds=>bT g f&&th ds cs
 |.self i,.c8 r=>bT r i
 |.self i,.ptr r o f=>bT r i&&(bT o 0&&bT f 0)
 |.pt i a b,.ptr r o f=>bT r i&&(bT o a&&bT f b)
 |_,_=>false
inductive PT where
 |one (t:CT)
 |agg (ts:List CT)
 |ptr (i:Nat)
 |gn (f:Nat) (cs:List iu)
inductive RT where
 |box (ty sz:Nat) (ts:List CT)
 |arr (ty sz:Nat) (t:CT)
def J8:List CT->List D->Bool
 |[],[]=>true
 |t::ts,d::ds=>Be t d&&J8 ts ds
 |_,_=>false
def uR:PT->D->Bool
 |.agg ts,.agg cs=>J8 ts cs
 |.one t,d=>Be t d
 |.ptr i,.ptr r j o=>bT r i&&(bT j 0&&bT o 0)
 |.gn f cs,.gn g ds=>bT g f&&th ds cs
 |_,_=>false
def HW:PT->D->D
 |.agg ts,d=>.agg (u9 ts d.cells 0)
 |.one t,d=>DD t d
 |.ptr i,_=>.ptr i 0 0
 |.gn f cs,_=>.gn f cs
def Bw:List PT->List D->Bool
 |[],[]=>true
 |s::l,d::ds=>uR s d&&Bw l ds
 |_,_=>false
def me:List PT->List D->Nat->List D
 |[],_,_=>[]
 |s::l,args,i=>HW s (args.getD i .dead)::me l args (i+1)
def Row.cs(r:Row):List D:=match r.es with|.gen [e]=>e|_=>[]
def uS:RT->Row->Bool
 |.box ty sz ts,⟨true,jX,kB,.gen [e]⟩=>bT jX ty&&(bT kB sz&&J8 ts e)
 |.arr ty sz t,⟨false,jX,kB,E⟩=>bT jX ty&&(bT kB sz&&(match toCT t E with|some _=>true|none=>false))
 |_,_=>false
def RG(t:CT)(E:ao):ao:=match t with
 |.ints k=>.ints k (match E.toI k with|some l=>l|none=>[])
 |.bo=>.bo (match E.toB with|some l=>l|none=>[])
 |.av k=>.av k (match E.toR k with|some l=>l|none=>[])
 |_=>.gen []
theorem qaB{t:CT}{E E':ao}(h:toCT t E=some E'):RG t E=E':=by
 cases t with
 |ints k=>
  simp only[toCT]at h
  split at h
  ·rename_i l hl
   cases h
   show ao.ints k (match E.toI k with|some l=>l|none=>[])=_
   rw[hl]
  ·cases h
 |bo=>
  simp only[toCT]at h
  split at h
  ·rename_i l hl
   cases h
   show ao.bo (match E.toB with|some l=>l|none=>[])=_
   rw[hl]
  ·cases h
 |av k=>
  simp only[toCT]at h
  split at h
  ·rename_i l hl
   cases h
   show ao.av k (match E.toR k with|some l=>l|none=>[])=_
   rw[hl]
  ·cases h
 |_=>simp[toCT]at h
def w6:RT->Row->Row
 |.box ty sz ts,r=>⟨true,ty,sz,.gen [u9 ts r.cs 0]⟩
 |.arr ty sz t,r=>⟨false,ty,sz,RG t r.es⟩
def Bx:List RT->List Row->Bool
 |[],[]=>true
 |s::l,r::rs=>uS s r&&Bx l rs
 |_,_=>false
def lr:List RT->List Row->Nat->List Row
 |[],_,_=>[]
 |s::l,rows,i=>w6 s (rows.getD i default)::lr l rows (i+1)
def aq(args:List D)(i:Nat):Int:=(args.getD i .dead).toInt
def uT(args:List D)(i:Nat):Bool:=(args.getD i .dead).toBool
def il(args:List D)(i:Nat):List UInt8:=(args.getD i .dead).toStr
def eh(k:IntKind)(args:List D)(i:Nat):List Int:=nD k (args.getD i .dead)
def jh(k:RK)(args:List D)(i:Nat):List (RK.T k):=tt k (args.getD i .dead)
def nV(rows:List Row)(i j:Nat):D:=((rows.getD i default).cs.getD j .dead)
def gj(k:IntKind)(rows:List Row)(i:Nat):List Int:=match(rows.getD i default).es.toI k with|some l=>l|none=>[]
def jO(k:RK)(rows:List Row)(i:Nat):List (RK.T k):=match(rows.getD i default).es.toR k with|some l=>l|none=>[]
theorem Z81{t:CT}{d:D}(h:Be t d=true):gz d (DD t d):=by
 cases t<;>cases d<;>(try(simp[Be]at h;done))
 case int.int=>simp[Be]at h;subst h;exact gz.rfl
 case nil.sl s E fr=>
  unfold Be at h
  split at h<;>simp_all
  exact gz.rfl
 case Ik.du=>exact gz.rfl
 case bool.bool=>exact gz.rfl
 case str.str=>exact gz.rfl
 case ints.sl k sz E fr=>
  simp only[Be]at h
  split at h
  ·rename_i l hl
   simp only[DD,nD,hl]
   exact gz.ints hl
  ·cases h
 case ints.du=>exact gz.Dp rfl
 case ints.emp=>exact gz.J7 rfl
 case bo.sl sz E fr=>
  simp only[Be]at h
  split at h
  ·rename_i l hl
   simp only[DD,Sz,hl]
   exact gz.bo hl
  ·cases h
 case bo.du=>exact gz.Dp rfl
 case bo.emp=>exact gz.J7 rfl
 case av.sl k sz E fr=>
  simp only[Be]at h
  split at h
  ·rename_i l hl
   simp only[DD,tt,hl]
   exact gz.av hl
  ·cases h
 case av.du=>exact gz.Dp rfl
 case av.emp=>exact gz.J7 rfl
 case row.all i r=>rw[bE h];exact gz.rfl
 case gn.gn f cs g ds=>
  simp only[Be,aE]at h
  rw[bE h.1,zB h.2]
  exact gz.rfl
 case self.iK i=>exactλc w v hv=>.inl hv
 case self.c8 i r=>rw[bE h];exact gz.rfl
 case self.ptr i r o f=>
  simp only[Be,aE]at h
  rw[bE h.1,bE h.2.1,bE h.2.2]
  exactλc w v hv=>.inr hv
 case pt.ptr i a b r o f=>
  simp only[Be,aE]at h
  rw[bE h.1,bE h.2.1,bE h.2.2]
  exact gz.rfl
theorem Qy:∀{ts:List CT} {pre ds:List D},J8 ts ds=true->jF ds (u9 ts (pre++ds) pre.length)
 |[],pre,[],_=>trivial
 |t::ts,pre,d::ds,h=>by
  simp only[J8,aE]at h
  have h2:=Qy (pre:=pre++[d]) h.2
  simp only[u9]
  refine⟨?_,by simpa using h2⟩
  have:(pre++d::ds).getD pre.length .dead=d:=by simp[aK]
  rw[this];exact Z81 h.1
 |[],_,_::_,h=>by simp[J8]at h
 |_::_,_,[],h=>by simp[J8]at h
theorem tg.of1{d e:D}(hd:∀cs,d≠.agg cs)(h:gz d e):tg d e:=by
 cases d<;>first|exact h|exact absurd rfl (hd _)
theorem Zq8{s:PT}{d:D}(h:uR s d=true):tg d (HW s d):=by
 unfold uR at h
 split at h
 ·rename_i ts cs
  exact Qy (pre:=[]) h
 ·rename_i t d
  refine tg.of1 (λcs e=>?_) (Z81 h)
  subst e
  cases t<;>simp[Be]at h
 ·rename_i i r j o
  simp only[aE]at h
  rw[bE h.1,bE h.2.1,bE h.2.2]
  exact gz.rfl
 ·rename_i f cs g ds
  simp only[aE]at h
  rw[bE h.1,zB h.2]
  exact gz.rfl
 ·cases h
theorem Qxt:∀{l:List PT} {pre ds:List D},Bw l ds=true->Dn ds (me l (pre++ds) pre.length)
 |[],pre,[],_=>trivial
 |s::l,pre,d::ds,h=>by
  simp only[Bw,aE]at h
  have h2:=Qxt (pre:=pre++[d]) h.2
  simp only[me]
  refine⟨?_,by simpa using h2⟩
  have:(pre++d::ds).getD pre.length .dead=d:=by simp[aK]
  rw[this];exact Zq8 h.1
 |[],_,_::_,h=>by simp[Bw]at h
 |_::_,_,[],h=>by simp[Bw]at h
def tj(a b:Row):Prop:=b.box=a.box/\b.ty=a.ty/\b.sz=a.sz/\b.es.l.length=a.es.l.length/\match a.box with
 |true=>∃e e',a.es=.gen [e]/\b.es=.gen [e']/\e'.length=e.length/\jF e e'
 |false=>b.es.l=a.es.l
theorem jF.length:∀{ds es:List D},jF ds es->ds.length=es.length
 |[],[],_=>rfl
 |_::_,_::_,h=>by simp[jF.length h.2]
 |[],_::_,h=>h.elim
 |_::_,[],h=>h.elim
theorem Zq6{s:RT}{r:Row}(h:uS s r=true):tj r (w6 s r):=by
 unfold uS at h
 split at h
 ·rename_i ty sz ts jX kB e
  simp only[aE]at h
  have h3:=Qy (pre:=[]) h.2.2
  have hl:=h3.length
  exact⟨rfl,(bE h.1).symm,(bE h.2.1).symm,rfl,_,_,rfl,rfl,hl.symm,h3⟩
 ·rename_i ty sz t jX kB E
  simp only[aE]at h
  obtain⟨h1,h2,h3⟩:=h
  split at h3
  ·rename_i E' hE
   have he:=ao.Ao (Nr hE)
   have hc:w6 (.arr ty sz t) ⟨false,jX,kB,E⟩=⟨false,ty,sz,E'⟩:=by simp[w6,qaB hE]
   rw[hc]
   exact⟨rfl,(bE h1).symm,(bE h2).symm,by simp only[he],he.symm⟩
  ·cases h3
 ·cases h
theorem Qsy:∀{l:List RT} {pre rs:List Row},Bx l rs=true->rs.length=l.length/\∀(i:Nat) r,rs[i]?=some r->∃r',(lr l (pre++rs) pre.length)[i]?=some r'/\tj r r'
 |[],pre,[],_=>⟨rfl,λi r h=>by simp at h⟩
 |s ::l,pre,r::rs,h=>by
  simp only[Bx,aE]at h
  obtain⟨h1,h2⟩:=Qsy (pre:=pre++[r]) h.2
  refine⟨by simp[h1],λi q hq=>?_⟩
  cases i with
  |zero=>
   simp at hq;subst hq
   have:(pre++r::rs).getD pre.length default=r:=by simp[aK]
   exact⟨_,by simp only[lr,this];rfl,Zq6 h.1⟩
  |succ i=>
   obtain⟨q',g1,g2⟩:=h2 i q (by simpa using hq)
   refine⟨q',?_,g2⟩
   simp only[lr,List.getElem?_cons_succ]
   simpa using g1
 |[],_,_::_,h=>by simp[Bx]at h
 |_::_,_,[],h=>by simp[Bx]at h
theorem Vm:∀{l:List RT} {rows:List Row} {i:Nat},(lr l rows i).length=l.length
 |[],_,_=>rfl
 |s::l,rows,i=>by simp[lr,Vm]
theorem yB{d:D}:d.mz (λr=>r) true=d:=by
 cases d with
 |gn f cs=>simp only[D.mz,Zs]
 |_=>simp[D.mz]
theorem Vn:∀{ds:List D},D.mC (λr=>r) true ds=ds
 |[]=>rfl
 |d::l=>by simp[D.mC,yB,Vn (ds:=l)]
theorem qaR{d:D}:d.jg (λr=>r) true=d:=by
 cases d with
 |agg cs=>show D.agg (D.mC _ true cs)=_;rw[Vn]
 |gn f cs=>exact yB (d:=.gn f cs)
 |_=>simp[D.jg,D.mz]
theorem jF.cells{c:Ctx}{w:World}:∀{ds es:List D} {arr:Array Value} {off:Nat},jF ds es->kJ c w ds arr off->kJ c w es arr off
 |[],[],_,_,_,_=>trivial
 |d::l,e::m,_,_,h,⟨⟨v,hv,h1⟩,h2⟩=>⟨⟨v,hv,h.1 _ _ _ h1⟩,jF.cells h.2 h2⟩
 |[],_::_,_,_,h,_=>h.elim
 |_::_,[],_,_,h,_=>h.elim
theorem Zd2{c1 c2:Ctx}{w:World}(hn:Em (λ_=>True) (λr=>r) true c1 c2)(hI:∀b,c1.I b->c2.I b):∀{ds:List D} {vs:List Value},kb c1 w ds vs->kb c2 w ds vs
 |[],[],_=>trivial
 |d::ds,v::vs,h=>⟨by have:=P4 hn (flat:=False) (.inl hI) (λ_ _=>trivial) (λe=>e.elim) h.1;rwa [qaR]at this,Zd2 hn hI h.2⟩
 |[],_::_,h=>h.elim
 |_::_,[],h=>h.elim
theorem Q3.J9{P:Program}{f:FuncId}{args nw:List D}{rows kY:List Row}{res:D}{aj:List Row}(hs:Dn args nw)(hl:kY.length=rows.length)(hr:∀(i:Nat) r,rows[i]?=some r->∃r',kY[i]?=some r'/\tj r r')(h:Q3 P f nw kY res aj):Q3 P f args rows res aj:=by
 intro c w vs hm hb hR ha
 let c2:Ctx:={c with R:=λr=>kY[r]? }
 have RH:∀r row,c.R r=some row->∃ak,c2.R r=some ak/\tj row ak:=λr row cb=>by
  rw[hR]at cb;exact hr r row cb
 have uU:∀r ak,c2.R r=some ak->∃row,c.R r=some row/\tj row ak:=λr ak cb=>by
  have cb:kY[r]?=some ak:=cb
  have cf:=(List.getElem?_eq_some_iff.1 cb).1
  have h1:rows[r]?=some rows[r]:=cG (by omega)
  obtain⟨jx,g1,g2⟩:=hr r _ h1
  rw[cb]at g1;cases g1
  exact⟨_,by rw[hR];exact h1,g2⟩
 have hn:Em (λ_=>True) (λr=>r) true c c2:=⟨λi row _ cb=>by
  obtain⟨ak,g1,g2,g3,g4,g5,_⟩:=RH i row cb
  exact⟨ak,g1,g2,g3,g4,g5,rfl,Iff.rfl⟩,λ_=>aO _,aO _⟩
 have BV:Mem c2 w:=by
  refine⟨λr ak cb=>?_,λr s x y h1 h2 v1 v2 he=>?_,λb iz=>⟨(hm.fu b iz).1,λr x h1 v=>?_⟩,hm.top,hm.kM⟩
  ·obtain⟨row,g1,g2,g3,g4,g5,g6⟩:=uU r ak cb
   rcases hm.row r row g1 with⟨k1,k2,k3,k4⟩|⟨k1,arr,k2,k3,k4⟩
   ·refine .inl ⟨k1,g2.trans k2,?_,by rw[g4];exact k4⟩
    rw[k2]at g6;simp only at g6;rw[g6,k3]
   ·refine .inr ⟨k1,arr,by rw[g3];exact k2,by rw[g4];exact k3,?_⟩
    rw[g2,g4]
    cases wS:row.box with
    |false=>
     simp only[wS,aN,if_false]at k4 g6⊢
     rw[g6];exact k4
    |true=>
     simp only[wS,if_true]at k4 g6⊢
     obtain⟨e,e',q1,q2,q3,q4⟩:=g6
     obtain⟨e0,p1,p2,p3,p4⟩:=k4
     rw[q1]at p1;cases p1
     refine⟨e',q2,by rw[q3];exact p2,p3,?_⟩
     have:=UO hn (flat:=False) (.inl λb hb=>hb) (λ_ _=>trivial) (λe=>e.elim) (jF.cells q4 p4)
     rwa [Vn]at this
  ·obtain⟨x',g1,_⟩:=uU r x h1
   obtain⟨y',g2,_⟩:=uU s y h2
   exact hm.inj r s x' y' g1 g2 v1 v2 he
  ·obtain⟨x',g1,_⟩:=uU r x h1
   exact(hm.fu b iz).2 r x' g1 v
 refine(h c2 w vs BV hb (λr=>rfl) (Zd2 hn (λb h=>h) (Dn.rep hs ha))).mono λe w' hq=>?_
 obtain⟨v,c',he,hx,jY,hv⟩:=hq
 refine⟨v,c',he,⟨hx.mem,⟨hx.bz.base,hx.bz.top,hx.bz.I,λr row cb=>?_⟩,hx.fr.mono λb _ ⟨r,x,h1,h2,h3⟩=>?_,hx.fu,λr ak h1 h2=>?_⟩,jY,hv⟩
 ·obtain⟨jx,g1,g2,g3,g4,g5,g6⟩:=RH r row cb
  obtain⟨ak,k1,k2,k3,k4,k5,k6,k7,k8⟩:=hx.bz.R r jx g1
  exact⟨ak,k1,k2.trans g2,k3.trans g3,k4.trans g4,k5.trans g5,k6,k7,λnv arr ha=>by rw[<-g3]at ha⊢;exact k8 nv arr ha⟩
 ·obtain⟨x',g1,_⟩:=uU r x h1
  exact⟨r,x',g1,h2,h3⟩
 ·rcases hx.og r ak h1 h2 with⟨⟨x,nJ⟩,h3,h4⟩|h3
  ·obtain⟨x',g1,_⟩:=uU r x nJ
   exact .inl ⟨⟨x',g1⟩,h3,h4⟩
  ·exact .inr h3
theorem sF.J9{P:Program}{f:FuncId}{k:Nat}{args nw:List D}{rows kY:List Row}{res:D}{aj:List Row}(hs:Dn args nw)(hl:kY.length=rows.length)(hr:∀(i:Nat) r,rows[i]?=some r->∃r',kY[i]?=some r'/\tj r r')(h:sF P f k nw kY res aj):sF P f k args rows res aj:=by
 intro c w vs hm hb hR ha
 let c2:Ctx:={c with R:=λr=>kY[r]? }
 have RH:∀r row,c.R r=some row->∃ak,c2.R r=some ak/\tj row ak:=λr row cb=>by
  rw[hR]at cb;exact hr r row cb
 have uU:∀r ak,c2.R r=some ak->∃row,c.R r=some row/\tj row ak:=λr ak cb=>by
  have cb:kY[r]?=some ak:=cb
  have cf:=(List.getElem?_eq_some_iff.1 cb).1
  have h1:rows[r]?=some rows[r]:=cG (by omega)
  obtain⟨jx,g1,g2⟩:=hr r _ h1
  rw[cb]at g1;cases g1
  exact⟨_,by rw[hR];exact h1,g2⟩
 have hn:Em (λ_=>True) (λr=>r) true c c2:=⟨λi row _ cb=>by
  obtain⟨ak,g1,g2,g3,g4,g5,_⟩:=RH i row cb
  exact⟨ak,g1,g2,g3,g4,g5,rfl,Iff.rfl⟩,λ_=>aO _,aO _⟩
 have BV:Mem c2 w:=by
  refine⟨λr ak cb=>?_,λr s x y h1 h2 v1 v2 he=>?_,λb iz=>⟨(hm.fu b iz).1,λr x h1 v=>?_⟩,hm.top,hm.kM⟩
  ·obtain⟨row,g1,g2,g3,g4,g5,g6⟩:=uU r ak cb
   rcases hm.row r row g1 with⟨k1,k2,k3,k4⟩|⟨k1,arr,k2,k3,k4⟩
   ·refine .inl ⟨k1,g2.trans k2,?_,by rw[g4];exact k4⟩
    rw[k2]at g6;simp only at g6;rw[g6,k3]
   ·refine .inr ⟨k1,arr,by rw[g3];exact k2,by rw[g4];exact k3,?_⟩
    rw[g2,g4]
    cases wS:row.box with
    |false=>
     simp only[wS,aN,if_false]at k4 g6⊢
     rw[g6];exact k4
    |true=>
     simp only[wS,if_true]at k4 g6⊢
     obtain⟨e,e',q1,q2,q3,q4⟩:=g6
     obtain⟨e0,p1,p2,p3,p4⟩:=k4
     rw[q1]at p1;cases p1
     refine⟨e',q2,by rw[q3];exact p2,p3,?_⟩
     have:=UO hn (flat:=False) (.inl λb hb=>hb) (λ_ _=>trivial) (λe=>e.elim) (jF.cells q4 p4)
     rwa [Vn]at this
  ·obtain⟨x',g1,_⟩:=uU r x h1
   obtain⟨y',g2,_⟩:=uU s y h2
   exact hm.inj r s x' y' g1 g2 v1 v2 he
  ·obtain⟨x',g1,_⟩:=uU r x h1
   exact(hm.fu b iz).2 r x' g1 v
 refine(h c2 w vs BV hb (λr=>rfl) (Zd2 hn (λb h=>h) (Dn.rep hs ha))).mono (λb hb=>hb) λe w' hq=>?_
 obtain⟨v,c',he,hx,jY,hv⟩:=hq
 rw[hl]at hx
 refine⟨v,c',he,⟨hx.mem,⟨hx.bz.base,hx.bz.top,hx.bz.I,λr row cb=>?_⟩,hx.fr.mono λb _ ⟨r,x,h1,h2,h3⟩=>?_,λb hb=>?_,λr ak h1 h2=>?_⟩,jY,hv⟩
 ·obtain⟨q,j5,Dc,rfl⟩:=oh cb
  obtain⟨jx,g1,g2,g3,g4,g5,g6⟩:=RH r j5 Dc
  obtain⟨ak,k1,k2,k3,k4,k5,k6,k7,k8⟩:=hx.bz.R r (jx.kill _) (by simp only[Ctx.kill];rw[if_neg (by rw[q];simp),g1];rfl)
  obtain⟨s1,s2,s3,s4⟩:=wh (bK k (rows.length-k)) j5
  obtain⟨t1,t2,t3,t4⟩:=wh (bK k (rows.length-k)) jx
  refine⟨ak,k1,k2.trans (t1.trans (g2.trans s1.symm)),k3.trans (t2.trans (g3.trans s2.symm)),k4.trans (t3.trans (g4.trans s3.symm)),k5.trans (t4.trans (g5.trans s4.symm)),k6,k7,λnv arr ha=>?_⟩
  rw[s2]at ha⊢
  have:=k8 nv arr (by rw[t2,g3];exact ha)
  rw[t2,g3]at this
  exact this
 ·obtain⟨x',g1,_⟩:=uU r x h1
  exact⟨r,x',g1,h2,h3⟩
 ·rcases hx.fu b hb with h|⟨s,x,h1,h2,h3,h4⟩|h
  ·exact .inl h
  ·obtain⟨x',g1,_⟩:=uU s x h2
   exact .inr (.inl ⟨s,x',h1,g1,h3,h4⟩)
  ·exact .inr (.inr h)
 ·rcases hx.og r ak h1 h2 with⟨⟨x,nJ⟩,h3,h4⟩|⟨s,x,q1,q2,q3,q4⟩|h3
  ·obtain⟨x',g1,_⟩:=uU r x nJ
   exact .inl ⟨⟨x',g1⟩,h3,h4⟩
  ·obtain⟨x',g1,_⟩:=uU s x q2
   exact .inr (.inl ⟨s,x',q1,g1,q3,q4⟩)
  ·exact .inr (.inr h3)
def ED(f:FuncId)(refs:List Bool)(flat:Bool)(sig:List PT)(dr:List RT){α:Type}(v:List D->List Row->α)(enc:α->D)(out:α->List Row):bc:=
 ⟨f,refs,flat,λargs rows=>match Bw sig args&&Bx dr rows with|true=>.abs α (v args rows) enc out|false=>.no,none,false⟩
def mM(f:FuncId)(refs:List Bool)(flat:Bool)(sig:List PT)(dr:List RT)(pre:List D->List Row->Prop){α:Type}(v:List D->List Row->α)(enc:α->D)(out:α->List Row):bc:=
 ⟨f,refs,flat,λargs rows=>match Bw sig args&&Bx dr rows with|true=>.lM (pre args rows) α (v args rows) enc out|false=>.no,none,false⟩
def bc.fz(x:bc):bc:={x with pb:=true}
theorem MK{P:Program}{x:bc}(h:bj P x):bj P x.fz:=⟨h.enters,h.real,h.ok,h.when,h.abs,h.lM,h.PS,h.Ht⟩
def Vo(k:Nat)(f:FuncId)(refs:List Bool)(sig:List PT)(dr:List RT){α:Type}(v:List D->List Row->α)(enc:α->D)(out:α->List Row):bc:=
 ⟨f,refs,false,λargs rows=>match Bw sig args&&Bx dr rows with|true=>.abs α (v args rows) enc out|false=>.no,some k,false⟩
def lW(k:Nat)(f:FuncId)(refs:List Bool)(sig:List PT)(dr:List RT)(pre:List D->List Row->Prop){α:Type}(v:List D->List Row->α)(enc:α->D)(out:α->List Row):bc:=
 ⟨f,refs,false,λargs rows=>match Bw sig args&&Bx dr rows with|true=>.lM (pre args rows) α (v args rows) enc out|false=>.no,some k,false⟩
def ao.w7:ao->Bool
 |.gen _=>false
 |.av k _=>k.kQ
 |_=>true
theorem ao.tl{E:ao}(h:E.w7=true):E.FR:=by
 cases E with
 |gen es=>simp[ao.w7]at h
 |av k l=>exact h
 |_=>trivial
def Dq:D->Bool|.sl _ E fr=>fr&&E.w7|.ir _ _ _ _=>false|.gn _ _=>false|_=>true
def Dr:List D->Bool|[]=>true|d::l=>Dq d&&Dr l
def Ka:D->Bool|.agg cs=>Dr cs|d=>Dq d
def F8:List D->Bool|[]=>true|d::l=>Ka d&&F8 l
def uZ:D->Bool|.dt ds=>F8 ds|d=>Ka d
def jH:List Row->Bool
 |[]=>true
 |⟨true,_,_,.gen [e]⟩::l=>Dr e&&jH l
 |⟨false,_,_,E⟩::l=>E.w7&&jH l
 |_=>false
theorem RI{d:D}(h:Dq d=true):P3 d:=by
 cases d<;>first|trivial|(simp[Dq]at h;done)|skip
 case sl sz E fr=>simp only[Dq,aE]at h;exact⟨.inr h.1,ao.tl h.2⟩
theorem Vp:∀{ds:List D},Dr ds=true->Mv ds
 |[],_=>trivial
 |d::l,h=>by simp only[Dr,aE]at h;exact⟨RI h.1,Vp h.2⟩
theorem zaB{d:D}(h:Ka d=true):UN d:=by
 cases d with
 |agg cs=>exact Vp h
 |sl a b c=>exact RI (d:=.sl a b c) h
 |ir a b c e=>exact RI (d:=.ir a b c e) h
 |_=>trivial
theorem vB:∀{ds:List D},F8 ds=true->FT ds
 |[],_=>trivial
 |d::l,h=>by simp only[F8,aE]at h;exact⟨zaB h.1,vB h.2⟩
theorem qac{d:D}(h:uZ d=true):FF d:=by
 cases d with
 |dt ds=>exact vB h
 |agg cs=>exact Vp h
 |sl a b c=>exact RI (d:=.sl a b c) h
 |ir a b c e=>exact RI (d:=.ir a b c e) h
 |_=>trivial
theorem Vq:∀{rs:List Row},jH rs=true->rC rs
 |[],_=>trivial
 |⟨true,_,_,.gen [e]⟩::l,h=>by
  simp only[jH,aE]at h
  refine⟨?_,Vq h.2⟩
  simp only[JI,if_true,ao.l,List.mem_singleton,forall_eq]
  exact Vp h.1
 |⟨false,_,_,E⟩::l,h=>by
  simp only[jH,aE]at h
  refine⟨?_,Vq h.2⟩
  simp only[JI,aN,if_false]
  exact ao.tl h.1
 |⟨true,_,_,.gen []⟩::l,h=>by simp[jH]at h
 |⟨true,_,_,.gen (_::_::_)⟩::l,h=>by simp[jH]at h
 |⟨true,_,_,.ints _ _⟩::l,h=>by simp[jH]at h
 |⟨true,_,_,.bo _⟩::l,h=>by simp[jH]at h
 |⟨true,_,_,.av _ _⟩::l,h=>by simp[jH]at h
theorem zac{P:Program}{f:FuncId}{sig:List PT}{dr:List RT}{args:List D}{rows:List Row}{res:D}{out:List Row}(hs:(Bw sig args&&Bx dr rows)=true)(h:Q3 P f (me sig args 0) (lr dr rows 0) res out):Q3 P f args rows res out:=by
 simp only[aE]at hs
 obtain⟨h1,h2⟩:=Qsy (pre:=[]) hs.2
 exact Q3.J9 (Qxt (pre:=[]) hs.1) (by rw[Vm,h1]) h2 h
theorem xac{P:Program}{f:FuncId}{refs:List Bool}{flat:Bool}{sig:List PT}{dr:List RT}{α:Type}{v:List D->List Row->α}{enc:α->D}{out:α->List Row}(he:∀args w,(callFunc f args).run P w=.ok (.enter f args) w)(h:∀args rows,Q3 P f (me sig args 0) (lr dr rows 0) (enc (v args rows)) (out (v args rows)))
 (hf:flat=true->∀X,(uZ (enc X)&&jH (out X))=true) (hy:bJ f YB=true:=by rfl):bj P (ED f refs flat sig dr v enc out):=by
 refine⟨λ_=>he,λ_=>lE hy,λ_ args rows r r' hm=>?_,λ_ args rows p r r' hm=>?_,λ_ args rows α' v' r r' hm=>?_,λ_ args rows p α' v' r r' hm=>?_,λk hk=>(by cases hk),λk hk=>(by cases hk)⟩
 ·simp only[ED]at hm
  split at hm<;>cases hm
 ·simp only[ED]at hm
  split at hm<;>cases hm
 ·simp only[ED]at hm
  split at hm
  ·rename_i hs
   cases hm
   exact⟨zac hs (h args rows),λe=>by have:=hf e (v args rows);simp only[aE]at this;exact⟨qac this.1,Vq this.2⟩⟩
  ·cases hm
 ·simp only[ED]at hm
  split at hm<;>cases hm
theorem ML{P:Program}{f:FuncId}{refs:List Bool}{flat:Bool}{sig:List PT}{dr:List RT}{pre:List D->List Row->Prop}{α:Type}{v:List D->List Row->α}{enc:α->D}{out:α->List Row}(he:∀args w,(callFunc f args).run P w=.ok (.enter f args) w)(h:∀args rows,pre args rows->Q3 P f (me sig args 0) (lr dr rows 0) (enc (v args rows)) (out (v args rows)))
 (hf:flat=true->∀X,(uZ (enc X)&&jH (out X))=true) (hy:bJ f YB=true:=by rfl):bj P (mM f refs flat sig dr pre v enc out):=by
 refine⟨λ_=>he,λ_=>lE hy,λ_ args rows r r' hm=>?_,λ_ args rows p r r' hm=>?_,λ_ args rows α' v' r r' hm=>?_,λ_ args rows p α' v' r r' hm hp=>?_,λk hk=>(by cases hk),λk hk=>(by cases hk)⟩
 ·simp only[mM]at hm
  split at hm<;>cases hm
 ·simp only[mM]at hm
  split at hm<;>cases hm
 ·simp only[mM]at hm
  split at hm<;>cases hm
 ·simp only[mM]at hm
  split at hm
  ·rename_i hs
   cases hm
   exact⟨zac hs (h args rows hp),λe=>by have:=hf e (v args rows);simp only[aE]at this;exact⟨qac this.1,Vq this.2⟩⟩
  ·cases hm
theorem qC{P:Program}{f:FuncId}{k:Nat}{sig:List PT}{dr:List RT}{args:List D}{rows:List Row}{res:D}{out:List Row}(hs:(Bw sig args&&Bx dr rows)=true)(h:sF P f k (me sig args 0) (lr dr rows 0) res out):sF P f k args rows res out:=by
 simp only[aE]at hs
 obtain⟨h1,h2⟩:=Qsy (pre:=[]) hs.2
 exact sF.J9 (Qxt (pre:=[]) hs.1) (by rw[Vm,h1]) h2 h
theorem zaR{P:Program}{k:Nat}{f:FuncId}{refs:List Bool}{sig:List PT}{dr:List RT}{α:Type}{v:List D->List Row->α}{enc:α->D}{out:α->List Row}(he:f<YB->∀args w,(callFunc f args).run P w=.ok (.enter f args) w)(h:∀args rows,sF P f k (me sig args 0) (lr dr rows 0) (enc (v args rows)) (out (v args rows))):
 bj P (Vo k f refs sig dr v enc out):=by
 refine⟨he,λhk=>(by cases hk),λhk=>(by cases hk),λhk=>(by cases hk),λhk=>(by cases hk),λhk=>(by cases hk),λk' hk args rows α' v' r r' hm=>?_,λk' hk args rows p α' v' r r' hm hp=>?_⟩
 ·cases hk
  simp only[Vo]at hm
  split at hm
  ·rename_i hs
   cases hm
   exact qC hs (h args rows)
  ·cases hm
 ·simp only[Vo]at hm
  split at hm<;>cases hm
theorem xaB{P:Program}{k:Nat}{f:FuncId}{refs:List Bool}{sig:List PT}{dr:List RT}{pre:List D->List Row->Prop}{α:Type}{v:List D->List Row->α}{enc:α->D}{out:α->List Row}(he:f<YB->∀args w,(callFunc f args).run P w=.ok (.enter f args) w)(h:∀args rows,pre args rows->sF P f k (me sig args 0) (lr dr rows 0) (enc (v args rows)) (out (v args rows))):
 bj P (lW k f refs sig dr pre v enc out):=by
 refine⟨he,λhk=>(by cases hk),λhk=>(by cases hk),λhk=>(by cases hk),λhk=>(by cases hk),λhk=>(by cases hk),λk' hk args rows α' v' r r' hm=>?_,λk' hk args rows p α' v' r r' hm hp=>?_⟩
 ·simp only[lW]at hm
  split at hm<;>cases hm
 ·cases hk
  simp only[lW]at hm
  split at hm
  ·rename_i hs
   cases hm
   exact qC hs (h args rows hp)
  ·cases hm
def dd{α β:Type}(v:α)(m:α->β):β:=m v
def oH(α:Type)(x y:α):Prop:=x=y
abbrev rE{α:Type}(x:α):Prop:=x=x
abbrev zM:au:={B1:={X:={a0:=0,a1:=0,a2:=0,a3:=0,a4:=0,a5:=0,a6:=0,a7:=0,a8:=0,a9:=0,kq:=0,kr:=0,a12:=0,ku:=0,kv:=0,ky:=0},Pc:=0,B4:={a0:=0,a1:=0,a2:=0,a3:=0,a4:=0,a5:=0,a6:=0,a7:=0}},Mem:=[],A3:={D1:=[]},A9:={D4:=false,C4:=0,D3:=false},A7:={ag:=0,C1:=0,Frame:=0,B7:=0,D5:=0,B6:=0,B2:=0,B8:=[]},C3:={Frame:=0,E0:=0,C5:=false,B9:=0,B5:=false,F1:=0},A2:={C6:=0,C2:=0},A1:=0,A4:=false,A6:=false}
abbrev mE(m:au)(P Q:Prop):Prop:=rE m.B1.X.a0/\rE m.B1.X.a1/\rE m.B1.X.a2/\rE m.B1.X.a3/\rE m.B1.X.a4/\rE m.B1.X.a5/\rE m.B1.X.a6/\rE m.B1.X.a7/\rE m.B1.X.a8/\rE m.B1.X.a9/\rE m.B1.X.kq/\rE m.B1.X.kr/\rE m.B1.X.a12/\rE m.B1.X.ku/\rE m.B1.X.kv/\rE m.B1.X.ky/\rE m.B1.Pc/\rE m.B1.B4.a0/\rE m.B1.B4.a1/\rE m.B1.B4.a2/\rE m.B1.B4.a3/\rE m.B1.B4.a4/\rE m.B1.B4.a5/\rE m.B1.B4.a6/\rE m.B1.B4.a7/\P/\rE m.A3.D1/\rE m.A9.D4/\rE m.A9.C4/\rE m.A9.D3/\rE m.A7.ag/\rE m.A7.C1/\rE m.A7.Frame/\rE m.A7.B7/\rE m.A7.D5/\rE m.A7.B6/\rE m.A7.B2/\rE m.A7.B8/\rE m.C3.Frame/\rE m.C3.E0/\rE m.C3.C5/\rE m.C3.B9/\rE m.C3.B5/\rE m.C3.F1/\rE m.A2.C6/\rE m.A2.C2/\rE m.A1/\rE m.A4/\rE m.A6/\Q
abbrev mR(f:Nat->D)(M:List Int):au:=(⟨(⟨(⟨(f 0).toInt,(f 1).toInt,(f 2).toInt,(f 3).toInt,(f 4).toInt,(f 5).toInt,(f 6).toInt,(f 7).toInt,(f 8).toInt,(f 9).toInt,(f 10).toInt,(f 11).toInt,(f 12).toInt,(f 13).toInt,(f 14).toInt,(f 15).toInt⟩:(iS Int)),(f 16).toInt,(⟨(f 17).toInt,(f 18).toInt,(f 19).toInt,(f 20).toInt,(f 21).toInt,(f 22).toInt,(f 23).toInt,(f 24).toInt⟩:(A8 Int))⟩:bh),M,(⟨(f 26).toStr⟩:iT),(⟨(f 27).toBool,(f 28).toInt,(f 29).toBool⟩:iU),(⟨(f 30).toInt,(f 31).toInt,(f 32).toInt,(f 33).toInt,(f 34).toInt,(f 35).toInt,(f 36).toInt,(f 37).toStr⟩:fp),(⟨(f 38).toInt,(f 39).toInt,(f 40).toBool,(f 41).toInt,(f 42).toBool,(f 43).toInt⟩:ia),(⟨(f 44).toInt,(f 45).toInt⟩:gv),(f 46).toInt,(f 47).toBool,(f 48).toBool⟩:au)
abbrev mD(x:au)(d:D):List D:=[.int u32 x.B1.X.a0,.int u32 x.B1.X.a1,.int u32 x.B1.X.a2,.int u32 x.B1.X.a3,.int u32 x.B1.X.a4,.int u32 x.B1.X.a5,.int u32 x.B1.X.a6,.int u32 x.B1.X.a7,.int u32 x.B1.X.a8,.int u32 x.B1.X.a9,.int u32 x.B1.X.kq,.int u32 x.B1.X.kr,.int u32 x.B1.X.a12,.int u32 x.B1.X.ku,.int u32 x.B1.X.kv,.int u32 x.B1.X.ky,.int u32 x.B1.Pc,.int u32 x.B1.B4.a0,.int u32 x.B1.B4.a1,.int u32 x.B1.B4.a2,.int u32 x.B1.B4.a3,.int u32 x.B1.B4.a4,.int u32 x.B1.B4.a5,.int u32 x.B1.B4.a6,.int u32 x.B1.B4.a7,d,.str x.A3.D1,.bool x.A9.D4,.int u32 x.A9.C4,.bool x.A9.D3,.int u32 x.A7.ag,.int u32 x.A7.C1,.int u32 x.A7.Frame,.int i64 x.A7.B7,.int i64 x.A7.D5,.int u32 x.A7.B6,.int u32 x.A7.B2,.str x.A7.B8,.int u32 x.C3.Frame,.int u32 x.C3.E0,.bool x.C3.C5,.int u32 x.C3.B9,.bool x.C3.B5,.int u32 x.C3.F1,.int u32 x.A2.C6,.int u32 x.A2.C2,.int u64 x.A1,.bool x.A4,.bool x.A6]
abbrev mB(f:Nat->D):List D:=[f 0,f 1,f 2,f 3,f 4,f 5,f 6,f 7,f 8,f 9,f 10,f 11,f 12,f 13,f 14,f 15,f 16,f 17,f 18,f 19,f 20,f 21,f 22,f 23,f 24,f 25,f 26,f 27,f 28,f 29,f 30,f 31,f 32,f 33,f 34,f 35,f 36,f 37,f 38,f 39,f 40,f 41,f 42,f 43,f 44,f 45,f 46,f 47,f 48]
abbrev rZ:Prop:=rE (0:Nat)/\rE (0:Nat)
abbrev nR(k:RK)(n:Nat)(x:List (RK.T k)):Prop:=(ao.Nil (ao.av k x)\/rE n)/\rE x
abbrev aC(l:List D)(n:Nat):List D:=(l.getD n .dead).cells
theorem oI{p:Prop}(h:p:=by((subst_vars;first|trivial|assumption|omega|((simp(config:={decide:=true,failIfUnchanged:=false}) only[aE,Bool.or_eq_true,Bool.and_eq_false_iff,Bool.or_eq_false_iff,Bool.not_eq_true',Bool.not_eq_false',Bool.not_eq_true,Bool.not_eq_false,decide_eq_true_eq,decide_eq_false_iff_not,Q5d,Q3a,Q55,Q39,beq_iff_eq,beq_eq_false_iff_ne,bne_iff_ne,bne_eq_false_iff_eq,ne_eq,List.all_cons,List.all_nil,D.plain,List.length_cons,List.length_nil,lA,List.length_set,List.length_replicate,wrap_i64,wrap_u64,wrap_u32,wrap_i32,wrap_u8,true_and,and_true,or_false,false_or,or_true,true_or,not_true_eq_false,not_false_eq_true,Prod.fst,Prod.snd]at*);first|done|assumption|omega)|((simp(config:={decide:=true,failIfUnchanged:=false}) only[aE,Bool.or_eq_true,Bool.and_eq_false_iff,Bool.or_eq_false_iff,Bool.not_eq_true',Bool.not_eq_false',Bool.not_eq_true,Bool.not_eq_false,decide_eq_true_eq,decide_eq_false_iff_not,Q5d,Q3a,Q55,Q39,beq_iff_eq,beq_eq_false_iff_ne,bne_iff_ne,bne_eq_false_iff_eq,ne_eq,List.all_cons,List.all_nil,D.plain,List.length_cons,List.length_nil,lA,List.length_set,List.length_replicate,wrap_i64,wrap_u64,wrap_u32,wrap_i32,wrap_u8,true_and,and_true,or_false,false_or,or_true,true_or,not_true_eq_false,not_false_eq_true,Prod.fst,Prod.snd]at*);simp only[<-List.length_pos_iff]at*;omega)|(simp_all;done)|(have:= @Qhq;simp_all;try omega)))):p:=h
def run{α β:Type}[Inhabited β](F:α->α⊕β):Nat->α->β
 |0,_=>default
 |k+1,a=>match F a with|.inl a'=>run F k a'|.inr b=>b
theorem qaC{α β:Type}[Inhabited β]{F:α->α⊕β}{P:α->Prop}{R:β->Prop}{μ:α->Nat}(h:∀a,P a->match F a with|.inl a'=>P a'/\μ a'<μ a|.inr b=>R b):∀k a,P a->μ a<k->R (run F k a):=by
 intro k
 induction k with
 |zero=>intro a _ hk;omega
 |succ k ih=>
  intro a ha hk
  have:=h a ha
  unfold run
  split at this
  ·rename_i a' he;exact ih a' this.1 (by omega)
  ·exact this
inductive Tree:Type->Type 1 where
 |lf {β:Type} (x:β):Tree β
 |nx {β:Type} (f:Prop) (x:β) (h:f:=by first|trivial|(simp[oH];done)|decide|(simp only[and_true,true_and,or_true,true_or,and_self];done)|((repeat'(first|exact True.intro|apply And.intro|exact rfl|exact Or.inr rfl));done)):Tree β
 |br {β:Type} (c:Bool) (t e:Tree β):Tree β
 |cn {β:Type} (c:Bool) (t:Tree β):Tree β
 |fl {β:Type} (c:Bool) (t:Tree β):Tree β
 |an {β:Type} (p:Prop) (t:Tree β):Tree β
 |lv {α β:Type} (x:α) (k:α->Tree β):Tree β
 |lp {α β:Type} (d:Inhabited β) (n:Nat) (f:Prop) (x:α) (t:α->Tree (α⊕β)) (h:f:=by first|trivial|(simp[oH];done)|decide|(simp only[and_true,true_and,or_true,true_or,and_self];done)|((repeat'(first|exact True.intro|apply And.intro|exact rfl|exact Or.inr rfl));done)):Tree β
def Tree.m{β:Type}:Tree β->β
 |.lf x=>x
 |.nx _ x _=>x
 |.br c t e=>cond c t.m e.m
 |.cn _ t=>t.m
 |.fl _ t=>t.m
 |.an _ t=>t.m
 |.lv x k=>dd x λy=>(k y).m
 |.lp _ n _ x t _=>run (λy=>(t y).m) n x
def mf{α β:Type}(B:α->(α⊕β->Prop)->Prop)(W:β->Prop)(n:Nat)(y:α):Prop:=
 match n with
 |0=>False
 |k+1=>B y (iH (λz=>mf B W k z) W)
termination_by n
theorem Z3v{α β:Type}{B:α->(α⊕β->Prop)->Prop}{W:β->Prop}{y:α}:mf B W 0 y=False:=by rw[mf]
theorem Qo{α β:Type}{B:α->(α⊕β->Prop)->Prop}{W:β->Prop}{k:Nat}{y:α}:mf B W (k+1) y=B y (iH (λz=>mf B W k z) W):=by rw[mf]
def Tree.w{β:Type}:Tree β->(β->Prop)->Prop
 |.lf x,W=>W x
 |.nx _ x _,W=>W x
 |.br c t e,W=>DG c (t.w W) (e.w W)
 |.cn c t,W=>cj c (t.w W)
 |.fl c t,W=>DG c False (t.w W)
 |.an p t,W=>p/\t.w W
 |.lv x k,W=>∀y,y=x->(k y).w W
 |.lp _ n _ x t _,W=>mf (λy V=>(t y).w V) W n x
def Tree.q{β:Type}:Tree β->(β->Prop)->Prop
 |.lf x,L=>L x
 |.nx f x _,L=>L x/\f
 |.br c t e,L=>DG c (t.q L) (e.q L)
 |.cn c t,L=>cj c (t.q L)
 |.fl c t,L=>DG c False (t.q L)
 |.an p t,L=>p/\t.q L
 |.lv x k,L=>∀y,y=x->(k y).q L
 |.lp (α:=α) _ _ f x t _,L=>∃(wm:α->Prop),∃(ν:α->Nat),wm x/\f/\∀y,wm y->(t y).q (iH (λz=>wm z/\ν z<ν y) L)
theorem Tree.main{β:Type}(t:Tree β):∀{W L E:β->Prop},(∀x,W x->E x->L x)->t.w W->E t.m->t.q L:=by
 induction t with
 |lf x=>intro W L E h hw he;exact h x hw he
 |nx f x hf=>intro W L E h hw he;exact⟨h x hw he,hf⟩
 |br c t e Kb Kc=>
  intro W L E h hw he
  cases c with
  |true=>exact Kb h hw he
  |false=>exact Kc h hw he
 |cn c t ih=>intro W L E h hw he;exact da.2 ⟨(da.1 hw).1,ih h (da.1 hw).2 he⟩
 |fl c t ih=>
  intro W L E h hw he
  cases c with
  |true=>exact hw.elim
  |false=>exact ih h hw he
 |an p t ih=>intro W L E h hw he;exact⟨hw.1,ih h hw.2 he⟩
 |lv x k ih=>intro W L E h hw he y hy;subst hy;exact ih y h (hw y rfl) he
 |lp d n f x t hf ih=>
  intro W L E h hw he
  have H:∀k y,mf (λy V=>(t y).w V) W k y->E (@run _ _ d (λy=>(t y).m) k y)->∃j,j<k/\k=j+1:=by
   intro k y h1 _
   cases k with
   |zero=>rw[Z3v]at h1;exact h1.elim
   |succ k=>exact⟨k,Nat.lt_succ_self k,rfl⟩
  let P:Nat->_->Prop:=λk y=>mf (λy V=>(t y).w V) W k y/\E (@run _ _ d (λy=>(t y).m) k y)
  have least:∀y,(∃k,P k y)->∃k,P k y/\∀j,P j y->k<=j:=by
   intro y ⟨k,hk⟩
   induction k using Nat.strongRecOn with
   |ind k ihk=>
    by_cases hj:∃j,j<k/\P j y
    ·obtain⟨j,h1,h2⟩:=hj;exact ihk j h1 h2
    ·exact⟨k,hk,λj h2=>Nat.le_of_not_lt λh1=>hj ⟨j,h1,h2⟩⟩
  have ch:∃ν:_->Nat,∀y,(∃k,P k y)->P (ν y) y/\∀j,P j y->ν y<=j:=Classical.axiomOfChoice (r:=λy k=>(∃k,P k y)->P k y/\∀j,P j y->k<=j) λy=>by
   by_cases hy:∃k,P k y
   ·obtain⟨k,hk⟩:=least y hy;exact⟨k,λ_=>hk⟩
   ·exact⟨0,λh=>absurd h hy⟩
  obtain⟨ν,hν⟩:=ch
  refine⟨λy=>∃k,P k y,ν,⟨n,hw,he⟩,hf,λy hy=>?_⟩
  have RJ:=hν y hy
  generalize Aj:ν y=k0 at RJ
  obtain⟨⟨h1,h2⟩,_⟩:=RJ
  obtain⟨j,_,rfl⟩:=H k0 y h1 h2
  rw[Qo]at h1
  refine ih y (E:=iH (λz=>E (@run _ _ d (λy=>(t y).m) j z)) E) ?_ h1 ?_
  ·intro z hz1 hz2
   cases z with
   |inl z=>
    have hz:∃k,P k z:=⟨j,hz1,hz2⟩
    refine⟨hz,?_⟩
    have:=(hν z hz).2 j ⟨hz1,hz2⟩
    show ν z<j+1
    omega
   |inr z=>exact h z hz1 hz2
  ·unfold run at h2
   cases hF:(t y).m with
   |inl z=>rw[hF]at h2;exact h2
   |inr z=>rw[hF]at h2;exact h2
abbrev Tree.p{β:Type}(t:Tree β):Prop:=t.w λ_=>True
theorem Tree.main'{β:Type}{t:Tree β}{L:β->Prop}(hw:t.p)(h:L t.m):t.q L:=t.main (λ_ _ h=>h) hw h
theorem Tree.mono{β:Type}(t:Tree β):∀{W V:β->Prop},(∀x,W x->V x)->t.w W->t.w V:=by
 induction t with
 |lf x=>intro W V h hw;exact h x hw
 |nx f x hf=>intro W V h hw;exact h x hw
 |br c t e Kb Kc=>
  intro W V h hw
  cases c with
  |true=>exact Kb h hw
  |false=>exact Kc h hw
 |cn c t ih=>intro W V h hw;exact da.2 ⟨(da.1 hw).1,ih h (da.1 hw).2⟩
 |fl c t ih=>
  intro W V h hw
  cases c with
  |true=>exact hw.elim
  |false=>exact ih h hw
 |an p t ih=>intro W V h hw;exact⟨hw.1,ih h hw.2⟩
 |lv x k ih=>intro W V h hw y hy;exact ih y h (hw y hy)
 |lp d n f x t hf ih=>
  intro W V h hw
  revert x
  show∀x,mf (λy V=>(t y).w V) W n x->mf (λy V=>(t y).w V) V n x
  induction n with
  |zero=>intro x hw;rw[Z3v]at hw;exact hw.elim
  |succ n ihn=>
   intro x hw
   rw[Qo]at hw⊢
   refine ih x (λz hz=>?_) hw
   cases z with
   |inl z=>exact ihn z hz
   |inr z=>exact h z hz
theorem Tree.post{β:Type}(t:Tree β):∀{W:β->Prop},t.w W->W t.m:=by
 induction t with
 |lf x=>intro W hw;exact hw
 |nx f x hf=>intro W hw;exact hw
 |br c t e Kb Kc=>
  intro W hw
  cases c with
  |true=>exact Kb hw
  |false=>exact Kc hw
 |cn c t ih=>intro W hw;exact ih (da.1 hw).2
 |fl c t ih=>
  intro W hw
  cases c with
  |true=>exact hw.elim
  |false=>exact ih hw
 |an p t ih=>intro W hw;exact ih hw.2
 |lv x k ih=>intro W hw;exact ih x (hw x rfl)
 |lp d n f x t hf ih=>
  intro W hw
  revert x
  show∀x,mf (λy V=>(t y).w V) W n x->W (@run _ _ d (λy=>(t y).m) n x)
  induction n with
  |zero=>intro x hw;rw[Z3v]at hw;exact hw.elim
  |succ n ihn=>
   intro x hw
   rw[Qo]at hw
   have:=ih x hw
   unfold run
   cases hF:(t x).m with
   |inl z=>rw[hF]at this;exact ihn z this
   |inr z=>rw[hF]at this;exact this
theorem Tree.pp{β:Type}{t:Tree β}{W:β->Prop}(h:t.w W):t.p/\W t.m:=⟨t.mono (λ_ _=>trivial) h,t.post h⟩
section
variable {α β:Type} {W:β->Prop} {c:Bool} {t e:Tree β}
theorem ey{x:β}(h:W x):(Tree.lf x).w W:=h
theorem fg{f:Prop}{x:β}{hf:f}(h:W x):(Tree.nx f x hf).w W:=h
theorem aa(h:c=true->t.w W)(g:c=false->e.w W):(Tree.br c t e).w W:=Zgg.2 ⟨h,g⟩
theorem ba(h:c=true)(g:t.w W):(Tree.cn c t).w W:=da.2 ⟨h,g⟩
theorem V0(h:c=false)(g:t.w W):(Tree.fl c t).w W:=Zgg.2 ⟨λe=>(by rw[h]at e;cases e),λ_=>g⟩
theorem cz{p:Prop}(h:p)(g:t.w W):(Tree.an p t).w W:=⟨h,g⟩
theorem ar{x:α}{k:α->Tree β}(h:∀y,y=x->(k y).w W):(Tree.lv x k).w W:=h
theorem fy{d:Inhabited β}{n:Nat}{f:Prop}{x:α}{k:α->Tree (α⊕β)}{hf:f}{inv:α->Prop}{μ:α->Nat}(h:inv x)(hn:μ x<n)(g:∀y,inv y->(k y).w (iH (λz=>inv z/\μ z<μ y) W)):(Tree.lp d n f x k hf).w W:=by
 show mf (λy V=>(k y).w V) W n x
 revert x
 induction n with
 |zero=>intro x h hn;omega
 |succ n ih=>
  intro x h hn
  rw[Qo]
  refine(k x).mono (λz hz=>?_) (g x h)
  cases z with
  |inl z=>exact ih hz.1 (by have:=hz.2;omega)
  |inr z=>exact hz
end
theorem wL{β:Type}{x:β}:(Tree.lf x).p:=trivial
theorem wB{β:Type}{c:Bool}{t e:Tree β}(h:t.p)(g:e.p):(Tree.br c t e).p:=by cases c<;>assumption
structure uV(T:fq)(G:List bc)(L:Code->St->(Ex->St->Prop)->Prop)(fn:Func)(args:List D)(rows:List Row)(ds:List oX)(Q:D->List Row->Prop):Prop where
 h:ny T G L fn args rows λd R=>r8 rows.length ds d R Q
theorem uV.of{T:fq}{G:List bc}{L:Code->St->(Ex->St->Prop)->Prop}{fn:Func}{args:List D}{rows:List Row}{ds:List oX}{Q:D->List Row->Prop}{p:Prop}(e:(ny T G L fn args rows λd R=>r8 rows.length ds d R Q)=p)(hl:p):uV T G L fn args rows ds Q:=⟨by rw[e];exact hl⟩
theorem uV.calls{P:Program}(hD:r7 P){T:fq}(hT:jy P T){G:List bc}(hG:jW P G){f:FuncId}{fn:Func}(hf:P.funcs[f]?=some fn){args:List D}{rows:List Row}{res:D}{aj:List Row}
 {rf:Option Nat} (nn:∀code,fn.body=some code->RF rf fn.ntmps code) {L:Code->St->(Ex->St->Prop)->Prop} (hL:∀code st Q,RF rf fn.ntmps code->L code st Q->Tr P fn.ntmps rows.length code st Q) {ds:List oX} (h:uV T G L fn args rows ds λr o=>r=res/\o=aj):Q3 P f args rows res aj:=
 zaP hD hT hG hf nn hL (λd R hQ=>by obtain⟨r,o,⟨rfl,rfl⟩,hE⟩:=Za1 hQ;exact hE) h.h
structure tn(T:fq)(G:List bc)(L:Code->St->(Ex->St->Prop)->Prop)(fn:Func)(args:List D)(rows:List Row)(k:Nat)(ds:List oX)(Q:D->List Row->Prop):Prop where
 h:JS T G L fn args rows (λd R=>r8 k ds d R Q) k
theorem tn.of{T:fq}{G:List bc}{L:Code->St->(Ex->St->Prop)->Prop}{fn:Func}{args:List D}{rows:List Row}{k:Nat}{ds:List oX}{Q:D->List Row->Prop}{p:Prop}(e:(JS T G L fn args rows (λd R=>r8 k ds d R Q) k)=p)(hl:p):tn T G L fn args rows k ds Q:=⟨by rw[e];exact hl⟩
theorem tn.calls{P:Program}(hD:r7 P){T:fq}(hT:jy P T){G:List bc}(hG:jW P G){f:FuncId}{fn:Func}{args:List D}{rows:List Row}{k:Nat}{res:D}{aj:List Row}{rf:Option Nat}(hf:uO P f fn (sA (pB args++kX rows)=true/\rf=none))(nn:∀code,fn.body=some code->RF rf fn.ntmps code)
 {L:Code->St->(Ex->St->Prop)->Prop} (hL:∀ro,(ro=none\/rf=none)->∀code st Q,RF rf fn.ntmps code->L code st Q->tP ro P fn.ntmps k code st Q) {ds:List oX} (h:tn T G L fn args rows k ds λr o=>r=res/\o=aj):sF P f k args rows res aj:=
 xaP hD hT hG hf nn hL (λd R hQ=>by obtain⟨r,o,⟨rfl,rfl⟩,hE⟩:=Za1 hQ;exact hE) h.h
section
variable {P:Program} {T:fq} {G:List bc} {f:FuncId} {fn:Func} {refs:List Bool} {flat:Bool} {sig:List PT} {dr:List RT} {pre:List D->List Row->Prop} {β:Type} {v:List D->List Row->β} {enc:β->D} {out:β->List Row}
theorem uO.imp{cl cl':Prop}(h:uO P f fn cl)(g:cl->cl'):uO P f fn cl':=by
 cases h with
 |real a b c=>exact .real a b c
 |yield a y d b c e f g1 g2 h i=>exact .yield a y d b c e f g1 g2 h (g i)
 |uP a y q b c e f g1 h i j k=>exact .uP a y q b c e f g1 h i j (g k)
theorem Z9t(rf:Option Nat)(nn:∀code,fn.body=some code->RF rf fn.ntmps code)(hD:r7 P)(hT:jy P T)(hG:jW P G)(hf:P.funcs[f]?=some fn)(t:List D->List Row->Tree β)(ds:List oX)(h8:List (Nat×bu))(dep:Nat)
 (hn:∀args rows Q,(ny T G (Ca T G fn.ntmps dr.length h8 rf dep) fn (me sig args 0) (lr dr rows 0) λd R=>r8 dr.length ds d R Q)=(t args rows).q λX=>Q (enc X) (out X)) (hv:∀args rows,(t args rows).m=v args rows) {args:List D} {rows:List Row} (hp:(t args rows).p):
 Q3 P f (me sig args 0) (lr dr rows 0) (enc (v args rows)) (out (v args rows)):=by
 have e:(lr dr rows 0).length=dr.length:=Vm
 refine uV.calls hD hT hG hf nn (L:=Ca T G fn.ntmps dr.length h8 rf dep) (λcode st Q hc hl=>by rw[e];exact wq hD hT hG (.inl rfl) dep _ _ _ hc hl) (ds:=ds) ⟨?_⟩
 rw[e,hn]
 refine Tree.main' hp ?_
 rw[hv]
 exact⟨rfl,rfl⟩
theorem Ziq(rf:Option Nat)(nn:∀code,fn.body=some code->RF rf fn.ntmps code){k:Nat}(hD:r7 P)(hT:jy P T)(hG:jW P G)(hf:uO P f fn ((∀args rows,sA (pB (me sig args 0)++kX (lr dr rows 0))=true)/\rf=none))(t:List D->List Row->Tree β)(ds:List oX)(h8:List (Nat×bu))(dep:Nat)
 (hn:∀args rows Q,(JS T G (Ca T G fn.ntmps k h8 rf dep) fn (me sig args 0) (lr dr rows 0) (λd R=>r8 k ds d R Q) k)=(t args rows).q λX=>Q (enc X) (out X)) (hv:∀args rows,(t args rows).m=v args rows) {args:List D} {rows:List Row} (hp:(t args rows).p):
 sF P f k (me sig args 0) (lr dr rows 0) (enc (v args rows)) (out (v args rows)):=by
 refine tn.calls hD hT hG (hf.imp λh=>⟨h.1 args rows,h.2⟩) nn (L:=Ca T G fn.ntmps k h8 rf dep) (λro DI=>wq hD hT hG DI dep) (ds:=ds) ⟨?_⟩
 rw[hn]
 refine Tree.main' hp ?_
 rw[hv]
 exact⟨rfl,rfl⟩
theorem zaC(rf:Option Nat)(nn:∀code,fn.body=some code->RF rf fn.ntmps code)(hD:r7 P)(hT:jy P T)(hG:jW P G)(hf:P.funcs[f]?=some fn)(he:∀args w,(callFunc f args).run P w=.ok (.enter f args) w)(t:List D->List Row->Tree β)(ds:List oX)(h8:List (Nat×bu))(dep:Nat)
 (hn:∀args rows Q,(ny T G (Ca T G fn.ntmps dr.length h8 rf dep) fn (me sig args 0) (lr dr rows 0) λd R=>r8 dr.length ds d R Q)=(t args rows).q λX=>Q (enc X) (out X)) (hv:∀args rows,(t args rows).m=v args rows)
 (hp:∀args rows,pre args rows->(t args rows).p) (jS:flat=true->∀X,(uZ (enc X)&&jH (out X))=true) (hy:bJ f YB=true:=by rfl):bj P (mM f refs flat sig dr pre v enc out):=
 ML he (λargs rows hw=>Z9t rf nn hD hT hG hf t ds h8 dep hn hv (hp _ _ hw)) jS hy
theorem u5(hD:r7 P)(hT:jy P T)(hG:jW P G)(hf:P.funcs[f]?=some fn)(he:∀args w,(callFunc f args).run P w=.ok (.enter f args) w)(t:List D->List Row->Tree β)(ds:List oX)(h8:List (Nat×bu))(dep:Nat)
 (hn:∀args rows Q,(ny T G (LL T G fn.ntmps dr.length h8 dep) fn (me sig args 0) (lr dr rows 0) λd R=>r8 dr.length ds d R Q)=(t args rows).q λX=>Q (enc X) (out X):=by intro _ _ _;kernel_rfl) (hv:∀args rows,(t args rows).m=v args rows:=by exactλ_ _=>rfl)
 (hp:∀args rows,pre args rows->(t args rows).p:=by exactλ_ _ h=>h) (jS:flat=true->∀X,(uZ (enc X)&&jH (out X))=true:=by intro _ _;kernel_rfl) (hy:bJ f YB=true:=by rfl):bj P (mM f refs flat sig dr pre v enc out):=
 zaC none (λ_ _=>trivial) hD hT hG hf he t ds h8 dep hn hv hp jS hy
theorem xaC(rf:Option Nat)(nn:∀code,fn.body=some code->RF rf fn.ntmps code)(hD:r7 P)(hT:jy P T)(hG:jW P G)(hf:P.funcs[f]?=some fn)(he:∀args w,(callFunc f args).run P w=.ok (.enter f args) w)(t:List D->List Row->Tree β)(ds:List oX)(h8:List (Nat×bu))(dep:Nat)
 (hn:∀args rows Q,(ny T G (Ca T G fn.ntmps dr.length h8 rf dep) fn (me sig args 0) (lr dr rows 0) λd R=>r8 dr.length ds d R Q)=(t args rows).q λX=>Q (enc X) (out X)) (hv:∀args rows,(t args rows).m=v args rows)
 (hp:∀args rows,(t args rows).p) (jS:flat=true->∀X,(uZ (enc X)&&jH (out X))=true) (hy:bJ f YB=true:=by rfl):bj P (ED f refs flat sig dr v enc out):=
 xac he (λargs rows=>Z9t rf nn hD hT hG hf t ds h8 dep hn hv (hp _ _)) jS hy
theorem Q1(hD:r7 P)(hT:jy P T)(hG:jW P G)(hf:P.funcs[f]?=some fn)(he:∀args w,(callFunc f args).run P w=.ok (.enter f args) w)(t:List D->List Row->Tree β)(ds:List oX)(h8:List (Nat×bu))(dep:Nat)
 (hn:∀args rows Q,(ny T G (LL T G fn.ntmps dr.length h8 dep) fn (me sig args 0) (lr dr rows 0) λd R=>r8 dr.length ds d R Q)=(t args rows).q λX=>Q (enc X) (out X):=by intro _ _ _;kernel_rfl) (hv:∀args rows,(t args rows).m=v args rows:=by exactλ_ _=>rfl)
 (hp:∀args rows,(t args rows).p:=by intro _ _;exact Tree.u6 (by kernel_rfl)) (jS:flat=true->∀X,(uZ (enc X)&&jH (out X))=true:=by intro _ _;kernel_rfl) (hy:bJ f YB=true:=by rfl):bj P (ED f refs flat sig dr v enc out):=
 xaC none (λ_ _=>trivial) hD hT hG hf he t ds h8 dep hn hv hp jS hy
theorem yU(rf:Option Nat)(nn:∀code,fn.body=some code->RF rf fn.ntmps code){k:Nat}(hD:r7 P)(hT:jy P T)(hG:jW P G)(hf:uO P f fn ((∀args rows,sA (pB (me sig args 0)++kX (lr dr rows 0))=true)/\rf=none))(he:f<YB->∀args w,(callFunc f args).run P w=.ok (.enter f args) w)(t:List D->List Row->Tree β)(ds:List oX)(h8:List (Nat×bu))(dep:Nat)
 (hn:∀args rows Q,(JS T G (Ca T G fn.ntmps k h8 rf dep) fn (me sig args 0) (lr dr rows 0) (λd R=>r8 k ds d R Q) k)=(t args rows).q λX=>Q (enc X) (out X)) (hv:∀args rows,(t args rows).m=v args rows)
 (hp:∀args rows,pre args rows->(t args rows).p):bj P (lW k f refs sig dr pre v enc out):=
 xaB he (λargs rows hw=>Ziq rf nn hD hT hG hf t ds h8 dep hn hv (hp _ _ hw))
theorem Eu{k:Nat}(hD:r7 P)(hT:jy P T)(hG:jW P G)(hf:P.funcs[f]?=some fn)(he:∀args w,(callFunc f args).run P w=.ok (.enter f args) w)(t:List D->List Row->Tree β)(ds:List oX)(h8:List (Nat×bu))(dep:Nat)
 (hn:∀args rows Q,(JS T G (LL T G fn.ntmps k h8 dep) fn (me sig args 0) (lr dr rows 0) (λd R=>r8 k ds d R Q) k)=(t args rows).q λX=>Q (enc X) (out X)) (hv:∀args rows,(t args rows).m=v args rows)
 (hp:∀args rows,pre args rows->(t args rows).p) (hy:bJ f YB=true:=by rfl) (hb:Nat.ble YB fn.nfree=false:=by rfl):bj P (lW k f refs sig dr pre v enc out):=
 yU none (λ_ _=>trivial) hD hT hG (.real (lE hy) hf hb) (λ_=>he) t ds h8 dep hn hv hp
theorem xC(h:bj P (mM f refs flat sig dr pre v enc out)){args:List D}{rows:List Row}(hs:(Bw sig args&&Bx dr rows)=true)(hw:pre args rows):Q3 P f args rows (enc (v args rows)) (out (v args rows)):=
 (h.lM rfl args rows (pre args rows) β (v args rows) enc out (by simp only[mM,hs]) hw).1
end
def Tree.pW{β:Type}:Tree β->Bool
 |.lf _=>true
 |.br _ t e=>t.pW&&e.pW
 |.lv x k=>(k x).pW
 |_=>false
theorem Tree.u6{β:Type}{t:Tree β}(h:t.pW=true):t.p:=by
 induction t with
 |lf x=>trivial
 |br c t e Kb Kc=>
  simp only[Tree.pW,aE]at h
  cases c with
  |true=>exact Kb h.1
  |false=>exact Kc h.2
 |lv x k ih=>intro y hy;subst hy;exact ih _ h
 |_=>simp[Tree.pW]at h
theorem jW.nil{P:Program}:jW P []:=λx hx=>by cases hx
theorem jW.cons{P:Program}{x:bc}{G:List bc}(h:bj P x)(g:jW P G):jW P (x::G):=λy hy=>by
 simp only[List.mem_cons]at hy
 rcases hy with rfl|hy
 ·exact h
 ·exact g y hy

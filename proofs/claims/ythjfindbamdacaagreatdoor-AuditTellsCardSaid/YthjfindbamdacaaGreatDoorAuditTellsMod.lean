import Derived.Test.YthjfindbamdacaaGreatDoorAuditTellsFc
open Nat renaming blt->bJ,beq->bT,le_refl->aO
open List renaming map_cons->fS,getD->aK,getElem?_eq_getElem->cG,range'->bK,all_cons->iG,all_nil->iH,length_cons->dH,length_nil->dI,length_set->dG,length_replicate->cU
open Bool renaming false_eq_true->aN,or_eq_true->aI,and_eq_false_iff->iB,or_eq_false_iff->iC,not_eq_true'->aS,not_eq_false'->iD,not_eq_true->iE,not_eq_false->iF
open Sum renaming elim->iI
set_option linter.all false
namespace Go.GD
open Go
open Go.IntKind(i64 u32 u64 wrap_i64 wrap_u32 wrap_u64 wrap_u8 wrap_i32)
def lk(st:St)(t:Nat):D:=look st.env t
def rN(st:St)(t:Nat):Nat:=rr (look st.env t) 1000000
def cT(st:St)(t j:Nat):D:=iW st.rows (rr (look st.env t) 1000000) j
def rX(st:St)(t k:Nat):Nat:=rr (look st.env t) (st.rows.length+k)
theorem Qi2{α:Type}{l:List α}(h:l≠[]):0<l.length:=by cases l<;>simp_all
theorem Q56{a b:Nat}:bJ a b=true↔a<b:=by simp[bJ,Nat.lt_iff_add_one_le]
theorem Q3d{a b:Nat}:bJ a b=false↔ ¬a<b:=by have:= @Q56 a b;cases h:bJ a b<;>simp_all
theorem Q5a{a b:Nat}:bT a b=true↔a=b:=iff_of_eq Nat.beq_eq
theorem Q3c{a b:Nat}:bT a b=false↔ ¬a=b:=by have:= @Q5a a b;cases h:bT a b<;>simp_all
def gd(d e:D):Prop:=∀c w v,cz c w d v->cz c w e v
def jz:List D->List D->Prop
 |[],[]=>True
 |d::l,e::m=>gd d e/\jz l m
 |_,_=>False
def pF:D->D->Prop
 |.agg cs,.agg ds=>jz cs ds
 |.agg _,_=>False
 |d,e=>gd d e
def DF:List D->List D->Prop
 |[],[]=>True
 |d::l,e::m=>pF d e/\DF l m
 |_,_=>False
theorem gd.rfl{d:D}:gd d d:=λ_ _ _ h=>h
theorem gd.ints{k:IntKind}{s:Nat}{E:ai}{fr:Bool}{l:List Int}(h:E.toI k=some l):gd (.sl s E fr) (.sl 1 (.ints k l) false):=by
 intro c w v hv
 have he:=ai.toI_l h
 obtain⟨a,cap,hv,hc,gx⟩:=hv
 rw[he]at hv hc gx
 refine⟨a,cap,hv,hc,?_⟩
 rcases gx with gx|⟨b,off,arr,ty,fz,ha,hI,hf,hh,hE⟩
 ·exact .inl gx
 ·cases l with
  |nil=>exact .inl (by simp[ai.l])
  |cons n l=>
   have h1:s=1:=by
    simp only[ai.l,fS,pT,oq]at hE
    exact hE.1.symm
   subst h1
   exact .inr ⟨b,off,arr,ty,fz,ha,hI,(λe=>by cases e),hh,hE⟩
theorem gd.bz{s:Nat}{E:ai}{fr:Bool}{l:List Bool}(h:E.toB=some l):gd (.sl s E fr) (.sl 1 (.bz l) false):=by
 intro c w v hv
 have he:=ai.toB_l h
 obtain⟨a,cap,hv,hc,gx⟩:=hv
 rw[he]at hv hc gx
 refine⟨a,cap,hv,hc,?_⟩
 rcases gx with gx|⟨b,off,arr,ty,fz,ha,hI,hf,hh,hE⟩
 ·exact .inl gx
 ·cases l with
  |nil=>exact .inl (by simp[ai.l])
  |cons n l=>
   have h1:s=1:=by
    simp only[ai.l,fS,pT,oq]at hE
    exact hE.1.symm
   subst h1
   exact .inr ⟨b,off,arr,ty,fz,ha,hI,(λe=>by cases e),hh,hE⟩
theorem jz.rep{c:Ctx}{w:World}:∀{ds es:List D} {vs:List Value},jz ds es->jt c w ds vs->jt c w es vs
 |[],[],[],_,_=>trivial
 |d::l,e::m,v::vs,h,hr=>⟨h.1 _ _ _ hr.1,jz.rep h.2 hr.2⟩
 |[],_::_,_,h,_=>h.elim
 |_::_,[],_,h,_=>h.elim
 |[],[],_::_,_,hr=>hr.elim
 |_::_,_::_,[],_,hr=>hr.elim
theorem pF.rep{c:Ctx}{w:World}{d e:D}{v:Value}(h:pF d e)(hr:VRep c w d v):VRep c w e v:=by
 cases d with
 |agg cs=>
  cases e with
  |agg ds=>obtain⟨vs,hv,hx⟩:=hr;exact⟨vs,hv,jz.rep h hx⟩
  |_=>exact h.elim
 |_=>
  have h1:=VRep.toC (λcs e=>by cases e) hr
  have h2:gd _ e:=h
  exact VRep.EW (h2 _ _ _ h1)
theorem DF.rep{c:Ctx}{w:World}:∀{ds es:List D} {vs:List Value},DF ds es->kr c w ds vs->kr c w es vs
 |[],[],[],_,_=>trivial
 |d::l,e::m,v::vs,h,hr=>⟨pF.rep h.1 hr.1,DF.rep h.2 hr.2⟩
 |[],_::_,_,h,_=>h.elim
 |_::_,[],_,h,_=>h.elim
 |[],[],_::_,_,hr=>hr.elim
 |_::_,_::_,[],_,hr=>hr.elim
theorem kq.sub{P:Program}{f:FuncId}{args mo:List D}{rows:List Row}{res:D}{ak:List Row}(hs:DF args mo)(h:kq P f mo rows res ak):kq P f args rows res ak:=
 λc w vs hm hb hR ha=>h c w vs hm hb hR (DF.rep hs ha)
theorem gd.ba{k:RK}{s:Nat}{E:ai}{fr:Bool}{l:List (RK.T k)}(h:E.toR k=some l):gd (.sl s E fr) (.sl k.size (.ba k l) false):=by
 intro c w v hv
 have he:=ai.toR_l h
 obtain⟨a,cap,hv,hc,gx⟩:=hv
 rw[he]at hv hc gx
 refine⟨a,cap,hv,hc,?_⟩
 rcases gx with gx|⟨b,off,arr,ty,fz,ha,hI,hf,hh,hE⟩
 ·exact .inl gx
 ·cases l with
  |nil=>exact .inl (by simp[ai.l])
  |cons x l=>
   have h1:s=k.size:=by
    simp only[ai.l,fS,oq]at hE
    rw[<-hE.1];exact RK.rM k x
   subst h1
   exact .inr ⟨b,off,arr,ty,fz,ha,hI,(λe=>by cases e),hh,hE⟩
theorem gd.DG{s:Nat}{E:ai}(h:E.l=[]):gd .du (.sl s E false):=by
 intro c w v hv
 exact⟨none,0,by rw[h];exact hv,by rw[h];exact aO _,.inl h⟩
theorem gd.Kg{s:Nat}{E:ai}(h:E.l=[]):gd .emp (.sl s E false):=by
 intro c w v hv
 obtain⟨a,hv,_⟩:=hv
 exact⟨a,0,by rw[h];exact hv,by rw[h];exact aO _,.inl h⟩
def Bm:List (Nat×Nat×Nat)->List (Nat×Nat×Nat)->Bool
 |[],[]=>true
 |(a,b,c)::l,(x,y,z)::m=>bT a x&&(bT b y&&(bT c z&&Bm l m))
 |_,_=>false
def tw:List iz->List iz->Bool
 |[],[]=>true
 |.ptr a b c::l,.ptr x y z::m=>bT a x&&(bT b y&&(bT c z&&tw l m))
 |.fn f ps::l,.fn g qs::m=>bT f g&&(Bm ps qs&&tw l m)
 |_,_=>false
theorem zy:∀{l m:List (Nat×Nat×Nat)},Bm l m=true->l=m
 |[],[],_=>rfl
 |(a,b,c)::l,(x,y,z)::m,h=>by
  simp only[Bm,aE]at h
  rw[bE h.1,bE h.2.1,bE h.2.2.1,zy h.2.2.2]
 |[],_::_,h=>by simp[Bm]at h
 |_::_,[],h=>by simp[Bm]at h
theorem yy:∀{l m:List iz},tw l m=true->l=m:=by
 intro l
 induction l with
 |nil=>intro m h;cases m with
  |nil=>rfl
  |cons _ _=>simp[tw]at h
 |cons a l ih=>
  intro m h
  cases m with
  |nil=>cases a<;>simp[tw]at h
  |cons b m=>
   cases a<;>cases b<;>simp only[tw,aE,aN]at h
   ·rw[bE h.1,bE h.2.1,bE h.2.2.1,ih h.2.2.2]
   ·rw[bE h.1,zy h.2.1,ih h.2.2]
def Bn:CT->D->Bool
 |.int k,.int j _=>decide (j=k)
 |.bool,.bool _=>true
 |.str,.str _=>true
 |.ints k,.sl _ E _=>(match E.toI k with|some _=>true|none=>false)
 |.bz,.sl _ E _=>(match E.toB with|some _=>true|none=>false)
 |.ba k,.sl _ E _=>(match E.toR k with|some _=>true|none=>false)
 |.ints _,.du=>true
 |.bz,.du=>true
 |.ba _,.du=>true
 |.ints _,.emp=>true
 |.bz,.emp=>true
 |.ba _,.emp=>true
 |.row i,.all r=>bT r i
 |.nil,.sl s (.gen []) false=>bT s 0
 |.Is,.du=>true
 |.self _,.iQ=>true
 |.gj f cs,.gj g ds=>bT g f&&tw ds cs
 |.self i,.c8 r=>bT r i
 |.self i,.ptr r o f=>bT r i&&(bT o 0&&bT f 0)
 |.pt i a b,.ptr r o f=>bT r i&&(bT o a&&bT f b)
 |_,_=>false
inductive PT where
 |one (t:CT)
 |agg (ts:List CT)
 |ptr (i:Nat)
 |gj (f:Nat) (cs:List iz)
inductive RT where
 |box (ty sz:Nat) (ts:List CT)
 |arr (ty sz:Nat) (t:CT)
def Kh:List CT->List D->Bool
 |[],[]=>true
 |t::ts,d::ds=>Bn t d&&Kh ts ds
 |_,_=>false
def wa:PT->D->Bool
 |.agg ts,.agg cs=>Kh ts cs
 |.one t,d=>Bn t d
 |.ptr i,.ptr r j o=>bT r i&&(bT j 0&&bT o 0)
 |.gj f cs,.gj g ds=>bT g f&&tw ds cs
 |_,_=>false
def HX:PT->D->D
 |.agg ts,d=>.agg (wz ts d.cells 0)
 |.one t,d=>DU t d
 |.ptr i,_=>.ptr i 0 0
 |.gj f cs,_=>.gj f cs
def BG:List PT->List D->Bool
 |[],[]=>true
 |s::l,d::ds=>wa s d&&BG l ds
 |_,_=>false
def mq:List PT->List D->Nat->List D
 |[],_,_=>[]
 |s::l,args,i=>HX s (args.getD i .dead)::mq l args (i+1)
def Row.cs(r:Row):List D:=match r.es with|.gen [e]=>e|_=>[]
def wc:RT->Row->Bool
 |.box ty sz ts,⟨true,j6,kE,.gen [e]⟩=>bT j6 ty&&(bT kE sz&&Kh ts e)
 |.arr ty sz t,⟨false,j6,kE,E⟩=>bT j6 ty&&(bT kE sz&&(match toCT t E with|some _=>true|none=>false))
 |_,_=>false
def RP(t:CT)(E:ai):ai:=match t with
 |.ints k=>.ints k (match E.toI k with|some l=>l|none=>[])
 |.bz=>.bz (match E.toB with|some l=>l|none=>[])
 |.ba k=>.ba k (match E.toR k with|some l=>l|none=>[])
 |_=>.gen []
theorem qar{t:CT}{E E':ai}(h:toCT t E=some E'):RP t E=E':=by
 cases t with
 |ints k=>
  simp only[toCT]at h
  split at h
  ·rename_i l hl
   cases h
   show ai.ints k (match E.toI k with|some l=>l|none=>[])=_
   rw[hl]
  ·cases h
 |bz=>
  simp only[toCT]at h
  split at h
  ·rename_i l hl
   cases h
   show ai.bz (match E.toB with|some l=>l|none=>[])=_
   rw[hl]
  ·cases h
 |ba k=>
  simp only[toCT]at h
  split at h
  ·rename_i l hl
   cases h
   show ai.ba k (match E.toR k with|some l=>l|none=>[])=_
   rw[hl]
  ·cases h
 |_=>simp[toCT]at h
def Ah:RT->Row->Row
 |.box ty sz ts,r=>⟨true,ty,sz,.gen [wz ts r.cs 0]⟩
 |.arr ty sz t,r=>⟨false,ty,sz,RP t r.es⟩
def BH:List RT->List Row->Bool
 |[],[]=>true
 |s::l,r::rs=>wc s r&&BH l rs
 |_,_=>false
def lG:List RT->List Row->Nat->List Row
 |[],_,_=>[]
 |s::l,rows,i=>Ah s (rows.getD i default)::lG l rows (i+1)
def av(args:List D)(i:Nat):Int:=(args.getD i .dead).toInt
def tz(args:List D)(i:Nat):Bool:=(args.getD i .dead).toBool
def gh(args:List D)(i:Nat):List UInt8:=(args.getD i .dead).toStr
def ek(k:IntKind)(args:List D)(i:Nat):List Int:=nE k (args.getD i .dead)
def ie(k:RK)(args:List D)(i:Nat):List (RK.T k):=rT k (args.getD i .dead)
def nY(rows:List Row)(i j:Nat):D:=((rows.getD i default).cs.getD j .dead)
def ir(k:IntKind)(rows:List Row)(i:Nat):List Int:=match(rows.getD i default).es.toI k with|some l=>l|none=>[]
def Bo(k:RK)(rows:List Row)(i:Nat):List (RK.T k):=match(rows.getD i default).es.toR k with|some l=>l|none=>[]
theorem Za9{t:CT}{d:D}(h:Bn t d=true):gd d (DU t d):=by
 cases t<;>cases d<;>(try(simp[Bn]at h;done))
 case int.int=>simp[Bn]at h;subst h;exact gd.rfl
 case nil.sl s E fr=>
  unfold Bn at h
  split at h<;>simp_all
  exact gd.rfl
 case Is.du=>exact gd.rfl
 case bool.bool=>exact gd.rfl
 case str.str=>exact gd.rfl
 case ints.sl k sz E fr=>
  simp only[Bn]at h
  split at h
  ·rename_i l hl
   simp only[DU,nE,hl]
   exact gd.ints hl
  ·cases h
 case ints.du=>exact gd.DG rfl
 case ints.emp=>exact gd.Kg rfl
 case bz.sl sz E fr=>
  simp only[Bn]at h
  split at h
  ·rename_i l hl
   simp only[DU,SC,hl]
   exact gd.bz hl
  ·cases h
 case bz.du=>exact gd.DG rfl
 case bz.emp=>exact gd.Kg rfl
 case ba.sl k sz E fr=>
  simp only[Bn]at h
  split at h
  ·rename_i l hl
   simp only[DU,rT,hl]
   exact gd.ba hl
  ·cases h
 case ba.du=>exact gd.DG rfl
 case ba.emp=>exact gd.Kg rfl
 case row.all i r=>rw[bE h];exact gd.rfl
 case gj.gj f cs g ds=>
  simp only[Bn,aE]at h
  rw[bE h.1,yy h.2]
  exact gd.rfl
 case self.iQ i=>exactλc w v hv=>.inl hv
 case self.c8 i r=>rw[bE h];exact gd.rfl
 case self.ptr i r o f=>
  simp only[Bn,aE]at h
  rw[bE h.1,bE h.2.1,bE h.2.2]
  exactλc w v hv=>.inr hv
 case pt.ptr i a b r o f=>
  simp only[Bn,aE]at h
  rw[bE h.1,bE h.2.1,bE h.2.2]
  exact gd.rfl
theorem Qxc:∀{ts:List CT} {pre ds:List D},Kh ts ds=true->jz ds (wz ts (pre++ds) pre.length)
 |[],pre,[],_=>trivial
 |t::ts,pre,d::ds,h=>by
  simp only[Kh,aE]at h
  have h2:=Qxc (pre:=pre++[d]) h.2
  simp only[wz]
  refine⟨?_,by simpa using h2⟩
  have:(pre++d::ds).getD pre.length .dead=d:=by simp[aK]
  rw[this];exact Za9 h.1
 |[],_,_::_,h=>by simp[Kh]at h
 |_::_,_,[],h=>by simp[Kh]at h
theorem pF.of1{d e:D}(hd:∀cs,d≠.agg cs)(h:gd d e):pF d e:=by
 cases d<;>first|exact h|exact absurd rfl (hd _)
theorem Zp8{s:PT}{d:D}(h:wa s d=true):pF d (HX s d):=by
 unfold wa at h
 split at h
 ·rename_i ts cs
  exact Qxc (pre:=[]) h
 ·rename_i t d
  refine pF.of1 (λcs e=>?_) (Za9 h)
  subst e
  cases t<;>simp[Bn]at h
 ·rename_i i r j o
  simp only[aE]at h
  rw[bE h.1,bE h.2.1,bE h.2.2]
  exact gd.rfl
 ·rename_i f cs g ds
  simp only[aE]at h
  rw[bE h.1,yy h.2]
  exact gd.rfl
 ·cases h
theorem Qx5:∀{l:List PT} {pre ds:List D},BG l ds=true->DF ds (mq l (pre++ds) pre.length)
 |[],pre,[],_=>trivial
 |s::l,pre,d::ds,h=>by
  simp only[BG,aE]at h
  have h2:=Qx5 (pre:=pre++[d]) h.2
  simp only[mq]
  refine⟨?_,by simpa using h2⟩
  have:(pre++d::ds).getD pre.length .dead=d:=by simp[aK]
  rw[this];exact Zp8 h.1
 |[],_,_::_,h=>by simp[BG]at h
 |_::_,_,[],h=>by simp[BG]at h
def tA(a b:Row):Prop:=b.box=a.box/\b.ty=a.ty/\b.sz=a.sz/\b.es.l.length=a.es.l.length/\match a.box with
 |true=>∃e e',a.es=.gen [e]/\b.es=.gen [e']/\e'.length=e.length/\jz e e'
 |false=>b.es.l=a.es.l
theorem jz.length:∀{ds es:List D},jz ds es->ds.length=es.length
 |[],[],_=>rfl
 |_::_,_::_,h=>by simp[jz.length h.2]
 |[],_::_,h=>h.elim
 |_::_,[],h=>h.elim
theorem Zp6{s:RT}{r:Row}(h:wc s r=true):tA r (Ah s r):=by
 unfold wc at h
 split at h
 ·rename_i ty sz ts j6 kE e
  simp only[aE]at h
  have h3:=Qxc (pre:=[]) h.2.2
  have hl:=h3.length
  exact⟨rfl,(bE h.1).symm,(bE h.2.1).symm,rfl,_,_,rfl,rfl,hl.symm,h3⟩
 ·rename_i ty sz t j6 kE E
  simp only[aE]at h
  obtain⟨h1,h2,h3⟩:=h
  split at h3
  ·rename_i E' hE
   have he:=ai.AA (NG hE)
   have hc:Ah (.arr ty sz t) ⟨false,j6,kE,E⟩=⟨false,ty,sz,E'⟩:=by simp[Ah,qar hE]
   rw[hc]
   exact⟨rfl,(bE h1).symm,(bE h2).symm,by simp only[he],he.symm⟩
  ·cases h3
 ·cases h
theorem Qsr:∀{l:List RT} {pre rs:List Row},BH l rs=true->rs.length=l.length/\∀(i:Nat) r,rs[i]?=some r->∃r',(lG l (pre++rs) pre.length)[i]?=some r'/\tA r r'
 |[],pre,[],_=>⟨rfl,λi r h=>by simp at h⟩
 |s ::l,pre,r::rs,h=>by
  simp only[BH,aE]at h
  obtain⟨h1,h2⟩:=Qsr (pre:=pre++[r]) h.2
  refine⟨by simp[h1],λi q hq=>?_⟩
  cases i with
  |zero=>
   simp at hq;subst hq
   have:(pre++r::rs).getD pre.length default=r:=by simp[aK]
   exact⟨_,by simp only[lG,this];rfl,Zp6 h.1⟩
  |succ i=>
   obtain⟨q',g1,g2⟩:=h2 i q (by simpa using hq)
   refine⟨q',?_,g2⟩
   simp only[lG,List.getElem?_cons_succ]
   simpa using g1
 |[],_,_::_,h=>by simp[BH]at h
 |_::_,_,[],h=>by simp[BH]at h
theorem Qg:∀{l:List RT} {rows:List Row} {i:Nat},(lG l rows i).length=l.length
 |[],_,_=>rfl
 |s::l,rows,i=>by simp[lG,Qg]
theorem qz{d:D}:d.mF (λr=>r) true=d:=by
 cases d with
 |gj f cs=>simp only[D.mF,Zs]
 |_=>simp[D.mF]
theorem Vs:∀{ds:List D},D.mG (λr=>r) true ds=ds
 |[]=>rfl
 |d::l=>by simp[D.mG,qz,Vs (ds:=l)]
theorem zaF{d:D}:d.jm (λr=>r) true=d:=by
 cases d with
 |agg cs=>show D.agg (D.mG _ true cs)=_;rw[Vs]
 |gj f cs=>exact qz (d:=.gj f cs)
 |_=>simp[D.jm,D.mF]
theorem jz.cells{c:Ctx}{w:World}:∀{ds es:List D} {arr:Array Value} {off:Nat},jz ds es->kU c w ds arr off->kU c w es arr off
 |[],[],_,_,_,_=>trivial
 |d::l,e::m,_,_,h,⟨⟨v,hv,h1⟩,h2⟩=>⟨⟨v,hv,h.1 _ _ _ h1⟩,jz.cells h.2 h2⟩
 |[],_::_,_,_,h,_=>h.elim
 |_::_,[],_,_,h,_=>h.elim
theorem Zat{c1 c2:Ctx}{w:World}(hn:EB (λ_=>True) (λr=>r) true c1 c2)(hI:∀b,c1.I b->c2.I b):∀{ds:List D} {vs:List Value},kr c1 w ds vs->kr c2 w ds vs
 |[],[],_=>trivial
 |d::ds,v::vs,h=>⟨by have:=QG hn (flat:=False) (.inl hI) (λ_ _=>trivial) (λe=>e.elim) h.1;rwa [zaF]at this,Zat hn hI h.2⟩
 |[],_::_,h=>h.elim
 |_::_,[],h=>h.elim
theorem kq.Ki{P:Program}{f:FuncId}{args mo:List D}{rows lu:List Row}{res:D}{ak:List Row}(hs:DF args mo)(hl:lu.length=rows.length)(hr:∀(i:Nat) r,rows[i]?=some r->∃r',lu[i]?=some r'/\tA r r')(h:kq P f mo lu res ak):kq P f args rows res ak:=by
 intro c w vs hm hb hR ha
 let c2:Ctx:={c with R:=λr=>lu[r]? }
 have RQ:∀r row,c.R r=some row->∃aq,c2.R r=some aq/\tA row aq:=λr row cr=>by
  rw[hR]at cr;exact hr r row cr
 have we:∀r aq,c2.R r=some aq->∃row,c.R r=some row/\tA row aq:=λr aq cr=>by
  have cr:lu[r]?=some aq:=cr
  have cq:=(List.getElem?_eq_some_iff.1 cr).1
  have h1:rows[r]?=some rows[r]:=cG (by omega)
  obtain⟨jE,g1,g2⟩:=hr r _ h1
  rw[cr]at g1;cases g1
  exact⟨_,by rw[hR];exact h1,g2⟩
 have hn:EB (λ_=>True) (λr=>r) true c c2:=⟨λi row _ cr=>by
  obtain⟨aq,g1,g2,g3,g4,g5,_⟩:=RQ i row cr
  exact⟨aq,g1,g2,g3,g4,g5,rfl,Iff.rfl⟩,λ_=>aO _,aO _⟩
 have Ce:Mem c2 w:=by
  refine⟨λr aq cr=>?_,λr s x y h1 h2 v1 v2 he=>?_,λb iL=>⟨(hm.fk b iL).1,λr x h1 v=>?_⟩,hm.top,hm.kX⟩
  ·obtain⟨row,g1,g2,g3,g4,g5,g6⟩:=we r aq cr
   rcases hm.row r row g1 with⟨k1,k2,k3,k4⟩|⟨k1,arr,k2,k3,k4⟩
   ·refine .inl ⟨k1,g2.trans k2,?_,by rw[g4];exact k4⟩
    rw[k2]at g6;simp only at g6;rw[g6,k3]
   ·refine .inr ⟨k1,arr,by rw[g3];exact k2,by rw[g4];exact k3,?_⟩
    rw[g2,g4]
    cases w6:row.box with
    |false=>
     simp only[w6,aN,if_false]at k4 g6⊢
     rw[g6];exact k4
    |true=>
     simp only[w6,if_true]at k4 g6⊢
     obtain⟨e,e',q1,q2,q3,q4⟩:=g6
     obtain⟨e0,p1,p2,p3,p4⟩:=k4
     rw[q1]at p1;cases p1
     refine⟨e',q2,by rw[q3];exact p2,p3,?_⟩
     have:=UW hn (flat:=False) (.inl λb hb=>hb) (λ_ _=>trivial) (λe=>e.elim) (jz.cells q4 p4)
     rwa [Vs]at this
  ·obtain⟨x',g1,_⟩:=we r x h1
   obtain⟨y',g2,_⟩:=we s y h2
   exact hm.inj r s x' y' g1 g2 v1 v2 he
  ·obtain⟨x',g1,_⟩:=we r x h1
   exact(hm.fk b iL).2 r x' g1 v
 refine(h c2 w vs Ce hb (λr=>rfl) (Zat hn (λb h=>h) (DF.rep hs ha))).mono λe w' hq=>?_
 obtain⟨v,c',he,hx,j7,hv⟩:=hq
 refine⟨v,c',he,⟨hx.mem,⟨hx.cj.base,hx.cj.top,hx.cj.I,λr row cr=>?_⟩,hx.fr.mono λb _ ⟨r,x,h1,h2,h3⟩=>?_,hx.fk,λr aq h1 h2=>?_⟩,j7,hv⟩
 ·obtain⟨jE,g1,g2,g3,g4,g5,g6⟩:=RQ r row cr
  obtain⟨aq,k1,k2,k3,k4,k5,k6,k7,k8⟩:=hx.cj.R r jE g1
  exact⟨aq,k1,k2.trans g2,k3.trans g3,k4.trans g4,k5.trans g5,k6,k7,λnv arr ha=>by rw[<-g3]at ha⊢;exact k8 nv arr ha⟩
 ·obtain⟨x',g1,_⟩:=we r x h1
  exact⟨r,x',g1,h2,h3⟩
 ·rcases hx.oj r aq h1 h2 with⟨⟨x,nL⟩,h3,h4⟩|h3
  ·obtain⟨x',g1,_⟩:=we r x nL
   exact .inl ⟨⟨x',g1⟩,h3,h4⟩
  ·exact .inr h3
theorem sN.Ki{P:Program}{f:FuncId}{k:Nat}{args mo:List D}{rows lu:List Row}{res:D}{ak:List Row}(hs:DF args mo)(hl:lu.length=rows.length)(hr:∀(i:Nat) r,rows[i]?=some r->∃r',lu[i]?=some r'/\tA r r')(h:sN P f k mo lu res ak):sN P f k args rows res ak:=by
 intro c w vs hm hb hR ha
 let c2:Ctx:={c with R:=λr=>lu[r]? }
 have RQ:∀r row,c.R r=some row->∃aq,c2.R r=some aq/\tA row aq:=λr row cr=>by
  rw[hR]at cr;exact hr r row cr
 have we:∀r aq,c2.R r=some aq->∃row,c.R r=some row/\tA row aq:=λr aq cr=>by
  have cr:lu[r]?=some aq:=cr
  have cq:=(List.getElem?_eq_some_iff.1 cr).1
  have h1:rows[r]?=some rows[r]:=cG (by omega)
  obtain⟨jE,g1,g2⟩:=hr r _ h1
  rw[cr]at g1;cases g1
  exact⟨_,by rw[hR];exact h1,g2⟩
 have hn:EB (λ_=>True) (λr=>r) true c c2:=⟨λi row _ cr=>by
  obtain⟨aq,g1,g2,g3,g4,g5,_⟩:=RQ i row cr
  exact⟨aq,g1,g2,g3,g4,g5,rfl,Iff.rfl⟩,λ_=>aO _,aO _⟩
 have Ce:Mem c2 w:=by
  refine⟨λr aq cr=>?_,λr s x y h1 h2 v1 v2 he=>?_,λb iL=>⟨(hm.fk b iL).1,λr x h1 v=>?_⟩,hm.top,hm.kX⟩
  ·obtain⟨row,g1,g2,g3,g4,g5,g6⟩:=we r aq cr
   rcases hm.row r row g1 with⟨k1,k2,k3,k4⟩|⟨k1,arr,k2,k3,k4⟩
   ·refine .inl ⟨k1,g2.trans k2,?_,by rw[g4];exact k4⟩
    rw[k2]at g6;simp only at g6;rw[g6,k3]
   ·refine .inr ⟨k1,arr,by rw[g3];exact k2,by rw[g4];exact k3,?_⟩
    rw[g2,g4]
    cases w6:row.box with
    |false=>
     simp only[w6,aN,if_false]at k4 g6⊢
     rw[g6];exact k4
    |true=>
     simp only[w6,if_true]at k4 g6⊢
     obtain⟨e,e',q1,q2,q3,q4⟩:=g6
     obtain⟨e0,p1,p2,p3,p4⟩:=k4
     rw[q1]at p1;cases p1
     refine⟨e',q2,by rw[q3];exact p2,p3,?_⟩
     have:=UW hn (flat:=False) (.inl λb hb=>hb) (λ_ _=>trivial) (λe=>e.elim) (jz.cells q4 p4)
     rwa [Vs]at this
  ·obtain⟨x',g1,_⟩:=we r x h1
   obtain⟨y',g2,_⟩:=we s y h2
   exact hm.inj r s x' y' g1 g2 v1 v2 he
  ·obtain⟨x',g1,_⟩:=we r x h1
   exact(hm.fk b iL).2 r x' g1 v
 refine(h c2 w vs Ce hb (λr=>rfl) (Zat hn (λb h=>h) (DF.rep hs ha))).mono (λb hb=>hb) λe w' hq=>?_
 obtain⟨v,c',he,hx,j7,hv⟩:=hq
 rw[hl]at hx
 refine⟨v,c',he,⟨hx.mem,⟨hx.cj.base,hx.cj.top,hx.cj.I,λr row cr=>?_⟩,hx.fr.mono λb _ ⟨r,x,h1,h2,h3⟩=>?_,λb hb=>?_,λr aq h1 h2=>?_⟩,j7,hv⟩
 ·obtain⟨q,kd,Du,rfl⟩:=om cr
  obtain⟨jE,g1,g2,g3,g4,g5,g6⟩:=RQ r kd Du
  obtain⟨aq,k1,k2,k3,k4,k5,k6,k7,k8⟩:=hx.cj.R r (jE.kill _) (by simp only[Ctx.kill];rw[if_neg (by rw[q];simp),g1];rfl)
  obtain⟨s1,s2,s3,s4⟩:=wF (bK k (rows.length-k)) kd
  obtain⟨t1,t2,t3,t4⟩:=wF (bK k (rows.length-k)) jE
  refine⟨aq,k1,k2.trans (t1.trans (g2.trans s1.symm)),k3.trans (t2.trans (g3.trans s2.symm)),k4.trans (t3.trans (g4.trans s3.symm)),k5.trans (t4.trans (g5.trans s4.symm)),k6,k7,λnv arr ha=>?_⟩
  rw[s2]at ha⊢
  have:=k8 nv arr (by rw[t2,g3];exact ha)
  rw[t2,g3]at this
  exact this
 ·obtain⟨x',g1,_⟩:=we r x h1
  exact⟨r,x',g1,h2,h3⟩
 ·rcases hx.fk b hb with h|⟨s,x,h1,h2,h3,h4⟩|h
  ·exact .inl h
  ·obtain⟨x',g1,_⟩:=we s x h2
   exact .inr (.inl ⟨s,x',h1,g1,h3,h4⟩)
  ·exact .inr (.inr h)
 ·rcases hx.oj r aq h1 h2 with⟨⟨x,nL⟩,h3,h4⟩|⟨s,x,q1,q2,q3,q4⟩|h3
  ·obtain⟨x',g1,_⟩:=we r x nL
   exact .inl ⟨⟨x',g1⟩,h3,h4⟩
  ·obtain⟨x',g1,_⟩:=we s x q2
   exact .inr (.inl ⟨s,x',q1,g1,q3,q4⟩)
  ·exact .inr (.inr h3)
def EN(f:FuncId)(refs:List Bool)(flat:Bool)(sig:List PT)(dq:List RT){α:Type}(v:List D->List Row->α)(enc:α->D)(out:α->List Row):bb:=
 ⟨f,refs,flat,λargs rows=>match BG sig args&&BH dq rows with|true=>.abs α (v args rows) enc out|false=>.no,none,false⟩
def mU(f:FuncId)(refs:List Bool)(flat:Bool)(sig:List PT)(dq:List RT)(pre:List D->List Row->Prop){α:Type}(v:List D->List Row->α)(enc:α->D)(out:α->List Row):bb:=
 ⟨f,refs,flat,λargs rows=>match BG sig args&&BH dq rows with|true=>.lT (pre args rows) α (v args rows) enc out|false=>.no,none,false⟩
def bb.fz(x:bb):bb:={x with pj:=true}
theorem MY{P:Program}{x:bb}(h:bj P x):bj P x.fz:=⟨h.enters,h.real,h.ok,h.when,h.abs,h.lT,h.P5,h.Hv⟩
def Vt(k:Nat)(f:FuncId)(refs:List Bool)(sig:List PT)(dq:List RT){α:Type}(v:List D->List Row->α)(enc:α->D)(out:α->List Row):bb:=
 ⟨f,refs,false,λargs rows=>match BG sig args&&BH dq rows with|true=>.abs α (v args rows) enc out|false=>.no,some k,false⟩
def mI(k:Nat)(f:FuncId)(refs:List Bool)(sig:List PT)(dq:List RT)(pre:List D->List Row->Prop){α:Type}(v:List D->List Row->α)(enc:α->D)(out:α->List Row):bb:=
 ⟨f,refs,false,λargs rows=>match BG sig args&&BH dq rows with|true=>.lT (pre args rows) α (v args rows) enc out|false=>.no,some k,false⟩
def ai.Ai:ai->Bool
 |.gen _=>false
 |.ba k _=>k.lg
 |_=>true
theorem ai.tB{E:ai}(h:E.Ai=true):E.FX:=by
 cases E with
 |gen es=>simp[ai.Ai]at h
 |ba k l=>exact h
 |_=>trivial
def DH:D->Bool|.sl _ E fr=>fr&&E.Ai|.iw _ _ _ _=>false|.gj _ _=>false|_=>true
def DI:List D->Bool|[]=>true|d::l=>DH d&&DI l
def Kj:D->Bool|.agg cs=>DI cs|d=>DH d
def Ga:List D->Bool|[]=>true|d::l=>Kj d&&Ga l
def wu:D->Bool|.dt ds=>Ga ds|d=>Kj d
def jP:List Row->Bool
 |[]=>true
 |⟨true,_,_,.gen [e]⟩::l=>DI e&&jP l
 |⟨false,_,_,E⟩::l=>E.Ai&&jP l
 |_=>false
theorem RR{d:D}(h:DH d=true):QF d:=by
 cases d<;>first|trivial|(simp[DH]at h;done)|skip
 case sl sz E fr=>simp only[DH,aE]at h;exact⟨.inr h.1,ai.tB h.2⟩
theorem Vu:∀{ds:List D},DI ds=true->MK ds
 |[],_=>trivial
 |d::l,h=>by simp only[DI,aE]at h;exact⟨RR h.1,Vu h.2⟩
theorem zar{d:D}(h:Kj d=true):UU d:=by
 cases d with
 |agg cs=>exact Vu h
 |sl a b c=>exact RR (d:=.sl a b c) h
 |iw a b c e=>exact RR (d:=.iw a b c e) h
 |_=>trivial
theorem xz:∀{ds:List D},Ga ds=true->FY ds
 |[],_=>trivial
 |d::l,h=>by simp only[Ga,aE]at h;exact⟨zar h.1,xz h.2⟩
theorem zZ{d:D}(h:wu d=true):FF d:=by
 cases d with
 |dt ds=>exact xz h
 |agg cs=>exact Vu h
 |sl a b c=>exact RR (d:=.sl a b c) h
 |iw a b c e=>exact RR (d:=.iw a b c e) h
 |_=>trivial
theorem Vv:∀{rs:List Row},jP rs=true->rL rs
 |[],_=>trivial
 |⟨true,_,_,.gen [e]⟩::l,h=>by
  simp only[jP,aE]at h
  refine⟨?_,Vv h.2⟩
  simp only[JQ,if_true,ai.l,List.mem_singleton,forall_eq]
  exact Vu h.1
 |⟨false,_,_,E⟩::l,h=>by
  simp only[jP,aE]at h
  refine⟨?_,Vv h.2⟩
  simp only[JQ,aN,if_false]
  exact ai.tB h.1
 |⟨true,_,_,.gen []⟩::l,h=>by simp[jP]at h
 |⟨true,_,_,.gen (_::_::_)⟩::l,h=>by simp[jP]at h
 |⟨true,_,_,.ints _ _⟩::l,h=>by simp[jP]at h
 |⟨true,_,_,.bz _⟩::l,h=>by simp[jP]at h
 |⟨true,_,_,.ba _ _⟩::l,h=>by simp[jP]at h
theorem yZ{P:Program}{f:FuncId}{sig:List PT}{dq:List RT}{args:List D}{rows:List Row}{res:D}{out:List Row}(hs:(BG sig args&&BH dq rows)=true)(h:kq P f (mq sig args 0) (lG dq rows 0) res out):kq P f args rows res out:=by
 simp only[aE]at hs
 obtain⟨h1,h2⟩:=Qsr (pre:=[]) hs.2
 exact kq.Ki (Qx5 (pre:=[]) hs.1) (by rw[Qg,h1]) h2 h
theorem vZ{P:Program}{f:FuncId}{refs:List Bool}{flat:Bool}{sig:List PT}{dq:List RT}{α:Type}{v:List D->List Row->α}{enc:α->D}{out:α->List Row}(he:∀args w,(callFunc f args).run P w=.ok (.enter f args) w)(h:∀args rows,kq P f (mq sig args 0) (lG dq rows 0) (enc (v args rows)) (out (v args rows)))
 (hf:flat=true->∀X,(wu (enc X)&&jP (out X))=true) (hy:bJ f YB=true:=by rfl):bj P (EN f refs flat sig dq v enc out):=by
 refine⟨λ_=>he,λ_=>lE hy,λ_ args rows r r' hm=>?_,λ_ args rows p r r' hm=>?_,λ_ args rows α' v' r r' hm=>?_,λ_ args rows p α' v' r r' hm=>?_,λk hk=>(by cases hk),λk hk=>(by cases hk)⟩
 ·simp only[EN]at hm
  split at hm<;>cases hm
 ·simp only[EN]at hm
  split at hm<;>cases hm
 ·simp only[EN]at hm
  split at hm
  ·rename_i hs
   cases hm
   exact⟨yZ hs (h args rows),λe=>by have:=hf e (v args rows);simp only[aE]at this;exact⟨zZ this.1,Vv this.2⟩⟩
  ·cases hm
 ·simp only[EN]at hm
  split at hm<;>cases hm
theorem MZ{P:Program}{f:FuncId}{refs:List Bool}{flat:Bool}{sig:List PT}{dq:List RT}{pre:List D->List Row->Prop}{α:Type}{v:List D->List Row->α}{enc:α->D}{out:α->List Row}(he:∀args w,(callFunc f args).run P w=.ok (.enter f args) w)(h:∀args rows,pre args rows->kq P f (mq sig args 0) (lG dq rows 0) (enc (v args rows)) (out (v args rows)))
 (hf:flat=true->∀X,(wu (enc X)&&jP (out X))=true) (hy:bJ f YB=true:=by rfl):bj P (mU f refs flat sig dq pre v enc out):=by
 refine⟨λ_=>he,λ_=>lE hy,λ_ args rows r r' hm=>?_,λ_ args rows p r r' hm=>?_,λ_ args rows α' v' r r' hm=>?_,λ_ args rows p α' v' r r' hm hp=>?_,λk hk=>(by cases hk),λk hk=>(by cases hk)⟩
 ·simp only[mU]at hm
  split at hm<;>cases hm
 ·simp only[mU]at hm
  split at hm<;>cases hm
 ·simp only[mU]at hm
  split at hm<;>cases hm
 ·simp only[mU]at hm
  split at hm
  ·rename_i hs
   cases hm
   exact⟨yZ hs (h args rows hp),λe=>by have:=hf e (v args rows);simp only[aE]at this;exact⟨zZ this.1,Vv this.2⟩⟩
  ·cases hm
theorem zz{P:Program}{f:FuncId}{k:Nat}{sig:List PT}{dq:List RT}{args:List D}{rows:List Row}{res:D}{out:List Row}(hs:(BG sig args&&BH dq rows)=true)(h:sN P f k (mq sig args 0) (lG dq rows 0) res out):sN P f k args rows res out:=by
 simp only[aE]at hs
 obtain⟨h1,h2⟩:=Qsr (pre:=[]) hs.2
 exact sN.Ki (Qx5 (pre:=[]) hs.1) (by rw[Qg,h1]) h2 h
theorem xaF{P:Program}{k:Nat}{f:FuncId}{refs:List Bool}{sig:List PT}{dq:List RT}{α:Type}{v:List D->List Row->α}{enc:α->D}{out:α->List Row}(he:f<YB->∀args w,(callFunc f args).run P w=.ok (.enter f args) w)(h:∀args rows,sN P f k (mq sig args 0) (lG dq rows 0) (enc (v args rows)) (out (v args rows))):
 bj P (Vt k f refs sig dq v enc out):=by
 refine⟨he,λhk=>(by cases hk),λhk=>(by cases hk),λhk=>(by cases hk),λhk=>(by cases hk),λhk=>(by cases hk),λk' hk args rows α' v' r r' hm=>?_,λk' hk args rows p α' v' r r' hm hp=>?_⟩
 ·cases hk
  simp only[Vt]at hm
  split at hm
  ·rename_i hs
   cases hm
   exact zz hs (h args rows)
  ·cases hm
 ·simp only[Vt]at hm
  split at hm<;>cases hm
theorem xar{P:Program}{k:Nat}{f:FuncId}{refs:List Bool}{sig:List PT}{dq:List RT}{pre:List D->List Row->Prop}{α:Type}{v:List D->List Row->α}{enc:α->D}{out:α->List Row}(he:f<YB->∀args w,(callFunc f args).run P w=.ok (.enter f args) w)(h:∀args rows,pre args rows->sN P f k (mq sig args 0) (lG dq rows 0) (enc (v args rows)) (out (v args rows))):
 bj P (mI k f refs sig dq pre v enc out):=by
 refine⟨he,λhk=>(by cases hk),λhk=>(by cases hk),λhk=>(by cases hk),λhk=>(by cases hk),λhk=>(by cases hk),λk' hk args rows α' v' r r' hm=>?_,λk' hk args rows p α' v' r r' hm hp=>?_⟩
 ·simp only[mI]at hm
  split at hm<;>cases hm
 ·cases hk
  simp only[mI]at hm
  split at hm
  ·rename_i hs
   cases hm
   exact zz hs (h args rows hp)
  ·cases hm
def dk{α β:Type}(v:α)(m:α->β):β:=m v
def mc(α:Type)(x y:α):Prop:=x=y
abbrev rE{α:Type}(x:α):Prop:=x=x
abbrev zM:ao:={A7:={X:={a0:=0,a1:=0,a2:=0,a3:=0,a4:=0,a5:=0,a6:=0,a7:=0,a8:=0,a9:=0,kP:=0,kQ:=0,a12:=0,kR:=0,kS:=0,kT:=0},Pc:=0,B1:={a0:=0,a1:=0,a2:=0,a3:=0,a4:=0,a5:=0,a6:=0,a7:=0}},Mem:=[],A2:={C6:=[]},A9:={D0:=false,B8:=0,C9:=false},A4:={ag:=0,B9:=0,Frame:=0,B6:=0,D1:=0,B4:=0,B0:=0,B5:=[]},C1:={Frame:=0,D6:=0,C2:=false,B7:=0,B3:=false,D8:=0},A1:={C4:=0,C0:=0},A0:=0,A3:=false,A6:=false}
abbrev mE(m:ao)(P Q:Prop):Prop:=rE m.A7.X.a0/\rE m.A7.X.a1/\rE m.A7.X.a2/\rE m.A7.X.a3/\rE m.A7.X.a4/\rE m.A7.X.a5/\rE m.A7.X.a6/\rE m.A7.X.a7/\rE m.A7.X.a8/\rE m.A7.X.a9/\rE m.A7.X.kP/\rE m.A7.X.kQ/\rE m.A7.X.a12/\rE m.A7.X.kR/\rE m.A7.X.kS/\rE m.A7.X.kT/\rE m.A7.Pc/\rE m.A7.B1.a0/\rE m.A7.B1.a1/\rE m.A7.B1.a2/\rE m.A7.B1.a3/\rE m.A7.B1.a4/\rE m.A7.B1.a5/\rE m.A7.B1.a6/\rE m.A7.B1.a7/\P/\rE m.A2.C6/\rE m.A9.D0/\rE m.A9.B8/\rE m.A9.C9/\rE m.A4.ag/\rE m.A4.B9/\rE m.A4.Frame/\rE m.A4.B6/\rE m.A4.D1/\rE m.A4.B4/\rE m.A4.B0/\rE m.A4.B5/\rE m.C1.Frame/\rE m.C1.D6/\rE m.C1.C2/\rE m.C1.B7/\rE m.C1.B3/\rE m.C1.D8/\rE m.A1.C4/\rE m.A1.C0/\rE m.A0/\rE m.A3/\rE m.A6/\Q
abbrev mR(f:Nat->D)(M:List Int):ao:=(⟨(⟨(⟨(f 0).toInt,(f 1).toInt,(f 2).toInt,(f 3).toInt,(f 4).toInt,(f 5).toInt,(f 6).toInt,(f 7).toInt,(f 8).toInt,(f 9).toInt,(f 10).toInt,(f 11).toInt,(f 12).toInt,(f 13).toInt,(f 14).toInt,(f 15).toInt⟩:(fu Int)),(f 16).toInt,(⟨(f 17).toInt,(f 18).toInt,(f 19).toInt,(f 20).toInt,(f 21).toInt,(f 22).toInt,(f 23).toInt,(f 24).toInt⟩:(A8 Int))⟩:bg),M,(⟨(f 26).toStr⟩:je),(⟨(f 27).toBool,(f 28).toInt,(f 29).toBool⟩:jk),(⟨(f 30).toInt,(f 31).toInt,(f 32).toInt,(f 33).toInt,(f 34).toInt,(f 35).toInt,(f 36).toInt,(f 37).toStr⟩:fm),(⟨(f 38).toInt,(f 39).toInt,(f 40).toBool,(f 41).toInt,(f 42).toBool,(f 43).toInt⟩:ij),(⟨(f 44).toInt,(f 45).toInt⟩:gr),(f 46).toInt,(f 47).toBool,(f 48).toBool⟩:ao)
abbrev mD(x:ao)(d:D):List D:=[.int u32 x.A7.X.a0,.int u32 x.A7.X.a1,.int u32 x.A7.X.a2,.int u32 x.A7.X.a3,.int u32 x.A7.X.a4,.int u32 x.A7.X.a5,.int u32 x.A7.X.a6,.int u32 x.A7.X.a7,.int u32 x.A7.X.a8,.int u32 x.A7.X.a9,.int u32 x.A7.X.kP,.int u32 x.A7.X.kQ,.int u32 x.A7.X.a12,.int u32 x.A7.X.kR,.int u32 x.A7.X.kS,.int u32 x.A7.X.kT,.int u32 x.A7.Pc,.int u32 x.A7.B1.a0,.int u32 x.A7.B1.a1,.int u32 x.A7.B1.a2,.int u32 x.A7.B1.a3,.int u32 x.A7.B1.a4,.int u32 x.A7.B1.a5,.int u32 x.A7.B1.a6,.int u32 x.A7.B1.a7,d,.str x.A2.C6,.bool x.A9.D0,.int u32 x.A9.B8,.bool x.A9.C9,.int u32 x.A4.ag,.int u32 x.A4.B9,.int u32 x.A4.Frame,.int i64 x.A4.B6,.int i64 x.A4.D1,.int u32 x.A4.B4,.int u32 x.A4.B0,.str x.A4.B5,.int u32 x.C1.Frame,.int u32 x.C1.D6,.bool x.C1.C2,.int u32 x.C1.B7,.bool x.C1.B3,.int u32 x.C1.D8,.int u32 x.A1.C4,.int u32 x.A1.C0,.int u64 x.A0,.bool x.A3,.bool x.A6]
abbrev mB(f:Nat->D):List D:=[f 0,f 1,f 2,f 3,f 4,f 5,f 6,f 7,f 8,f 9,f 10,f 11,f 12,f 13,f 14,f 15,f 16,f 17,f 18,f 19,f 20,f 21,f 22,f 23,f 24,f 25,f 26,f 27,f 28,f 29,f 30,f 31,f 32,f 33,f 34,f 35,f 36,f 37,f 38,f 39,f 40,f 41,f 42,f 43,f 44,f 45,f 46,f 47,f 48]
abbrev rZ:Prop:=rE (0:Nat)/\rE (0:Nat)
abbrev nR(k:RK)(n:Nat)(x:List (RK.T k)):Prop:=(ai.Nil (ai.ba k x)\/rE n)/\rE x
abbrev aC(l:List D)(n:Nat):List D:=(l.getD n .dead).cells
theorem oM{p:Prop}(h:p:=by((subst_vars;first|trivial|assumption|omega|((simp(config:={decide:=true,failIfUnchanged:=false}) only[aE,Bool.or_eq_true,Bool.and_eq_false_iff,Bool.or_eq_false_iff,Bool.not_eq_true',Bool.not_eq_false',Bool.not_eq_true,Bool.not_eq_false,decide_eq_true_eq,decide_eq_false_iff_not,Q56,Q3d,Q5a,Q3c,beq_iff_eq,beq_eq_false_iff_ne,bne_iff_ne,bne_eq_false_iff_eq,ne_eq,List.all_cons,List.all_nil,D.plain,List.length_cons,List.length_nil,lA,List.length_set,List.length_replicate,wrap_i64,wrap_u64,wrap_u32,wrap_i32,wrap_u8,true_and,and_true,or_false,false_or,or_true,true_or,not_true_eq_false,not_false_eq_true,Prod.fst,Prod.snd]at*);first|done|assumption|omega)|((simp(config:={decide:=true,failIfUnchanged:=false}) only[aE,Bool.or_eq_true,Bool.and_eq_false_iff,Bool.or_eq_false_iff,Bool.not_eq_true',Bool.not_eq_false',Bool.not_eq_true,Bool.not_eq_false,decide_eq_true_eq,decide_eq_false_iff_not,Q56,Q3d,Q5a,Q3c,beq_iff_eq,beq_eq_false_iff_ne,bne_iff_ne,bne_eq_false_iff_eq,ne_eq,List.all_cons,List.all_nil,D.plain,List.length_cons,List.length_nil,lA,List.length_set,List.length_replicate,wrap_i64,wrap_u64,wrap_u32,wrap_i32,wrap_u8,true_and,and_true,or_false,false_or,or_true,true_or,not_true_eq_false,not_false_eq_true,Prod.fst,Prod.snd]at*);simp only[<-List.length_pos_iff]at*;omega)|(simp_all;done)|(have:= @Qi2;simp_all;try omega)))):p:=h
def run{α β:Type}[Inhabited β](F:α->α⊕β):Nat->α->β
 |0,_=>default
 |k+1,a=>match F a with|.inl a'=>run F k a'|.inr b=>b
theorem qas{α β:Type}[Inhabited β]{F:α->α⊕β}{P:α->Prop}{R:β->Prop}{μ:α->Nat}(h:∀a,P a->match F a with|.inl a'=>P a'/\μ a'<μ a|.inr b=>R b):∀k a,P a->μ a<k->R (run F k a):=by
 intro k
 induction k with
 |zero=>intro a _ hk;omega
 |succ k ih=>
  intro a ha hk
  have:=h a ha
  unfold run
  split at this
  ·rename_i a' he;exact ih a' this.1 (by omega)
  ·exact this
inductive Tree:Type->Type 1 where
 |lf {β:Type} (x:β):Tree β
 |nx {β:Type} (f:Prop) (x:β) (h:f:=by first|trivial|(simp[mc];done)|decide|(simp only[and_true,true_and,or_true,true_or,and_self];done)|((repeat'(first|exact True.intro|apply And.intro|exact rfl|exact Or.inr rfl));done)):Tree β
 |br {β:Type} (c:Bool) (t e:Tree β):Tree β
 |cn {β:Type} (c:Bool) (t:Tree β):Tree β
 |fl {β:Type} (c:Bool) (t:Tree β):Tree β
 |an {β:Type} (p:Prop) (t:Tree β):Tree β
 |lv {α β:Type} (x:α) (k:α->Tree β):Tree β
 |lp {α β:Type} (d:Inhabited β) (n:Nat) (f:Prop) (x:α) (t:α->Tree (α⊕β)) (h:f:=by first|trivial|(simp[mc];done)|decide|(simp only[and_true,true_and,or_true,true_or,and_self];done)|((repeat'(first|exact True.intro|apply And.intro|exact rfl|exact Or.inr rfl));done)):Tree β
def Tree.m{β:Type}:Tree β->β
 |.lf x=>x
 |.nx _ x _=>x
 |.br c t e=>cond c t.m e.m
 |.cn _ t=>t.m
 |.fl _ t=>t.m
 |.an _ t=>t.m
 |.lv x k=>dk x λy=>(k y).m
 |.lp _ n _ x t _=>run (λy=>(t y).m) n x
def mr{α β:Type}(B:α->(α⊕β->Prop)->Prop)(W:β->Prop)(n:Nat)(y:α):Prop:=
 match n with
 |0=>False
 |k+1=>B y (iI (λz=>mr B W k z) W)
termination_by n
theorem Z4e{α β:Type}{B:α->(α⊕β->Prop)->Prop}{W:β->Prop}{y:α}:mr B W 0 y=False:=by rw[mr]
theorem Nb{α β:Type}{B:α->(α⊕β->Prop)->Prop}{W:β->Prop}{k:Nat}{y:α}:mr B W (k+1) y=B y (iI (λz=>mr B W k z) W):=by rw[mr]
def Tree.w{β:Type}:Tree β->(β->Prop)->Prop
 |.lf x,W=>W x
 |.nx _ x _,W=>W x
 |.br c t e,W=>DX c (t.w W) (e.w W)
 |.cn c t,W=>cw c (t.w W)
 |.fl c t,W=>DX c False (t.w W)
 |.an p t,W=>p/\t.w W
 |.lv x k,W=>∀y,y=x->(k y).w W
 |.lp _ n _ x t _,W=>mr (λy V=>(t y).w V) W n x
def Tree.q{β:Type}:Tree β->(β->Prop)->Prop
 |.lf x,L=>L x
 |.nx f x _,L=>L x/\f
 |.br c t e,L=>DX c (t.q L) (e.q L)
 |.cn c t,L=>cw c (t.q L)
 |.fl c t,L=>DX c False (t.q L)
 |.an p t,L=>p/\t.q L
 |.lv x k,L=>∀y,y=x->(k y).q L
 |.lp (α:=α) _ _ f x t _,L=>∃(wH:α->Prop),∃(ν:α->Nat),wH x/\f/\∀y,wH y->(t y).q (iI (λz=>wH z/\ν z<ν y) L)
theorem Tree.main{β:Type}(t:Tree β):∀{W L E:β->Prop},(∀x,W x->E x->L x)->t.w W->E t.m->t.q L:=by
 induction t with
 |lf x=>intro W L E h hw he;exact h x hw he
 |nx f x hf=>intro W L E h hw he;exact⟨h x hw he,hf⟩
 |br c t e Kk Kl=>
  intro W L E h hw he
  cases c with
  |true=>exact Kk h hw he
  |false=>exact Kl h hw he
 |cn c t ih=>intro W L E h hw he;exact c9.2 ⟨(c9.1 hw).1,ih h (c9.1 hw).2 he⟩
 |fl c t ih=>
  intro W L E h hw he
  cases c with
  |true=>exact hw.elim
  |false=>exact ih h hw he
 |an p t ih=>intro W L E h hw he;exact⟨hw.1,ih h hw.2 he⟩
 |lv x k ih=>intro W L E h hw he y hy;subst hy;exact ih y h (hw y rfl) he
 |lp d n f x t hf ih=>
  intro W L E h hw he
  have H:∀k y,mr (λy V=>(t y).w V) W k y->E (@run _ _ d (λy=>(t y).m) k y)->∃j,j<k/\k=j+1:=by
   intro k y h1 _
   cases k with
   |zero=>rw[Z4e]at h1;exact h1.elim
   |succ k=>exact⟨k,Nat.lt_succ_self k,rfl⟩
  let P:Nat->_->Prop:=λk y=>mr (λy V=>(t y).w V) W k y/\E (@run _ _ d (λy=>(t y).m) k y)
  have least:∀y,(∃k,P k y)->∃k,P k y/\∀j,P j y->k<=j:=by
   intro y ⟨k,hk⟩
   induction k using Nat.strongRecOn with
   |ind k ihk=>
    by_cases hj:∃j,j<k/\P j y
    ·obtain⟨j,h1,h2⟩:=hj;exact ihk j h1 h2
    ·exact⟨k,hk,λj h2=>Nat.le_of_not_lt λh1=>hj ⟨j,h1,h2⟩⟩
  have ch:∃ν:_->Nat,∀y,(∃k,P k y)->P (ν y) y/\∀j,P j y->ν y<=j:=Classical.axiomOfChoice (r:=λy k=>(∃k,P k y)->P k y/\∀j,P j y->k<=j) λy=>by
   by_cases hy:∃k,P k y
   ·obtain⟨k,hk⟩:=least y hy;exact⟨k,λ_=>hk⟩
   ·exact⟨0,λh=>absurd h hy⟩
  obtain⟨ν,hν⟩:=ch
  refine⟨λy=>∃k,P k y,ν,⟨n,hw,he⟩,hf,λy hy=>?_⟩
  have RS:=hν y hy
  generalize Av:ν y=k0 at RS
  obtain⟨⟨h1,h2⟩,_⟩:=RS
  obtain⟨j,_,rfl⟩:=H k0 y h1 h2
  rw[Nb]at h1
  refine ih y (E:=iI (λz=>E (@run _ _ d (λy=>(t y).m) j z)) E) ?_ h1 ?_
  ·intro z hz1 hz2
   cases z with
   |inl z=>
    have hz:∃k,P k z:=⟨j,hz1,hz2⟩
    refine⟨hz,?_⟩
    have:=(hν z hz).2 j ⟨hz1,hz2⟩
    show ν z<j+1
    omega
   |inr z=>exact h z hz1 hz2
  ·unfold run at h2
   cases hF:(t y).m with
   |inl z=>rw[hF]at h2;exact h2
   |inr z=>rw[hF]at h2;exact h2
abbrev Tree.p{β:Type}(t:Tree β):Prop:=t.w λ_=>True
theorem Tree.main'{β:Type}{t:Tree β}{L:β->Prop}(hw:t.p)(h:L t.m):t.q L:=t.main (λ_ _ h=>h) hw h
theorem Tree.mono{β:Type}(t:Tree β):∀{W V:β->Prop},(∀x,W x->V x)->t.w W->t.w V:=by
 induction t with
 |lf x=>intro W V h hw;exact h x hw
 |nx f x hf=>intro W V h hw;exact h x hw
 |br c t e Kk Kl=>
  intro W V h hw
  cases c with
  |true=>exact Kk h hw
  |false=>exact Kl h hw
 |cn c t ih=>intro W V h hw;exact c9.2 ⟨(c9.1 hw).1,ih h (c9.1 hw).2⟩
 |fl c t ih=>
  intro W V h hw
  cases c with
  |true=>exact hw.elim
  |false=>exact ih h hw
 |an p t ih=>intro W V h hw;exact⟨hw.1,ih h hw.2⟩
 |lv x k ih=>intro W V h hw y hy;exact ih y h (hw y hy)
 |lp d n f x t hf ih=>
  intro W V h hw
  revert x
  show∀x,mr (λy V=>(t y).w V) W n x->mr (λy V=>(t y).w V) V n x
  induction n with
  |zero=>intro x hw;rw[Z4e]at hw;exact hw.elim
  |succ n ihn=>
   intro x hw
   rw[Nb]at hw⊢
   refine ih x (λz hz=>?_) hw
   cases z with
   |inl z=>exact ihn z hz
   |inr z=>exact h z hz
theorem Tree.post{β:Type}(t:Tree β):∀{W:β->Prop},t.w W->W t.m:=by
 induction t with
 |lf x=>intro W hw;exact hw
 |nx f x hf=>intro W hw;exact hw
 |br c t e Kk Kl=>
  intro W hw
  cases c with
  |true=>exact Kk hw
  |false=>exact Kl hw
 |cn c t ih=>intro W hw;exact ih (c9.1 hw).2
 |fl c t ih=>
  intro W hw
  cases c with
  |true=>exact hw.elim
  |false=>exact ih hw
 |an p t ih=>intro W hw;exact ih hw.2
 |lv x k ih=>intro W hw;exact ih x (hw x rfl)
 |lp d n f x t hf ih=>
  intro W hw
  revert x
  show∀x,mr (λy V=>(t y).w V) W n x->W (@run _ _ d (λy=>(t y).m) n x)
  induction n with
  |zero=>intro x hw;rw[Z4e]at hw;exact hw.elim
  |succ n ihn=>
   intro x hw
   rw[Nb]at hw
   have:=ih x hw
   unfold run
   cases hF:(t x).m with
   |inl z=>rw[hF]at this;exact ihn z this
   |inr z=>rw[hF]at this;exact this
theorem Tree.pp{β:Type}{t:Tree β}{W:β->Prop}(h:t.w W):t.p/\W t.m:=⟨t.mono (λ_ _=>trivial) h,t.post h⟩
section
variable {α β:Type} {W:β->Prop} {c:Bool} {t e:Tree β}
theorem bq{x:β}(h:W x):(Tree.lf x).w W:=h
theorem dm{f:Prop}{x:β}{hf:f}(h:W x):(Tree.nx f x hf).w W:=h
theorem ab(h:c=true->t.w W)(g:c=false->e.w W):(Tree.br c t e).w W:=Zg0.2 ⟨h,g⟩
theorem ar(h:c=true)(g:t.w W):(Tree.cn c t).w W:=c9.2 ⟨h,g⟩
theorem VZ(h:c=false)(g:t.w W):(Tree.fl c t).w W:=Zg0.2 ⟨λe=>(by rw[h]at e;cases e),λ_=>g⟩
theorem cu{p:Prop}(h:p)(g:t.w W):(Tree.an p t).w W:=⟨h,g⟩
theorem au{x:α}{k:α->Tree β}(h:∀y,y=x->(k y).w W):(Tree.lv x k).w W:=h
theorem ej{d:Inhabited β}{n:Nat}{f:Prop}{x:α}{k:α->Tree (α⊕β)}{hf:f}{inv:α->Prop}{μ:α->Nat}(h:inv x)(hn:μ x<n)(g:∀y,inv y->(k y).w (iI (λz=>inv z/\μ z<μ y) W)):(Tree.lp d n f x k hf).w W:=by
 show mr (λy V=>(k y).w V) W n x
 revert x
 induction n with
 |zero=>intro x h hn;omega
 |succ n ih=>
  intro x h hn
  rw[Nb]
  refine(k x).mono (λz hz=>?_) (g x h)
  cases z with
  |inl z=>exact ih hz.1 (by have:=hz.2;omega)
  |inr z=>exact hz
end
theorem wL{β:Type}{x:β}:(Tree.lf x).p:=trivial
theorem wB{β:Type}{c:Bool}{t e:Tree β}(h:t.p)(g:e.p):(Tree.br c t e).p:=by cases c<;>assumption
structure wg(T:fj)(G:List bb)(L:Code->St->(Ex->St->Prop)->Prop)(fn:Func)(args:List D)(rows:List Row)(ds:List o8)(Q:D->List Row->Prop):Prop where
 h:nz T G L fn args rows λd R=>sq rows.length ds d R Q
theorem wg.of{T:fj}{G:List bb}{L:Code->St->(Ex->St->Prop)->Prop}{fn:Func}{args:List D}{rows:List Row}{ds:List o8}{Q:D->List Row->Prop}{p:Prop}(e:(nz T G L fn args rows λd R=>sq rows.length ds d R Q)=p)(hl:p):wg T G L fn args rows ds Q:=⟨by rw[e];exact hl⟩
theorem wg.calls{P:Program}(hD:sj P){T:fj}(hT:jF P T){G:List bb}(hG:j5 P G){f:FuncId}{fn:Func}(hf:P.funcs[f]?=some fn){args:List D}{rows:List Row}{res:D}{ak:List Row}
 {rf:Option Nat} (nq:∀code,fn.body=some code->RF rf fn.ntmps code) {L:Code->St->(Ex->St->Prop)->Prop} (hL:∀code st Q,RF rf fn.ntmps code->L code st Q->Tr P fn.ntmps rows.length code st Q) {ds:List o8} (h:wg T G L fn args rows ds λr o=>r=res/\o=ak):kq P f args rows res ak:=
 xaC hD hT hG hf nq hL (λd R hQ=>by obtain⟨r,o,⟨rfl,rfl⟩,hE⟩:=Z8x hQ;exact hE) h.h
structure tC(T:fj)(G:List bb)(L:Code->St->(Ex->St->Prop)->Prop)(fn:Func)(args:List D)(rows:List Row)(k:Nat)(ds:List o8)(Q:D->List Row->Prop):Prop where
 h:J0 T G L fn args rows (λd R=>sq k ds d R Q) k
theorem tC.of{T:fj}{G:List bb}{L:Code->St->(Ex->St->Prop)->Prop}{fn:Func}{args:List D}{rows:List Row}{k:Nat}{ds:List o8}{Q:D->List Row->Prop}{p:Prop}(e:(J0 T G L fn args rows (λd R=>sq k ds d R Q) k)=p)(hl:p):tC T G L fn args rows k ds Q:=⟨by rw[e];exact hl⟩
theorem tC.calls{P:Program}(hD:sj P){T:fj}(hT:jF P T){G:List bb}(hG:j5 P G){f:FuncId}{fn:Func}{args:List D}{rows:List Row}{k:Nat}{res:D}{ak:List Row}{rf:Option Nat}(hf:u6 P f fn (sI (pI args++lr rows)=true/\rf=none))(nq:∀code,fn.body=some code->RF rf fn.ntmps code)
 {L:Code->St->(Ex->St->Prop)->Prop} (hL:∀ro,(ro=none\/rf=none)->∀code st Q,RF rf fn.ntmps code->L code st Q->ub ro P fn.ntmps k code st Q) {ds:List o8} (h:tC T G L fn args rows k ds λr o=>r=res/\o=ak):sN P f k args rows res ak:=
 qaD hD hT hG hf nq hL (λd R hQ=>by obtain⟨r,o,⟨rfl,rfl⟩,hE⟩:=Z8x hQ;exact hE) h.h
section
variable {P:Program} {T:fj} {G:List bb} {f:FuncId} {fn:Func} {refs:List Bool} {flat:Bool} {sig:List PT} {dq:List RT} {pre:List D->List Row->Prop} {β:Type} {v:List D->List Row->β} {enc:β->D} {out:β->List Row}
theorem u6.imp{cl cl':Prop}(h:u6 P f fn cl)(g:cl->cl'):u6 P f fn cl':=by
 cases h with
 |real a b c=>exact .real a b c
 |yield a y d b c e f g1 g2 h i=>exact .yield a y d b c e f g1 g2 h (g i)
 |u7 a y q b c e f g1 h i j k=>exact .u7 a y q b c e f g1 h i j (g k)
theorem Z9q(rf:Option Nat)(nq:∀code,fn.body=some code->RF rf fn.ntmps code)(hD:sj P)(hT:jF P T)(hG:j5 P G)(hf:P.funcs[f]?=some fn)(t:List D->List Row->Tree β)(ds:List o8)(gy:List (Nat×bm))(dep:Nat)
 (hn:∀args rows Q,(nz T G (Cl T G fn.ntmps dq.length gy rf dep) fn (mq sig args 0) (lG dq rows 0) λd R=>sq dq.length ds d R Q)=(t args rows).q λX=>Q (enc X) (out X)) (hv:∀args rows,(t args rows).m=v args rows) {args:List D} {rows:List Row} (hp:(t args rows).p):
 kq P f (mq sig args 0) (lG dq rows 0) (enc (v args rows)) (out (v args rows)):=by
 have e:(lG dq rows 0).length=dq.length:=Qg
 refine wg.calls hD hT hG hf nq (L:=Cl T G fn.ntmps dq.length gy rf dep) (λcode st Q hc hl=>by rw[e];exact wJ hD hT hG (.inl rfl) dep _ _ _ hc hl) (ds:=ds) ⟨?_⟩
 rw[e,hn]
 refine Tree.main' hp ?_
 rw[hv]
 exact⟨rfl,rfl⟩
theorem Zjx(rf:Option Nat)(nq:∀code,fn.body=some code->RF rf fn.ntmps code){k:Nat}(hD:sj P)(hT:jF P T)(hG:j5 P G)(hf:u6 P f fn ((∀args rows,sI (pI (mq sig args 0)++lr (lG dq rows 0))=true)/\rf=none))(t:List D->List Row->Tree β)(ds:List o8)(gy:List (Nat×bm))(dep:Nat)
 (hn:∀args rows Q,(J0 T G (Cl T G fn.ntmps k gy rf dep) fn (mq sig args 0) (lG dq rows 0) (λd R=>sq k ds d R Q) k)=(t args rows).q λX=>Q (enc X) (out X)) (hv:∀args rows,(t args rows).m=v args rows) {args:List D} {rows:List Row} (hp:(t args rows).p):
 sN P f k (mq sig args 0) (lG dq rows 0) (enc (v args rows)) (out (v args rows)):=by
 refine tC.calls hD hT hG (hf.imp λh=>⟨h.1 args rows,h.2⟩) nq (L:=Cl T G fn.ntmps k gy rf dep) (λro DZ=>wJ hD hT hG DZ dep) (ds:=ds) ⟨?_⟩
 rw[hn]
 refine Tree.main' hp ?_
 rw[hv]
 exact⟨rfl,rfl⟩
theorem zas(rf:Option Nat)(nq:∀code,fn.body=some code->RF rf fn.ntmps code)(hD:sj P)(hT:jF P T)(hG:j5 P G)(hf:P.funcs[f]?=some fn)(he:∀args w,(callFunc f args).run P w=.ok (.enter f args) w)(t:List D->List Row->Tree β)(ds:List o8)(gy:List (Nat×bm))(dep:Nat)
 (hn:∀args rows Q,(nz T G (Cl T G fn.ntmps dq.length gy rf dep) fn (mq sig args 0) (lG dq rows 0) λd R=>sq dq.length ds d R Q)=(t args rows).q λX=>Q (enc X) (out X)) (hv:∀args rows,(t args rows).m=v args rows)
 (hp:∀args rows,pre args rows->(t args rows).p) (jZ:flat=true->∀X,(wu (enc X)&&jP (out X))=true) (hy:bJ f YB=true:=by rfl):bj P (mU f refs flat sig dq pre v enc out):=
 MZ he (λargs rows hw=>Z9q rf nq hD hT hG hf t ds gy dep hn hv (hp _ _ hw)) jZ hy
theorem wv(hD:sj P)(hT:jF P T)(hG:j5 P G)(hf:P.funcs[f]?=some fn)(he:∀args w,(callFunc f args).run P w=.ok (.enter f args) w)(t:List D->List Row->Tree β)(ds:List o8)(gy:List (Nat×bm))(dep:Nat)
 (hn:∀args rows Q,(nz T G (LL T G fn.ntmps dq.length gy dep) fn (mq sig args 0) (lG dq rows 0) λd R=>sq dq.length ds d R Q)=(t args rows).q λX=>Q (enc X) (out X):=by intro _ _ _;kernel_rfl) (hv:∀args rows,(t args rows).m=v args rows:=by exactλ_ _=>rfl)
 (hp:∀args rows,pre args rows->(t args rows).p:=by exactλ_ _ h=>h) (jZ:flat=true->∀X,(wu (enc X)&&jP (out X))=true:=by intro _ _;kernel_rfl) (hy:bJ f YB=true:=by rfl):bj P (mU f refs flat sig dq pre v enc out):=
 zas none (λ_ _=>trivial) hD hT hG hf he t ds gy dep hn hv hp jZ hy
theorem xas(rf:Option Nat)(nq:∀code,fn.body=some code->RF rf fn.ntmps code)(hD:sj P)(hT:jF P T)(hG:j5 P G)(hf:P.funcs[f]?=some fn)(he:∀args w,(callFunc f args).run P w=.ok (.enter f args) w)(t:List D->List Row->Tree β)(ds:List o8)(gy:List (Nat×bm))(dep:Nat)
 (hn:∀args rows Q,(nz T G (Cl T G fn.ntmps dq.length gy rf dep) fn (mq sig args 0) (lG dq rows 0) λd R=>sq dq.length ds d R Q)=(t args rows).q λX=>Q (enc X) (out X)) (hv:∀args rows,(t args rows).m=v args rows)
 (hp:∀args rows,(t args rows).p) (jZ:flat=true->∀X,(wu (enc X)&&jP (out X))=true) (hy:bJ f YB=true:=by rfl):bj P (EN f refs flat sig dq v enc out):=
 vZ he (λargs rows=>Z9q rf nq hD hT hG hf t ds gy dep hn hv (hp _ _)) jZ hy
theorem Q10(hD:sj P)(hT:jF P T)(hG:j5 P G)(hf:P.funcs[f]?=some fn)(he:∀args w,(callFunc f args).run P w=.ok (.enter f args) w)(t:List D->List Row->Tree β)(ds:List o8)(gy:List (Nat×bm))(dep:Nat)
 (hn:∀args rows Q,(nz T G (LL T G fn.ntmps dq.length gy dep) fn (mq sig args 0) (lG dq rows 0) λd R=>sq dq.length ds d R Q)=(t args rows).q λX=>Q (enc X) (out X):=by intro _ _ _;kernel_rfl) (hv:∀args rows,(t args rows).m=v args rows:=by exactλ_ _=>rfl)
 (hp:∀args rows,(t args rows).p:=by intro _ _;exact Tree.wx (by kernel_rfl)) (jZ:flat=true->∀X,(wu (enc X)&&jP (out X))=true:=by intro _ _;kernel_rfl) (hy:bJ f YB=true:=by rfl):bj P (EN f refs flat sig dq v enc out):=
 xas none (λ_ _=>trivial) hD hT hG hf he t ds gy dep hn hv hp jZ hy
theorem xS(rf:Option Nat)(nq:∀code,fn.body=some code->RF rf fn.ntmps code){k:Nat}(hD:sj P)(hT:jF P T)(hG:j5 P G)(hf:u6 P f fn ((∀args rows,sI (pI (mq sig args 0)++lr (lG dq rows 0))=true)/\rf=none))(he:f<YB->∀args w,(callFunc f args).run P w=.ok (.enter f args) w)(t:List D->List Row->Tree β)(ds:List o8)(gy:List (Nat×bm))(dep:Nat)
 (hn:∀args rows Q,(J0 T G (Cl T G fn.ntmps k gy rf dep) fn (mq sig args 0) (lG dq rows 0) (λd R=>sq k ds d R Q) k)=(t args rows).q λX=>Q (enc X) (out X)) (hv:∀args rows,(t args rows).m=v args rows)
 (hp:∀args rows,pre args rows->(t args rows).p):bj P (mI k f refs sig dq pre v enc out):=
 xar he (λargs rows hw=>Zjx rf nq hD hT hG hf t ds gy dep hn hv (hp _ _ hw))
theorem Gb{k:Nat}(hD:sj P)(hT:jF P T)(hG:j5 P G)(hf:P.funcs[f]?=some fn)(he:∀args w,(callFunc f args).run P w=.ok (.enter f args) w)(t:List D->List Row->Tree β)(ds:List o8)(gy:List (Nat×bm))(dep:Nat)
 (hn:∀args rows Q,(J0 T G (LL T G fn.ntmps k gy dep) fn (mq sig args 0) (lG dq rows 0) (λd R=>sq k ds d R Q) k)=(t args rows).q λX=>Q (enc X) (out X)) (hv:∀args rows,(t args rows).m=v args rows)
 (hp:∀args rows,pre args rows->(t args rows).p) (hy:bJ f YB=true:=by rfl) (hb:Nat.ble YB fn.nfree=false:=by rfl):bj P (mI k f refs sig dq pre v enc out):=
 xS none (λ_ _=>trivial) hD hT hG (.real (lE hy) hf hb) (λ_=>he) t ds gy dep hn hv hp
theorem yz(h:bj P (mU f refs flat sig dq pre v enc out)){args:List D}{rows:List Row}(hs:(BG sig args&&BH dq rows)=true)(hw:pre args rows):kq P f args rows (enc (v args rows)) (out (v args rows)):=
 (h.lT rfl args rows (pre args rows) β (v args rows) enc out (by simp only[mU,hs]) hw).1
end
def Tree.ri{β:Type}:Tree β->Bool
 |.lf _=>true
 |.br _ t e=>t.ri&&e.ri
 |.lv x k=>(k x).ri
 |_=>false
theorem Tree.wx{β:Type}{t:Tree β}(h:t.ri=true):t.p:=by
 induction t with
 |lf x=>trivial
 |br c t e Kk Kl=>
  simp only[Tree.ri,aE]at h
  cases c with
  |true=>exact Kk h.1
  |false=>exact Kl h.2
 |lv x k ih=>intro y hy;subst hy;exact ih _ h
 |_=>simp[Tree.ri]at h
theorem j5.nil{P:Program}:j5 P []:=λx hx=>by cases hx
theorem j5.cons{P:Program}{x:bb}{G:List bb}(h:bj P x)(g:j5 P G):j5 P (x::G):=λy hy=>by
 simp only[List.mem_cons]at hy
 rcases hy with rfl|hy
 ·exact h
 ·exact g y hy

import Derived.Test.YtaemmjbkndlkeaaGreatMigrateEndsFc
open Nat renaming blt->bN,beq->bX,le_refl->aX
open List renaming map_cons->fI,getD->aV,getElem?_eq_getElem->aI,range'->bO,all_cons->gL,all_nil->hY,length_cons->dD,length_nil->dE,length_set->dC,length_replicate->cS
open Bool renaming false_eq_true->aA,or_eq_true->aT,and_eq_false_iff->gX,or_eq_false_iff->gY,not_eq_true'->bB,not_eq_false'->gZ,not_eq_true->hH,not_eq_false->hJ
open Sum renaming elim->hZ
set_option linter.all false
namespace Go.GD
open Go
open Go.IntKind(i64 u32 u64 wrap_i64 wrap_u32 wrap_u64 wrap_u8 wrap_i32)
variable {P:Program}{T:iy}{a b k s:Nat}{args pT:List D}{d res:D}{ds:List mY}{f:FuncId}{flat fr:Bool}{fn:Func}{refs:List Bool}
def lk(st:St)(t:Nat):D:=look st.env t
def rN(st:St)(t:Nat):Nat:=gg (look st.env t) 1000000
def cT(st:St)(t j:Nat):D:=ba st.rows (gg (look st.env t) 1000000) j
def rX(st:St)(t k:Nat):Nat:=gg (look st.env t) (st.rows.length+k)
theorem Qhp{α:Type}{l:List α}(h:l≠[]):0<l.length:=by cases l<;>simp_all
theorem Q56{a b:Nat}:bN a b=true↔a<b:=by simp[bN,Nat.lt_iff_add_one_le]
theorem Q39:bN a b=false↔ ¬a<b:=by have:= @Q56 a b;cases h:bN a b<;>simp_all
theorem Q57{a b:Nat}:bX a b=true↔a=b:=iff_of_eq Nat.beq_eq
theorem Q3b:bX a b=false↔ ¬a=b:=by have:= @Q57 a b;cases h:bX a b<;>simp_all
def ia(d e:D):Prop:=∀c w v,dc c w d v->dc c w e v
def lu:List D->List D->Prop
 |[],[]=>True
 |d::l,e::m=>ia d e/\lu l m
 |_,_=>False
def sV:D->D->Prop
 |.agg cs,.agg ds=>lu cs ds
 |.agg _,_=>False
 |d,e=>ia d e
def Z7:List D->List D->Prop
 |[],[]=>True
 |d::l,e::m=>sV d e/\Z7 l m
 |_,_=>False
theorem ia.rfl:ia d d:=λ_ _ _ h=>h
theorem ia.ints{k:IntKind}{E:ai}{l:List Int}(h:E.toI k=some l):ia (.sl s E fr) (.sl 1 (.ints k l) false):=by
 intro c w v hv
 have he:=ai.toI_l h
 obtain⟨a,cap,hv,hc,ie⟩:=hv
 rw[he]at hv hc ie
 refine⟨a,cap,hv,hc,?_⟩
 rcases ie with ie|⟨b,off,arr,ty,fz,ha,hI,hf,hh,hE⟩
 ·exact .inl ie
 ·cases l with
  |nil=>exact .inl (by simp[ai.l])
  |cons n l=>
   have h1:s=1:=by
    simp only[ai.l,fI,pY,pK]at hE
    exact hE.1.symm
   subst h1
   exact .inr ⟨b,off,arr,ty,fz,ha,hI,(λe=>by cases e),hh,hE⟩
theorem ia.ag{E:ai}{l:List Bool}(h:E.toB=some l):ia (.sl s E fr) (.sl 1 (.ag l) false):=by
 intro c w v hv
 have he:=ai.toB_l h
 obtain⟨a,cap,hv,hc,ie⟩:=hv
 rw[he]at hv hc ie
 refine⟨a,cap,hv,hc,?_⟩
 rcases ie with ie|⟨b,off,arr,ty,fz,ha,hI,hf,hh,hE⟩
 ·exact .inl ie
 ·cases l with
  |nil=>exact .inl (by simp[ai.l])
  |cons n l=>
   have h1:s=1:=by
    simp only[ai.l,fI,pY,pK]at hE
    exact hE.1.symm
   subst h1
   exact .inr ⟨b,off,arr,ty,fz,ha,hI,(λe=>by cases e),hh,hE⟩
theorem lu.rep{c:Ctx}{w:World}:∀{ds es:List D} {vs:List Value},lu ds es->jl c w ds vs->jl c w es vs
 |[],[],[],_,_=>trivial
 |d::l,e::m,v::vs,h,hr=>⟨h.1 _ _ _ hr.1,lu.rep h.2 hr.2⟩
 |[],_::_,_,h,_=>h.elim
 |_::_,[],_,h,_=>h.elim
 |[],[],_::_,_,hr=>hr.elim
 |_::_,_::_,[],_,hr=>hr.elim
theorem sV.rep{c:Ctx}{w:World}{d e:D}{v:Value}(h:sV d e)(hr:VRep c w d v):VRep c w e v:=by
 cases d with
 |agg cs=>
  cases e with
  |agg ds=>obtain⟨vs,hv,hx⟩:=hr;exact⟨vs,hv,lu.rep h hx⟩
  |_=>exact h.elim
 |_=>
  have h1:=VRep.toC (λcs e=>by cases e) hr
  have h2:ia _ e:=h
  exact VRep.Ei (h2 _ _ _ h1)
theorem Z7.rep{c:Ctx}{w:World}:∀{ds es:List D} {vs:List Value},Z7 ds es->kg c w ds vs->kg c w es vs
 |[],[],[],_,_=>trivial
 |d::l,e::m,v::vs,h,hr=>⟨sV.rep h.1 hr.1,Z7.rep h.2 hr.2⟩
 |[],_::_,_,h,_=>h.elim
 |_::_,[],_,h,_=>h.elim
 |[],[],_::_,_,hr=>hr.elim
 |_::_,_::_,[],_,hr=>hr.elim
theorem ku.sub{rows:List Row}{aj:List Row}(hs:Z7 args pT)(h:ku P f pT rows res aj):ku P f args rows res aj:=
 λc w vs hm hb hR ha=>h c w vs hm hb hR (Z7.rep hs ha)
theorem ia.ah{k:RK}{E:ai}{l:List (RK.T k)}(h:E.toR k=some l):ia (.sl s E fr) (.sl k.size (.ah k l) false):=by
 intro c w v hv
 have he:=ai.toR_l h
 obtain⟨a,cap,hv,hc,ie⟩:=hv
 rw[he]at hv hc ie
 refine⟨a,cap,hv,hc,?_⟩
 rcases ie with ie|⟨b,off,arr,ty,fz,ha,hI,hf,hh,hE⟩
 ·exact .inl ie
 ·cases l with
  |nil=>exact .inl (by simp[ai.l])
  |cons x l=>
   have h1:s=k.size:=by
    simp only[ai.l,fI,pK]at hE
    rw[<-hE.1];exact RK.rB k x
   subst h1
   exact .inr ⟨b,off,arr,ty,fz,ha,hI,(λe=>by cases e),hh,hE⟩
theorem ia.De{E:ai}(h:E.l=[]):ia .c8 (.sl s E false):=by
 intro c w v hv
 exact⟨none,0,by rw[h];exact hv,by rw[h];exact aX _,.inl h⟩
theorem ia.JG{E:ai}(h:E.l=[]):ia .emp (.sl s E false):=by
 intro c w v hv
 obtain⟨a,hv,_⟩:=hv
 exact⟨a,0,by rw[h];exact hv,by rw[h];exact aX _,.inl h⟩
def AF:List (Nat×Nat×Nat)->List (Nat×Nat×Nat)->Bool
 |[],[]=>true
 |(a,b,c)::l,(x,y,z)::m=>bX a x&&(bX b y&&(bX c z&&AF l m))
 |_,_=>false
def sW:List iD->List iD->Bool
 |[],[]=>true
 |.ptr a b c::l,.ptr x y z::m=>bX a x&&(bX b y&&(bX c z&&sW l m))
 |.fn f ps::l,.fn g qs::m=>bX f g&&(AF ps qs&&sW l m)
 |_,_=>false
theorem qB:∀{l m:List (Nat×Nat×Nat)},AF l m=true->l=m
 |[],[],_=>rfl
 |(a,b,c)::l,(x,y,z)::m,h=>by
  simp only[AF,aE]at h
  rw[bE h.1,bE h.2.1,bE h.2.2.1,qB h.2.2.2]
 |[],_::_,h=>by simp[AF]at h
 |_::_,[],h=>by simp[AF]at h
theorem xB:∀{l m:List iD},sW l m=true->l=m:=by
 intro l
 induction l with
 |nil=>intro m h;cases m with
  |nil=>rfl
  |cons _ _=>simp[sW]at h
 |cons a l ih=>
  intro m h
  cases m with
  |nil=>cases a<;>simp[sW]at h
  |cons b m=>
   cases a<;>cases b<;>simp only[sW,aE,aA]at h
   ·rw[bE h.1,bE h.2.1,bE h.2.2.1,ih h.2.2.2]
   ·rw[bE h.1,qB h.2.1,ih h.2.2]
def AG:CT->D->Bool
 |.int k,.int j _=>decide (j=k)
 |.bool,.bool _=>true
 |.str,.str _=>true
 |.ints k,.sl _ E _=>(match E.toI k with|some _=>true|none=>false)
 |.ag,.sl _ E _=>(match E.toB with|some _=>true|none=>false)
 |.ah k,.sl _ E _=>(match E.toR k with|some _=>true|none=>false)
 |.ints _,.c8=>true
 |.ag,.c8=>true
 |.ah _,.c8=>true
 |.ints _,.emp=>true
 |.ag,.emp=>true
 |.ah _,.emp=>true
 |.row i,.all r=>bX r i
 |.nil,.sl s (.gen []) false=>bX s 0
 |.HN,.c8=>true
 |.self _,.iz=>true
 |.gp f cs,.gp g ds=>bX g f&&sW ds cs
 |.self i,.gq r=>bX r i
 |.self i,.ptr r o f=>bX r i&&(bX o 0&&bX f 0)
 |.pt i a b,.ptr r o f=>bX r i&&(bX o a&&bX f b)
 |_,_=>false
inductive PT where
 |one (t:CT)
 |agg (ts:List CT)
 |ptr (i:Nat)
 |gp (f:Nat) (cs:List iD)
inductive RT where
 |box (ty sz:Nat) (ts:List CT)
 |arr (ty sz:Nat) (t:CT)
def JH:List CT->List D->Bool
 |[],[]=>true
 |t::ts,d::ds=>AG t d&&JH ts ds
 |_,_=>false
def uP:PT->D->Bool
 |.agg ts,.agg cs=>JH ts cs
 |.one t,d=>AG t d
 |.ptr i,.ptr r j o=>bX r i&&(bX j 0&&bX o 0)
 |.gp f cs,.gp g ds=>bX g f&&sW ds cs
 |_,_=>false
def Hv:PT->D->D
 |.agg ts,d=>.agg (uX ts d.cells 0)
 |.one t,d=>Dt t d
 |.ptr i,_=>.ptr i 0 0
 |.gp f cs,_=>.gp f cs
def Bi:List PT->List D->Bool
 |[],[]=>true
 |s::l,d::ds=>uP s d&&Bi l ds
 |_,_=>false
def kW:List PT->List D->Nat->List D
 |[],_,_=>[]
 |s::l,args,i=>Hv s (args.getD i .dead)::kW l args (i+1)
def Row.cs(r:Row):List D:=match r.es with|.gen [e]=>e|_=>[]
def uQ:RT->Row->Bool
 |.box ty sz ts,⟨true,jW,j9,.gen [e]⟩=>bX jW ty&&(bX j9 sz&&JH ts e)
 |.arr ty sz t,⟨false,jW,j9,E⟩=>bX jW ty&&(bX j9 sz&&(match toCT t E with|some _=>true|none=>false))
 |_,_=>false
def Ry(t:CT)(E:ai):ai:=match t with
 |.ints k=>.ints k (match E.toI k with|some l=>l|none=>[])
 |.ag=>.ag (match E.toB with|some l=>l|none=>[])
 |.ah k=>.ah k (match E.toR k with|some l=>l|none=>[])
 |_=>.gen []
theorem zaA{t:CT}{E E':ai}(h:toCT t E=some E'):Ry t E=E':=by
 cases t with
 |ints k=>
  simp only[toCT]at h
  split at h
  ·rename_i l hl
   cases h
   show ai.ints k (match E.toI k with|some l=>l|none=>[])=_
   rw[hl]
  ·cases h
 |ag=>
  simp only[toCT]at h
  split at h
  ·rename_i l hl
   cases h
   show ai.ag (match E.toB with|some l=>l|none=>[])=_
   rw[hl]
  ·cases h
 |ah k=>
  simp only[toCT]at h
  split at h
  ·rename_i l hl
   cases h
   show ai.ah k (match E.toR k with|some l=>l|none=>[])=_
   rw[hl]
  ·cases h
 |_=>simp[toCT]at h
def wP:RT->Row->Row
 |.box ty sz ts,r=>⟨true,ty,sz,.gen [uX ts r.cs 0]⟩
 |.arr ty sz t,r=>⟨false,ty,sz,Ry t r.es⟩
def Bj:List RT->List Row->Bool
 |[],[]=>true
 |s::l,r::rs=>uQ s r&&Bj l rs
 |_,_=>false
def kv:List RT->List Row->Nat->List Row
 |[],_,_=>[]
 |s::l,rows,i=>wP s (rows.getD i default)::kv l rows (i+1)
def ar(args:List D)(i:Nat):Int:=(args.getD i .dead).toInt
def kI(args:List D)(i:Nat):Bool:=(args.getD i .dead).toBool
def jH(args:List D)(i:Nat):List UInt8:=(args.getD i .dead).toStr
def dh(k:IntKind)(args:List D)(i:Nat):List Int:=bz k (args.getD i .dead)
def Df(args:List D)(i:Nat):List Bool:=ez (args.getD i .dead)
def j6(k:RK)(args:List D)(i:Nat):List (RK.T k):=iP k (args.getD i .dead)
def sX(rows:List Row)(i j:Nat):D:=((rows.getD i default).cs.getD j .dead)
def cw(k:IntKind)(rows:List Row)(i:Nat):List Int:=match(rows.getD i default).es.toI k with|some l=>l|none=>[]
def c9(k:RK)(rows:List Row)(i:Nat):List (RK.T k):=match(rows.getD i default).es.toR k with|some l=>l|none=>[]
theorem Zd9{t:CT}(h:AG t d=true):ia d (Dt t d):=by
 cases t<;>cases d<;>(try(simp[AG]at h;done))
 case int.int=>simp[AG]at h;subst h;exact ia.rfl
 case nil.sl s E fr=>
  unfold AG at h
  split at h<;>simp_all
  exact ia.rfl
 case HN.c8=>exact ia.rfl
 case bool.bool=>exact ia.rfl
 case str.str=>exact ia.rfl
 case ints.sl k sz E fr=>
  simp only[AG]at h
  split at h
  ·rename_i l hl
   simp only[Dt,bz,hl]
   exact ia.ints hl
  ·cases h
 case ints.c8=>exact ia.De rfl
 case ints.emp=>exact ia.JG rfl
 case ag.sl sz E fr=>
  simp only[AG]at h
  split at h
  ·rename_i l hl
   simp only[Dt,ez,hl]
   exact ia.ag hl
  ·cases h
 case ag.c8=>exact ia.De rfl
 case ag.emp=>exact ia.JG rfl
 case ah.sl k sz E fr=>
  simp only[AG]at h
  split at h
  ·rename_i l hl
   simp only[Dt,iP,hl]
   exact ia.ah hl
  ·cases h
 case ah.c8=>exact ia.De rfl
 case ah.emp=>exact ia.JG rfl
 case row.all i r=>rw[bE h];exact ia.rfl
 case gp.gp f cs g ds=>
  simp only[AG,aE]at h
  rw[bE h.1,xB h.2]
  exact ia.rfl
 case self.iz i=>exactλc w v hv=>.inl hv
 case self.gq i r=>rw[bE h];exact ia.rfl
 case self.ptr i r o f=>
  simp only[AG,aE]at h
  rw[bE h.1,bE h.2.1,bE h.2.2]
  exactλc w v hv=>.inr hv
 case pt.ptr i a b r o f=>
  simp only[AG,aE]at h
  rw[bE h.1,bE h.2.1,bE h.2.2]
  exact ia.rfl
theorem Z0f:∀{ts:List CT} {pre ds:List D},JH ts ds=true->lu ds (uX ts (pre++ds) pre.length)
 |[],pre,[],_=>trivial
 |t::ts,pre,d::ds,h=>by
  simp only[JH,aE]at h
  have h2:=Z0f (pre:=pre++[d]) h.2
  simp only[uX]
  refine⟨?_,by simpa using h2⟩
  have:(pre++d::ds).getD pre.length .dead=d:=by simp[aV]
  rw[this];exact Zd9 h.1
 |[],_,_::_,h=>by simp[JH]at h
 |_::_,_,[],h=>by simp[JH]at h
theorem sV.of1{d e:D}(hd:∀cs,d≠.agg cs)(h:ia d e):sV d e:=by
 cases d<;>first|exact h|exact absurd rfl (hd _)
theorem Ztp{s:PT}(h:uP s d=true):sV d (Hv s d):=by
 unfold uP at h
 split at h
 ·rename_i ts cs
  exact Z0f (pre:=[]) h
 ·rename_i t d
  refine sV.of1 (λcs e=>?_) (Zd9 h)
  subst e
  cases t<;>simp[AG]at h
 ·rename_i i r j o
  simp only[aE]at h
  rw[bE h.1,bE h.2.1,bE h.2.2]
  exact ia.rfl
 ·rename_i f cs g ds
  simp only[aE]at h
  rw[bE h.1,xB h.2]
  exact ia.rfl
 ·cases h
theorem Z0a:∀{l:List PT} {pre ds:List D},Bi l ds=true->Z7 ds (kW l (pre++ds) pre.length)
 |[],pre,[],_=>trivial
 |s::l,pre,d::ds,h=>by
  simp only[Bi,aE]at h
  have h2:=Z0a (pre:=pre++[d]) h.2
  simp only[kW]
  refine⟨?_,by simpa using h2⟩
  have:(pre++d::ds).getD pre.length .dead=d:=by simp[aV]
  rw[this];exact Ztp h.1
 |[],_,_::_,h=>by simp[Bi]at h
 |_::_,_,[],h=>by simp[Bi]at h
def sY(a b:Row):Prop:=b.box=a.box/\b.ty=a.ty/\b.sz=a.sz/\b.es.l.length=a.es.l.length/\match a.box with
 |true=>∃e e',a.es=.gen [e]/\b.es=.gen [e']/\e'.length=e.length/\lu e e'
 |false=>b.es.l=a.es.l
theorem lu.length:∀{ds es:List D},lu ds es->ds.length=es.length
 |[],[],_=>rfl
 |_::_,_::_,h=>by simp[lu.length h.2]
 |[],_::_,h=>h.elim
 |_::_,[],h=>h.elim
theorem Zre{s:RT}{r:Row}(h:uQ s r=true):sY r (wP s r):=by
 unfold uQ at h
 split at h
 ·rename_i ty sz ts jW j9 e
  simp only[aE]at h
  have h3:=Z0f (pre:=[]) h.2.2
  have hl:=h3.length
  exact⟨rfl,(bE h.1).symm,(bE h.2.1).symm,rfl,_,_,rfl,rfl,hl.symm,h3⟩
 ·rename_i ty sz t jW j9 E
  simp only[aE]at h
  obtain⟨h1,h2,h3⟩:=h
  split at h3
  ·rename_i E' hE
   have he:=ai.w9 (Nc hE)
   have hc:wP (.arr ty sz t) ⟨false,jW,j9,E⟩=⟨false,ty,sz,E'⟩:=by simp[wP,zaA hE]
   rw[hc]
   exact⟨rfl,(bE h1).symm,(bE h2).symm,by simp only[he],he.symm⟩
  ·cases h3
 ·cases h
theorem Qvy:∀{l:List RT} {pre rs:List Row},Bj l rs=true->rs.length=l.length/\∀(i:Nat) r,rs[i]?=some r->∃r',(kv l (pre++rs) pre.length)[i]?=some r'/\sY r r'
 |[],pre,[],_=>⟨rfl,λi r h=>by simp at h⟩
 |s ::l,pre,r::rs,h=>by
  simp only[Bj,aE]at h
  obtain⟨h1,h2⟩:=Qvy (pre:=pre++[r]) h.2
  refine⟨by simp[h1],λi q hq=>?_⟩
  cases i with
  |zero=>
   simp at hq;subst hq
   have:(pre++r::rs).getD pre.length default=r:=by simp[aV]
   exact⟨_,by simp only[kv,this];rfl,Zre h.1⟩
  |succ i=>
   obtain⟨q',g1,g2⟩:=h2 i q (by simpa using hq)
   refine⟨q',?_,g2⟩
   simp only[kv,List.getElem?_cons_succ]
   simpa using g1
 |[],_,_::_,h=>by simp[Bj]at h
 |_::_,_,[],h=>by simp[Bj]at h
theorem Vg:∀{l:List RT} {rows:List Row} {i:Nat},(kv l rows i).length=l.length
 |[],_,_=>rfl
 |s::l,rows,i=>by simp[kv,Vg]
theorem zB:d.mw (λr=>r) true=d:=by
 cases d with
 |gp f cs=>simp only[D.mw,Y3]
 |_=>simp[D.mw]
theorem Vh:∀{ds:List D},D.my (λr=>r) true ds=ds
 |[]=>rfl
 |d::l=>by simp[D.my,zB,Vh (ds:=l)]
theorem qaN:d.jg (λr=>r) true=d:=by
 cases d with
 |agg cs=>show D.agg (D.my _ true cs)=_;rw[Vh]
 |gp f cs=>exact zB (d:=.gp f cs)
 |_=>simp[D.jg,D.mw]
theorem lu.cells{c:Ctx}{w:World}:∀{ds es:List D} {arr:Array Value} {off:Nat},lu ds es->kJ c w ds arr off->kJ c w es arr off
 |[],[],_,_,_,_=>trivial
 |d::l,e::m,_,_,h,⟨⟨v,hv,h1⟩,h2⟩=>⟨⟨v,hv,h.1 _ _ _ h1⟩,lu.cells h.2 h2⟩
 |[],_::_,_,_,h,_=>h.elim
 |_::_,[],_,_,h,_=>h.elim
theorem Zgf{c1 c2:Ctx}{w:World}(hn:DT (λ_=>True) (λr=>r) true c1 c2)(hI:∀b,c1.I b->c2.I b):∀{ds:List D} {vs:List Value},kg c1 w ds vs->kg c2 w ds vs
 |[],[],_=>trivial
 |d::ds,v::vs,h=>⟨by have:=PW hn (flat:=False) (.inl hI) (λ_ _=>trivial) (λe=>e.elim) h.1;rwa [qaN]at this,Zgf hn hI h.2⟩
 |[],_::_,h=>h.elim
 |_::_,[],h=>h.elim
theorem ku.JI{rows kO:List Row}{aj:List Row}(hs:Z7 args pT)(hl:kO.length=rows.length)(hr:∀(i:Nat) r,rows[i]?=some r->∃r',kO[i]?=some r'/\sY r r')(h:ku P f pT kO res aj):ku P f args rows res aj:=by
 intro c w vs hm hb hR ha
 let c2:Ctx:={c with R:=λr=>kO[r]? }
 have Rz:∀r row,c.R r=some row->∃ao,c2.R r=some ao/\sY row ao:=λr row cz=>by
  rw[hR]at cz;exact hr r row cz
 have uR:∀r ao,c2.R r=some ao->∃row,c.R r=some row/\sY row ao:=λr ao cz=>by
  have cz:kO[r]?=some ao:=cz
  have bh:=(List.getElem?_eq_some_iff.1 cz).1
  have h1:rows[r]?=some rows[r]:=aI (by omega)
  obtain⟨jC,g1,g2⟩:=hr r _ h1
  rw[cz]at g1;cases g1
  exact⟨_,by rw[hR];exact h1,g2⟩
 have hn:DT (λ_=>True) (λr=>r) true c c2:=⟨λi row _ cz=>by
  obtain⟨ao,g1,g2,g3,g4,g5,_⟩:=Rz i row cz
  exact⟨ao,g1,g2,g3,g4,g5,rfl,Iff.rfl⟩,λ_=>aX _,aX _⟩
 have BH:Mem c2 w:=by
  refine⟨λr ao cz=>?_,λr s x y h1 h2 v1 v2 he=>?_,λb ij=>⟨(hm.fg b ij).1,λr x h1 v=>?_⟩,hm.top,hm.jZ⟩
  ·obtain⟨row,g1,g2,g3,g4,g5,g6⟩:=uR r ao cz
   rcases hm.row r row g1 with⟨k1,k2,k3,k4⟩|⟨k1,arr,k2,k3,k4⟩
   ·refine .inl ⟨k1,g2.trans k2,?_,by rw[g4];exact k4⟩
    rw[k2]at g6;simp only at g6;rw[g6,k3]
   ·refine .inr ⟨k1,arr,by rw[g3];exact k2,by rw[g4];exact k3,?_⟩
    rw[g2,g4]
    cases wC:row.box with
    |false=>
     simp only[wC,aA,if_false]at k4 g6⊢
     rw[g6];exact k4
    |true=>
     simp only[wC,if_true]at k4 g6⊢
     obtain⟨e,e',q1,q2,q3,q4⟩:=g6
     obtain⟨e0,p1,p2,p3,p4⟩:=k4
     rw[q1]at p1;cases p1
     refine⟨e',q2,by rw[q3];exact p2,p3,?_⟩
     have:=UM hn (flat:=False) (.inl λb hb=>hb) (λ_ _=>trivial) (λe=>e.elim) (lu.cells q4 p4)
     rwa [Vh]at this
  ·obtain⟨x',g1,_⟩:=uR r x h1
   obtain⟨y',g2,_⟩:=uR s y h2
   exact hm.inj r s x' y' g1 g2 v1 v2 he
  ·obtain⟨x',g1,_⟩:=uR r x h1
   exact(hm.fg b ij).2 r x' g1 v
 refine(h c2 w vs BH hb (λr=>rfl) (Zgf hn (λb h=>h) (Z7.rep hs ha))).mono λe w' hq=>?_
 obtain⟨v,c',he,hx,j7,hv⟩:=hq
 refine⟨v,c',he,⟨hx.mem,⟨hx.cy.base,hx.cy.top,hx.cy.I,λr row cz=>?_⟩,hx.fr.mono λb _ ⟨r,x,h1,h2,h3⟩=>?_,hx.fg,λr ao h1 h2=>?_⟩,j7,hv⟩
 ·obtain⟨jC,g1,g2,g3,g4,g5,g6⟩:=Rz r row cz
  obtain⟨ao,k1,k2,k3,k4,k5,k6,k7,k8⟩:=hx.cy.R r jC g1
  exact⟨ao,k1,k2.trans g2,k3.trans g3,k4.trans g4,k5.trans g5,k6,k7,λnv arr ha=>by rw[<-g3]at ha⊢;exact k8 nv arr ha⟩
 ·obtain⟨x',g1,_⟩:=uR r x h1
  exact⟨r,x',g1,h2,h3⟩
 ·rcases hx.ob r ao h1 h2 with⟨⟨x,o7⟩,h3,h4⟩|h3
  ·obtain⟨x',g1,_⟩:=uR r x o7
   exact .inl ⟨⟨x',g1⟩,h3,h4⟩
  ·exact .inr h3
theorem tJ.JI{rows kO:List Row}{aj:List Row}(hs:Z7 args pT)(hl:kO.length=rows.length)(hr:∀(i:Nat) r,rows[i]?=some r->∃r',kO[i]?=some r'/\sY r r')(h:tJ P f k pT kO res aj):tJ P f k args rows res aj:=by
 intro c w vs hm hb hR ha
 let c2:Ctx:={c with R:=λr=>kO[r]? }
 have Rz:∀r row,c.R r=some row->∃ao,c2.R r=some ao/\sY row ao:=λr row cz=>by
  rw[hR]at cz;exact hr r row cz
 have uR:∀r ao,c2.R r=some ao->∃row,c.R r=some row/\sY row ao:=λr ao cz=>by
  have cz:kO[r]?=some ao:=cz
  have bh:=(List.getElem?_eq_some_iff.1 cz).1
  have h1:rows[r]?=some rows[r]:=aI (by omega)
  obtain⟨jC,g1,g2⟩:=hr r _ h1
  rw[cz]at g1;cases g1
  exact⟨_,by rw[hR];exact h1,g2⟩
 have hn:DT (λ_=>True) (λr=>r) true c c2:=⟨λi row _ cz=>by
  obtain⟨ao,g1,g2,g3,g4,g5,_⟩:=Rz i row cz
  exact⟨ao,g1,g2,g3,g4,g5,rfl,Iff.rfl⟩,λ_=>aX _,aX _⟩
 have BH:Mem c2 w:=by
  refine⟨λr ao cz=>?_,λr s x y h1 h2 v1 v2 he=>?_,λb ij=>⟨(hm.fg b ij).1,λr x h1 v=>?_⟩,hm.top,hm.jZ⟩
  ·obtain⟨row,g1,g2,g3,g4,g5,g6⟩:=uR r ao cz
   rcases hm.row r row g1 with⟨k1,k2,k3,k4⟩|⟨k1,arr,k2,k3,k4⟩
   ·refine .inl ⟨k1,g2.trans k2,?_,by rw[g4];exact k4⟩
    rw[k2]at g6;simp only at g6;rw[g6,k3]
   ·refine .inr ⟨k1,arr,by rw[g3];exact k2,by rw[g4];exact k3,?_⟩
    rw[g2,g4]
    cases wC:row.box with
    |false=>
     simp only[wC,aA,if_false]at k4 g6⊢
     rw[g6];exact k4
    |true=>
     simp only[wC,if_true]at k4 g6⊢
     obtain⟨e,e',q1,q2,q3,q4⟩:=g6
     obtain⟨e0,p1,p2,p3,p4⟩:=k4
     rw[q1]at p1;cases p1
     refine⟨e',q2,by rw[q3];exact p2,p3,?_⟩
     have:=UM hn (flat:=False) (.inl λb hb=>hb) (λ_ _=>trivial) (λe=>e.elim) (lu.cells q4 p4)
     rwa [Vh]at this
  ·obtain⟨x',g1,_⟩:=uR r x h1
   obtain⟨y',g2,_⟩:=uR s y h2
   exact hm.inj r s x' y' g1 g2 v1 v2 he
  ·obtain⟨x',g1,_⟩:=uR r x h1
   exact(hm.fg b ij).2 r x' g1 v
 refine(h c2 w vs BH hb (λr=>rfl) (Zgf hn (λb h=>h) (Z7.rep hs ha))).mono (λb hb=>hb) λe w' hq=>?_
 obtain⟨v,c',he,hx,j7,hv⟩:=hq
 rw[hl]at hx
 refine⟨v,c',he,⟨hx.mem,⟨hx.cy.base,hx.cy.top,hx.cy.I,λr row cz=>?_⟩,hx.fr.mono λb _ ⟨r,x,h1,h2,h3⟩=>?_,λb hb=>?_,λr ao h1 h2=>?_⟩,j7,hv⟩
 ·obtain⟨q,jK,CR,rfl⟩:=na cz
  obtain⟨jC,g1,g2,g3,g4,g5,g6⟩:=Rz r jK CR
  obtain⟨ao,k1,k2,k3,k4,k5,k6,k7,k8⟩:=hx.cy.R r (jC.kill _) (by simp only[Ctx.kill];rw[if_neg (by rw[q];simp),g1];rfl)
  obtain⟨s1,s2,s3,s4⟩:=u5 (bO k (rows.length-k)) jK
  obtain⟨t1,t2,t3,t4⟩:=u5 (bO k (rows.length-k)) jC
  refine⟨ao,k1,k2.trans (t1.trans (g2.trans s1.symm)),k3.trans (t2.trans (g3.trans s2.symm)),k4.trans (t3.trans (g4.trans s3.symm)),k5.trans (t4.trans (g5.trans s4.symm)),k6,k7,λnv arr ha=>?_⟩
  rw[s2]at ha⊢
  have:=k8 nv arr (by rw[t2,g3];exact ha)
  rw[t2,g3]at this
  exact this
 ·obtain⟨x',g1,_⟩:=uR r x h1
  exact⟨r,x',g1,h2,h3⟩
 ·rcases hx.fg b hb with h|⟨s,x,h1,h2,h3,h4⟩|h
  ·exact .inl h
  ·obtain⟨x',g1,_⟩:=uR s x h2
   exact .inr (.inl ⟨s,x',h1,g1,h3,h4⟩)
  ·exact .inr (.inr h)
 ·rcases hx.ob r ao h1 h2 with⟨⟨x,o7⟩,h3,h4⟩|⟨s,x,q1,q2,q3,q4⟩|h3
  ·obtain⟨x',g1,_⟩:=uR r x o7
   exact .inl ⟨⟨x',g1⟩,h3,h4⟩
  ·obtain⟨x',g1,_⟩:=uR s x q2
   exact .inr (.inl ⟨s,x',q1,g1,q3,q4⟩)
  ·exact .inr (.inr h3)
def FP(f:FuncId)(refs:List Bool)(flat:Bool)(sig:List PT)(du:List RT){α:Type}(v:List D->List Row->α)(enc:α->D)(out:α->List Row):bd:=
 ⟨f,refs,flat,λargs rows=>match Bi sig args&&Bj du rows with|true=>.abs α (v args rows) enc out|false=>.no,none,false⟩
def kU(f:FuncId)(refs:List Bool)(flat:Bool)(sig:List PT)(du:List RT)(pre:List D->List Row->Prop){α:Type}(v:List D->List Row->α)(enc:α->D)(out:α->List Row):bd:=
 ⟨f,refs,flat,λargs rows=>match Bi sig args&&Bj du rows with|true=>.lr (pre args rows) α (v args rows) enc out|false=>.no,none,false⟩
def bd.fz(x:bd):bd:={x with oZ:=true}
theorem sZ{x:bd}(h:bn P x):bn P x.fz:=⟨h.enters,h.real,h.ok,h.when,h.abs,h.lr,h.PH,h.GZ⟩
def JJ(k:Nat)(f:FuncId)(refs:List Bool)(sig:List PT)(du:List RT){α:Type}(v:List D->List Row->α)(enc:α->D)(out:α->List Row):bd:=
 ⟨f,refs,false,λargs rows=>match Bi sig args&&Bj du rows with|true=>.abs α (v args rows) enc out|false=>.no,some k,false⟩
def jS(k:Nat)(f:FuncId)(refs:List Bool)(sig:List PT)(du:List RT)(pre:List D->List Row->Prop){α:Type}(v:List D->List Row->α)(enc:α->D)(out:α->List Row):bd:=
 ⟨f,refs,false,λargs rows=>match Bi sig args&&Bj du rows with|true=>.lr (pre args rows) α (v args rows) enc out|false=>.no,some k,false⟩
def ai.wQ:ai->Bool
 |.gen _=>false
 |.ah k _=>k.mV
 |_=>true
theorem ai.ta{E:ai}(h:E.wQ=true):E.Fh:=by
 cases E with
 |gen es=>simp[ai.wQ]at h
 |ah k l=>exact h
 |_=>trivial
def Dg:D->Bool|.sl _ E fr=>fr&&E.wQ|.iu _ _ _ _=>false|.gp _ _=>false|_=>true
def Dh:List D->Bool|[]=>true|d::l=>Dg d&&Dh l
def JK:D->Bool|.agg cs=>Dh cs|d=>Dg d
def FD:List D->Bool|[]=>true|d::l=>JK d&&FD l
def tj:D->Bool|.dw ds=>FD ds|d=>JK d
def jy:List Row->Bool
 |[]=>true
 |⟨true,_,_,.gen [e]⟩::l=>Dh e&&jy l
 |⟨false,_,_,E⟩::l=>E.wQ&&jy l
 |_=>false
theorem RA(h:Dg d=true):PV d:=by
 cases d<;>first|trivial|(simp[Dg]at h;done)|skip
 case sl sz E fr=>simp only[Dg,aE]at h;exact⟨.inr h.1,ai.ta h.2⟩
theorem Ze:∀{ds:List D},Dh ds=true->Mb ds
 |[],_=>trivial
 |d::l,h=>by simp only[Dh,aE]at h;exact⟨RA h.1,Ze h.2⟩
theorem xaA(h:JK d=true):UL d:=by
 cases d with
 |agg cs=>exact Ze h
 |sl a b c=>exact RA (d:=.sl a b c) h
 |iu a b c e=>exact RA (d:=.iu a b c e) h
 |_=>trivial
theorem yB:∀{ds:List D},FD ds=true->Fi ds
 |[],_=>trivial
 |d::l,h=>by simp only[FD,aE]at h;exact⟨xaA h.1,yB h.2⟩
theorem qac(h:tj d=true):FF d:=by
 cases d with
 |dw ds=>exact yB h
 |agg cs=>exact Ze h
 |sl a b c=>exact RA (d:=.sl a b c) h
 |iu a b c e=>exact RA (d:=.iu a b c e) h
 |_=>trivial
theorem Vi:∀{rs:List Row},jy rs=true->rA rs
 |[],_=>trivial
 |⟨true,_,_,.gen [e]⟩::l,h=>by
  simp only[jy,aE]at h
  refine⟨?_,Vi h.2⟩
  simp only[Jh,if_true,ai.l,List.mem_singleton,forall_eq]
  exact Ze h.1
 |⟨false,_,_,E⟩::l,h=>by
  simp only[jy,aE]at h
  refine⟨?_,Vi h.2⟩
  simp only[Jh,aA,if_false]
  exact ai.ta h.1
 |⟨true,_,_,.gen []⟩::l,h=>by simp[jy]at h
 |⟨true,_,_,.gen (_::_::_)⟩::l,h=>by simp[jy]at h
 |⟨true,_,_,.ints _ _⟩::l,h=>by simp[jy]at h
 |⟨true,_,_,.ag _⟩::l,h=>by simp[jy]at h
 |⟨true,_,_,.ah _ _⟩::l,h=>by simp[jy]at h
theorem zac{sig:List PT}{du:List RT}{rows:List Row}{out:List Row}(hs:(Bi sig args&&Bj du rows)=true)(h:ku P f (kW sig args 0) (kv du rows 0) res out):ku P f args rows res out:=by
 simp only[aE]at hs
 obtain⟨h1,h2⟩:=Qvy (pre:=[]) hs.2
 exact ku.JI (Z0a (pre:=[]) hs.1) (by rw[Vg,h1]) h2 h
theorem zaN{sig:List PT}{du:List RT}{α:Type}{v:List D->List Row->α}{enc:α->D}{out:α->List Row}(he:∀args w,(callFunc f args).run P w=.ok (.enter f args) w)(h:∀args rows,ku P f (kW sig args 0) (kv du rows 0) (enc (v args rows)) (out (v args rows)))
 (hf:flat=true->∀X,(tj (enc X)&&jy (out X))=true) (hy:bN f YB=true:=by rfl):bn P (FP f refs flat sig du v enc out):=by
 refine⟨λ_=>he,λ_=>lE hy,λ_ args rows r r' hm=>?_,λ_ args rows p r r' hm=>?_,λ_ args rows α' v' r r' hm=>?_,λ_ args rows p α' v' r r' hm=>?_,λk hk=>(by cases hk),λk hk=>(by cases hk)⟩
 ·simp only[FP]at hm
  split at hm<;>cases hm
 ·simp only[FP]at hm
  split at hm<;>cases hm
 ·simp only[FP]at hm
  split at hm
  ·rename_i hs
   cases hm
   exact⟨zac hs (h args rows),λe=>by have:=hf e (v args rows);simp only[aE]at this;exact⟨qac this.1,Vi this.2⟩⟩
  ·cases hm
 ·simp only[FP]at hm
  split at hm<;>cases hm
theorem FE{sig:List PT}{du:List RT}{pre:List D->List Row->Prop}{α:Type}{v:List D->List Row->α}{enc:α->D}{out:α->List Row}(he:∀args w,(callFunc f args).run P w=.ok (.enter f args) w)(h:∀args rows,pre args rows->ku P f (kW sig args 0) (kv du rows 0) (enc (v args rows)) (out (v args rows)))
 (hf:flat=true->∀X,(tj (enc X)&&jy (out X))=true) (hy:bN f YB=true:=by rfl):bn P (kU f refs flat sig du pre v enc out):=by
 refine⟨λ_=>he,λ_=>lE hy,λ_ args rows r r' hm=>?_,λ_ args rows p r r' hm=>?_,λ_ args rows α' v' r r' hm=>?_,λ_ args rows p α' v' r r' hm hp=>?_,λk hk=>(by cases hk),λk hk=>(by cases hk)⟩
 ·simp only[kU]at hm
  split at hm<;>cases hm
 ·simp only[kU]at hm
  split at hm<;>cases hm
 ·simp only[kU]at hm
  split at hm<;>cases hm
 ·simp only[kU]at hm
  split at hm
  ·rename_i hs
   cases hm
   exact⟨zac hs (h args rows hp),λe=>by have:=hf e (v args rows);simp only[aE]at this;exact⟨qac this.1,Vi this.2⟩⟩
  ·cases hm
theorem vB{sig:List PT}{du:List RT}{rows:List Row}{out:List Row}(hs:(Bi sig args&&Bj du rows)=true)(h:tJ P f k (kW sig args 0) (kv du rows 0) res out):tJ P f k args rows res out:=by
 simp only[aE]at hs
 obtain⟨h1,h2⟩:=Qvy (pre:=[]) hs.2
 exact tJ.JI (Z0a (pre:=[]) hs.1) (by rw[Vg,h1]) h2 h
theorem xaN{sig:List PT}{du:List RT}{α:Type}{v:List D->List Row->α}{enc:α->D}{out:α->List Row}(he:f<YB->∀args w,(callFunc f args).run P w=.ok (.enter f args) w)(h:∀args rows,tJ P f k (kW sig args 0) (kv du rows 0) (enc (v args rows)) (out (v args rows))):
 bn P (JJ k f refs sig du v enc out):=by
 refine⟨he,λhk=>(by cases hk),λhk=>(by cases hk),λhk=>(by cases hk),λhk=>(by cases hk),λhk=>(by cases hk),λk' hk args rows α' v' r r' hm=>?_,λk' hk args rows p α' v' r r' hm hp=>?_⟩
 ·cases hk
  simp only[JJ]at hm
  split at hm
  ·rename_i hs
   cases hm
   exact vB hs (h args rows)
  ·cases hm
 ·simp only[JJ]at hm
  split at hm<;>cases hm
theorem qaB{sig:List PT}{du:List RT}{pre:List D->List Row->Prop}{α:Type}{v:List D->List Row->α}{enc:α->D}{out:α->List Row}(he:f<YB->∀args w,(callFunc f args).run P w=.ok (.enter f args) w)(h:∀args rows,pre args rows->tJ P f k (kW sig args 0) (kv du rows 0) (enc (v args rows)) (out (v args rows))):
 bn P (jS k f refs sig du pre v enc out):=by
 refine⟨he,λhk=>(by cases hk),λhk=>(by cases hk),λhk=>(by cases hk),λhk=>(by cases hk),λhk=>(by cases hk),λk' hk args rows α' v' r r' hm=>?_,λk' hk args rows p α' v' r r' hm hp=>?_⟩
 ·simp only[jS]at hm
  split at hm<;>cases hm
 ·cases hk
  simp only[jS]at hm
  split at hm
  ·rename_i hs
   cases hm
   exact vB hs (h args rows hp)
  ·cases hm
def ee{α β:Type}(v:α)(m:α->β):β:=m v
def jI(α:Type)(x y:α):Prop:=x=y
abbrev rE{α:Type}(x:α):Prop:=x=x
abbrev zM:bg:={B2:={X:={a0:=0,a1:=0,a2:=0,a3:=0,a4:=0,a5:=0,a6:=0,a7:=0,a8:=0,a9:=0,kz:=0,kA:=0,a12:=0,kB:=0,kC:=0,kD:=0},Pc:=0,C3:={a0:=0,a1:=0,a2:=0,a3:=0,a4:=0,a5:=0,a6:=0,a7:=0}},Mem:=[],B3:={E0:=[]},B9:={F1:=false,D3:=0,D9:=false},B5:={ae:=0,C8:=0,Frame:=0,C9:=0,F6:=0,C5:=0,C6:=0,C7:=[]},D1:={Frame:=0,F7:=0,D2:=false,D4:=0,C4:=false,F8:=0},A6:={A2:=0,D0:=0},B7:=0,B4:=false,B6:=false}
abbrev mE(m:bg)(P Q:Prop):Prop:=rE m.B2.X.a0/\rE m.B2.X.a1/\rE m.B2.X.a2/\rE m.B2.X.a3/\rE m.B2.X.a4/\rE m.B2.X.a5/\rE m.B2.X.a6/\rE m.B2.X.a7/\rE m.B2.X.a8/\rE m.B2.X.a9/\rE m.B2.X.kz/\rE m.B2.X.kA/\rE m.B2.X.a12/\rE m.B2.X.kB/\rE m.B2.X.kC/\rE m.B2.X.kD/\rE m.B2.Pc/\rE m.B2.C3.a0/\rE m.B2.C3.a1/\rE m.B2.C3.a2/\rE m.B2.C3.a3/\rE m.B2.C3.a4/\rE m.B2.C3.a5/\rE m.B2.C3.a6/\rE m.B2.C3.a7/\P/\rE m.B3.E0/\rE m.B9.F1/\rE m.B9.D3/\rE m.B9.D9/\rE m.B5.ae/\rE m.B5.C8/\rE m.B5.Frame/\rE m.B5.C9/\rE m.B5.F6/\rE m.B5.C5/\rE m.B5.C6/\rE m.B5.C7/\rE m.D1.Frame/\rE m.D1.F7/\rE m.D1.D2/\rE m.D1.D4/\rE m.D1.C4/\rE m.D1.F8/\rE m.A6.A2/\rE m.A6.D0/\rE m.B7/\rE m.B4/\rE m.B6/\Q
abbrev mR(f:Nat->D)(M:List Int):bg:=(⟨(⟨(⟨(f 0).toInt,(f 1).toInt,(f 2).toInt,(f 3).toInt,(f 4).toInt,(f 5).toInt,(f 6).toInt,(f 7).toInt,(f 8).toInt,(f 9).toInt,(f 10).toInt,(f 11).toInt,(f 12).toInt,(f 13).toInt,(f 14).toInt,(f 15).toInt⟩:(ir Int)),(f 16).toInt,(⟨(f 17).toInt,(f 18).toInt,(f 19).toInt,(f 20).toInt,(f 21).toInt,(f 22).toInt,(f 23).toInt,(f 24).toInt⟩:(A8 Int))⟩:bu),M,(⟨(f 26).toStr⟩:iH),(⟨(f 27).toBool,(f 28).toInt,(f 29).toBool⟩:iV),(⟨(f 30).toInt,(f 31).toInt,(f 32).toInt,(f 33).toInt,(f 34).toInt,(f 35).toInt,(f 36).toInt,(f 37).toStr⟩:fv),(⟨(f 38).toInt,(f 39).toInt,(f 40).toBool,(f 41).toInt,(f 42).toBool,(f 43).toInt⟩:gz),(⟨(f 44).toInt,(f 45).toInt⟩:gm),(f 46).toInt,(f 47).toBool,(f 48).toBool⟩:bg)
abbrev mD(x:bg)(d:D):List D:=[.int u32 x.B2.X.a0,.int u32 x.B2.X.a1,.int u32 x.B2.X.a2,.int u32 x.B2.X.a3,.int u32 x.B2.X.a4,.int u32 x.B2.X.a5,.int u32 x.B2.X.a6,.int u32 x.B2.X.a7,.int u32 x.B2.X.a8,.int u32 x.B2.X.a9,.int u32 x.B2.X.kz,.int u32 x.B2.X.kA,.int u32 x.B2.X.a12,.int u32 x.B2.X.kB,.int u32 x.B2.X.kC,.int u32 x.B2.X.kD,.int u32 x.B2.Pc,.int u32 x.B2.C3.a0,.int u32 x.B2.C3.a1,.int u32 x.B2.C3.a2,.int u32 x.B2.C3.a3,.int u32 x.B2.C3.a4,.int u32 x.B2.C3.a5,.int u32 x.B2.C3.a6,.int u32 x.B2.C3.a7,d,.str x.B3.E0,.bool x.B9.F1,.int u32 x.B9.D3,.bool x.B9.D9,.int u32 x.B5.ae,.int u32 x.B5.C8,.int u32 x.B5.Frame,.int i64 x.B5.C9,.int i64 x.B5.F6,.int u32 x.B5.C5,.int u32 x.B5.C6,.str x.B5.C7,.int u32 x.D1.Frame,.int u32 x.D1.F7,.bool x.D1.D2,.int u32 x.D1.D4,.bool x.D1.C4,.int u32 x.D1.F8,.int u32 x.A6.A2,.int u32 x.A6.D0,.int u64 x.B7,.bool x.B4,.bool x.B6]
abbrev mB(f:Nat->D):List D:=[f 0,f 1,f 2,f 3,f 4,f 5,f 6,f 7,f 8,f 9,f 10,f 11,f 12,f 13,f 14,f 15,f 16,f 17,f 18,f 19,f 20,f 21,f 22,f 23,f 24,f 25,f 26,f 27,f 28,f 29,f 30,f 31,f 32,f 33,f 34,f 35,f 36,f 37,f 38,f 39,f 40,f 41,f 42,f 43,f 44,f 45,f 46,f 47,f 48]
abbrev rZ:Prop:=rE (0:Nat)/\rE (0:Nat)
abbrev nR(k:RK)(n:Nat)(x:List (RK.T k)):Prop:=(ai.Nil (ai.ah k x)\/rE n)/\rE x
abbrev aC(l:List D)(n:Nat):List D:=(l.getD n .dead).cells
theorem nL{p:Prop}(h:p:=by((subst_vars;first|trivial|assumption|omega|((simp(config:={decide:=true,failIfUnchanged:=false}) only[aE,Bool.or_eq_true,Bool.and_eq_false_iff,Bool.or_eq_false_iff,Bool.not_eq_true',Bool.not_eq_false',Bool.not_eq_true,Bool.not_eq_false,decide_eq_true_eq,decide_eq_false_iff_not,Q56,Q39,Q57,Q3b,beq_iff_eq,beq_eq_false_iff_ne,bne_iff_ne,bne_eq_false_iff_eq,ne_eq,List.all_cons,List.all_nil,D.plain,List.length_cons,List.length_nil,lA,List.length_set,List.length_replicate,wrap_i64,wrap_u64,wrap_u32,wrap_i32,wrap_u8,true_and,and_true,or_false,false_or,or_true,true_or,not_true_eq_false,not_false_eq_true,Prod.fst,Prod.snd]at*);first|done|assumption|omega)|((simp(config:={decide:=true,failIfUnchanged:=false}) only[aE,Bool.or_eq_true,Bool.and_eq_false_iff,Bool.or_eq_false_iff,Bool.not_eq_true',Bool.not_eq_false',Bool.not_eq_true,Bool.not_eq_false,decide_eq_true_eq,decide_eq_false_iff_not,Q56,Q39,Q57,Q3b,beq_iff_eq,beq_eq_false_iff_ne,bne_iff_ne,bne_eq_false_iff_eq,ne_eq,List.all_cons,List.all_nil,D.plain,List.length_cons,List.length_nil,lA,List.length_set,List.length_replicate,wrap_i64,wrap_u64,wrap_u32,wrap_i32,wrap_u8,true_and,and_true,or_false,false_or,or_true,true_or,not_true_eq_false,not_false_eq_true,Prod.fst,Prod.snd]at*);simp only[<-List.length_pos_iff]at*;omega)|(simp_all;done)|(have:= @Qhp;simp_all;try omega)))):p:=h
def run{α β:Type}[Inhabited β](F:α->α⊕β):Nat->α->β
 |0,_=>default
 |k+1,a=>match F a with|.inl a'=>run F k a'|.inr b=>b
theorem qC{α β:Type}[Inhabited β]{F:α->α⊕β}{P:α->Prop}{R:β->Prop}{μ:α->Nat}(h:∀a,P a->match F a with|.inl a'=>P a'/\μ a'<μ a|.inr b=>R b):∀k a,P a->μ a<k->R (run F k a):=by
 intro k
 induction k with
 |zero=>intro a _ hk;omega
 |succ k ih=>
  intro a ha hk
  have:=h a ha
  unfold run
  split at this
  ·rename_i a' he;exact ih a' this.1 (by omega)
  ·exact this
inductive Tree:Type->Type 1 where
 |lf {β:Type} (x:β):Tree β
 |nx {β:Type} (f:Prop) (x:β) (h:f:=by first|trivial|(simp[jI];done)|decide|(simp only[and_true,true_and,or_true,true_or,and_self];done)|((repeat'(first|exact True.intro|apply And.intro|exact rfl|exact Or.inr rfl));done)):Tree β
 |br {β:Type} (c:Bool) (t e:Tree β):Tree β
 |cn {β:Type} (c:Bool) (t:Tree β):Tree β
 |fl {β:Type} (c:Bool) (t:Tree β):Tree β
 |an {β:Type} (p:Prop) (t:Tree β):Tree β
 |lv {α β:Type} (x:α) (k:α->Tree β):Tree β
 |lp {α β:Type} (d:Inhabited β) (n:Nat) (f:Prop) (x:α) (t:α->Tree (α⊕β)) (h:f:=by first|trivial|(simp[jI];done)|decide|(simp only[and_true,true_and,or_true,true_or,and_self];done)|((repeat'(first|exact True.intro|apply And.intro|exact rfl|exact Or.inr rfl));done)):Tree β
def Tree.m{β:Type}:Tree β->β
 |.lf x=>x
 |.nx _ x _=>x
 |.br c t e=>cond c t.m e.m
 |.cn _ t=>t.m
 |.fl _ t=>t.m
 |.an _ t=>t.m
 |.lv x k=>ee x λy=>(k y).m
 |.lp _ n _ x t _=>run (λy=>(t y).m) n x
def me{α β:Type}(B:α->(α⊕β->Prop)->Prop)(W:β->Prop)(n:Nat)(y:α):Prop:=
 match n with
 |0=>False
 |k+1=>B y (hZ (λz=>me B W k z) W)
termination_by n
theorem Z8z{α β:Type}{B:α->(α⊕β->Prop)->Prop}{W:β->Prop}{y:α}:me B W 0 y=False:=by rw[me]
theorem MM{α β:Type}{B:α->(α⊕β->Prop)->Prop}{W:β->Prop}{y:α}:me B W (k+1) y=B y (hZ (λz=>me B W k z) W):=by rw[me]
def Tree.w{β:Type}:Tree β->(β->Prop)->Prop
 |.lf x,W=>W x
 |.nx _ x _,W=>W x
 |.br c t e,W=>w7 c (t.w W) (e.w W)
 |.cn c t,W=>cu c (t.w W)
 |.fl c t,W=>w7 c False (t.w W)
 |.an p t,W=>p/\t.w W
 |.lv x k,W=>∀y,y=x->(k y).w W
 |.lp _ n _ x t _,W=>me (λy V=>(t y).w V) W n x
def Tree.q{β:Type}:Tree β->(β->Prop)->Prop
 |.lf x,L=>L x
 |.nx f x _,L=>L x/\f
 |.br c t e,L=>w7 c (t.q L) (e.q L)
 |.cn c t,L=>cu c (t.q L)
 |.fl c t,L=>w7 c False (t.q L)
 |.an p t,L=>p/\t.q L
 |.lv x k,L=>∀y,y=x->(k y).q L
 |.lp (α:=α) _ _ f x t _,L=>∃(u7:α->Prop),∃(ν:α->Nat),u7 x/\f/\∀y,u7 y->(t y).q (hZ (λz=>u7 z/\ν z<ν y) L)
theorem Tree.main{β:Type}(t:Tree β):∀{W L E:β->Prop},(∀x,W x->E x->L x)->t.w W->E t.m->t.q L:=by
 induction t with
 |lf x=>intro W L E h hw he;exact h x hw he
 |nx f x hf=>intro W L E h hw he;exact⟨h x hw he,hf⟩
 |br c t e JL JM=>
  intro W L E h hw he
  cases c with
  |true=>exact JL h hw he
  |false=>exact JM h hw he
 |cn c t ih=>intro W L E h hw he;exact dd.2 ⟨(dd.1 hw).1,ih h (dd.1 hw).2 he⟩
 |fl c t ih=>
  intro W L E h hw he
  cases c with
  |true=>exact hw.elim
  |false=>exact ih h hw he
 |an p t ih=>intro W L E h hw he;exact⟨hw.1,ih h hw.2 he⟩
 |lv x k ih=>intro W L E h hw he y hy;subst hy;exact ih y h (hw y rfl) he
 |lp d n f x t hf ih=>
  intro W L E h hw he
  have H:∀k y,me (λy V=>(t y).w V) W k y->E (@run _ _ d (λy=>(t y).m) k y)->∃j,j<k/\k=j+1:=by
   intro k y h1 _
   cases k with
   |zero=>rw[Z8z]at h1;exact h1.elim
   |succ k=>exact⟨k,Nat.lt_succ_self k,rfl⟩
  let P:Nat->_->Prop:=λk y=>me (λy V=>(t y).w V) W k y/\E (@run _ _ d (λy=>(t y).m) k y)
  have least:∀y,(∃k,P k y)->∃k,P k y/\∀j,P j y->k<=j:=by
   intro y ⟨k,hk⟩
   induction k using Nat.strongRecOn with
   |ind k ihk=>
    by_cases hj:∃j,j<k/\P j y
    ·obtain⟨j,h1,h2⟩:=hj;exact ihk j h1 h2
    ·exact⟨k,hk,λj h2=>Nat.le_of_not_lt λh1=>hj ⟨j,h1,h2⟩⟩
  have ch:∃ν:_->Nat,∀y,(∃k,P k y)->P (ν y) y/\∀j,P j y->ν y<=j:=Classical.axiomOfChoice (r:=λy k=>(∃k,P k y)->P k y/\∀j,P j y->k<=j) λy=>by
   by_cases hy:∃k,P k y
   ·obtain⟨k,hk⟩:=least y hy;exact⟨k,λ_=>hk⟩
   ·exact⟨0,λh=>absurd h hy⟩
  obtain⟨ν,hν⟩:=ch
  refine⟨λy=>∃k,P k y,ν,⟨n,hw,he⟩,hf,λy hy=>?_⟩
  have RB:=hν y hy
  generalize w6:ν y=k0 at RB
  obtain⟨⟨h1,h2⟩,_⟩:=RB
  obtain⟨j,_,rfl⟩:=H k0 y h1 h2
  rw[MM]at h1
  refine ih y (E:=hZ (λz=>E (@run _ _ d (λy=>(t y).m) j z)) E) ?_ h1 ?_
  ·intro z HE hz2
   cases z with
   |inl z=>
    have hz:∃k,P k z:=⟨j,HE,hz2⟩
    refine⟨hz,?_⟩
    have:=(hν z hz).2 j ⟨HE,hz2⟩
    show ν z<j+1
    omega
   |inr z=>exact h z HE hz2
  ·unfold run at h2
   cases hF:(t y).m with
   |inl z=>rw[hF]at h2;exact h2
   |inr z=>rw[hF]at h2;exact h2
abbrev Tree.p{β:Type}(t:Tree β):Prop:=t.w λ_=>True
theorem Tree.main'{β:Type}{t:Tree β}{L:β->Prop}(hw:t.p)(h:L t.m):t.q L:=t.main (λ_ _ h=>h) hw h
theorem Tree.mono{β:Type}(t:Tree β):∀{W V:β->Prop},(∀x,W x->V x)->t.w W->t.w V:=by
 induction t with
 |lf x=>intro W V h hw;exact h x hw
 |nx f x hf=>intro W V h hw;exact h x hw
 |br c t e JL JM=>
  intro W V h hw
  cases c with
  |true=>exact JL h hw
  |false=>exact JM h hw
 |cn c t ih=>intro W V h hw;exact dd.2 ⟨(dd.1 hw).1,ih h (dd.1 hw).2⟩
 |fl c t ih=>
  intro W V h hw
  cases c with
  |true=>exact hw.elim
  |false=>exact ih h hw
 |an p t ih=>intro W V h hw;exact⟨hw.1,ih h hw.2⟩
 |lv x k ih=>intro W V h hw y hy;exact ih y h (hw y hy)
 |lp d n f x t hf ih=>
  intro W V h hw
  revert x
  show∀x,me (λy V=>(t y).w V) W n x->me (λy V=>(t y).w V) V n x
  induction n with
  |zero=>intro x hw;rw[Z8z]at hw;exact hw.elim
  |succ n ihn=>
   intro x hw
   rw[MM]at hw⊢
   refine ih x (λz hz=>?_) hw
   cases z with
   |inl z=>exact ihn z hz
   |inr z=>exact h z hz
theorem Tree.post{β:Type}(t:Tree β):∀{W:β->Prop},t.w W->W t.m:=by
 induction t with
 |lf x=>intro W hw;exact hw
 |nx f x hf=>intro W hw;exact hw
 |br c t e JL JM=>
  intro W hw
  cases c with
  |true=>exact JL hw
  |false=>exact JM hw
 |cn c t ih=>intro W hw;exact ih (dd.1 hw).2
 |fl c t ih=>
  intro W hw
  cases c with
  |true=>exact hw.elim
  |false=>exact ih hw
 |an p t ih=>intro W hw;exact ih hw.2
 |lv x k ih=>intro W hw;exact ih x (hw x rfl)
 |lp d n f x t hf ih=>
  intro W hw
  revert x
  show∀x,me (λy V=>(t y).w V) W n x->W (@run _ _ d (λy=>(t y).m) n x)
  induction n with
  |zero=>intro x hw;rw[Z8z]at hw;exact hw.elim
  |succ n ihn=>
   intro x hw
   rw[MM]at hw
   have:=ih x hw
   unfold run
   cases hF:(t x).m with
   |inl z=>rw[hF]at this;exact ihn z this
   |inr z=>rw[hF]at this;exact this
theorem Tree.pp{β:Type}{t:Tree β}{W:β->Prop}(h:t.w W):t.p/\W t.m:=⟨t.mono (λ_ _=>trivial) h,t.post h⟩
section
variable {α β:Type} {W:β->Prop} {c:Bool} {t e:Tree β}
theorem bj{x:β}(h:W x):(Tree.lf x).w W:=h
theorem ei{f:Prop}{x:β}{hf:f}(h:W x):(Tree.nx f x hf).w W:=h
theorem ab(h:c=true->t.w W)(g:c=false->e.w W):(Tree.br c t e).w W:=Zv.2 ⟨h,g⟩
theorem ax(h:c=true)(g:t.w W):(Tree.cn c t).w W:=dd.2 ⟨h,g⟩
theorem VV(h:c=false)(g:t.w W):(Tree.fl c t).w W:=Zv.2 ⟨λe=>(by rw[h]at e;cases e),λ_=>g⟩
theorem c6{p:Prop}(h:p)(g:t.w W):(Tree.an p t).w W:=⟨h,g⟩
theorem aq{x:α}{k:α->Tree β}(h:∀y,y=x->(k y).w W):(Tree.lv x k).w W:=h
theorem fj{d:Inhabited β}{n:Nat}{f:Prop}{x:α}{k:α->Tree (α⊕β)}{hf:f}{inv:α->Prop}{μ:α->Nat}(h:inv x)(hn:μ x<n)(g:∀y,inv y->(k y).w (hZ (λz=>inv z/\μ z<μ y) W)):(Tree.lp d n f x k hf).w W:=by
 show me (λy V=>(k y).w V) W n x
 revert x
 induction n with
 |zero=>intro x h hn;omega
 |succ n ih=>
  intro x h hn
  rw[MM]
  refine(k x).mono (λz hz=>?_) (g x h)
  cases z with
  |inl z=>exact ih hz.1 (by have:=hz.2;omega)
  |inr z=>exact hz
end
theorem wL{β:Type}{x:β}:(Tree.lf x).p:=trivial
theorem wB{β:Type}{c:Bool}{t e:Tree β}(h:t.p)(g:e.p):(Tree.br c t e).p:=by cases c<;>assumption
structure lU(T:iy)(G:List bd)(L:Code->St->(Ex->St->Prop)->Prop)(fn:Func)(args:List D)(rows:List Row)(ds:List mY)(Q:D->List Row->Prop):Prop where
 h:kh T G L fn args rows λd R=>nT rows.length ds d R Q
theorem lU.of{G:List bd}{L:Code->St->(Ex->St->Prop)->Prop}{rows:List Row}{Q:D->List Row->Prop}{p:Prop}(e:(kh T G L fn args rows λd R=>nT rows.length ds d R Q)=p)(hl:p):lU T G L fn args rows ds Q:=⟨by rw[e];exact hl⟩
theorem lU.calls(hD:pA P)(hT:Q4 P T){G:List bd}(hG:jD P G)(hf:P.funcs[f]?=some fn){rows:List Row}{aj:List Row}
 {rf:Option Nat} (mH:∀code,fn.body=some code->RF rf fn.ntmps code) {L:Code->St->(Ex->St->Prop)->Prop} (hL:∀code st Q,RF rf fn.ntmps code->L code st Q->Tr P fn.ntmps rows.length code st Q) {ds:List mY} (h:lU T G L fn args rows ds λr o=>r=res/\o=aj):ku P f args rows res aj:=
 zw hD hT hG hf mH hL (λd R hQ=>by obtain⟨r,o,⟨rfl,rfl⟩,hE⟩:=Zce hQ;exact hE) h.h
structure te(T:iy)(G:List bd)(L:Code->St->(Ex->St->Prop)->Prop)(fn:Func)(args:List D)(rows:List Row)(k:Nat)(ds:List mY)(Q:D->List Row->Prop):Prop where
 h:Fx T G L fn args rows (λd R=>nT k ds d R Q) k
theorem te.of{G:List bd}{L:Code->St->(Ex->St->Prop)->Prop}{rows:List Row}{Q:D->List Row->Prop}{p:Prop}(e:(Fx T G L fn args rows (λd R=>nT k ds d R Q) k)=p)(hl:p):te T G L fn args rows k ds Q:=⟨by rw[e];exact hl⟩
theorem te.calls(hD:pA P)(hT:Q4 P T){G:List bd}(hG:jD P G){rows:List Row}{aj:List Row}{rf:Option Nat}(hf:oV P f fn (pZ (ot args++kH rows)=true/\rf=none))(mH:∀code,fn.body=some code->RF rf fn.ntmps code)
 {L:Code->St->(Ex->St->Prop)->Prop} (hL:∀ro,(ro=none\/rf=none)->∀code st Q,RF rf fn.ntmps code->L code st Q->tN ro P fn.ntmps k code st Q) {ds:List mY} (h:te T G L fn args rows k ds λr o=>r=res/\o=aj):tJ P f k args rows res aj:=
 qaL hD hT hG hf mH hL (λd R hQ=>by obtain⟨r,o,⟨rfl,rfl⟩,hE⟩:=Zce hQ;exact hE) h.h
section
variable {P:Program} {T:iy} {G:List bd} {f:FuncId} {fn:Func} {refs:List Bool} {flat:Bool} {sig:List PT} {du:List RT} {pre:List D->List Row->Prop} {β:Type} {v:List D->List Row->β} {enc:β->D} {out:β->List Row}
theorem oV.imp{cl cl':Prop}(h:oV P f fn cl)(g:cl->cl'):oV P f fn cl':=by
 cases h with
 |real a b c=>exact .real a b c
 |yield a y d b c e f g1 g2 h i=>exact .yield a y d b c e f g1 g2 h (g i)
 |uK a y q b c e f g1 h i j k=>exact .uK a y q b c e f g1 h i j (g k)
theorem Zdq(rf:Option Nat)(mH:∀code,fn.body=some code->RF rf fn.ntmps code)(hD:pA P)(hT:Q4 P T)(hG:jD P G)(hf:P.funcs[f]?=some fn)(t:List D->List Row->Tree β)(ds:List mY)(fq:List (Nat×cg))(dep:Nat)
 (hn:∀args rows Q,(kh T G (AO T G fn.ntmps du.length fq rf dep) fn (kW sig args 0) (kv du rows 0) λd R=>nT du.length ds d R Q)=(t args rows).q λX=>Q (enc X) (out X)) (hv:∀args rows,(t args rows).m=v args rows) {args:List D} {rows:List Row} (hp:(t args rows).p):
 ku P f (kW sig args 0) (kv du rows 0) (enc (v args rows)) (out (v args rows)):=by
 have e:(kv du rows 0).length=du.length:=Vg
 refine lU.calls hD hT hG hf mH (L:=AO T G fn.ntmps du.length fq rf dep) (λcode st Q hc hl=>by rw[e];exact Gj hD hT hG (.inl rfl) dep _ _ _ hc hl) (ds:=ds) ⟨?_⟩
 rw[e,hn]
 refine Tree.main' hp ?_
 rw[hv]
 exact⟨rfl,rfl⟩
theorem Z7r(rf:Option Nat)(mH:∀code,fn.body=some code->RF rf fn.ntmps code)(hD:pA P)(hT:Q4 P T)(hG:jD P G)(hf:oV P f fn ((∀args rows,pZ (ot (kW sig args 0)++kH (kv du rows 0))=true)/\rf=none))(t:List D->List Row->Tree β)(ds:List mY)(fq:List (Nat×cg))(dep:Nat)
 (hn:∀args rows Q,(Fx T G (AO T G fn.ntmps k fq rf dep) fn (kW sig args 0) (kv du rows 0) (λd R=>nT k ds d R Q) k)=(t args rows).q λX=>Q (enc X) (out X)) (hv:∀args rows,(t args rows).m=v args rows) {args:List D} {rows:List Row} (hp:(t args rows).p):
 tJ P f k (kW sig args 0) (kv du rows 0) (enc (v args rows)) (out (v args rows)):=by
 refine te.calls hD hT hG (hf.imp λh=>⟨h.1 args rows,h.2⟩) mH (L:=AO T G fn.ntmps k fq rf dep) (λro Dx=>Gj hD hT hG Dx dep) (ds:=ds) ⟨?_⟩
 rw[hn]
 refine Tree.main' hp ?_
 rw[hv]
 exact⟨rfl,rfl⟩
theorem Zni(rf:Option Nat)(mH:∀code,fn.body=some code->RF rf fn.ntmps code)(hD:pA P)(hT:Q4 P T)(hG:jD P G)(hf:P.funcs[f]?=some fn)(he:∀args w,(callFunc f args).run P w=.ok (.enter f args) w)(t:List D->List Row->Tree β)(ds:List mY)(fq:List (Nat×cg))(dep:Nat)
 (hn:∀args rows Q,(kh T G (AO T G fn.ntmps du.length fq rf dep) fn (kW sig args 0) (kv du rows 0) λd R=>nT du.length ds d R Q)=(t args rows).q λX=>Q (enc X) (out X):=by intro _ _ _;kernel_rfl) (hv:∀args rows,(t args rows).m=v args rows:=by exactλ_ _=>rfl)
 (hp:∀args rows,pre args rows->(t args rows).p:=by exactλ_ _ h=>h) (jx:flat=true->∀X,(tj (enc X)&&jy (out X))=true:=by intro _ _;kernel_rfl) (hy:bN f YB=true:=by rfl):bn P (kU f refs flat sig du pre v enc out):=
 FE he (λargs rows hw=>Zdq rf mH hD hT hG hf t ds fq dep hn hv (hp _ _ hw)) jx hy
theorem tG(hD:pA P)(hT:Q4 P T)(hG:jD P G)(hf:P.funcs[f]?=some fn)(he:∀args w,(callFunc f args).run P w=.ok (.enter f args) w)(t:List D->List Row->Tree β)(ds:List mY)(fq:List (Nat×cg))(dep:Nat)
 (hn:∀args rows Q,(kh T G (LL T G fn.ntmps du.length fq dep) fn (kW sig args 0) (kv du rows 0) λd R=>nT du.length ds d R Q)=(t args rows).q λX=>Q (enc X) (out X):=by intro _ _ _;kernel_rfl) (hv:∀args rows,(t args rows).m=v args rows:=by exactλ_ _=>rfl)
 (hp:∀args rows,pre args rows->(t args rows).p:=by exactλ_ _ h=>h) (jx:flat=true->∀X,(tj (enc X)&&jy (out X))=true:=by intro _ _;kernel_rfl) (hy:bN f YB=true:=by rfl):bn P (kU f refs flat sig du pre v enc out):=
 Zni none (λ_ _=>trivial) hD hT hG hf he t ds fq dep hn hv hp jx hy
theorem zaB(rf:Option Nat)(mH:∀code,fn.body=some code->RF rf fn.ntmps code)(hD:pA P)(hT:Q4 P T)(hG:jD P G)(hf:P.funcs[f]?=some fn)(he:∀args w,(callFunc f args).run P w=.ok (.enter f args) w)(t:List D->List Row->Tree β)(ds:List mY)(fq:List (Nat×cg))(dep:Nat)
 (hn:∀args rows Q,(kh T G (AO T G fn.ntmps du.length fq rf dep) fn (kW sig args 0) (kv du rows 0) λd R=>nT du.length ds d R Q)=(t args rows).q λX=>Q (enc X) (out X)) (hv:∀args rows,(t args rows).m=v args rows)
 (hp:∀args rows,(t args rows).p) (jx:flat=true->∀X,(tj (enc X)&&jy (out X))=true) (hy:bN f YB=true:=by rfl):bn P (FP f refs flat sig du v enc out):=
 zaN he (λargs rows=>Zdq rf mH hD hT hG hf t ds fq dep hn hv (hp _ _)) jx hy
theorem Q1(hD:pA P)(hT:Q4 P T)(hG:jD P G)(hf:P.funcs[f]?=some fn)(he:∀args w,(callFunc f args).run P w=.ok (.enter f args) w)(t:List D->List Row->Tree β)(ds:List mY)(fq:List (Nat×cg))(dep:Nat)
 (hn:∀args rows Q,(kh T G (LL T G fn.ntmps du.length fq dep) fn (kW sig args 0) (kv du rows 0) λd R=>nT du.length ds d R Q)=(t args rows).q λX=>Q (enc X) (out X):=by intro _ _ _;kernel_rfl) (hv:∀args rows,(t args rows).m=v args rows:=by exactλ_ _=>rfl)
 (hp:∀args rows,(t args rows).p:=by intro _ _;exact Tree.nM (by kernel_rfl)) (jx:flat=true->∀X,(tj (enc X)&&jy (out X))=true:=by intro _ _;kernel_rfl) (hy:bN f YB=true:=by rfl):bn P (FP f refs flat sig du v enc out):=
 zaB none (λ_ _=>trivial) hD hT hG hf he t ds fq dep hn hv hp jx hy
theorem Zp6(rf:Option Nat)(mH:∀code,fn.body=some code->RF rf fn.ntmps code)(hD:pA P)(hT:Q4 P T)(hG:jD P G)(hf:oV P f fn ((∀args rows,pZ (ot (kW sig args 0)++kH (kv du rows 0))=true)/\rf=none))(he:f<YB->∀args w,(callFunc f args).run P w=.ok (.enter f args) w)(t:List D->List Row->Tree β)(ds:List mY)(fq:List (Nat×cg))(dep:Nat)
 (hn:∀args rows Q,(Fx T G (AO T G fn.ntmps k fq rf dep) fn (kW sig args 0) (kv du rows 0) (λd R=>nT k ds d R Q) k)=(t args rows).q λX=>Q (enc X) (out X)) (hv:∀args rows,(t args rows).m=v args rows)
 (hp:∀args rows,pre args rows->(t args rows).p):bn P (jS k f refs sig du pre v enc out):=
 qaB he (λargs rows hw=>Z7r rf mH hD hT hG hf t ds fq dep hn hv (hp _ _ hw))
theorem th(hD:pA P)(hT:Q4 P T)(hG:jD P G)(hf:P.funcs[f]?=some fn)(he:∀args w,(callFunc f args).run P w=.ok (.enter f args) w)(t:List D->List Row->Tree β)(ds:List mY)(fq:List (Nat×cg))(dep:Nat)
 (hn:∀args rows Q,(Fx T G (LL T G fn.ntmps k fq dep) fn (kW sig args 0) (kv du rows 0) (λd R=>nT k ds d R Q) k)=(t args rows).q λX=>Q (enc X) (out X)) (hv:∀args rows,(t args rows).m=v args rows)
 (hp:∀args rows,pre args rows->(t args rows).p) (hy:bN f YB=true:=by rfl) (hb:Nat.ble YB fn.nfree=false:=by rfl):bn P (jS k f refs sig du pre v enc out):=
 Zp6 none (λ_ _=>trivial) hD hT hG (.real (lE hy) hf hb) (λ_=>he) t ds fq dep hn hv hp
theorem xC(rf:Option Nat)(mH:∀code,fn.body=some code->RF rf fn.ntmps code)(hD:pA P)(hT:Q4 P T)(hG:jD P G)(hf:oV P f fn ((∀args rows,pZ (ot (kW sig args 0)++kH (kv du rows 0))=true)/\rf=none))(he:f<YB->∀args w,(callFunc f args).run P w=.ok (.enter f args) w)(t:List D->List Row->Tree β)(ds:List mY)(fq:List (Nat×cg))(dep:Nat)
 (hn:∀args rows Q,(Fx T G (AO T G fn.ntmps k fq rf dep) fn (kW sig args 0) (kv du rows 0) (λd R=>nT k ds d R Q) k)=(t args rows).q λX=>Q (enc X) (out X)) (hv:∀args rows,(t args rows).m=v args rows)
 (hp:∀args rows,(t args rows).p):bn P (JJ k f refs sig du v enc out):=
 xaN he (λargs rows=>Z7r rf mH hD hT hG hf t ds fq dep hn hv (hp _ _))
theorem qaO(hD:pA P)(hT:Q4 P T)(hG:jD P G)(hf:P.funcs[f]?=some fn)(he:∀args w,(callFunc f args).run P w=.ok (.enter f args) w)(t:List D->List Row->Tree β)(ds:List mY)(fq:List (Nat×cg))(dep:Nat)
 (hn:∀args rows Q,(Fx T G (LL T G fn.ntmps k fq dep) fn (kW sig args 0) (kv du rows 0) (λd R=>nT k ds d R Q) k)=(t args rows).q λX=>Q (enc X) (out X)) (hv:∀args rows,(t args rows).m=v args rows)
 (hp:∀args rows,(t args rows).p) (hy:bN f YB=true:=by rfl) (hb:Nat.ble YB fn.nfree=false:=by rfl):bn P (JJ k f refs sig du v enc out):=
 xC none (λ_ _=>trivial) hD hT hG (.real (lE hy) hf hb) (λ_=>he) t ds fq dep hn hv hp
theorem zC(h:bn P (kU f refs flat sig du pre v enc out)){rows:List Row}(hs:(Bi sig args&&Bj du rows)=true)(hw:pre args rows):ku P f args rows (enc (v args rows)) (out (v args rows)):=
 (h.lr rfl args rows (pre args rows) β (v args rows) enc out (by simp only[kU,hs]) hw).1
end
def Tree.pU{β:Type}:Tree β->Bool
 |.lf _=>true
 |.br _ t e=>t.pU&&e.pU
 |.lv x k=>(k x).pU
 |_=>false
theorem Tree.nM{β:Type}{t:Tree β}(h:t.pU=true):t.p:=by
 induction t with
 |lf x=>trivial
 |br c t e JL JM=>
  simp only[Tree.pU,aE]at h
  cases c with
  |true=>exact JL h.1
  |false=>exact JM h.2
 |lv x k ih=>intro y hy;subst hy;exact ih _ h
 |_=>simp[Tree.pU]at h
theorem jD.nil:jD P []:=λx hx=>by cases hx
theorem jD.cons{x:bd}{G:List bd}(h:bn P x)(g:jD P G):jD P (x::G):=λy hy=>by
 simp only[List.mem_cons]at hy
 rcases hy with rfl|hy
 ·exact h
 ·exact g y hy

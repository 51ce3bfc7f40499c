import Derived.Test.YtaemmjbkndlkeaaGreatMigrateQuietFc
open Nat renaming blt->bN,beq->bX,le_refl->aX
open List renaming map_cons->fG,getD->aV,getElem?_eq_getElem->aI,range'->bO,all_cons->gJ,all_nil->hH,length_cons->dD,length_nil->dE,length_set->dC,length_replicate->cS
open Bool renaming false_eq_true->aA,or_eq_true->aT,and_eq_false_iff->gU,or_eq_false_iff->gW,not_eq_true'->bB,not_eq_false'->gX,not_eq_true->gY,not_eq_false->gZ
open Sum renaming elim->hJ
set_option linter.all false
namespace Go.GD
open Go
open Go.IntKind(i64 u32 u64 wrap_i64 wrap_u32 wrap_u64 wrap_u8 wrap_i32)
variable {P:Program}{T:iB}{a b k s:Nat}{args pS:List D}{d res:D}{ds:List mY}{f:FuncId}{flat fr:Bool}{fn:Func}{refs:List Bool}
def lk(st:St)(t:Nat):D:=look st.env t
def rN(st:St)(t:Nat):Nat:=iw (look st.env t) 1000000
def cT(st:St)(t j:Nat):D:=ay st.rows (iw (look st.env t) 1000000) j
def rX(st:St)(t k:Nat):Nat:=iw (look st.env t) (st.rows.length+k)
theorem Qh9{α:Type}{l:List α}(h:l≠[]):0<l.length:=by cases l<;>simp_all
theorem Q55{a b:Nat}:bN a b=true↔a<b:=by simp[bN,Nat.lt_iff_add_one_le]
theorem Q39:bN a b=false↔ ¬a<b:=by have:= @Q55 a b;cases h:bN a b<;>simp_all
theorem Q57{a b:Nat}:bX a b=true↔a=b:=iff_of_eq Nat.beq_eq
theorem Q3a:bX a b=false↔ ¬a=b:=by have:= @Q57 a b;cases h:bX a b<;>simp_all
def gz(d e:D):Prop:=∀c w v,dc c w d v->dc c w e v
def lu:List D->List D->Prop
 |[],[]=>True
 |d::l,e::m=>gz d e/\lu l m
 |_,_=>False
def sW:D->D->Prop
 |.agg cs,.agg ds=>lu cs ds
 |.agg _,_=>False
 |d,e=>gz d e
def Dd:List D->List D->Prop
 |[],[]=>True
 |d::l,e::m=>sW d e/\Dd l m
 |_,_=>False
theorem gz.rfl:gz d d:=λ_ _ _ h=>h
theorem gz.ints{k:IntKind}{E:ai}{l:List Int}(h:E.toI k=some l):gz (.sl s E fr) (.sl 1 (.ints k l) false):=by
 intro c w v hv
 have he:=ai.toI_l h
 obtain⟨a,cap,hv,hc,ib⟩:=hv
 rw[he]at hv hc ib
 refine⟨a,cap,hv,hc,?_⟩
 rcases ib with ib|⟨b,off,arr,ty,fz,ha,hI,hf,hh,hE⟩
 ·exact .inl ib
 ·cases l with
  |nil=>exact .inl (by simp[ai.l])
  |cons n l=>
   have h1:s=1:=by
    simp only[ai.l,fG,pX,pI]at hE
    exact hE.1.symm
   subst h1
   exact .inr ⟨b,off,arr,ty,fz,ha,hI,(λe=>by cases e),hh,hE⟩
theorem gz.ag{E:ai}{l:List Bool}(h:E.toB=some l):gz (.sl s E fr) (.sl 1 (.ag l) false):=by
 intro c w v hv
 have he:=ai.toB_l h
 obtain⟨a,cap,hv,hc,ib⟩:=hv
 rw[he]at hv hc ib
 refine⟨a,cap,hv,hc,?_⟩
 rcases ib with ib|⟨b,off,arr,ty,fz,ha,hI,hf,hh,hE⟩
 ·exact .inl ib
 ·cases l with
  |nil=>exact .inl (by simp[ai.l])
  |cons n l=>
   have h1:s=1:=by
    simp only[ai.l,fG,pX,pI]at hE
    exact hE.1.symm
   subst h1
   exact .inr ⟨b,off,arr,ty,fz,ha,hI,(λe=>by cases e),hh,hE⟩
theorem lu.rep{c:Ctx}{w:World}:∀{ds es:List D} {vs:List Value},lu ds es->jm c w ds vs->jm c w es vs
 |[],[],[],_,_=>trivial
 |d::l,e::m,v::vs,h,hr=>⟨h.1 _ _ _ hr.1,lu.rep h.2 hr.2⟩
 |[],_::_,_,h,_=>h.elim
 |_::_,[],_,h,_=>h.elim
 |[],[],_::_,_,hr=>hr.elim
 |_::_,_::_,[],_,hr=>hr.elim
theorem sW.rep{c:Ctx}{w:World}{d e:D}{v:Value}(h:sW d e)(hr:VRep c w d v):VRep c w e v:=by
 cases d with
 |agg cs=>
  cases e with
  |agg ds=>obtain⟨vs,hv,hx⟩:=hr;exact⟨vs,hv,lu.rep h hx⟩
  |_=>exact h.elim
 |_=>
  have h1:=VRep.toC (λcs e=>by cases e) hr
  have h2:gz _ e:=h
  exact VRep.Ee (h2 _ _ _ h1)
theorem Dd.rep{c:Ctx}{w:World}:∀{ds es:List D} {vs:List Value},Dd ds es->j9 c w ds vs->j9 c w es vs
 |[],[],[],_,_=>trivial
 |d::l,e::m,v::vs,h,hr=>⟨sW.rep h.1 hr.1,Dd.rep h.2 hr.2⟩
 |[],_::_,_,h,_=>h.elim
 |_::_,[],_,h,_=>h.elim
 |[],[],_::_,_,hr=>hr.elim
 |_::_,_::_,[],_,hr=>hr.elim
theorem ko.sub{rows:List Row}{aj:List Row}(hs:Dd args pS)(h:ko P f pS rows res aj):ko P f args rows res aj:=
 λc w vs hm hb hR ha=>h c w vs hm hb hR (Dd.rep hs ha)
theorem gz.ah{k:RK}{E:ai}{l:List (RK.T k)}(h:E.toR k=some l):gz (.sl s E fr) (.sl k.size (.ah k l) false):=by
 intro c w v hv
 have he:=ai.toR_l h
 obtain⟨a,cap,hv,hc,ib⟩:=hv
 rw[he]at hv hc ib
 refine⟨a,cap,hv,hc,?_⟩
 rcases ib with ib|⟨b,off,arr,ty,fz,ha,hI,hf,hh,hE⟩
 ·exact .inl ib
 ·cases l with
  |nil=>exact .inl (by simp[ai.l])
  |cons x l=>
   have h1:s=k.size:=by
    simp only[ai.l,fG,pI]at hE
    rw[<-hE.1];exact RK.rz k x
   subst h1
   exact .inr ⟨b,off,arr,ty,fz,ha,hI,(λe=>by cases e),hh,hE⟩
theorem gz.De{E:ai}(h:E.l=[]):gz .c9 (.sl s E false):=by
 intro c w v hv
 exact⟨none,0,by rw[h];exact hv,by rw[h];exact aX _,.inl h⟩
theorem gz.JE{E:ai}(h:E.l=[]):gz .emp (.sl s E false):=by
 intro c w v hv
 obtain⟨a,hv,_⟩:=hv
 exact⟨a,0,by rw[h];exact hv,by rw[h];exact aX _,.inl h⟩
def AF:List (Nat×Nat×Nat)->List (Nat×Nat×Nat)->Bool
 |[],[]=>true
 |(a,b,c)::l,(x,y,z)::m=>bX a x&&(bX b y&&(bX c z&&AF l m))
 |_,_=>false
def sX:List iD->List iD->Bool
 |[],[]=>true
 |.ptr a b c::l,.ptr x y z::m=>bX a x&&(bX b y&&(bX c z&&sX l m))
 |.fn f ps::l,.fn g qs::m=>bX f g&&(AF ps qs&&sX l m)
 |_,_=>false
theorem qA:∀{l m:List (Nat×Nat×Nat)},AF l m=true->l=m
 |[],[],_=>rfl
 |(a,b,c)::l,(x,y,z)::m,h=>by
  simp only[AF,aE]at h
  rw[bE h.1,bE h.2.1,bE h.2.2.1,qA h.2.2.2]
 |[],_::_,h=>by simp[AF]at h
 |_::_,[],h=>by simp[AF]at h
theorem xA:∀{l m:List iD},sX l m=true->l=m:=by
 intro l
 induction l with
 |nil=>intro m h;cases m with
  |nil=>rfl
  |cons _ _=>simp[sX]at h
 |cons a l ih=>
  intro m h
  cases m with
  |nil=>cases a<;>simp[sX]at h
  |cons b m=>
   cases a<;>cases b<;>simp only[sX,aE,aA]at h
   ·rw[bE h.1,bE h.2.1,bE h.2.2.1,ih h.2.2.2]
   ·rw[bE h.1,qA h.2.1,ih h.2.2]
def AG:CT->D->Bool
 |.int k,.int j _=>decide (j=k)
 |.bool,.bool _=>true
 |.str,.str _=>true
 |.ints k,.sl _ E _=>(match E.toI k with|some _=>true|none=>false)
 |.ag,.sl _ E _=>(match E.toB with|some _=>true|none=>false)
 |.ah k,.sl _ E _=>(match E.toR k with|some _=>true|none=>false)
 |.ints _,.c9=>true
 |.ag,.c9=>true
 |.ah _,.c9=>true
 |.ints _,.emp=>true
 |.ag,.emp=>true
 |.ah _,.emp=>true
 |.row i,.all r=>bX r i
 |.nil,.sl s (.gen []) false=>bX s 0
 |.HN,.c9=>true
 |.self _,.iI=>true
 |.gl f cs,.gl g ds=>bX g f&&sX ds cs
 |.self i,.gh r=>bX r i
 |.self i,.ptr r o f=>bX r i&&(bX o 0&&bX f 0)
 |.pt i a b,.ptr r o f=>bX r i&&(bX o a&&bX f b)
 |_,_=>false
inductive PT where
 |one (t:CT)
 |agg (ts:List CT)
 |ptr (i:Nat)
 |gl (f:Nat) (cs:List iD)
inductive RT where
 |box (ty sz:Nat) (ts:List CT)
 |arr (ty sz:Nat) (t:CT)
def JF:List CT->List D->Bool
 |[],[]=>true
 |t::ts,d::ds=>AG t d&&JF ts ds
 |_,_=>false
def uP:PT->D->Bool
 |.agg ts,.agg cs=>JF ts cs
 |.one t,d=>AG t d
 |.ptr i,.ptr r j o=>bX r i&&(bX j 0&&bX o 0)
 |.gl f cs,.gl g ds=>bX g f&&sX ds cs
 |_,_=>false
def Hu:PT->D->D
 |.agg ts,d=>.agg (uY ts d.cells 0)
 |.one t,d=>Dr t d
 |.ptr i,_=>.ptr i 0 0
 |.gl f cs,_=>.gl f cs
def Bh:List PT->List D->Bool
 |[],[]=>true
 |s::l,d::ds=>uP s d&&Bh l ds
 |_,_=>false
def kW:List PT->List D->Nat->List D
 |[],_,_=>[]
 |s::l,args,i=>Hu s (args.getD i .dead)::kW l args (i+1)
def Row.cs(r:Row):List D:=match r.es with|.gen [e]=>e|_=>[]
def uQ:RT->Row->Bool
 |.box ty sz ts,⟨true,jS,j4,.gen [e]⟩=>bX jS ty&&(bX j4 sz&&JF ts e)
 |.arr ty sz t,⟨false,jS,j4,E⟩=>bX jS ty&&(bX j4 sz&&(match toCT t E with|some _=>true|none=>false))
 |_,_=>false
def Rp(t:CT)(E:ai):ai:=match t with
 |.ints k=>.ints k (match E.toI k with|some l=>l|none=>[])
 |.ag=>.ag (match E.toB with|some l=>l|none=>[])
 |.ah k=>.ah k (match E.toR k with|some l=>l|none=>[])
 |_=>.gen []
theorem zax{t:CT}{E E':ai}(h:toCT t E=some E'):Rp t E=E':=by
 cases t with
 |ints k=>
  simp only[toCT]at h
  split at h
  ·rename_i l hl
   cases h
   show ai.ints k (match E.toI k with|some l=>l|none=>[])=_
   rw[hl]
  ·cases h
 |ag=>
  simp only[toCT]at h
  split at h
  ·rename_i l hl
   cases h
   show ai.ag (match E.toB with|some l=>l|none=>[])=_
   rw[hl]
  ·cases h
 |ah k=>
  simp only[toCT]at h
  split at h
  ·rename_i l hl
   cases h
   show ai.ah k (match E.toR k with|some l=>l|none=>[])=_
   rw[hl]
  ·cases h
 |_=>simp[toCT]at h
def wO:RT->Row->Row
 |.box ty sz ts,r=>⟨true,ty,sz,.gen [uY ts r.cs 0]⟩
 |.arr ty sz t,r=>⟨false,ty,sz,Rp t r.es⟩
def Bi:List RT->List Row->Bool
 |[],[]=>true
 |s::l,r::rs=>uQ s r&&Bi l rs
 |_,_=>false
def kp:List RT->List Row->Nat->List Row
 |[],_,_=>[]
 |s::l,rows,i=>wO s (rows.getD i default)::kp l rows (i+1)
def au(args:List D)(i:Nat):Int:=(args.getD i .dead).toInt
def kE(args:List D)(i:Nat):Bool:=(args.getD i .dead).toBool
def jE(args:List D)(i:Nat):List UInt8:=(args.getD i .dead).toStr
def dh(k:IntKind)(args:List D)(i:Nat):List Int:=bw k (args.getD i .dead)
def Df(args:List D)(i:Nat):List Bool:=ey (args.getD i .dead)
def kF(k:RK)(args:List D)(i:Nat):List (RK.T k):=iQ k (args.getD i .dead)
def sY(rows:List Row)(i j:Nat):D:=((rows.getD i default).cs.getD j .dead)
def cy(k:IntKind)(rows:List Row)(i:Nat):List Int:=match(rows.getD i default).es.toI k with|some l=>l|none=>[]
def da(k:RK)(rows:List Row)(i:Nat):List (RK.T k):=match(rows.getD i default).es.toR k with|some l=>l|none=>[]
theorem Zcc{t:CT}(h:AG t d=true):gz d (Dr t d):=by
 cases t<;>cases d<;>(try(simp[AG]at h;done))
 case int.int=>simp[AG]at h;subst h;exact gz.rfl
 case nil.sl s E fr=>
  unfold AG at h
  split at h<;>simp_all
  exact gz.rfl
 case HN.c9=>exact gz.rfl
 case bool.bool=>exact gz.rfl
 case str.str=>exact gz.rfl
 case ints.sl k sz E fr=>
  simp only[AG]at h
  split at h
  ·rename_i l hl
   simp only[Dr,bw,hl]
   exact gz.ints hl
  ·cases h
 case ints.c9=>exact gz.De rfl
 case ints.emp=>exact gz.JE rfl
 case ag.sl sz E fr=>
  simp only[AG]at h
  split at h
  ·rename_i l hl
   simp only[Dr,ey,hl]
   exact gz.ag hl
  ·cases h
 case ag.c9=>exact gz.De rfl
 case ag.emp=>exact gz.JE rfl
 case ah.sl k sz E fr=>
  simp only[AG]at h
  split at h
  ·rename_i l hl
   simp only[Dr,iQ,hl]
   exact gz.ah hl
  ·cases h
 case ah.c9=>exact gz.De rfl
 case ah.emp=>exact gz.JE rfl
 case row.all i r=>rw[bE h];exact gz.rfl
 case gl.gl f cs g ds=>
  simp only[AG,aE]at h
  rw[bE h.1,xA h.2]
  exact gz.rfl
 case self.iI i=>exactλc w v hv=>.inl hv
 case self.gh i r=>rw[bE h];exact gz.rfl
 case self.ptr i r o f=>
  simp only[AG,aE]at h
  rw[bE h.1,bE h.2.1,bE h.2.2]
  exactλc w v hv=>.inr hv
 case pt.ptr i a b r o f=>
  simp only[AG,aE]at h
  rw[bE h.1,bE h.2.1,bE h.2.2]
  exact gz.rfl
theorem Z0j:∀{ts:List CT} {pre ds:List D},JF ts ds=true->lu ds (uY ts (pre++ds) pre.length)
 |[],pre,[],_=>trivial
 |t::ts,pre,d::ds,h=>by
  simp only[JF,aE]at h
  have h2:=Z0j (pre:=pre++[d]) h.2
  simp only[uY]
  refine⟨?_,by simpa using h2⟩
  have:(pre++d::ds).getD pre.length .dead=d:=by simp[aV]
  rw[this];exact Zcc h.1
 |[],_,_::_,h=>by simp[JF]at h
 |_::_,_,[],h=>by simp[JF]at h
theorem sW.of1{d e:D}(hd:∀cs,d≠.agg cs)(h:gz d e):sW d e:=by
 cases d<;>first|exact h|exact absurd rfl (hd _)
theorem Zrl{s:PT}(h:uP s d=true):sW d (Hu s d):=by
 unfold uP at h
 split at h
 ·rename_i ts cs
  exact Z0j (pre:=[]) h
 ·rename_i t d
  refine sW.of1 (λcs e=>?_) (Zcc h)
  subst e
  cases t<;>simp[AG]at h
 ·rename_i i r j o
  simp only[aE]at h
  rw[bE h.1,bE h.2.1,bE h.2.2]
  exact gz.rfl
 ·rename_i f cs g ds
  simp only[aE]at h
  rw[bE h.1,xA h.2]
  exact gz.rfl
 ·cases h
theorem Qzw:∀{l:List PT} {pre ds:List D},Bh l ds=true->Dd ds (kW l (pre++ds) pre.length)
 |[],pre,[],_=>trivial
 |s::l,pre,d::ds,h=>by
  simp only[Bh,aE]at h
  have h2:=Qzw (pre:=pre++[d]) h.2
  simp only[kW]
  refine⟨?_,by simpa using h2⟩
  have:(pre++d::ds).getD pre.length .dead=d:=by simp[aV]
  rw[this];exact Zrl h.1
 |[],_,_::_,h=>by simp[Bh]at h
 |_::_,_,[],h=>by simp[Bh]at h
def sZ(a b:Row):Prop:=b.box=a.box/\b.ty=a.ty/\b.sz=a.sz/\b.es.l.length=a.es.l.length/\match a.box with
 |true=>∃e e',a.es=.gen [e]/\b.es=.gen [e']/\e'.length=e.length/\lu e e'
 |false=>b.es.l=a.es.l
theorem lu.length:∀{ds es:List D},lu ds es->ds.length=es.length
 |[],[],_=>rfl
 |_::_,_::_,h=>by simp[lu.length h.2]
 |[],_::_,h=>h.elim
 |_::_,[],h=>h.elim
theorem Zt4{s:RT}{r:Row}(h:uQ s r=true):sZ r (wO s r):=by
 unfold uQ at h
 split at h
 ·rename_i ty sz ts jS j4 e
  simp only[aE]at h
  have h3:=Z0j (pre:=[]) h.2.2
  have hl:=h3.length
  exact⟨rfl,(bE h.1).symm,(bE h.2.1).symm,rfl,_,_,rfl,rfl,hl.symm,h3⟩
 ·rename_i ty sz t jS j4 E
  simp only[aE]at h
  obtain⟨h1,h2,h3⟩:=h
  split at h3
  ·rename_i E' hE
   have he:=ai.w9 (M4 hE)
   have hc:wO (.arr ty sz t) ⟨false,jS,j4,E⟩=⟨false,ty,sz,E'⟩:=by simp[wO,zax hE]
   rw[hc]
   exact⟨rfl,(bE h1).symm,(bE h2).symm,by simp only[he],he.symm⟩
  ·cases h3
 ·cases h
theorem Qvp:∀{l:List RT} {pre rs:List Row},Bi l rs=true->rs.length=l.length/\∀(i:Nat) r,rs[i]?=some r->∃r',(kp l (pre++rs) pre.length)[i]?=some r'/\sZ r r'
 |[],pre,[],_=>⟨rfl,λi r h=>by simp at h⟩
 |s ::l,pre,r::rs,h=>by
  simp only[Bi,aE]at h
  obtain⟨h1,h2⟩:=Qvp (pre:=pre++[r]) h.2
  refine⟨by simp[h1],λi q hq=>?_⟩
  cases i with
  |zero=>
   simp at hq;subst hq
   have:(pre++r::rs).getD pre.length default=r:=by simp[aV]
   exact⟨_,by simp only[kp,this];rfl,Zt4 h.1⟩
  |succ i=>
   obtain⟨q',g1,g2⟩:=h2 i q (by simpa using hq)
   refine⟨q',?_,g2⟩
   simp only[kp,List.getElem?_cons_succ]
   simpa using g1
 |[],_,_::_,h=>by simp[Bi]at h
 |_::_,_,[],h=>by simp[Bi]at h
theorem UZ:∀{l:List RT} {rows:List Row} {i:Nat},(kp l rows i).length=l.length
 |[],_,_=>rfl
 |s::l,rows,i=>by simp[kp,UZ]
theorem zA:d.mr (λr=>r) true=d:=by
 cases d with
 |gl f cs=>simp only[D.mr,YJ]
 |_=>simp[D.mr]
theorem U0:∀{ds:List D},D.mu (λr=>r) true ds=ds
 |[]=>rfl
 |d::l=>by simp[D.mu,zA,U0 (ds:=l)]
theorem zaJ:d.jh (λr=>r) true=d:=by
 cases d with
 |agg cs=>show D.agg (D.mu _ true cs)=_;rw[U0]
 |gl f cs=>exact zA (d:=.gl f cs)
 |_=>simp[D.jh,D.mr]
theorem lu.cells{c:Ctx}{w:World}:∀{ds es:List D} {arr:Array Value} {off:Nat},lu ds es->kH c w ds arr off->kH c w es arr off
 |[],[],_,_,_,_=>trivial
 |d::l,e::m,_,_,h,⟨⟨v,hv,h1⟩,h2⟩=>⟨⟨v,hv,h.1 _ _ _ h1⟩,lu.cells h.2 h2⟩
 |[],_::_,_,_,h,_=>h.elim
 |_::_,[],_,_,h,_=>h.elim
theorem Zer{c1 c2:Ctx}{w:World}(hn:DR (λ_=>True) (λr=>r) true c1 c2)(hI:∀b,c1.I b->c2.I b):∀{ds:List D} {vs:List Value},j9 c1 w ds vs->j9 c2 w ds vs
 |[],[],_=>trivial
 |d::ds,v::vs,h=>⟨by have:=PM hn (flat:=False) (.inl hI) (λ_ _=>trivial) (λe=>e.elim) h.1;rwa [zaJ]at this,Zer hn hI h.2⟩
 |[],_::_,h=>h.elim
 |_::_,[],h=>h.elim
theorem ko.JG{rows kO:List Row}{aj:List Row}(hs:Dd args pS)(hl:kO.length=rows.length)(hr:∀(i:Nat) r,rows[i]?=some r->∃r',kO[i]?=some r'/\sZ r r')(h:ko P f pS kO res aj):ko P f args rows res aj:=by
 intro c w vs hm hb hR ha
 let c2:Ctx:={c with R:=λr=>kO[r]? }
 have Rq:∀r row,c.R r=some row->∃ao,c2.R r=some ao/\sZ row ao:=λr row c6=>by
  rw[hR]at c6;exact hr r row c6
 have uR:∀r ao,c2.R r=some ao->∃row,c.R r=some row/\sZ row ao:=λr ao c6=>by
  have c6:kO[r]?=some ao:=c6
  have bd:=(List.getElem?_eq_some_iff.1 c6).1
  have h1:rows[r]?=some rows[r]:=aI (by omega)
  obtain⟨jy,g1,g2⟩:=hr r _ h1
  rw[c6]at g1;cases g1
  exact⟨_,by rw[hR];exact h1,g2⟩
 have hn:DR (λ_=>True) (λr=>r) true c c2:=⟨λi row _ c6=>by
  obtain⟨ao,g1,g2,g3,g4,g5,_⟩:=Rq i row c6
  exact⟨ao,g1,g2,g3,g4,g5,rfl,Iff.rfl⟩,λ_=>aX _,aX _⟩
 have BH:Mem c2 w:=by
  refine⟨λr ao c6=>?_,λr s x y h1 h2 v1 v2 he=>?_,λb ig=>⟨(hm.fh b ig).1,λr x h1 v=>?_⟩,hm.top,hm.jV⟩
  ·obtain⟨row,g1,g2,g3,g4,g5,g6⟩:=uR r ao c6
   rcases hm.row r row g1 with⟨k1,k2,k3,k4⟩|⟨k1,arr,k2,k3,k4⟩
   ·refine .inl ⟨k1,g2.trans k2,?_,by rw[g4];exact k4⟩
    rw[k2]at g6;simp only at g6;rw[g6,k3]
   ·refine .inr ⟨k1,arr,by rw[g3];exact k2,by rw[g4];exact k3,?_⟩
    rw[g2,g4]
    cases wA:row.box with
    |false=>
     simp only[wA,aA,if_false]at k4 g6⊢
     rw[g6];exact k4
    |true=>
     simp only[wA,if_true]at k4 g6⊢
     obtain⟨e,e',q1,q2,q3,q4⟩:=g6
     obtain⟨e0,p1,p2,p3,p4⟩:=k4
     rw[q1]at p1;cases p1
     refine⟨e',q2,by rw[q3];exact p2,p3,?_⟩
     have:=Uu hn (flat:=False) (.inl λb hb=>hb) (λ_ _=>trivial) (λe=>e.elim) (lu.cells q4 p4)
     rwa [U0]at this
  ·obtain⟨x',g1,_⟩:=uR r x h1
   obtain⟨y',g2,_⟩:=uR s y h2
   exact hm.inj r s x' y' g1 g2 v1 v2 he
  ·obtain⟨x',g1,_⟩:=uR r x h1
   exact(hm.fh b ig).2 r x' g1 v
 refine(h c2 w vs BH hb (λr=>rfl) (Zer hn (λb h=>h) (Dd.rep hs ha))).mono λe w' hq=>?_
 obtain⟨v,c',he,hx,jY,hv⟩:=hq
 refine⟨v,c',he,⟨hx.mem,⟨hx.cz.base,hx.cz.top,hx.cz.I,λr row c6=>?_⟩,hx.fr.mono λb _ ⟨r,x,h1,h2,h3⟩=>?_,hx.fh,λr ao h1 h2=>?_⟩,jY,hv⟩
 ·obtain⟨jy,g1,g2,g3,g4,g5,g6⟩:=Rq r row c6
  obtain⟨ao,k1,k2,k3,k4,k5,k6,k7,k8⟩:=hx.cz.R r jy g1
  exact⟨ao,k1,k2.trans g2,k3.trans g3,k4.trans g4,k5.trans g5,k6,k7,λnv arr ha=>by rw[<-g3]at ha⊢;exact k8 nv arr ha⟩
 ·obtain⟨x',g1,_⟩:=uR r x h1
  exact⟨r,x',g1,h2,h3⟩
 ·rcases hx.ob r ao h1 h2 with⟨⟨x,o4⟩,h3,h4⟩|h3
  ·obtain⟨x',g1,_⟩:=uR r x o4
   exact .inl ⟨⟨x',g1⟩,h3,h4⟩
  ·exact .inr h3
theorem tJ.JG{rows kO:List Row}{aj:List Row}(hs:Dd args pS)(hl:kO.length=rows.length)(hr:∀(i:Nat) r,rows[i]?=some r->∃r',kO[i]?=some r'/\sZ r r')(h:tJ P f k pS kO res aj):tJ P f k args rows res aj:=by
 intro c w vs hm hb hR ha
 let c2:Ctx:={c with R:=λr=>kO[r]? }
 have Rq:∀r row,c.R r=some row->∃ao,c2.R r=some ao/\sZ row ao:=λr row c6=>by
  rw[hR]at c6;exact hr r row c6
 have uR:∀r ao,c2.R r=some ao->∃row,c.R r=some row/\sZ row ao:=λr ao c6=>by
  have c6:kO[r]?=some ao:=c6
  have bd:=(List.getElem?_eq_some_iff.1 c6).1
  have h1:rows[r]?=some rows[r]:=aI (by omega)
  obtain⟨jy,g1,g2⟩:=hr r _ h1
  rw[c6]at g1;cases g1
  exact⟨_,by rw[hR];exact h1,g2⟩
 have hn:DR (λ_=>True) (λr=>r) true c c2:=⟨λi row _ c6=>by
  obtain⟨ao,g1,g2,g3,g4,g5,_⟩:=Rq i row c6
  exact⟨ao,g1,g2,g3,g4,g5,rfl,Iff.rfl⟩,λ_=>aX _,aX _⟩
 have BH:Mem c2 w:=by
  refine⟨λr ao c6=>?_,λr s x y h1 h2 v1 v2 he=>?_,λb ig=>⟨(hm.fh b ig).1,λr x h1 v=>?_⟩,hm.top,hm.jV⟩
  ·obtain⟨row,g1,g2,g3,g4,g5,g6⟩:=uR r ao c6
   rcases hm.row r row g1 with⟨k1,k2,k3,k4⟩|⟨k1,arr,k2,k3,k4⟩
   ·refine .inl ⟨k1,g2.trans k2,?_,by rw[g4];exact k4⟩
    rw[k2]at g6;simp only at g6;rw[g6,k3]
   ·refine .inr ⟨k1,arr,by rw[g3];exact k2,by rw[g4];exact k3,?_⟩
    rw[g2,g4]
    cases wA:row.box with
    |false=>
     simp only[wA,aA,if_false]at k4 g6⊢
     rw[g6];exact k4
    |true=>
     simp only[wA,if_true]at k4 g6⊢
     obtain⟨e,e',q1,q2,q3,q4⟩:=g6
     obtain⟨e0,p1,p2,p3,p4⟩:=k4
     rw[q1]at p1;cases p1
     refine⟨e',q2,by rw[q3];exact p2,p3,?_⟩
     have:=Uu hn (flat:=False) (.inl λb hb=>hb) (λ_ _=>trivial) (λe=>e.elim) (lu.cells q4 p4)
     rwa [U0]at this
  ·obtain⟨x',g1,_⟩:=uR r x h1
   obtain⟨y',g2,_⟩:=uR s y h2
   exact hm.inj r s x' y' g1 g2 v1 v2 he
  ·obtain⟨x',g1,_⟩:=uR r x h1
   exact(hm.fh b ig).2 r x' g1 v
 refine(h c2 w vs BH hb (λr=>rfl) (Zer hn (λb h=>h) (Dd.rep hs ha))).mono (λb hb=>hb) λe w' hq=>?_
 obtain⟨v,c',he,hx,jY,hv⟩:=hq
 rw[hl]at hx
 refine⟨v,c',he,⟨hx.mem,⟨hx.cz.base,hx.cz.top,hx.cz.I,λr row c6=>?_⟩,hx.fr.mono λb _ ⟨r,x,h1,h2,h3⟩=>?_,λb hb=>?_,λr ao h1 h2=>?_⟩,jY,hv⟩
 ·obtain⟨q,jH,CR,rfl⟩:=na c6
  obtain⟨jy,g1,g2,g3,g4,g5,g6⟩:=Rq r jH CR
  obtain⟨ao,k1,k2,k3,k4,k5,k6,k7,k8⟩:=hx.cz.R r (jy.kill _) (by simp only[Ctx.kill];rw[if_neg (by rw[q];simp),g1];rfl)
  obtain⟨s1,s2,s3,s4⟩:=u6 (bO k (rows.length-k)) jH
  obtain⟨t1,t2,t3,t4⟩:=u6 (bO k (rows.length-k)) jy
  refine⟨ao,k1,k2.trans (t1.trans (g2.trans s1.symm)),k3.trans (t2.trans (g3.trans s2.symm)),k4.trans (t3.trans (g4.trans s3.symm)),k5.trans (t4.trans (g5.trans s4.symm)),k6,k7,λnv arr ha=>?_⟩
  rw[s2]at ha⊢
  have:=k8 nv arr (by rw[t2,g3];exact ha)
  rw[t2,g3]at this
  exact this
 ·obtain⟨x',g1,_⟩:=uR r x h1
  exact⟨r,x',g1,h2,h3⟩
 ·rcases hx.fh b hb with h|⟨s,x,h1,h2,h3,h4⟩|h
  ·exact .inl h
  ·obtain⟨x',g1,_⟩:=uR s x h2
   exact .inr (.inl ⟨s,x',h1,g1,h3,h4⟩)
  ·exact .inr (.inr h)
 ·rcases hx.ob r ao h1 h2 with⟨⟨x,o4⟩,h3,h4⟩|⟨s,x,q1,q2,q3,q4⟩|h3
  ·obtain⟨x',g1,_⟩:=uR r x o4
   exact .inl ⟨⟨x',g1⟩,h3,h4⟩
  ·obtain⟨x',g1,_⟩:=uR s x q2
   exact .inr (.inl ⟨s,x',q1,g1,q3,q4⟩)
  ·exact .inr (.inr h3)
def FL(f:FuncId)(refs:List Bool)(flat:Bool)(sig:List PT)(dt:List RT){α:Type}(v:List D->List Row->α)(enc:α->D)(out:α->List Row):ba:=
 ⟨f,refs,flat,λargs rows=>match Bh sig args&&Bi dt rows with|true=>.abs α (v args rows) enc out|false=>.no,none,false⟩
def ly(f:FuncId)(refs:List Bool)(flat:Bool)(sig:List PT)(dt:List RT)(pre:List D->List Row->Prop){α:Type}(v:List D->List Row->α)(enc:α->D)(out:α->List Row):ba:=
 ⟨f,refs,flat,λargs rows=>match Bh sig args&&Bi dt rows with|true=>.lr (pre args rows) α (v args rows) enc out|false=>.no,none,false⟩
def ba.fz(x:ba):ba:={x with oV:=true}
theorem wP{x:ba}(h:bj P x):bj P x.fz:=⟨h.enters,h.real,h.ok,h.when,h.abs,h.lr,h.PA,h.GX⟩
def JH(k:Nat)(f:FuncId)(refs:List Bool)(sig:List PT)(dt:List RT){α:Type}(v:List D->List Row->α)(enc:α->D)(out:α->List Row):ba:=
 ⟨f,refs,false,λargs rows=>match Bh sig args&&Bi dt rows with|true=>.abs α (v args rows) enc out|false=>.no,some k,false⟩
def jO(k:Nat)(f:FuncId)(refs:List Bool)(sig:List PT)(dt:List RT)(pre:List D->List Row->Prop){α:Type}(v:List D->List Row->α)(enc:α->D)(out:α->List Row):ba:=
 ⟨f,refs,false,λargs rows=>match Bh sig args&&Bi dt rows with|true=>.lr (pre args rows) α (v args rows) enc out|false=>.no,some k,false⟩
def ai.wQ:ai->Bool
 |.gen _=>false
 |.ah k _=>k.mV
 |_=>true
theorem ai.ta{E:ai}(h:E.wQ=true):E.Fb:=by
 cases E with
 |gen es=>simp[ai.wQ]at h
 |ah k l=>exact h
 |_=>trivial
def Dg:D->Bool|.sl _ E fr=>fr&&E.wQ|.iv _ _ _ _=>false|.gl _ _=>false|_=>true
def Dh:List D->Bool|[]=>true|d::l=>Dg d&&Dh l
def JI:D->Bool|.agg cs=>Dh cs|d=>Dg d
def Fy:List D->Bool|[]=>true|d::l=>JI d&&Fy l
def tj:D->Bool|.dw ds=>Fy ds|d=>JI d
def jx:List Row->Bool
 |[]=>true
 |⟨true,_,_,.gen [e]⟩::l=>Dh e&&jx l
 |⟨false,_,_,E⟩::l=>E.wQ&&jx l
 |_=>false
theorem Rr(h:Dg d=true):PL d:=by
 cases d<;>first|trivial|(simp[Dg]at h;done)|skip
 case sl sz E fr=>simp only[Dg,aE]at h;exact⟨.inr h.1,ai.ta h.2⟩
theorem U1:∀{ds:List D},Dh ds=true->L5 ds
 |[],_=>trivial
 |d::l,h=>by simp only[Dh,aE]at h;exact⟨Rr h.1,U1 h.2⟩
theorem xax(h:JI d=true):Ut d:=by
 cases d with
 |agg cs=>exact U1 h
 |sl a b c=>exact Rr (d:=.sl a b c) h
 |iv a b c e=>exact Rr (d:=.iv a b c e) h
 |_=>trivial
theorem yA:∀{ds:List D},Fy ds=true->Fc ds
 |[],_=>trivial
 |d::l,h=>by simp only[Fy,aE]at h;exact⟨xax h.1,yA h.2⟩
theorem xaa(h:tj d=true):FF d:=by
 cases d with
 |dw ds=>exact yA h
 |agg cs=>exact U1 h
 |sl a b c=>exact Rr (d:=.sl a b c) h
 |iv a b c e=>exact Rr (d:=.iv a b c e) h
 |_=>trivial
theorem U2:∀{rs:List Row},jx rs=true->ry rs
 |[],_=>trivial
 |⟨true,_,_,.gen [e]⟩::l,h=>by
  simp only[jx,aE]at h
  refine⟨?_,U2 h.2⟩
  simp only[Je,if_true,ai.l,List.mem_singleton,forall_eq]
  exact U1 h.1
 |⟨false,_,_,E⟩::l,h=>by
  simp only[jx,aE]at h
  refine⟨?_,U2 h.2⟩
  simp only[Je,aA,if_false]
  exact ai.ta h.1
 |⟨true,_,_,.gen []⟩::l,h=>by simp[jx]at h
 |⟨true,_,_,.gen (_::_::_)⟩::l,h=>by simp[jx]at h
 |⟨true,_,_,.ints _ _⟩::l,h=>by simp[jx]at h
 |⟨true,_,_,.ag _⟩::l,h=>by simp[jx]at h
 |⟨true,_,_,.ah _ _⟩::l,h=>by simp[jx]at h
theorem qab{sig:List PT}{dt:List RT}{rows:List Row}{out:List Row}(hs:(Bh sig args&&Bi dt rows)=true)(h:ko P f (kW sig args 0) (kp dt rows 0) res out):ko P f args rows res out:=by
 simp only[aE]at hs
 obtain⟨h1,h2⟩:=Qvp (pre:=[]) hs.2
 exact ko.JG (Qzw (pre:=[]) hs.1) (by rw[UZ,h1]) h2 h
theorem xaJ{sig:List PT}{dt:List RT}{α:Type}{v:List D->List Row->α}{enc:α->D}{out:α->List Row}(he:∀args w,(callFunc f args).run P w=.ok (.enter f args) w)(h:∀args rows,ko P f (kW sig args 0) (kp dt rows 0) (enc (v args rows)) (out (v args rows)))
 (hf:flat=true->∀X,(tj (enc X)&&jx (out X))=true) (hy:bN f YB=true:=by rfl):bj P (FL f refs flat sig dt v enc out):=by
 refine⟨λ_=>he,λ_=>lE hy,λ_ args rows r r' hm=>?_,λ_ args rows p r r' hm=>?_,λ_ args rows α' v' r r' hm=>?_,λ_ args rows p α' v' r r' hm=>?_,λk hk=>(by cases hk),λk hk=>(by cases hk)⟩
 ·simp only[FL]at hm
  split at hm<;>cases hm
 ·simp only[FL]at hm
  split at hm<;>cases hm
 ·simp only[FL]at hm
  split at hm
  ·rename_i hs
   cases hm
   exact⟨qab hs (h args rows),λe=>by have:=hf e (v args rows);simp only[aE]at this;exact⟨xaa this.1,U2 this.2⟩⟩
  ·cases hm
 ·simp only[FL]at hm
  split at hm<;>cases hm
theorem Fz{sig:List PT}{dt:List RT}{pre:List D->List Row->Prop}{α:Type}{v:List D->List Row->α}{enc:α->D}{out:α->List Row}(he:∀args w,(callFunc f args).run P w=.ok (.enter f args) w)(h:∀args rows,pre args rows->ko P f (kW sig args 0) (kp dt rows 0) (enc (v args rows)) (out (v args rows)))
 (hf:flat=true->∀X,(tj (enc X)&&jx (out X))=true) (hy:bN f YB=true:=by rfl):bj P (ly f refs flat sig dt pre v enc out):=by
 refine⟨λ_=>he,λ_=>lE hy,λ_ args rows r r' hm=>?_,λ_ args rows p r r' hm=>?_,λ_ args rows α' v' r r' hm=>?_,λ_ args rows p α' v' r r' hm hp=>?_,λk hk=>(by cases hk),λk hk=>(by cases hk)⟩
 ·simp only[ly]at hm
  split at hm<;>cases hm
 ·simp only[ly]at hm
  split at hm<;>cases hm
 ·simp only[ly]at hm
  split at hm<;>cases hm
 ·simp only[ly]at hm
  split at hm
  ·rename_i hs
   cases hm
   exact⟨qab hs (h args rows hp),λe=>by have:=hf e (v args rows);simp only[aE]at this;exact⟨xaa this.1,U2 this.2⟩⟩
  ·cases hm
theorem vA{sig:List PT}{dt:List RT}{rows:List Row}{out:List Row}(hs:(Bh sig args&&Bi dt rows)=true)(h:tJ P f k (kW sig args 0) (kp dt rows 0) res out):tJ P f k args rows res out:=by
 simp only[aE]at hs
 obtain⟨h1,h2⟩:=Qvp (pre:=[]) hs.2
 exact tJ.JG (Qzw (pre:=[]) hs.1) (by rw[UZ,h1]) h2 h
theorem qaK{sig:List PT}{dt:List RT}{α:Type}{v:List D->List Row->α}{enc:α->D}{out:α->List Row}(he:f<YB->∀args w,(callFunc f args).run P w=.ok (.enter f args) w)(h:∀args rows,tJ P f k (kW sig args 0) (kp dt rows 0) (enc (v args rows)) (out (v args rows))):
 bj P (JH k f refs sig dt v enc out):=by
 refine⟨he,λhk=>(by cases hk),λhk=>(by cases hk),λhk=>(by cases hk),λhk=>(by cases hk),λhk=>(by cases hk),λk' hk args rows α' v' r r' hm=>?_,λk' hk args rows p α' v' r r' hm hp=>?_⟩
 ·cases hk
  simp only[JH]at hm
  split at hm
  ·rename_i hs
   cases hm
   exact vA hs (h args rows)
  ·cases hm
 ·simp only[JH]at hm
  split at hm<;>cases hm
theorem qay{sig:List PT}{dt:List RT}{pre:List D->List Row->Prop}{α:Type}{v:List D->List Row->α}{enc:α->D}{out:α->List Row}(he:f<YB->∀args w,(callFunc f args).run P w=.ok (.enter f args) w)(h:∀args rows,pre args rows->tJ P f k (kW sig args 0) (kp dt rows 0) (enc (v args rows)) (out (v args rows))):
 bj P (jO k f refs sig dt pre v enc out):=by
 refine⟨he,λhk=>(by cases hk),λhk=>(by cases hk),λhk=>(by cases hk),λhk=>(by cases hk),λhk=>(by cases hk),λk' hk args rows α' v' r r' hm=>?_,λk' hk args rows p α' v' r r' hm hp=>?_⟩
 ·simp only[jO]at hm
  split at hm<;>cases hm
 ·cases hk
  simp only[jO]at hm
  split at hm
  ·rename_i hs
   cases hm
   exact vA hs (h args rows hp)
  ·cases hm
def ee{α β:Type}(v:α)(m:α->β):β:=m v
def jU(α:Type)(x y:α):Prop:=x=y
abbrev rE{α:Type}(x:α):Prop:=x=x
abbrev zM:bb:={B2:={X:={a0:=0,a1:=0,a2:=0,a3:=0,a4:=0,a5:=0,a6:=0,a7:=0,a8:=0,a9:=0,kr:=0,ku:=0,a12:=0,kv:=0,ky:=0,kz:=0},Pc:=0,C2:={a0:=0,a1:=0,a2:=0,a3:=0,a4:=0,a5:=0,a6:=0,a7:=0}},Mem:=[],B3:={D9:=[]},B8:={F0:=false,D2:=0,D8:=false},B5:={ab:=0,C9:=0,Frame:=0,C8:=0,F5:=0,C5:=0,C6:=0,C7:=[]},D1:={Frame:=0,F7:=0,D3:=false,D4:=0,C3:=false,F8:=0},A6:={A2:=0,D0:=0},B7:=0,B4:=false,B6:=false}
abbrev mE(m:bb)(P Q:Prop):Prop:=rE m.B2.X.a0/\rE m.B2.X.a1/\rE m.B2.X.a2/\rE m.B2.X.a3/\rE m.B2.X.a4/\rE m.B2.X.a5/\rE m.B2.X.a6/\rE m.B2.X.a7/\rE m.B2.X.a8/\rE m.B2.X.a9/\rE m.B2.X.kr/\rE m.B2.X.ku/\rE m.B2.X.a12/\rE m.B2.X.kv/\rE m.B2.X.ky/\rE m.B2.X.kz/\rE m.B2.Pc/\rE m.B2.C2.a0/\rE m.B2.C2.a1/\rE m.B2.C2.a2/\rE m.B2.C2.a3/\rE m.B2.C2.a4/\rE m.B2.C2.a5/\rE m.B2.C2.a6/\rE m.B2.C2.a7/\P/\rE m.B3.D9/\rE m.B8.F0/\rE m.B8.D2/\rE m.B8.D8/\rE m.B5.ab/\rE m.B5.C9/\rE m.B5.Frame/\rE m.B5.C8/\rE m.B5.F5/\rE m.B5.C5/\rE m.B5.C6/\rE m.B5.C7/\rE m.D1.Frame/\rE m.D1.F7/\rE m.D1.D3/\rE m.D1.D4/\rE m.D1.C3/\rE m.D1.F8/\rE m.A6.A2/\rE m.A6.D0/\rE m.B7/\rE m.B4/\rE m.B6/\Q
abbrev mR(f:Nat->D)(M:List Int):bb:=(⟨(⟨(⟨(f 0).toInt,(f 1).toInt,(f 2).toInt,(f 3).toInt,(f 4).toInt,(f 5).toInt,(f 6).toInt,(f 7).toInt,(f 8).toInt,(f 9).toInt,(f 10).toInt,(f 11).toInt,(f 12).toInt,(f 13).toInt,(f 14).toInt,(f 15).toInt⟩:(iu Int)),(f 16).toInt,(⟨(f 17).toInt,(f 18).toInt,(f 19).toInt,(f 20).toInt,(f 21).toInt,(f 22).toInt,(f 23).toInt,(f 24).toInt⟩:(A8 Int))⟩:bq),M,(⟨(f 26).toStr⟩:iH),(⟨(f 27).toBool,(f 28).toInt,(f 29).toBool⟩:iW),(⟨(f 30).toInt,(f 31).toInt,(f 32).toInt,(f 33).toInt,(f 34).toInt,(f 35).toInt,(f 36).toInt,(f 37).toStr⟩:fw),(⟨(f 38).toInt,(f 39).toInt,(f 40).toBool,(f 41).toInt,(f 42).toBool,(f 43).toInt⟩:gw),(⟨(f 44).toInt,(f 45).toInt⟩:gm),(f 46).toInt,(f 47).toBool,(f 48).toBool⟩:bb)
abbrev mD(x:bb)(d:D):List D:=[.int u32 x.B2.X.a0,.int u32 x.B2.X.a1,.int u32 x.B2.X.a2,.int u32 x.B2.X.a3,.int u32 x.B2.X.a4,.int u32 x.B2.X.a5,.int u32 x.B2.X.a6,.int u32 x.B2.X.a7,.int u32 x.B2.X.a8,.int u32 x.B2.X.a9,.int u32 x.B2.X.kr,.int u32 x.B2.X.ku,.int u32 x.B2.X.a12,.int u32 x.B2.X.kv,.int u32 x.B2.X.ky,.int u32 x.B2.X.kz,.int u32 x.B2.Pc,.int u32 x.B2.C2.a0,.int u32 x.B2.C2.a1,.int u32 x.B2.C2.a2,.int u32 x.B2.C2.a3,.int u32 x.B2.C2.a4,.int u32 x.B2.C2.a5,.int u32 x.B2.C2.a6,.int u32 x.B2.C2.a7,d,.str x.B3.D9,.bool x.B8.F0,.int u32 x.B8.D2,.bool x.B8.D8,.int u32 x.B5.ab,.int u32 x.B5.C9,.int u32 x.B5.Frame,.int i64 x.B5.C8,.int i64 x.B5.F5,.int u32 x.B5.C5,.int u32 x.B5.C6,.str x.B5.C7,.int u32 x.D1.Frame,.int u32 x.D1.F7,.bool x.D1.D3,.int u32 x.D1.D4,.bool x.D1.C3,.int u32 x.D1.F8,.int u32 x.A6.A2,.int u32 x.A6.D0,.int u64 x.B7,.bool x.B4,.bool x.B6]
abbrev mB(f:Nat->D):List D:=[f 0,f 1,f 2,f 3,f 4,f 5,f 6,f 7,f 8,f 9,f 10,f 11,f 12,f 13,f 14,f 15,f 16,f 17,f 18,f 19,f 20,f 21,f 22,f 23,f 24,f 25,f 26,f 27,f 28,f 29,f 30,f 31,f 32,f 33,f 34,f 35,f 36,f 37,f 38,f 39,f 40,f 41,f 42,f 43,f 44,f 45,f 46,f 47,f 48]
abbrev rZ:Prop:=rE (0:Nat)/\rE (0:Nat)
abbrev nR(k:RK)(n:Nat)(x:List (RK.T k)):Prop:=(ai.Nil (ai.ah k x)\/rE n)/\rE x
abbrev aC(l:List D)(n:Nat):List D:=(l.getD n .dead).cells
theorem nL{p:Prop}(h:p:=by((subst_vars;first|trivial|assumption|omega|((simp(config:={decide:=true,failIfUnchanged:=false}) only[aE,Bool.or_eq_true,Bool.and_eq_false_iff,Bool.or_eq_false_iff,Bool.not_eq_true',Bool.not_eq_false',Bool.not_eq_true,Bool.not_eq_false,decide_eq_true_eq,decide_eq_false_iff_not,Q55,Q39,Q57,Q3a,beq_iff_eq,beq_eq_false_iff_ne,bne_iff_ne,bne_eq_false_iff_eq,ne_eq,List.all_cons,List.all_nil,D.plain,List.length_cons,List.length_nil,lA,List.length_set,List.length_replicate,wrap_i64,wrap_u64,wrap_u32,wrap_i32,wrap_u8,true_and,and_true,or_false,false_or,or_true,true_or,not_true_eq_false,not_false_eq_true,Prod.fst,Prod.snd]at*);first|done|assumption|omega)|((simp(config:={decide:=true,failIfUnchanged:=false}) only[aE,Bool.or_eq_true,Bool.and_eq_false_iff,Bool.or_eq_false_iff,Bool.not_eq_true',Bool.not_eq_false',Bool.not_eq_true,Bool.not_eq_false,decide_eq_true_eq,decide_eq_false_iff_not,Q55,Q39,Q57,Q3a,beq_iff_eq,beq_eq_false_iff_ne,bne_iff_ne,bne_eq_false_iff_eq,ne_eq,List.all_cons,List.all_nil,D.plain,List.length_cons,List.length_nil,lA,List.length_set,List.length_replicate,wrap_i64,wrap_u64,wrap_u32,wrap_i32,wrap_u8,true_and,and_true,or_false,false_or,or_true,true_or,not_true_eq_false,not_false_eq_true,Prod.fst,Prod.snd]at*);simp only[<-List.length_pos_iff]at*;omega)|(simp_all;done)|(have:= @Qh9;simp_all;try omega)))):p:=h
def run{α β:Type}[Inhabited β](F:α->α⊕β):Nat->α->β
 |0,_=>default
 |k+1,a=>match F a with|.inl a'=>run F k a'|.inr b=>b
theorem qB{α β:Type}[Inhabited β]{F:α->α⊕β}{P:α->Prop}{R:β->Prop}{μ:α->Nat}(h:∀a,P a->match F a with|.inl a'=>P a'/\μ a'<μ a|.inr b=>R b):∀k a,P a->μ a<k->R (run F k a):=by
 intro k
 induction k with
 |zero=>intro a _ hk;omega
 |succ k ih=>
  intro a ha hk
  have:=h a ha
  unfold run
  split at this
  ·rename_i a' he;exact ih a' this.1 (by omega)
  ·exact this
inductive Tree:Type->Type 1 where
 |lf {β:Type} (x:β):Tree β
 |nx {β:Type} (f:Prop) (x:β) (h:f:=by first|trivial|(simp[jU];done)|decide|(simp only[and_true,true_and,or_true,true_or,and_self];done)|((repeat'(first|exact True.intro|apply And.intro|exact rfl|exact Or.inr rfl));done)):Tree β
 |br {β:Type} (c:Bool) (t e:Tree β):Tree β
 |cn {β:Type} (c:Bool) (t:Tree β):Tree β
 |fl {β:Type} (c:Bool) (t:Tree β):Tree β
 |an {β:Type} (p:Prop) (t:Tree β):Tree β
 |lv {α β:Type} (x:α) (k:α->Tree β):Tree β
 |lp {α β:Type} (d:Inhabited β) (n:Nat) (f:Prop) (x:α) (t:α->Tree (α⊕β)) (h:f:=by first|trivial|(simp[jU];done)|decide|(simp only[and_true,true_and,or_true,true_or,and_self];done)|((repeat'(first|exact True.intro|apply And.intro|exact rfl|exact Or.inr rfl));done)):Tree β
def Tree.m{β:Type}:Tree β->β
 |.lf x=>x
 |.nx _ x _=>x
 |.br c t e=>cond c t.m e.m
 |.cn _ t=>t.m
 |.fl _ t=>t.m
 |.an _ t=>t.m
 |.lv x k=>ee x λy=>(k y).m
 |.lp _ n _ x t _=>run (λy=>(t y).m) n x
def lZ{α β:Type}(B:α->(α⊕β->Prop)->Prop)(W:β->Prop)(n:Nat)(y:α):Prop:=
 match n with
 |0=>False
 |k+1=>B y (hJ (λz=>lZ B W k z) W)
termination_by n
theorem Z88{α β:Type}{B:α->(α⊕β->Prop)->Prop}{W:β->Prop}{y:α}:lZ B W 0 y=False:=by rw[lZ]
theorem ME{α β:Type}{B:α->(α⊕β->Prop)->Prop}{W:β->Prop}{y:α}:lZ B W (k+1) y=B y (hJ (λz=>lZ B W k z) W):=by rw[lZ]
def Tree.w{β:Type}:Tree β->(β->Prop)->Prop
 |.lf x,W=>W x
 |.nx _ x _,W=>W x
 |.br c t e,W=>w7 c (t.w W) (e.w W)
 |.cn c t,W=>cu c (t.w W)
 |.fl c t,W=>w7 c False (t.w W)
 |.an p t,W=>p/\t.w W
 |.lv x k,W=>∀y,y=x->(k y).w W
 |.lp _ n _ x t _,W=>lZ (λy V=>(t y).w V) W n x
def Tree.q{β:Type}:Tree β->(β->Prop)->Prop
 |.lf x,L=>L x
 |.nx f x _,L=>L x/\f
 |.br c t e,L=>w7 c (t.q L) (e.q L)
 |.cn c t,L=>cu c (t.q L)
 |.fl c t,L=>w7 c False (t.q L)
 |.an p t,L=>p/\t.q L
 |.lv x k,L=>∀y,y=x->(k y).q L
 |.lp (α:=α) _ _ f x t _,L=>∃(u9:α->Prop),∃(ν:α->Nat),u9 x/\f/\∀y,u9 y->(t y).q (hJ (λz=>u9 z/\ν z<ν y) L)
theorem Tree.main{β:Type}(t:Tree β):∀{W L E:β->Prop},(∀x,W x->E x->L x)->t.w W->E t.m->t.q L:=by
 induction t with
 |lf x=>intro W L E h hw he;exact h x hw he
 |nx f x hf=>intro W L E h hw he;exact⟨h x hw he,hf⟩
 |br c t e JJ JK=>
  intro W L E h hw he
  cases c with
  |true=>exact JJ h hw he
  |false=>exact JK h hw he
 |cn c t ih=>intro W L E h hw he;exact dd.2 ⟨(dd.1 hw).1,ih h (dd.1 hw).2 he⟩
 |fl c t ih=>
  intro W L E h hw he
  cases c with
  |true=>exact hw.elim
  |false=>exact ih h hw he
 |an p t ih=>intro W L E h hw he;exact⟨hw.1,ih h hw.2 he⟩
 |lv x k ih=>intro W L E h hw he y hy;subst hy;exact ih y h (hw y rfl) he
 |lp d n f x t hf ih=>
  intro W L E h hw he
  have H:∀k y,lZ (λy V=>(t y).w V) W k y->E (@run _ _ d (λy=>(t y).m) k y)->∃j,j<k/\k=j+1:=by
   intro k y h1 _
   cases k with
   |zero=>rw[Z88]at h1;exact h1.elim
   |succ k=>exact⟨k,Nat.lt_succ_self k,rfl⟩
  let P:Nat->_->Prop:=λk y=>lZ (λy V=>(t y).w V) W k y/\E (@run _ _ d (λy=>(t y).m) k y)
  have least:∀y,(∃k,P k y)->∃k,P k y/\∀j,P j y->k<=j:=by
   intro y ⟨k,hk⟩
   induction k using Nat.strongRecOn with
   |ind k ihk=>
    by_cases hj:∃j,j<k/\P j y
    ·obtain⟨j,h1,h2⟩:=hj;exact ihk j h1 h2
    ·exact⟨k,hk,λj h2=>Nat.le_of_not_lt λh1=>hj ⟨j,h1,h2⟩⟩
  have ch:∃ν:_->Nat,∀y,(∃k,P k y)->P (ν y) y/\∀j,P j y->ν y<=j:=Classical.axiomOfChoice (r:=λy k=>(∃k,P k y)->P k y/\∀j,P j y->k<=j) λy=>by
   by_cases hy:∃k,P k y
   ·obtain⟨k,hk⟩:=least y hy;exact⟨k,λ_=>hk⟩
   ·exact⟨0,λh=>absurd h hy⟩
  obtain⟨ν,hν⟩:=ch
  refine⟨λy=>∃k,P k y,ν,⟨n,hw,he⟩,hf,λy hy=>?_⟩
  have Rs:=hν y hy
  generalize w6:ν y=k0 at Rs
  obtain⟨⟨h1,h2⟩,_⟩:=Rs
  obtain⟨j,_,rfl⟩:=H k0 y h1 h2
  rw[ME]at h1
  refine ih y (E:=hJ (λz=>E (@run _ _ d (λy=>(t y).m) j z)) E) ?_ h1 ?_
  ·intro z HE hz2
   cases z with
   |inl z=>
    have hz:∃k,P k z:=⟨j,HE,hz2⟩
    refine⟨hz,?_⟩
    have:=(hν z hz).2 j ⟨HE,hz2⟩
    show ν z<j+1
    omega
   |inr z=>exact h z HE hz2
  ·unfold run at h2
   cases hF:(t y).m with
   |inl z=>rw[hF]at h2;exact h2
   |inr z=>rw[hF]at h2;exact h2
abbrev Tree.p{β:Type}(t:Tree β):Prop:=t.w λ_=>True
theorem Tree.main'{β:Type}{t:Tree β}{L:β->Prop}(hw:t.p)(h:L t.m):t.q L:=t.main (λ_ _ h=>h) hw h
theorem Tree.mono{β:Type}(t:Tree β):∀{W V:β->Prop},(∀x,W x->V x)->t.w W->t.w V:=by
 induction t with
 |lf x=>intro W V h hw;exact h x hw
 |nx f x hf=>intro W V h hw;exact h x hw
 |br c t e JJ JK=>
  intro W V h hw
  cases c with
  |true=>exact JJ h hw
  |false=>exact JK h hw
 |cn c t ih=>intro W V h hw;exact dd.2 ⟨(dd.1 hw).1,ih h (dd.1 hw).2⟩
 |fl c t ih=>
  intro W V h hw
  cases c with
  |true=>exact hw.elim
  |false=>exact ih h hw
 |an p t ih=>intro W V h hw;exact⟨hw.1,ih h hw.2⟩
 |lv x k ih=>intro W V h hw y hy;exact ih y h (hw y hy)
 |lp d n f x t hf ih=>
  intro W V h hw
  revert x
  show∀x,lZ (λy V=>(t y).w V) W n x->lZ (λy V=>(t y).w V) V n x
  induction n with
  |zero=>intro x hw;rw[Z88]at hw;exact hw.elim
  |succ n ihn=>
   intro x hw
   rw[ME]at hw⊢
   refine ih x (λz hz=>?_) hw
   cases z with
   |inl z=>exact ihn z hz
   |inr z=>exact h z hz
theorem Tree.post{β:Type}(t:Tree β):∀{W:β->Prop},t.w W->W t.m:=by
 induction t with
 |lf x=>intro W hw;exact hw
 |nx f x hf=>intro W hw;exact hw
 |br c t e JJ JK=>
  intro W hw
  cases c with
  |true=>exact JJ hw
  |false=>exact JK hw
 |cn c t ih=>intro W hw;exact ih (dd.1 hw).2
 |fl c t ih=>
  intro W hw
  cases c with
  |true=>exact hw.elim
  |false=>exact ih hw
 |an p t ih=>intro W hw;exact ih hw.2
 |lv x k ih=>intro W hw;exact ih x (hw x rfl)
 |lp d n f x t hf ih=>
  intro W hw
  revert x
  show∀x,lZ (λy V=>(t y).w V) W n x->W (@run _ _ d (λy=>(t y).m) n x)
  induction n with
  |zero=>intro x hw;rw[Z88]at hw;exact hw.elim
  |succ n ihn=>
   intro x hw
   rw[ME]at hw
   have:=ih x hw
   unfold run
   cases hF:(t x).m with
   |inl z=>rw[hF]at this;exact ihn z this
   |inr z=>rw[hF]at this;exact this
theorem Tree.pp{β:Type}{t:Tree β}{W:β->Prop}(h:t.w W):t.p/\W t.m:=⟨t.mono (λ_ _=>trivial) h,t.post h⟩
section
variable {α β:Type} {W:β->Prop} {c:Bool} {t e:Tree β}
theorem bg{x:β}(h:W x):(Tree.lf x).w W:=h
theorem ez{f:Prop}{x:β}{hf:f}(h:W x):(Tree.nx f x hf).w W:=h
theorem ae(h:c=true->t.w W)(g:c=false->e.w W):(Tree.br c t e).w W:=YQ.2 ⟨h,g⟩
theorem ax(h:c=true)(g:t.w W):(Tree.cn c t).w W:=dd.2 ⟨h,g⟩
theorem VG(h:c=false)(g:t.w W):(Tree.fl c t).w W:=YQ.2 ⟨λe=>(by rw[h]at e;cases e),λ_=>g⟩
theorem c7{p:Prop}(h:p)(g:t.w W):(Tree.an p t).w W:=⟨h,g⟩
theorem aq{x:α}{k:α->Tree β}(h:∀y,y=x->(k y).w W):(Tree.lv x k).w W:=h
theorem fk{d:Inhabited β}{n:Nat}{f:Prop}{x:α}{k:α->Tree (α⊕β)}{hf:f}{inv:α->Prop}{μ:α->Nat}(h:inv x)(hn:μ x<n)(g:∀y,inv y->(k y).w (hJ (λz=>inv z/\μ z<μ y) W)):(Tree.lp d n f x k hf).w W:=by
 show lZ (λy V=>(k y).w V) W n x
 revert x
 induction n with
 |zero=>intro x h hn;omega
 |succ n ih=>
  intro x h hn
  rw[ME]
  refine(k x).mono (λz hz=>?_) (g x h)
  cases z with
  |inl z=>exact ih hz.1 (by have:=hz.2;omega)
  |inr z=>exact hz
end
theorem wL{β:Type}{x:β}:(Tree.lf x).p:=trivial
theorem wB{β:Type}{c:Bool}{t e:Tree β}(h:t.p)(g:e.p):(Tree.br c t e).p:=by cases c<;>assumption
structure lQ(T:iB)(G:List ba)(L:Code->St->(Ex->St->Prop)->Prop)(fn:Func)(args:List D)(rows:List Row)(ds:List mY)(Q:D->List Row->Prop):Prop where
 h:ka T G L fn args rows λd R=>nT rows.length ds d R Q
theorem lQ.of{G:List ba}{L:Code->St->(Ex->St->Prop)->Prop}{rows:List Row}{Q:D->List Row->Prop}{p:Prop}(e:(ka T G L fn args rows λd R=>nT rows.length ds d R Q)=p)(hl:p):lQ T G L fn args rows ds Q:=⟨by rw[e];exact hl⟩
theorem lQ.calls(hD:py P)(hT:ji P T){G:List ba}(hG:jz P G)(hf:P.funcs[f]?=some fn){rows:List Row}{aj:List Row}
 {rf:Option Nat} (mF:∀code,fn.body=some code->RF rf fn.ntmps code) {L:Code->St->(Ex->St->Prop)->Prop} (hL:∀code st Q,RF rf fn.ntmps code->L code st Q->Tr P fn.ntmps rows.length code st Q) {ds:List mY} (h:lQ T G L fn args rows ds λr o=>r=res/\o=aj):ko P f args rows res aj:=
 zv hD hT hG hf mF hL (λd R hQ=>by obtain⟨r,o,⟨rfl,rfl⟩,hE⟩:=Zbe hQ;exact hE) h.h
structure te(T:iB)(G:List ba)(L:Code->St->(Ex->St->Prop)->Prop)(fn:Func)(args:List D)(rows:List Row)(k:Nat)(ds:List mY)(Q:D->List Row->Prop):Prop where
 h:Fs T G L fn args rows (λd R=>nT k ds d R Q) k
theorem te.of{G:List ba}{L:Code->St->(Ex->St->Prop)->Prop}{rows:List Row}{Q:D->List Row->Prop}{p:Prop}(e:(Fs T G L fn args rows (λd R=>nT k ds d R Q) k)=p)(hl:p):te T G L fn args rows k ds Q:=⟨by rw[e];exact hl⟩
theorem te.calls(hD:py P)(hT:ji P T){G:List ba}(hG:jz P G){rows:List Row}{aj:List Row}{rf:Option Nat}(hf:oQ P f fn (pY (ou args++kD rows)=true/\rf=none))(mF:∀code,fn.body=some code->RF rf fn.ntmps code)
 {L:Code->St->(Ex->St->Prop)->Prop} (hL:∀ro,(ro=none\/rf=none)->∀code st Q,RF rf fn.ntmps code->L code st Q->tN ro P fn.ntmps k code st Q) {ds:List mY} (h:te T G L fn args rows k ds λr o=>r=res/\o=aj):tJ P f k args rows res aj:=
 zaH hD hT hG hf mF hL (λd R hQ=>by obtain⟨r,o,⟨rfl,rfl⟩,hE⟩:=Zbe hQ;exact hE) h.h
section
variable {P:Program} {T:iB} {G:List ba} {f:FuncId} {fn:Func} {refs:List Bool} {flat:Bool} {sig:List PT} {dt:List RT} {pre:List D->List Row->Prop} {β:Type} {v:List D->List Row->β} {enc:β->D} {out:β->List Row}
theorem oQ.imp{cl cl':Prop}(h:oQ P f fn cl)(g:cl->cl'):oQ P f fn cl':=by
 cases h with
 |real a b c=>exact .real a b c
 |yield a y d b c e f g1 g2 h i=>exact .yield a y d b c e f g1 g2 h (g i)
 |uM a y q b c e f g1 h i j k=>exact .uM a y q b c e f g1 h i j (g k)
theorem Zcp(rf:Option Nat)(mF:∀code,fn.body=some code->RF rf fn.ntmps code)(hD:py P)(hT:ji P T)(hG:jz P G)(hf:P.funcs[f]?=some fn)(t:List D->List Row->Tree β)(ds:List mY)(ft:List (Nat×cg))(dep:Nat)
 (hn:∀args rows Q,(ka T G (AN T G fn.ntmps dt.length ft rf dep) fn (kW sig args 0) (kp dt rows 0) λd R=>nT dt.length ds d R Q)=(t args rows).q λX=>Q (enc X) (out X)) (hv:∀args rows,(t args rows).m=v args rows) {args:List D} {rows:List Row} (hp:(t args rows).p):
 ko P f (kW sig args 0) (kp dt rows 0) (enc (v args rows)) (out (v args rows)):=by
 have e:(kp dt rows 0).length=dt.length:=UZ
 refine lQ.calls hD hT hG hf mF (L:=AN T G fn.ntmps dt.length ft rf dep) (λcode st Q hc hl=>by rw[e];exact Ge hD hT hG (.inl rfl) dep _ _ _ hc hl) (ds:=ds) ⟨?_⟩
 rw[e,hn]
 refine Tree.main' hp ?_
 rw[hv]
 exact⟨rfl,rfl⟩
theorem Z89(rf:Option Nat)(mF:∀code,fn.body=some code->RF rf fn.ntmps code)(hD:py P)(hT:ji P T)(hG:jz P G)(hf:oQ P f fn ((∀args rows,pY (ou (kW sig args 0)++kD (kp dt rows 0))=true)/\rf=none))(t:List D->List Row->Tree β)(ds:List mY)(ft:List (Nat×cg))(dep:Nat)
 (hn:∀args rows Q,(Fs T G (AN T G fn.ntmps k ft rf dep) fn (kW sig args 0) (kp dt rows 0) (λd R=>nT k ds d R Q) k)=(t args rows).q λX=>Q (enc X) (out X)) (hv:∀args rows,(t args rows).m=v args rows) {args:List D} {rows:List Row} (hp:(t args rows).p):
 tJ P f k (kW sig args 0) (kp dt rows 0) (enc (v args rows)) (out (v args rows)):=by
 refine te.calls hD hT hG (hf.imp λh=>⟨h.1 args rows,h.2⟩) mF (L:=AN T G fn.ntmps k ft rf dep) (λro Dx=>Ge hD hT hG Dx dep) (ds:=ds) ⟨?_⟩
 rw[hn]
 refine Tree.main' hp ?_
 rw[hv]
 exact⟨rfl,rfl⟩
theorem Zmk(rf:Option Nat)(mF:∀code,fn.body=some code->RF rf fn.ntmps code)(hD:py P)(hT:ji P T)(hG:jz P G)(hf:P.funcs[f]?=some fn)(he:∀args w,(callFunc f args).run P w=.ok (.enter f args) w)(t:List D->List Row->Tree β)(ds:List mY)(ft:List (Nat×cg))(dep:Nat)
 (hn:∀args rows Q,(ka T G (AN T G fn.ntmps dt.length ft rf dep) fn (kW sig args 0) (kp dt rows 0) λd R=>nT dt.length ds d R Q)=(t args rows).q λX=>Q (enc X) (out X):=by intro _ _ _;kernel_rfl) (hv:∀args rows,(t args rows).m=v args rows:=by exactλ_ _=>rfl)
 (hp:∀args rows,pre args rows->(t args rows).p:=by exactλ_ _ h=>h) (jv:flat=true->∀X,(tj (enc X)&&jx (out X))=true:=by intro _ _;kernel_rfl) (hy:bN f YB=true:=by rfl):bj P (ly f refs flat sig dt pre v enc out):=
 Fz he (λargs rows hw=>Zcp rf mF hD hT hG hf t ds ft dep hn hv (hp _ _ hw)) jv hy
theorem uV(hD:py P)(hT:ji P T)(hG:jz P G)(hf:P.funcs[f]?=some fn)(he:∀args w,(callFunc f args).run P w=.ok (.enter f args) w)(t:List D->List Row->Tree β)(ds:List mY)(ft:List (Nat×cg))(dep:Nat)
 (hn:∀args rows Q,(ka T G (LL T G fn.ntmps dt.length ft dep) fn (kW sig args 0) (kp dt rows 0) λd R=>nT dt.length ds d R Q)=(t args rows).q λX=>Q (enc X) (out X):=by intro _ _ _;kernel_rfl) (hv:∀args rows,(t args rows).m=v args rows:=by exactλ_ _=>rfl)
 (hp:∀args rows,pre args rows->(t args rows).p:=by exactλ_ _ h=>h) (jv:flat=true->∀X,(tj (enc X)&&jx (out X))=true:=by intro _ _;kernel_rfl) (hy:bN f YB=true:=by rfl):bj P (ly f refs flat sig dt pre v enc out):=
 Zmk none (λ_ _=>trivial) hD hT hG hf he t ds ft dep hn hv hp jv hy
theorem zay(rf:Option Nat)(mF:∀code,fn.body=some code->RF rf fn.ntmps code)(hD:py P)(hT:ji P T)(hG:jz P G)(hf:P.funcs[f]?=some fn)(he:∀args w,(callFunc f args).run P w=.ok (.enter f args) w)(t:List D->List Row->Tree β)(ds:List mY)(ft:List (Nat×cg))(dep:Nat)
 (hn:∀args rows Q,(ka T G (AN T G fn.ntmps dt.length ft rf dep) fn (kW sig args 0) (kp dt rows 0) λd R=>nT dt.length ds d R Q)=(t args rows).q λX=>Q (enc X) (out X)) (hv:∀args rows,(t args rows).m=v args rows)
 (hp:∀args rows,(t args rows).p) (jv:flat=true->∀X,(tj (enc X)&&jx (out X))=true) (hy:bN f YB=true:=by rfl):bj P (FL f refs flat sig dt v enc out):=
 xaJ he (λargs rows=>Zcp rf mF hD hT hG hf t ds ft dep hn hv (hp _ _)) jv hy
theorem Q1(hD:py P)(hT:ji P T)(hG:jz P G)(hf:P.funcs[f]?=some fn)(he:∀args w,(callFunc f args).run P w=.ok (.enter f args) w)(t:List D->List Row->Tree β)(ds:List mY)(ft:List (Nat×cg))(dep:Nat)
 (hn:∀args rows Q,(ka T G (LL T G fn.ntmps dt.length ft dep) fn (kW sig args 0) (kp dt rows 0) λd R=>nT dt.length ds d R Q)=(t args rows).q λX=>Q (enc X) (out X):=by intro _ _ _;kernel_rfl) (hv:∀args rows,(t args rows).m=v args rows:=by exactλ_ _=>rfl)
 (hp:∀args rows,(t args rows).p:=by intro _ _;exact Tree.nM (by kernel_rfl)) (jv:flat=true->∀X,(tj (enc X)&&jx (out X))=true:=by intro _ _;kernel_rfl) (hy:bN f YB=true:=by rfl):bj P (FL f refs flat sig dt v enc out):=
 zay none (λ_ _=>trivial) hD hT hG hf he t ds ft dep hn hv hp jv hy
theorem Zoz(rf:Option Nat)(mF:∀code,fn.body=some code->RF rf fn.ntmps code)(hD:py P)(hT:ji P T)(hG:jz P G)(hf:oQ P f fn ((∀args rows,pY (ou (kW sig args 0)++kD (kp dt rows 0))=true)/\rf=none))(he:f<YB->∀args w,(callFunc f args).run P w=.ok (.enter f args) w)(t:List D->List Row->Tree β)(ds:List mY)(ft:List (Nat×cg))(dep:Nat)
 (hn:∀args rows Q,(Fs T G (AN T G fn.ntmps k ft rf dep) fn (kW sig args 0) (kp dt rows 0) (λd R=>nT k ds d R Q) k)=(t args rows).q λX=>Q (enc X) (out X)) (hv:∀args rows,(t args rows).m=v args rows)
 (hp:∀args rows,pre args rows->(t args rows).p):bj P (jO k f refs sig dt pre v enc out):=
 qay he (λargs rows hw=>Z89 rf mF hD hT hG hf t ds ft dep hn hv (hp _ _ hw))
theorem th(hD:py P)(hT:ji P T)(hG:jz P G)(hf:P.funcs[f]?=some fn)(he:∀args w,(callFunc f args).run P w=.ok (.enter f args) w)(t:List D->List Row->Tree β)(ds:List mY)(ft:List (Nat×cg))(dep:Nat)
 (hn:∀args rows Q,(Fs T G (LL T G fn.ntmps k ft dep) fn (kW sig args 0) (kp dt rows 0) (λd R=>nT k ds d R Q) k)=(t args rows).q λX=>Q (enc X) (out X)) (hv:∀args rows,(t args rows).m=v args rows)
 (hp:∀args rows,pre args rows->(t args rows).p) (hy:bN f YB=true:=by rfl) (hb:Nat.ble YB fn.nfree=false:=by rfl):bj P (jO k f refs sig dt pre v enc out):=
 Zoz none (λ_ _=>trivial) hD hT hG (.real (lE hy) hf hb) (λ_=>he) t ds ft dep hn hv hp
theorem xB(rf:Option Nat)(mF:∀code,fn.body=some code->RF rf fn.ntmps code)(hD:py P)(hT:ji P T)(hG:jz P G)(hf:oQ P f fn ((∀args rows,pY (ou (kW sig args 0)++kD (kp dt rows 0))=true)/\rf=none))(he:f<YB->∀args w,(callFunc f args).run P w=.ok (.enter f args) w)(t:List D->List Row->Tree β)(ds:List mY)(ft:List (Nat×cg))(dep:Nat)
 (hn:∀args rows Q,(Fs T G (AN T G fn.ntmps k ft rf dep) fn (kW sig args 0) (kp dt rows 0) (λd R=>nT k ds d R Q) k)=(t args rows).q λX=>Q (enc X) (out X)) (hv:∀args rows,(t args rows).m=v args rows)
 (hp:∀args rows,(t args rows).p):bj P (JH k f refs sig dt v enc out):=
 qaK he (λargs rows=>Z89 rf mF hD hT hG hf t ds ft dep hn hv (hp _ _))
theorem zaK(hD:py P)(hT:ji P T)(hG:jz P G)(hf:P.funcs[f]?=some fn)(he:∀args w,(callFunc f args).run P w=.ok (.enter f args) w)(t:List D->List Row->Tree β)(ds:List mY)(ft:List (Nat×cg))(dep:Nat)
 (hn:∀args rows Q,(Fs T G (LL T G fn.ntmps k ft dep) fn (kW sig args 0) (kp dt rows 0) (λd R=>nT k ds d R Q) k)=(t args rows).q λX=>Q (enc X) (out X)) (hv:∀args rows,(t args rows).m=v args rows)
 (hp:∀args rows,(t args rows).p) (hy:bN f YB=true:=by rfl) (hb:Nat.ble YB fn.nfree=false:=by rfl):bj P (JH k f refs sig dt v enc out):=
 xB none (λ_ _=>trivial) hD hT hG (.real (lE hy) hf hb) (λ_=>he) t ds ft dep hn hv hp
theorem zB(h:bj P (ly f refs flat sig dt pre v enc out)){rows:List Row}(hs:(Bh sig args&&Bi dt rows)=true)(hw:pre args rows):ko P f args rows (enc (v args rows)) (out (v args rows)):=
 (h.lr rfl args rows (pre args rows) β (v args rows) enc out (by simp only[ly,hs]) hw).1
end
def Tree.pT{β:Type}:Tree β->Bool
 |.lf _=>true
 |.br _ t e=>t.pT&&e.pT
 |.lv x k=>(k x).pT
 |_=>false
theorem Tree.nM{β:Type}{t:Tree β}(h:t.pT=true):t.p:=by
 induction t with
 |lf x=>trivial
 |br c t e JJ JK=>
  simp only[Tree.pT,aE]at h
  cases c with
  |true=>exact JJ h.1
  |false=>exact JK h.2
 |lv x k ih=>intro y hy;subst hy;exact ih _ h
 |_=>simp[Tree.pT]at h
theorem jz.nil:jz P []:=λx hx=>by cases hx
theorem jz.cons{x:ba}{G:List ba}(h:bj P x)(g:jz P G):jz P (x::G):=λy hy=>by
 simp only[List.mem_cons]at hy
 rcases hy with rfl|hy
 ·exact h
 ·exact g y hy

import Derived.Test.YthjfindbamdacaaGreatDoorAuditTellsFa
open Nat renaming blt->bJ,beq->bT
open Bool renaming not_eq_true'->aS
open List renaming getD->aK,replicate->cP,map_set->gU
set_option linter.all false
namespace Go.GD
open Go
structure YK where
 ts:List Nat
 ps:Array Tmp
 assign:Code
 body:Code
 n:Nat
def YB:Nat:=1000000000
def Ku:List (Nat×IntKind×List Int):=[(0,.u8,[0,1,28,2,29,14,24,3,30,22,20,15,25,17,4,8,31,27,13,23,21,19,16,7,26,12,18,6,11,5,10,9]),(1,.u64,[1,10,100,1000,10000,100000,1000000,10000000,100000000,1000000000,10000000000,100000000000,1000000000000,10000000000000,100000000000000,1000000000000000,10000000000000000,100000000000000000,1000000000000000000,10000000000000000000])]
def YK.pos(y:YK):Option Nat:=
 match y.ps.toList,y.assign with
 |[p],.skip=>match bJ p y.n&&y.ts.all λt=>!(bT t p)&&bJ t y.n with|true=>some p|false=>none
 |[p],.region _ ops false=>match ops.toList with
  |[⟨some d,.assign (.tmp q),_,_,_,none⟩]=>match bT q p&&(bJ p y.n&&bJ d y.n)&&y.ts.all λt=>!(bT t p)&&!(bT t d)&&bJ t y.n with|true=>some d|false=>none
  |_=>none
 |_,_=>none
def yTs(f:Nat):List Nat:=[]
noncomputable def F3 (f:Nat):Option YK:=none
def J4:CT->D->Bool
 |.int k,.int j _=>decide (j=k)
 |.bool,.bool _=>true
 |.str,.str _=>true
 |.ints k,.sl s (.ints j _) fr=>bT s 1&&(decide (j=k)&&!fr)
 |.bz,.sl s (.bz _) fr=>bT s 1&&!fr
 |.ba k,.sl s (.ba j _) fr=>bT s k.size&&(decide (j=k)&&!fr)
 |.row i,.all r=>bT r i
 |_,_=>false
def Bi:List CT->List D->Bool
 |[],[]=>true
 |t::ts,d::ds=>J4 t d&&Bi ts ds
 |_,_=>false
theorem xu{t:CT}{d:D}(h:J4 t d=true):DU t d=d:=by
 unfold J4 at h
 split at h
 ·simp at h;subst h;rfl
 ·rfl
 ·rfl
 ·obtain⟨h1,h2⟩:=Bool.and_eq_true_iff.1 h
  obtain⟨h2,h3⟩:=Bool.and_eq_true_iff.1 h2
  have h1:=bE h1
  have h2:=oY h2
  rw[aS]at h3
  subst h1;subst h2;subst h3
  simp[DU,nE,ai.toI]
 ·obtain⟨h1,h3⟩:=Bool.and_eq_true_iff.1 h
  have h1:=bE h1
  rw[aS]at h3
  subst h1;subst h3
  simp[DU,SC,ai.toB]
 ·obtain⟨h1,h2⟩:=Bool.and_eq_true_iff.1 h
  obtain⟨h2,h3⟩:=Bool.and_eq_true_iff.1 h2
  have h1:=bE h1
  have h2:=oY h2
  rw[aS]at h3
  subst h1;subst h2;subst h3
  simp[DU,rT,ai.toR,Z9o]
 ·rw[bE h];rfl
 ·cases h
theorem Zh3:∀{ts:List CT} {pre ds:List D},Bi ts ds=true->wz ts (pre++ds) pre.length=ds
 |[],pre,[],_=>rfl
 |t::ts,pre,d::ds,h=>by
  simp only[Bi,aE]at h
  have h2:=Zh3 (pre:=pre++[d]) h.2
  have h3:(pre++d::ds).getD pre.length .dead=d:=by simp[aK]
  simp only[wz,h3,xu h.1]
  congr 1
  simpa using h2
 |[],_,_::_,h=>by simp[Bi]at h
 |_::_,_,[],h=>by simp[Bi]at h
theorem Qz9:∀{ts:List CT} {cs:List D} {j:Nat},(wz ts cs j).length=ts.length
 |[],_,_=>rfl
 |t::ts,cs,j=>by simp[wz,Qz9]
def RK.dec(k:RK)(cs:List D):Option (RK.T k):=match Bi k.sig cs with|true=>some (k.of cs)|false=>none
theorem RK.oK{k:RK}{cs:List D}{x:RK.T k}(h:k.dec cs=some x):cs=k.cells x:=by
 unfold RK.dec at h
 split at h
 ·rename_i hf
  cases h
  have:=Zh3 (pre:=[]) hf
  simp only[List.nil_append,List.length_nil]at this
  rw[RK.BS,this]
 ·cases h
theorem RK.rM(k:RK)(x:RK.T k):(k.cells x).length=k.size:=by
 rw[<-RK.og,Qz9,RK.uc]
def RK.Bj(k:RK):List (List D)->Option (List (RK.T k))
 |[]=>some []
 |e::es=>match k.dec e,RK.Bj k es with|some x,some l=>some (x::l)|_,_=>none
theorem RK.ng{k:RK}:∀{es:List (List D)} {l:List (RK.T k)},k.Bj es=some l->es=l.map k.cells
 |[],l,h=>by simp[RK.Bj]at h;subst h;rfl
 |e ::es,l,h=>by
  simp only[RK.Bj]at h
  split at h
  ·rename_i x m h1 h2
   cases h
   rw[RK.oK h1,RK.ng h2];rfl
  ·cases h
def ai.l:ai->List (List D)
 |.gen es=>es
 |.ints k l=>l.map λn=>[.int k n]
 |.bz l=>l.map λb=>[.bool b]
 |.ba k l=>l.map k.cells
def ai.len:ai->Nat
 |.gen es=>es.length
 |.ints _ l=>l.length
 |.bz l=>l.length
 |.ba _ l=>l.length
def ai.get:ai->Nat->List D
 |.gen es,i=>es.getD i []
 |.ints k l,i=>[.int k (l.getD i 0)]
 |.bz l,i=>[.bool (l.getD i false)]
 |.ba k l,i=>k.cells (l.getD i k.cg)
def ai.take:ai->Nat->ai
 |.gen es,n=>.gen (es.take n)
 |.ints k l,n=>.ints k (l.take n)
 |.bz l,n=>.bz (l.take n)
 |.ba k l,n=>.ba k (l.take n)
def ai.drop:ai->Nat->ai
 |.gen es,n=>.gen (es.drop n)
 |.ints k l,n=>.ints k (l.drop n)
 |.bz l,n=>.bz (l.drop n)
 |.ba k l,n=>.ba k (l.drop n)
def ai.Rb(k:IntKind)(l:List Int)(i:Nat)(cs:List D):ai:=
 match cs with
 |[.int k' v]=>match decide (k'=k)with|true=>.ints k (l.set i v)|false=>.gen ((ai.ints k l).l.set i cs)
 |_=>.gen ((ai.ints k l).l.set i cs)
def ai.Rc(l:List Bool)(i:Nat)(cs:List D):ai:=
 match cs with
 |[.bool v]=>.bz (l.set i v)
 |_=>.gen ((ai.bz l).l.set i cs)
def ai.set:ai->Nat->List D->ai
 |.gen es,i,cs=>.gen (es.set i cs)
 |.ints k l,i,cs=>ai.Rb k l i cs
 |.bz l,i,cs=>ai.Rc l i cs
 |.ba k l,i,cs=>match k.dec cs with|some x=>.ba k (l.set i x)|none=>.gen ((ai.ba k l).l.set i cs)
def ai.app:ai->ai->ai
 |.gen [],F=>F
 |.ints k l,.ints k' m=>match decide (k'=k)with|true=>.ints k (l++m)|false=>.gen ((ai.ints k l).l++(ai.ints k' m).l)
 |.bz l,.bz m=>.bz (l++m)
 |.ba k l,.ba k' m=>match Gh k' k m with|some m'=>.ba k (l++m')|none=>.gen ((ai.ba k l).l++(ai.ba k' m).l)
 |.ints k l,.gen []=>.ints k l
 |.bz l,.gen []=>.bz l
 |.ba k l,.gen []=>.ba k l
 |.ba k l,.gen es=>match k.Bj es with|some m=>.ba k (l++m)|none=>.gen ((ai.ba k l).l++es)
 |E,F=>.gen (E.l++F.l)
def ai.rep(n:Nat):List D->ai
 |[.int k v]=>.ints k (cP n v)
 |[.bool b]=>.bz (cP n b)
 |z=>.gen (cP n z)
def ai.F1(t n:Nat)(z:List D):ai:=
 match RK.Nq t with
 |some k=>match k.dec z with|some x=>.ba k (cP n x)|none=>ai.rep n z
 |none=>ai.rep n z
def ai.Rd(k:IntKind):List (List D)->Option (List Int)
 |[]=>some []
 |[.int k' v]::l=>match decide (k'=k),ai.Rd k l with|true,some m=>some (v::m)|_,_=>none
 |_=>none
def ai.Re:List (List D)->Option (List Bool)
 |[]=>some []
 |[.bool b]::l=>match ai.Re l with|some m=>some (b::m)|none=>none
 |_=>none
def ai.Vd:List (List D)->ai
 |[.int k v]::l=>match ai.Rd k l with|some m=>.ints k (v::m)|none=>.gen ([.int k v]::l)
 |[.bool b]::l=>match ai.Re l with|some m=>.bz (b::m)|none=>.gen ([.bool b]::l)
 |l=>.gen l
def ai.ofT(t:Nat)(es:List (List D)):ai:=
 match RK.Nq t with
 |some k=>match k.Bj es with|some l=>.ba k l|none=>ai.Vd es
 |none=>ai.Vd es
@[simp] theorem ai.iK:∀(E:ai),E.l.length=E.len
 |.gen es=>rfl
 |.ints k l=>by simp[ai.l,ai.len]
 |.bz l=>by simp[ai.l,ai.len]
 |.ba k l=>by simp[ai.l,ai.len]
theorem ai.nn:∀(E:ai) {i:Nat},i<E.len->E.l.getD i []=E.get i
 |.gen es,i,_=>rfl
 |.ints k l,i,h=>by simp only[ai.len]at h;simp[ai.l,ai.get,aK,h]
 |.bz l,i,h=>by simp only[ai.len]at h;simp[ai.l,ai.get,aK,h]
 |.ba k l,i,h=>by simp only[ai.len]at h;simp[ai.l,ai.get,aK,h]
theorem ai.jf:∀(E:ai) (n:Nat),(E.take n).l=E.l.take n
 |.gen es,n=>rfl
 |.ints k l,n=>by simp[ai.l,ai.take]
 |.bz l,n=>by simp[ai.l,ai.take]
 |.ba k l,n=>by simp[ai.l,ai.take]
theorem ai.kv:∀(E:ai) (n:Nat),(E.drop n).l=E.l.drop n
 |.gen es,n=>rfl
 |.ints k l,n=>by simp[ai.l,ai.drop]
 |.bz l,n=>by simp[ai.l,ai.drop]
 |.ba k l,n=>by simp[ai.l,ai.drop]
theorem ai.QQ:∀(E:ai) (i:Nat) (cs:List D),(E.set i cs).l=E.l.set i cs
 |.gen es,i,cs=>rfl
 |.ints k l,i,cs=>by
  simp only[ai.set,ai.Rb]
  split
  ·split
   ·rename_i h
    have:=oY h
    subst this
    simp[ai.l,gU]
   ·rfl
  ·rfl
 |.bz l,i,cs=>by
  simp only[ai.set,ai.Rc]
  split
  ·simp[ai.l,gU]
  ·rfl
 |.ba k l,i,cs=>by
  simp only[ai.set]
  split
  ·rename_i x h
   rw[RK.oK h]
   simp[ai.l,gU]
  ·rfl
theorem ai.kb(E F:ai):(E.app F).l=E.l++F.l:=by
 cases E with
 |gen es=>
  cases es with
  |nil=>cases F<;>simp[ai.app,ai.l]
  |cons e es=>cases F<;>simp[ai.app,ai.l]
 |ints k l=>
  cases F with
  |ints k' m=>
   simp only[ai.app]
   split
   ·rename_i h
    have:=oY h
    subst this
    simp[ai.l]
   ·rfl
  |gen es=>cases es<;>simp[ai.app,ai.l]
  |_=>simp[ai.app,ai.l]
 |bz l=>
  cases F with
  |gen es=>cases es<;>simp[ai.app,ai.l]
  |_=>simp[ai.app,ai.l]
 |ba k l=>
  cases F with
  |ba k' m=>
   simp only[ai.app]
   split
   ·rename_i m' h
    obtain⟨e,hm⟩:=Wi h
    subst e
    simp only at hm
    subst hm
    simp[ai.l]
   ·rfl
  |gen es=>
   cases es with
   |nil=>simp[ai.app,ai.l]
   |cons e es=>
    simp only[ai.app]
    split
    ·rename_i m h
     have h2:=RK.ng h
     simp only[ai.l,h2,List.map_append]
    ·rfl
  |_=>simp[ai.app,ai.l]
theorem ai.HP(n:Nat)(z:List D):(ai.rep n z).l=cP n z:=by
 unfold ai.rep
 split<;>simp[ai.l]
theorem ai.uZ(t n:Nat)(z:List D):(ai.F1 t n z).l=cP n z:=by
 unfold ai.F1
 split
 ·split
  ·rename_i x h
   rw[RK.oK h]
   simp[ai.l]
  ·exact ai.HP n z
 ·exact ai.HP n z
theorem ai.HQ{k:IntKind}:∀{es:List (List D)} {l:List Int},ai.Rd k es=some l->es=l.map λn=>[.int k n]
 |[],l,h=>by simp[ai.Rd]at h;subst h;rfl
 |e ::es,l,h=>by
  unfold ai.Rd at h
  split at h
  ·rename_i h0;cases h0
  ·rename_i k' v l' h0
   cases h0
   split at h
   ·rename_i m h1 h2
    cases h
    have:=oY h1
    subst this
    rw[ai.HQ h2];rfl
   ·cases h
  ·cases h
theorem ai.HR:∀{es:List (List D)} {l:List Bool},ai.Re es=some l->es=l.map λn=>[.bool n]
 |[],l,h=>by simp[ai.Re]at h;subst h;rfl
 |e ::es,l,h=>by
  unfold ai.Re at h
  split at h
  ·rename_i h0;cases h0
  ·rename_i v l' h0
   cases h0
   split at h
   ·rename_i m h2
    cases h
    rw[ai.HR h2];rfl
   ·cases h
  ·cases h
theorem ai.HS(es:List (List D)):(ai.Vd es).l=es:=by
 unfold ai.Vd
 split
 ·split
  ·rename_i m h;rw[ai.HQ h];rfl
  ·rfl
 ·split
  ·rename_i m h;rw[ai.HR h];rfl
  ·rfl
 ·rfl
theorem ai.Dn(t:Nat)(es:List (List D)):(ai.ofT t es).l=es:=by
 unfold ai.ofT
 split
 ·split
  ·rename_i l h;exact(RK.ng h).symm
  ·exact ai.HS es
 ·exact ai.HS es
theorem ai.toI_l{k:IntKind}{E:ai}{l:List Int}(h:E.toI k=some l):E.l=(ai.ints k l).l:=by
 unfold ai.toI at h
 split at h
 ·split at h
  ·rename_i hk
   cases h
   rw[oY hk]
  ·cases h
 ·cases h;rfl
 ·cases h
theorem ai.toB_l{E:ai}{l:List Bool}(h:E.toB=some l):E.l=(ai.bz l).l:=by
 unfold ai.toB at h
 split at h
 ·cases h;rfl
 ·cases h;rfl
 ·cases h
theorem ai.toR_l{k:RK}{E:ai}{l:List (RK.T k)}(h:E.toR k=some l):E.l=(ai.ba k l).l:=by
 unfold ai.toR at h
 split at h
 ·obtain⟨e,hm⟩:=Wi h
  subst e
  simp only at hm
  subst hm
  rfl
 ·cases h;rfl
 ·cases h
structure Row where
 box:Bool
 ty:TypeId
 sz:Nat
 es:ai
 deriving Inhabited
abbrev ag:=Nat->Prop
def AI(n:Nat)(a:Option Addr):Prop:=∀x,a=some x->x.block<n
theorem AI.mono{m n:Nat}{a:Option Addr}(h:AI m a)(g:m<=n):AI n a:=λx hx=>Nat.lt_of_lt_of_le (h x hx) g
theorem Ny{n:Nat}:AI n none:=λx hx=>by cases hx
mutual
inductive fw(I:ag)(w:World):D->Value->Prop
 |bool (b:Bool):fw I w (.bool b) (.bool b)
 |int (k:IntKind) (n:Int):fw I w (.int k n) (.int k n)
 |str (s:List UInt8):fw I w (.str s) (.string ⟨s.toArray⟩)
 |iQ:fw I w .iQ (.pointer none)
 |du:fw I w .du (.slice none 0 0)
 |emp (a:Option Addr):fw I w .emp (.slice a 0 0)
 |UC (sz:Nat) (es:ai) (fr:Bool) (a:Option Addr) (cap:Nat) (h:es.l=[]):fw I w (.sl sz es fr) (.slice a es.l.length cap)
 |UD (sz:Nat) (es:ai) (fr:Bool) (cap:Nat) (hc:es.l.length<=cap) (b off:Nat) (arr:Array Value) (ty:TypeId) (fz:Nat×Nat) (hI:I b) (hh:w.heap[b]?=some (.cells arr ty fz)) (hE:iN I w es.l arr off sz):
  fw I w (.sl sz es fr) (.slice (some ⟨b,off,none⟩) es.l.length cap)
inductive nT(I:ag)(w:World):List D->Array Value->Nat->Prop
 |nil (arr:Array Value) (off:Nat):nT I w [] arr off
 |cons (c:D) (cs:List D) (arr:Array Value) (off:Nat) (v:Value) (hv:arr[off]?=some v) (hp:fw I w c v) (hr:nT I w cs arr (off+1)):nT I w (c::cs) arr off
inductive iN(I:ag)(w:World):List (List D)->Array Value->Nat->Nat->Prop
 |nil (arr:Array Value) (off sz:Nat):iN I w [] arr off sz
 |cons (e:List D) (es:List (List D)) (arr:Array Value) (off sz:Nat) (hl:e.length=sz) (hc:nT I w e arr off) (hr:iN I w es arr (off+sz) sz):iN I w (e::es) arr off sz
end
abbrev Rf(I:ag)(w:World)(E:ai)(arr:Array Value)(off sz:Nat):Prop:=iN I w E.l arr off sz
theorem SX{I:ag}{w:World}{E:ai}{arr:Array Value}{off sz:Nat}:Rf I w E arr off sz↔iN I w E.l arr off sz:=Iff.rfl
section
variable {I:ag} {w:World} {v:Value}
theorem sB{b:Bool}:fw I w (.bool b) v↔v=.bool b:=⟨λh=>by cases h;rfl,λh=>by subst h;exact .bool b⟩
theorem rV{k:IntKind}{n:Int}:fw I w (.int k n) v↔v=.int k n:=⟨λh=>by cases h;rfl,λh=>by subst h;exact .int k n⟩
theorem sC{s:List UInt8}:fw I w (.str s) v↔v=.string ⟨s.toArray⟩:=⟨λh=>by cases h;rfl,λh=>by subst h;exact .str s⟩
theorem sD:fw I w .iQ v↔v=.pointer none:=⟨λh=>by cases h;rfl,λh=>by subst h;exact .iQ⟩
theorem Q4:fw I w .du v↔v=.slice none 0 0:=⟨λh=>by cases h;rfl,λh=>by subst h;exact .du⟩
theorem sE:fw I w .emp v↔ ∃a,v=.slice a 0 0:=⟨λh=>by cases h;exact⟨_,rfl⟩,fun⟨a,h⟩=>by subst h;exact .emp a⟩
theorem tG{sz:Nat}{es:ai}{fr:Bool}:fw I w (.sl sz es fr) v↔ ∃a cap,v=.slice a es.l.length cap/\es.l.length<=cap/\
 (es.l=[]\/∃b off arr ty fz,a=some ⟨b,off,none⟩/\I b/\w.heap[b]?=some (.cells arr ty fz)/\Rf I w es arr off sz):=by
 constructor
 ·intro h
  cases h with
  |UC sz es fr a cap h=>exact⟨a,cap,rfl,by rw[h];exact Nat.zero_le _,.inl h⟩
  |UD sz es fr cap hc b off arr ty fz hI hh hE=>exact⟨_,cap,rfl,hc,.inr ⟨b,off,arr,ty,fz,rfl,hI,hh,hE⟩⟩
 ·rintro⟨a,cap,rfl,hc,h|⟨b,off,arr,ty,fz,rfl,hI,hh,hE⟩⟩
  ·exact .UC sz es fr a cap h
  ·exact .UD sz es fr cap hc b off arr ty fz hI hh hE
theorem ug{r:Nat}:fw I w (.all r) v↔False:=⟨(λh=>nomatch h),False.elim⟩
theorem uh{r o n:Nat}:fw I w (.own r o n) v↔False:=⟨(λh=>nomatch h),False.elim⟩
theorem ui{r i o:Nat}:fw I w (.ptr r i o) v↔False:=⟨(λh=>nomatch h),False.elim⟩
theorem uj{r i o l:Nat}{k:Option IntKind}{n:Nat}:fw I w (.pa r i o l k n) v↔False:=⟨(λh=>nomatch h),False.elim⟩
theorem uk{sz:Nat}{es:ai}{i o:Nat}:fw I w (.iw sz es i o) v↔False:=⟨(λh=>nomatch h),False.elim⟩
theorem um:fw I w .dead v↔False:=⟨(λh=>nomatch h),False.elim⟩
theorem uo{es:ai}:fw I w (.rk es) v↔False:=⟨(λh=>nomatch h),False.elim⟩
theorem zP{f:Nat}{cs:List iz}:fw I w (.gj f cs) v↔False:=⟨(λh=>nomatch h),False.elim⟩
theorem Zov{r:Nat}:fw I w (.c8 r) v↔False:=⟨(λh=>nomatch h),False.elim⟩
theorem Zof:fw I w .jQ v↔False:=⟨(λh=>nomatch h),False.elim⟩
theorem uq{cs:List D}:fw I w (.agg cs) v↔False:=⟨(λh=>nomatch h),False.elim⟩
theorem ur{cs:List D}:fw I w (.dt cs) v↔False:=⟨(λh=>nomatch h),False.elim⟩
theorem BU{arr:Array Value}{off:Nat}:nT I w [] arr off↔True:=⟨λ_=>trivial,λ_=>.nil arr off⟩
theorem Aw{c:D}{cs:List D}{arr:Array Value}{off:Nat}:nT I w (c::cs) arr off↔(∃v,arr[off]?=some v/\fw I w c v)/\nT I w cs arr (off+1):=
 ⟨λh=>by cases h with|cons _ _ _ _ v hv hp hr=>exact⟨⟨v,hv,hp⟩,hr⟩,fun⟨⟨v,hv,hp⟩,hr⟩=>.cons c cs arr off v hv hp hr⟩
theorem pT{arr:Array Value}{off sz:Nat}:iN I w [] arr off sz↔True:=⟨λ_=>trivial,λ_=>.nil arr off sz⟩
theorem oq{e:List D}{es:List (List D)}{arr:Array Value}{off sz:Nat}:iN I w (e::es) arr off sz↔e.length=sz/\nT I w e arr off/\iN I w es arr (off+sz) sz:=
 ⟨λh=>by cases h with|cons _ _ _ _ _ hl hc hr=>exact⟨hl,hc,hr⟩,fun⟨hl,hc,hr⟩=>.cons e es arr off sz hl hc hr⟩
end
structure Ctx where
 ρ:Nat->Nat
 R:Nat->Option Row
 V:Nat->Prop
 I:ag
 base:Nat
 top:Nat
 X:ag
def Ve(c:Ctx)(r:Nat)(a:Option Addr):Prop:=AI c.top a\/(¬c.V r/\∀x,a=some x->x.block=c.ρ r)
theorem Ve.mono{c c':Ctx}{r r':Nat}{a:Option Addr}(h:Ve c r a)(g:c.top<=c'.top)(hV:c'.V r'↔c.V r)(P9:c'.ρ r'=c.ρ r):Ve c' r' a:=
 h.imp (λh=>h.mono g) fun⟨p,q⟩=>⟨λe=>p (hV.1 e),λx hx=>(q x hx).trans P9.symm⟩
def J5(c:Ctx)(p:Nat×Nat×Nat)(v:Value):Prop:=∃row,c.R p.1=some row/\¬c.V p.1/\p.2.1<row.es.l.length/\v=.pointer (some ⟨c.ρ p.1,p.2.1*row.sz+p.2.2,none⟩)
def MQ(c:Ctx):List (Nat×Nat×Nat)->List Value->Prop
 |[],[]=>True
 |p::ps,v::vs=>J5 c p v/\MQ c ps vs
 |_,_=>False
def QE(f:Nat)(us:List Value)(rec:Loop):Prop:=
 rec.state=.ready/\rec.pending=none/\∃y,F3 f=some y/\rec.params=y.ps/\rec.assign=y.assign/\rec.body=y.body/\y.n<=rec.tmps.size/\y.ps.size=1/\us=y.ts.map λt=>rec.tmps.getD t undef
def sf(c:Ctx)(w:World)(f:Nat)(us:List Value)(v:Value):Prop:=
 (f<YB/\v=.func (.func f) #[] us.toArray)\/(YB<=f/\∃l rec,v=.func (.yield l) #[] #[]/\c.I l/\w.heap[l]?=some (.loop rec)/\QE f us rec)
def SG(c:Ctx)(w:World):iz->Value->Prop
 |.ptr r i off,v=>∃row,c.R r=some row/\¬c.V r/\i<row.es.l.length/\v=.pointer (some ⟨c.ρ r,i*row.sz+off,none⟩)
 |.int k n,v=>v=.int k n
 |.arr r,v=>∃row,c.R r=some row/\row.box=false/\((c.V r/\∃a,v=.slice a 0 0/\AI c.top a)\/(¬c.V r/\∃cap arr,v=.slice (some ⟨c.ρ r,0,none⟩) row.es.l.length cap/\row.es.l.length<=cap/\cap<=maxLen/\
  w.heap[c.ρ r]?=some (.cells arr row.ty (0,0))/\cap*row.sz=arr.size))
 |.sl sz es fr,v=>∃a cap,v=.slice a es.l.length cap/\es.l.length<=cap/\
  (es.l=[]\/∃b off arr ty fz,a=some ⟨b,off,none⟩/\c.I b/\(fr=true->c.base<=b)/\w.heap[b]?=some (.cells arr ty fz)/\iN c.I w es.l arr off sz)
 |.fn f ps,v=>∃us:List Value,sf c w f us v/\MQ c ps us
def oR(c:Ctx)(w:World):List iz->List Value->Prop
 |[],[]=>True
 |x::xs,v::vs=>SG c w x v/\oR c w xs vs
 |_,_=>False
def cz(c:Ctx)(w:World):D->Value->Prop
 |.sl sz es fr,v=>∃a cap,v=.slice a es.l.length cap/\es.l.length<=cap/\
  (es.l=[]\/∃b off arr ty fz,a=some ⟨b,off,none⟩/\c.I b/\(fr=true->c.base<=b)/\w.heap[b]?=some (.cells arr ty fz)/\iN c.I w es.l arr off sz)
 |.all r,v=>∃row,c.R r=some row/\row.box=false/\((c.V r/\∃a,v=.slice a 0 0/\AI c.top a)\/(¬c.V r/\∃cap arr,v=.slice (some ⟨c.ρ r,0,none⟩) row.es.l.length cap/\row.es.l.length<=cap/\cap<=maxLen/\
  w.heap[c.ρ r]?=some (.cells arr row.ty (0,0))/\cap*row.sz=arr.size))
 |.own r o n,v=>∃row,c.R r=some row/\row.box=false/\o+n<=row.es.l.length/\((n=0/\∃a,v=.slice a 0 0/\Ve c r a)\/(¬c.V r/\∃cap arr,n<=cap/\cap<=maxLen/\
  w.heap[c.ρ r]?=some (.cells arr row.ty (0,0))/\v=.slice (some ⟨c.ρ r,o*row.sz,none⟩) n cap/\(o+cap)*row.sz=arr.size))
 |.ptr r i off,v=>∃row,c.R r=some row/\¬c.V r/\i<row.es.l.length/\v=.pointer (some ⟨c.ρ r,i*row.sz+off,none⟩)
 |.pa r i off len _ n,v=>n<len/\∃row,c.R r=some row/\¬c.V r/\i<row.es.l.length/\v=.pointer (some ⟨c.ρ r,i*row.sz+(off+n),none⟩)
 |.iw sz es i off,v=>∃b o arr ty fz,v=.pointer (some ⟨b,o+i*sz+off,none⟩)/\c.I b/\i<es.l.length/\w.heap[b]?=some (.cells arr ty fz)/\iN c.I w es.l arr o sz
 |.dead,v=>v.oneCell'=true
 |.bool b,v=>v=.bool b
 |.int k n,v=>v=.int k n
 |.str s,v=>v=.string ⟨s.toArray⟩
 |.iQ,v=>v=.pointer none
 |.du,v=>v=.slice none 0 0
 |.emp,v=>∃a,v=.slice a 0 0/\AI c.top a
 |.rk es,v=>∃b,v=.bool b/\(b=true->es.l=[])
 |.c8 r,v=>v=.pointer none\/∃row,c.R r=some row/\¬c.V r/\0<row.es.l.length/\v=.pointer (some ⟨c.ρ r,0*row.sz+0,none⟩)
 |.jQ,v=>v=.nilIface
 |.gj f cs,v=>∃us:List Value,sf c w f us v/\oR c w cs us
 |.agg _,_=>False
 |.dt _,_=>False
theorem Zhb{c:Ctx}{w:World}:∀{ps:List (Nat×Nat×Nat)} {vs:List Value},MQ c ps vs↔oR c w (ps.map Ir) vs
 |[],[]=>Iff.rfl
 |p::ps,v::vs=>by simp only[MQ,List.map_cons,oR];rw[Zhb (ps:=ps)];exact Iff.rfl
 |[],_::_=>Iff.rfl
 |_::_,[]=>Iff.rfl
theorem Wm{c:Ctx}{w:World}{x:iz}{v:Value}:SG c w x v↔cz c w x.d v:=by
 cases x with
 |fn f ps=>simp only[SG,iz.d,cz,Zhb (w:=w)]
 |_=>exact Iff.rfl
def jt(c:Ctx)(w:World):List D->List Value->Prop
 |[],[]=>True
 |d::ds,v::vs=>cz c w d v/\jt c w ds vs
 |_,_=>False
def VRep(c:Ctx)(w:World):D->Value->Prop
 |.agg cs,v=>∃vs,v=.agg vs.toArray/\jt c w cs vs
 |d,v=>cz c w d v
def kr(c:Ctx)(w:World):List D->List Value->Prop
 |[],[]=>True
 |d::ds,v::vs=>VRep c w d v/\kr c w ds vs
 |_,_=>False
def Rep(c:Ctx)(w:World):D->Value->Prop
 |.dt ds,v=>∃vs,v=.tuple vs.toArray/\kr c w ds vs
 |.dead,_=>True
 |d,v=>VRep c w d v
def kU(c:Ctx)(w:World):List D->Array Value->Nat->Prop
 |[],_,_=>True
 |d::ds,arr,off=>(∃v,arr[off]?=some v/\cz c w d v)/\kU c w ds arr (off+1)
def w9(c:Ctx)(w:World)(r:Nat)(row:Row):Prop:=
 ∃ arr,w.heap[c.ρ r]?=some (.cells arr row.ty (0,0))/\0<row.sz/\
  if row.box then∃e,row.es=.gen [e]/\e.length=row.sz/\arr.size=row.sz/\kU c w e arr 0
  else iN c.I w row.es.l arr 0 row.sz
def EZ(c:Ctx)(w:World)(r:Nat)(row:Row):Prop:=
 (c.V r/\row.box=false/\row.es.l=[]/\0<row.sz)\/(¬c.V r/\w9 c w r row)

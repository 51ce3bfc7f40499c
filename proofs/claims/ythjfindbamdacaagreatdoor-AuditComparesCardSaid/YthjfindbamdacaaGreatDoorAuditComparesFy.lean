import Derived.Test.YthjfindbamdacaaGreatDoorAuditComparesFa
open Nat renaming blt->bJ,beq->bT
open Bool renaming not_eq_true'->aS
open List renaming getD->aK,replicate->cP,map_set->gU
set_option linter.all false
namespace Go.GD
open Go
structure YK where
 ts:List Nat
 ps:Array Tmp
 assign:Code
 body:Code
 n:Nat
def YB:Nat:=1000000000
def JM:List (Nat×IntKind×List Int):=[(0,.u8,[0,1,28,2,29,14,24,3,30,22,20,15,25,17,4,8,31,27,13,23,21,19,16,7,26,12,18,6,11,5,10,9]),(1,.u64,[1,10,100,1000,10000,100000,1000000,10000000,100000000,1000000000,10000000000,100000000000,1000000000000,10000000000000,100000000000000,1000000000000000,10000000000000000,100000000000000000,1000000000000000000,10000000000000000000])]
def YK.pos(y:YK):Option Nat:=
 match y.ps.toList,y.assign with
 |[p],.skip=>match bJ p y.n&&y.ts.all λt=>!(bT t p)&&bJ t y.n with|true=>some p|false=>none
 |[p],.region _ ops false=>match ops.toList with
  |[⟨some d,.assign (.tmp q),_,_,_,none⟩]=>match bT q p&&(bJ p y.n&&bJ d y.n)&&y.ts.all λt=>!(bT t p)&&!(bT t d)&&bJ t y.n with|true=>some d|false=>none
  |_=>none
 |_,_=>none
def yTs(f:Nat):List Nat:=[]
noncomputable def Fi (f:Nat):Option YK:=none
def Jn:CT->D->Bool
 |.int k,.int j _=>decide (j=k)
 |.bool,.bool _=>true
 |.str,.str _=>true
 |.ints k,.sl s (.ints j _) fr=>bT s 1&&(decide (j=k)&&!fr)
 |.bn,.sl s (.bn _) fr=>bT s 1&&!fr
 |.bc k,.sl s (.bc j _) fr=>bT s k.size&&(decide (j=k)&&!fr)
 |.row i,.all r=>bT r i
 |_,_=>false
def AB:List CT->List D->Bool
 |[],[]=>true
 |t::ts,d::ds=>Jn t d&&AB ts ds
 |_,_=>false
theorem zu{t:CT}{d:D}(h:Jn t d=true):Df t d=d:=by
 unfold Jn at h
 split at h
 ·simp at h;subst h;rfl
 ·rfl
 ·rfl
 ·obtain⟨h1,h2⟩:=Bool.and_eq_true_iff.1 h
  obtain⟨h2,h3⟩:=Bool.and_eq_true_iff.1 h2
  have h1:=bE h1
  have h2:=oY h2
  rw[aS]at h3
  subst h1;subst h2;subst h3
  simp[Df,ng,ak.toI]
 ·obtain⟨h1,h3⟩:=Bool.and_eq_true_iff.1 h
  have h1:=bE h1
  rw[aS]at h3
  subst h1;subst h3
  simp[Df,RJ,ak.toB]
 ·obtain⟨h1,h2⟩:=Bool.and_eq_true_iff.1 h
  obtain⟨h2,h3⟩:=Bool.and_eq_true_iff.1 h2
  have h1:=bE h1
  have h2:=oY h2
  rw[aS]at h3
  subst h1;subst h2;subst h3
  simp[Df,sV,ak.toR,Z6m]
 ·rw[bE h];rfl
 ·cases h
theorem Zdb:∀{ts:List CT} {pre ds:List D},AB ts ds=true->uO ts (pre++ds) pre.length=ds
 |[],pre,[],_=>rfl
 |t::ts,pre,d::ds,h=>by
  simp only[AB,aE]at h
  have h2:=Zdb (pre:=pre++[d]) h.2
  have h3:(pre++d::ds).getD pre.length .dead=d:=by simp[aK]
  simp only[uO,h3,zu h.1]
  congr 1
  simpa using h2
 |[],_,_::_,h=>by simp[AB]at h
 |_::_,_,[],h=>by simp[AB]at h
theorem Qx5:∀{ts:List CT} {cs:List D} {j:Nat},(uO ts cs j).length=ts.length
 |[],_,_=>rfl
 |t::ts,cs,j=>by simp[uO,Qx5]
def RK.dec(k:RK)(cs:List D):Option (RK.T k):=match AB k.sig cs with|true=>some (k.of cs)|false=>none
theorem RK.oq{k:RK}{cs:List D}{x:RK.T k}(h:k.dec cs=some x):cs=k.cells x:=by
 unfold RK.dec at h
 split at h
 ·rename_i hf
  cases h
  have:=Zdb (pre:=[]) hf
  simp only[List.nil_append,List.length_nil]at this
  rw[RK.Bm,this]
 ·cases h
theorem RK.pX(k:RK)(x:RK.T k):(k.cells x).length=k.size:=by
 rw[<-RK.nO,Qx5,RK.tA]
def RK.AD(k:RK):List (List D)->Option (List (RK.T k))
 |[]=>some []
 |e::es=>match k.dec e,RK.AD k es with|some x,some l=>some (x::l)|_,_=>none
theorem RK.mJ{k:RK}:∀{es:List (List D)} {l:List (RK.T k)},k.AD es=some l->es=l.map k.cells
 |[],l,h=>by simp[RK.AD]at h;subst h;rfl
 |e ::es,l,h=>by
  simp only[RK.AD]at h
  split at h
  ·rename_i x m h1 h2
   cases h
   rw[RK.oq h1,RK.mJ h2];rfl
  ·cases h
def ak.l:ak->List (List D)
 |.gen es=>es
 |.ints k l=>l.map λn=>[.int k n]
 |.bn l=>l.map λb=>[.bool b]
 |.bc k l=>l.map k.cells
def ak.len:ak->Nat
 |.gen es=>es.length
 |.ints _ l=>l.length
 |.bn l=>l.length
 |.bc _ l=>l.length
def ak.get:ak->Nat->List D
 |.gen es,i=>es.getD i []
 |.ints k l,i=>[.int k (l.getD i 0)]
 |.bn l,i=>[.bool (l.getD i false)]
 |.bc k l,i=>k.cells (l.getD i k.cz)
def ak.take:ak->Nat->ak
 |.gen es,n=>.gen (es.take n)
 |.ints k l,n=>.ints k (l.take n)
 |.bn l,n=>.bn (l.take n)
 |.bc k l,n=>.bc k (l.take n)
def ak.drop:ak->Nat->ak
 |.gen es,n=>.gen (es.drop n)
 |.ints k l,n=>.ints k (l.drop n)
 |.bn l,n=>.bn (l.drop n)
 |.bc k l,n=>.bc k (l.drop n)
def ak.PG(k:IntKind)(l:List Int)(i:Nat)(cs:List D):ak:=
 match cs with
 |[.int k' v]=>match decide (k'=k)with|true=>.ints k (l.set i v)|false=>.gen ((ak.ints k l).l.set i cs)
 |_=>.gen ((ak.ints k l).l.set i cs)
def ak.PH(l:List Bool)(i:Nat)(cs:List D):ak:=
 match cs with
 |[.bool v]=>.bn (l.set i v)
 |_=>.gen ((ak.bn l).l.set i cs)
def ak.set:ak->Nat->List D->ak
 |.gen es,i,cs=>.gen (es.set i cs)
 |.ints k l,i,cs=>ak.PG k l i cs
 |.bn l,i,cs=>ak.PH l i cs
 |.bc k l,i,cs=>match k.dec cs with|some x=>.bc k (l.set i x)|none=>.gen ((ak.bc k l).l.set i cs)
def ak.app:ak->ak->ak
 |.gen [],F=>F
 |.ints k l,.ints k' m=>match decide (k'=k)with|true=>.ints k (l++m)|false=>.gen ((ak.ints k l).l++(ak.ints k' m).l)
 |.bn l,.bn m=>.bn (l++m)
 |.bc k l,.bc k' m=>match FB k' k m with|some m'=>.bc k (l++m')|none=>.gen ((ak.bc k l).l++(ak.bc k' m).l)
 |.ints k l,.gen []=>.ints k l
 |.bn l,.gen []=>.bn l
 |.bc k l,.gen []=>.bc k l
 |.bc k l,.gen es=>match k.AD es with|some m=>.bc k (l++m)|none=>.gen ((ak.bc k l).l++es)
 |E,F=>.gen (E.l++F.l)
def ak.rep(n:Nat):List D->ak
 |[.int k v]=>.ints k (cP n v)
 |[.bool b]=>.bn (cP n b)
 |z=>.gen (cP n z)
def ak.Fh(t n:Nat)(z:List D):ak:=
 match RK.My t with
 |some k=>match k.dec z with|some x=>.bc k (cP n x)|none=>ak.rep n z
 |none=>ak.rep n z
def ak.PI(k:IntKind):List (List D)->Option (List Int)
 |[]=>some []
 |[.int k' v]::l=>match decide (k'=k),ak.PI k l with|true,some m=>some (v::m)|_,_=>none
 |_=>none
def ak.PJ:List (List D)->Option (List Bool)
 |[]=>some []
 |[.bool b]::l=>match ak.PJ l with|some m=>some (b::m)|none=>none
 |_=>none
def ak.Ud:List (List D)->ak
 |[.int k v]::l=>match ak.PI k l with|some m=>.ints k (v::m)|none=>.gen ([.int k v]::l)
 |[.bool b]::l=>match ak.PJ l with|some m=>.bn (b::m)|none=>.gen ([.bool b]::l)
 |l=>.gen l
def ak.YF(t:Nat)(es:List (List D)):ak:=
 match RK.My t with
 |some k=>match k.AD es with|some l=>.bc k l|none=>ak.Ud es
 |none=>ak.Ud es
@[simp] theorem ak.ik:∀(E:ak),E.l.length=E.len
 |.gen es=>rfl
 |.ints k l=>by simp[ak.l,ak.len]
 |.bn l=>by simp[ak.l,ak.len]
 |.bc k l=>by simp[ak.l,ak.len]
theorem ak.mP:∀(E:ak) {i:Nat},i<E.len->E.l.getD i []=E.get i
 |.gen es,i,_=>rfl
 |.ints k l,i,h=>by simp only[ak.len]at h;simp[ak.l,ak.get,aK,h]
 |.bn l,i,h=>by simp only[ak.len]at h;simp[ak.l,ak.get,aK,h]
 |.bc k l,i,h=>by simp only[ak.len]at h;simp[ak.l,ak.get,aK,h]
theorem ak.iT:∀(E:ak) (n:Nat),(E.take n).l=E.l.take n
 |.gen es,n=>rfl
 |.ints k l,n=>by simp[ak.l,ak.take]
 |.bn l,n=>by simp[ak.l,ak.take]
 |.bc k l,n=>by simp[ak.l,ak.take]
theorem ak.j4:∀(E:ak) (n:Nat),(E.drop n).l=E.l.drop n
 |.gen es,n=>rfl
 |.ints k l,n=>by simp[ak.l,ak.drop]
 |.bn l,n=>by simp[ak.l,ak.drop]
 |.bc k l,n=>by simp[ak.l,ak.drop]
theorem ak.Pv:∀(E:ak) (i:Nat) (cs:List D),(E.set i cs).l=E.l.set i cs
 |.gen es,i,cs=>rfl
 |.ints k l,i,cs=>by
  simp only[ak.set,ak.PG]
  split
  ·split
   ·rename_i h
    have:=oY h
    subst this
    simp[ak.l,gU]
   ·rfl
  ·rfl
 |.bn l,i,cs=>by
  simp only[ak.set,ak.PH]
  split
  ·simp[ak.l,gU]
  ·rfl
 |.bc k l,i,cs=>by
  simp only[ak.set]
  split
  ·rename_i x h
   rw[RK.oq h]
   simp[ak.l,gU]
  ·rfl
theorem ak.jS(E F:ak):(E.app F).l=E.l++F.l:=by
 cases E with
 |gen es=>
  cases es with
  |nil=>cases F<;>simp[ak.app,ak.l]
  |cons e es=>cases F<;>simp[ak.app,ak.l]
 |ints k l=>
  cases F with
  |ints k' m=>
   simp only[ak.app]
   split
   ·rename_i h
    have:=oY h
    subst this
    simp[ak.l]
   ·rfl
  |gen es=>cases es<;>simp[ak.app,ak.l]
  |_=>simp[ak.app,ak.l]
 |bn l=>
  cases F with
  |gen es=>cases es<;>simp[ak.app,ak.l]
  |_=>simp[ak.app,ak.l]
 |bc k l=>
  cases F with
  |bc k' m=>
   simp only[ak.app]
   split
   ·rename_i m' h
    obtain⟨e,hm⟩:=Vq h
    subst e
    simp only at hm
    subst hm
    simp[ak.l]
   ·rfl
  |gen es=>
   cases es with
   |nil=>simp[ak.app,ak.l]
   |cons e es=>
    simp only[ak.app]
    split
    ·rename_i m h
     have h2:=RK.mJ h
     simp only[ak.l,h2,List.map_append]
    ·rfl
  |_=>simp[ak.app,ak.l]
theorem ak.Hg(n:Nat)(z:List D):(ak.rep n z).l=cP n z:=by
 unfold ak.rep
 split<;>simp[ak.l]
theorem ak.ur(t n:Nat)(z:List D):(ak.Fh t n z).l=cP n z:=by
 unfold ak.Fh
 split
 ·split
  ·rename_i x h
   rw[RK.oq h]
   simp[ak.l]
  ·exact ak.Hg n z
 ·exact ak.Hg n z
theorem ak.Hh{k:IntKind}:∀{es:List (List D)} {l:List Int},ak.PI k es=some l->es=l.map λn=>[.int k n]
 |[],l,h=>by simp[ak.PI]at h;subst h;rfl
 |e ::es,l,h=>by
  unfold ak.PI at h
  split at h
  ·rename_i h0;cases h0
  ·rename_i k' v l' h0
   cases h0
   split at h
   ·rename_i m h1 h2
    cases h
    have:=oY h1
    subst this
    rw[ak.Hh h2];rfl
   ·cases h
  ·cases h
theorem ak.Hi:∀{es:List (List D)} {l:List Bool},ak.PJ es=some l->es=l.map λn=>[.bool n]
 |[],l,h=>by simp[ak.PJ]at h;subst h;rfl
 |e ::es,l,h=>by
  unfold ak.PJ at h
  split at h
  ·rename_i h0;cases h0
  ·rename_i v l' h0
   cases h0
   split at h
   ·rename_i m h2
    cases h
    rw[ak.Hi h2];rfl
   ·cases h
  ·cases h
theorem ak.Hj(es:List (List D)):(ak.Ud es).l=es:=by
 unfold ak.Ud
 split
 ·split
  ·rename_i m h;rw[ak.Hh h];rfl
  ·rfl
 ·split
  ·rename_i m h;rw[ak.Hi h];rfl
  ·rfl
 ·rfl
theorem ak.Cz(t:Nat)(es:List (List D)):(ak.YF t es).l=es:=by
 unfold ak.YF
 split
 ·split
  ·rename_i l h;exact(RK.mJ h).symm
  ·exact ak.Hj es
 ·exact ak.Hj es
theorem ak.toI_l{k:IntKind}{E:ak}{l:List Int}(h:E.toI k=some l):E.l=(ak.ints k l).l:=by
 unfold ak.toI at h
 split at h
 ·split at h
  ·rename_i hk
   cases h
   rw[oY hk]
  ·cases h
 ·cases h;rfl
 ·cases h
theorem ak.toB_l{E:ak}{l:List Bool}(h:E.toB=some l):E.l=(ak.bn l).l:=by
 unfold ak.toB at h
 split at h
 ·cases h;rfl
 ·cases h;rfl
 ·cases h
theorem ak.toR_l{k:RK}{E:ak}{l:List (RK.T k)}(h:E.toR k=some l):E.l=(ak.bc k l).l:=by
 unfold ak.toR at h
 split at h
 ·obtain⟨e,hm⟩:=Vq h
  subst e
  simp only at hm
  subst hm
  rfl
 ·cases h;rfl
 ·cases h
structure Row where
 box:Bool
 ty:TypeId
 sz:Nat
 es:ak
 deriving Inhabited
abbrev ab:=Nat->Prop
def Ac(n:Nat)(a:Option Addr):Prop:=∀x,a=some x->x.block<n
theorem Ac.mono{m n:Nat}{a:Option Addr}(h:Ac m a)(g:m<=n):Ac n a:=λx hx=>Nat.lt_of_lt_of_le (h x hx) g
theorem MG{n:Nat}:Ac n none:=λx hx=>by cases hx
mutual
inductive fq(I:ab)(w:World):D->Value->Prop
 |bool (b:Bool):fq I w (.bool b) (.bool b)
 |int (k:IntKind) (n:Int):fq I w (.int k n) (.int k n)
 |str (s:List UInt8):fq I w (.str s) (.string ⟨s.toArray⟩)
 |iy:fq I w .iy (.pointer none)
 |dq:fq I w .dq (.slice none 0 0)
 |emp (a:Option Addr):fq I w .emp (.slice a 0 0)
 |Tv (sz:Nat) (es:ak) (fr:Bool) (a:Option Addr) (cap:Nat) (h:es.l=[]):fq I w (.sl sz es fr) (.slice a es.l.length cap)
 |Tw (sz:Nat) (es:ak) (fr:Bool) (cap:Nat) (hc:es.l.length<=cap) (b off:Nat) (arr:Array Value) (ty:TypeId) (fz:Nat×Nat) (hI:I b) (hh:w.heap[b]?=some (.cells arr ty fz)) (hE:iu I w es.l arr off sz):
  fq I w (.sl sz es fr) (.slice (some ⟨b,off,none⟩) es.l.length cap)
inductive nB(I:ab)(w:World):List D->Array Value->Nat->Prop
 |nil (arr:Array Value) (off:Nat):nB I w [] arr off
 |cons (c:D) (cs:List D) (arr:Array Value) (off:Nat) (v:Value) (hv:arr[off]?=some v) (hp:fq I w c v) (hr:nB I w cs arr (off+1)):nB I w (c::cs) arr off
inductive iu(I:ab)(w:World):List (List D)->Array Value->Nat->Nat->Prop
 |nil (arr:Array Value) (off sz:Nat):iu I w [] arr off sz
 |cons (e:List D) (es:List (List D)) (arr:Array Value) (off sz:Nat) (hl:e.length=sz) (hc:nB I w e arr off) (hr:iu I w es arr (off+sz) sz):iu I w (e::es) arr off sz
end
abbrev PK(I:ab)(w:World)(E:ak)(arr:Array Value)(off sz:Nat):Prop:=iu I w E.l arr off sz
theorem R8{I:ab}{w:World}{E:ak}{arr:Array Value}{off sz:Nat}:PK I w E arr off sz↔iu I w E.l arr off sz:=Iff.rfl
section
variable {I:ab} {w:World} {v:Value}
theorem rO{b:Bool}:fq I w (.bool b) v↔v=.bool b:=⟨λh=>by cases h;rfl,λh=>by subst h;exact .bool b⟩
theorem ri{k:IntKind}{n:Int}:fq I w (.int k n) v↔v=.int k n:=⟨λh=>by cases h;rfl,λh=>by subst h;exact .int k n⟩
theorem rP{s:List UInt8}:fq I w (.str s) v↔v=.string ⟨s.toArray⟩:=⟨λh=>by cases h;rfl,λh=>by subst h;exact .str s⟩
theorem rQ:fq I w .iy v↔v=.pointer none:=⟨λh=>by cases h;rfl,λh=>by subst h;exact .iy⟩
theorem rR:fq I w .dq v↔v=.slice none 0 0:=⟨λh=>by cases h;rfl,λh=>by subst h;exact .dq⟩
theorem rS:fq I w .emp v↔ ∃a,v=.slice a 0 0:=⟨λh=>by cases h;exact⟨_,rfl⟩,fun⟨a,h⟩=>by subst h;exact .emp a⟩
theorem sX{sz:Nat}{es:ak}{fr:Bool}:fq I w (.sl sz es fr) v↔ ∃a cap,v=.slice a es.l.length cap/\es.l.length<=cap/\
 (es.l=[]\/∃b off arr ty fz,a=some ⟨b,off,none⟩/\I b/\w.heap[b]?=some (.cells arr ty fz)/\PK I w es arr off sz):=by
 constructor
 ·intro h
  cases h with
  |Tv sz es fr a cap h=>exact⟨a,cap,rfl,by rw[h];exact Nat.zero_le _,.inl h⟩
  |Tw sz es fr cap hc b off arr ty fz hI hh hE=>exact⟨_,cap,rfl,hc,.inr ⟨b,off,arr,ty,fz,rfl,hI,hh,hE⟩⟩
 ·rintro⟨a,cap,rfl,hc,h|⟨b,off,arr,ty,fz,rfl,hI,hh,hE⟩⟩
  ·exact .Tv sz es fr a cap h
  ·exact .Tw sz es fr cap hc b off arr ty fz hI hh hE
theorem tE{r:Nat}:fq I w (.all r) v↔False:=⟨(λh=>nomatch h),False.elim⟩
theorem tF{r o n:Nat}:fq I w (.own r o n) v↔False:=⟨(λh=>nomatch h),False.elim⟩
theorem tG{r i o:Nat}:fq I w (.ptr r i o) v↔False:=⟨(λh=>nomatch h),False.elim⟩
theorem tH{r i o l:Nat}{k:Option IntKind}{n:Nat}:fq I w (.pa r i o l k n) v↔False:=⟨(λh=>nomatch h),False.elim⟩
theorem tI{sz:Nat}{es:ak}{i o:Nat}:fq I w (.ig sz es i o) v↔False:=⟨(λh=>nomatch h),False.elim⟩
theorem tJ:fq I w .dead v↔False:=⟨(λh=>nomatch h),False.elim⟩
theorem tK{es:ak}:fq I w (.pF es) v↔False:=⟨(λh=>nomatch h),False.elim⟩
theorem qS{f:Nat}{cs:List ij}:fq I w (.gb f cs) v↔False:=⟨(λh=>nomatch h),False.elim⟩
theorem Zni{r:Nat}:fq I w (.cy r) v↔False:=⟨(λh=>nomatch h),False.elim⟩
theorem Zmp:fq I w .jF v↔False:=⟨(λh=>nomatch h),False.elim⟩
theorem tL{cs:List D}:fq I w (.agg cs) v↔False:=⟨(λh=>nomatch h),False.elim⟩
theorem tM{cs:List D}:fq I w (.dt cs) v↔False:=⟨(λh=>nomatch h),False.elim⟩
theorem Bo{arr:Array Value}{off:Nat}:nB I w [] arr off↔True:=⟨λ_=>trivial,λ_=>.nil arr off⟩
theorem wW{c:D}{cs:List D}{arr:Array Value}{off:Nat}:nB I w (c::cs) arr off↔(∃v,arr[off]?=some v/\fq I w c v)/\nB I w cs arr (off+1):=
 ⟨λh=>by cases h with|cons _ _ _ _ v hv hp hr=>exact⟨⟨v,hv,hp⟩,hr⟩,fun⟨⟨v,hv,hp⟩,hr⟩=>.cons c cs arr off v hv hp hr⟩
theorem pr{arr:Array Value}{off sz:Nat}:iu I w [] arr off sz↔True:=⟨λ_=>trivial,λ_=>.nil arr off sz⟩
theorem nU{e:List D}{es:List (List D)}{arr:Array Value}{off sz:Nat}:iu I w (e::es) arr off sz↔e.length=sz/\nB I w e arr off/\iu I w es arr (off+sz) sz:=
 ⟨λh=>by cases h with|cons _ _ _ _ _ hl hc hr=>exact⟨hl,hc,hr⟩,fun⟨hl,hc,hr⟩=>.cons e es arr off sz hl hc hr⟩
end
structure Ctx where
 ρ:Nat->Nat
 R:Nat->Option Row
 V:Nat->Prop
 I:ab
 base:Nat
 top:Nat
 X:ab
def Ue(c:Ctx)(r:Nat)(a:Option Addr):Prop:=Ac c.top a\/(¬c.V r/\∀x,a=some x->x.block=c.ρ r)
theorem Ue.mono{c c':Ctx}{r r':Nat}{a:Option Addr}(h:Ue c r a)(g:c.top<=c'.top)(hV:c'.V r'↔c.V r)(Pe:c'.ρ r'=c.ρ r):Ue c' r' a:=
 h.imp (λh=>h.mono g) fun⟨p,q⟩=>⟨λe=>p (hV.1 e),λx hx=>(q x hx).trans Pe.symm⟩
def Jo(c:Ctx)(p:Nat×Nat×Nat)(v:Value):Prop:=∃row,c.R p.1=some row/\¬c.V p.1/\p.2.1<row.es.l.length/\v=.pointer (some ⟨c.ρ p.1,p.2.1*row.sz+p.2.2,none⟩)
def LZ(c:Ctx):List (Nat×Nat×Nat)->List Value->Prop
 |[],[]=>True
 |p::ps,v::vs=>Jo c p v/\LZ c ps vs
 |_,_=>False
def Pk(f:Nat)(us:List Value)(rec:Loop):Prop:=
 rec.state=.ready/\rec.pending=none/\∃y,Fi f=some y/\rec.params=y.ps/\rec.assign=y.assign/\rec.body=y.body/\y.n<=rec.tmps.size/\y.ps.size=1/\us=y.ts.map λt=>rec.tmps.getD t undef
def rB(c:Ctx)(w:World)(f:Nat)(us:List Value)(v:Value):Prop:=
 (f<YB/\v=.func (.func f) #[] us.toArray)\/(YB<=f/\∃l rec,v=.func (.yield l) #[] #[]/\c.I l/\w.heap[l]?=some (.loop rec)/\Pk f us rec)
def RN(c:Ctx)(w:World):ij->Value->Prop
 |.ptr r i off,v=>∃row,c.R r=some row/\¬c.V r/\i<row.es.l.length/\v=.pointer (some ⟨c.ρ r,i*row.sz+off,none⟩)
 |.int k n,v=>v=.int k n
 |.arr r,v=>∃row,c.R r=some row/\row.box=false/\((c.V r/\∃a,v=.slice a 0 0/\Ac c.top a)\/(¬c.V r/\∃cap arr,v=.slice (some ⟨c.ρ r,0,none⟩) row.es.l.length cap/\row.es.l.length<=cap/\cap<=maxLen/\
  w.heap[c.ρ r]?=some (.cells arr row.ty (0,0))/\cap*row.sz=arr.size))
 |.sl sz es fr,v=>∃a cap,v=.slice a es.l.length cap/\es.l.length<=cap/\
  (es.l=[]\/∃b off arr ty fz,a=some ⟨b,off,none⟩/\c.I b/\(fr=true->c.base<=b)/\w.heap[b]?=some (.cells arr ty fz)/\iu c.I w es.l arr off sz)
 |.fn f ps,v=>∃us:List Value,rB c w f us v/\LZ c ps us
def oz(c:Ctx)(w:World):List ij->List Value->Prop
 |[],[]=>True
 |x::xs,v::vs=>RN c w x v/\oz c w xs vs
 |_,_=>False
def cu(c:Ctx)(w:World):D->Value->Prop
 |.sl sz es fr,v=>∃a cap,v=.slice a es.l.length cap/\es.l.length<=cap/\
  (es.l=[]\/∃b off arr ty fz,a=some ⟨b,off,none⟩/\c.I b/\(fr=true->c.base<=b)/\w.heap[b]?=some (.cells arr ty fz)/\iu c.I w es.l arr off sz)
 |.all r,v=>∃row,c.R r=some row/\row.box=false/\((c.V r/\∃a,v=.slice a 0 0/\Ac c.top a)\/(¬c.V r/\∃cap arr,v=.slice (some ⟨c.ρ r,0,none⟩) row.es.l.length cap/\row.es.l.length<=cap/\cap<=maxLen/\
  w.heap[c.ρ r]?=some (.cells arr row.ty (0,0))/\cap*row.sz=arr.size))
 |.own r o n,v=>∃row,c.R r=some row/\row.box=false/\o+n<=row.es.l.length/\((n=0/\∃a,v=.slice a 0 0/\Ue c r a)\/(¬c.V r/\∃cap arr,n<=cap/\cap<=maxLen/\
  w.heap[c.ρ r]?=some (.cells arr row.ty (0,0))/\v=.slice (some ⟨c.ρ r,o*row.sz,none⟩) n cap/\(o+cap)*row.sz=arr.size))
 |.ptr r i off,v=>∃row,c.R r=some row/\¬c.V r/\i<row.es.l.length/\v=.pointer (some ⟨c.ρ r,i*row.sz+off,none⟩)
 |.pa r i off len _ n,v=>n<len/\∃row,c.R r=some row/\¬c.V r/\i<row.es.l.length/\v=.pointer (some ⟨c.ρ r,i*row.sz+(off+n),none⟩)
 |.ig sz es i off,v=>∃b o arr ty fz,v=.pointer (some ⟨b,o+i*sz+off,none⟩)/\c.I b/\i<es.l.length/\w.heap[b]?=some (.cells arr ty fz)/\iu c.I w es.l arr o sz
 |.dead,v=>v.oneCell'=true
 |.bool b,v=>v=.bool b
 |.int k n,v=>v=.int k n
 |.str s,v=>v=.string ⟨s.toArray⟩
 |.iy,v=>v=.pointer none
 |.dq,v=>v=.slice none 0 0
 |.emp,v=>∃a,v=.slice a 0 0/\Ac c.top a
 |.pF es,v=>∃b,v=.bool b/\(b=true->es.l=[])
 |.cy r,v=>v=.pointer none\/∃row,c.R r=some row/\¬c.V r/\0<row.es.l.length/\v=.pointer (some ⟨c.ρ r,0*row.sz+0,none⟩)
 |.jF,v=>v=.nilIface
 |.gb f cs,v=>∃us:List Value,rB c w f us v/\oz c w cs us
 |.agg _,_=>False
 |.dt _,_=>False
theorem Zf0{c:Ctx}{w:World}:∀{ps:List (Nat×Nat×Nat)} {vs:List Value},LZ c ps vs↔oz c w (ps.map HG) vs
 |[],[]=>Iff.rfl
 |p::ps,v::vs=>by simp only[LZ,List.map_cons,oz];rw[Zf0 (ps:=ps)];exact Iff.rfl
 |[],_::_=>Iff.rfl
 |_::_,[]=>Iff.rfl
theorem Vu{c:Ctx}{w:World}{x:ij}{v:Value}:RN c w x v↔cu c w x.d v:=by
 cases x with
 |fn f ps=>simp only[RN,ij.d,cu,Zf0 (w:=w)]
 |_=>exact Iff.rfl
def jh(c:Ctx)(w:World):List D->List Value->Prop
 |[],[]=>True
 |d::ds,v::vs=>cu c w d v/\jh c w ds vs
 |_,_=>False
def VRep(c:Ctx)(w:World):D->Value->Prop
 |.agg cs,v=>∃vs,v=.agg vs.toArray/\jh c w cs vs
 |d,v=>cu c w d v
def jY(c:Ctx)(w:World):List D->List Value->Prop
 |[],[]=>True
 |d::ds,v::vs=>VRep c w d v/\jY c w ds vs
 |_,_=>False
def Rep(c:Ctx)(w:World):D->Value->Prop
 |.dt ds,v=>∃vs,v=.tuple vs.toArray/\jY c w ds vs
 |.dead,_=>True
 |d,v=>VRep c w d v
def kA(c:Ctx)(w:World):List D->Array Value->Nat->Prop
 |[],_,_=>True
 |d::ds,arr,off=>(∃v,arr[off]?=some v/\cu c w d v)/\kA c w ds arr (off+1)
def wz(c:Ctx)(w:World)(r:Nat)(row:Row):Prop:=
 ∃ arr,w.heap[c.ρ r]?=some (.cells arr row.ty (0,0))/\0<row.sz/\
  if row.box then∃e,row.es=.gen [e]/\e.length=row.sz/\arr.size=row.sz/\kA c w e arr 0
  else iu c.I w row.es.l arr 0 row.sz
def Ef(c:Ctx)(w:World)(r:Nat)(row:Row):Prop:=
 (c.V r/\row.box=false/\row.es.l=[]/\0<row.sz)\/(¬c.V r/\wz c w r row)

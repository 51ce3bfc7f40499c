import Derived.Test.YthjfindbamdacaaGreatDoorAuditScriptsFa
open Nat renaming blt->bJ,beq->bT
open Bool renaming not_eq_true'->aS
open List renaming getD->aK,replicate->cQ,map_set->gT
set_option linter.all false
namespace Go.GD
open Go
structure YK where
 ts:List Nat
 ps:Array Tmp
 assign:Code
 body:Code
 n:Nat
def YB:Nat:=1000000000
def Kt:List (Nat×IntKind×List Int):=[(0,.u8,[0,1,28,2,29,14,24,3,30,22,20,15,25,17,4,8,31,27,13,23,21,19,16,7,26,12,18,6,11,5,10,9]),(1,.u64,[1,10,100,1000,10000,100000,1000000,10000000,100000000,1000000000,10000000000,100000000000,1000000000000,10000000000000,100000000000000,1000000000000000,10000000000000000,100000000000000000,1000000000000000000,10000000000000000000])]
def YK.pos(y:YK):Option Nat:=
 match y.ps.toList,y.assign with
 |[p],.skip=>match bJ p y.n&&y.ts.all λt=>!(bT t p)&&bJ t y.n with|true=>some p|false=>none
 |[p],.region _ ops false=>match ops.toList with
  |[⟨some d,.assign (.tmp q),_,_,_,none⟩]=>match bT q p&&(bJ p y.n&&bJ d y.n)&&y.ts.all λt=>!(bT t p)&&!(bT t d)&&bJ t y.n with|true=>some d|false=>none
  |_=>none
 |_,_=>none
def yTs(f:Nat):List Nat:=[]
noncomputable def FV (f:Nat):Option YK:=none
def J3:CT->D->Bool
 |.int k,.int j _=>decide (j=k)
 |.bool,.bool _=>true
 |.str,.str _=>true
 |.ints k,.sl s (.ints j _) fr=>bT s 1&&(decide (j=k)&&!fr)
 |.bo,.sl s (.bo _) fr=>bT s 1&&!fr
 |.av k,.sl s (.av j _) fr=>bT s k.size&&(decide (j=k)&&!fr)
 |.row i,.all r=>bT r i
 |_,_=>false
def Bf:List CT->List D->Bool
 |[],[]=>true
 |t::ts,d::ds=>J3 t d&&Bf ts ds
 |_,_=>false
theorem vw{t:CT}{d:D}(h:J3 t d=true):DG t d=d:=by
 unfold J3 at h
 split at h
 ·simp at h;subst h;rfl
 ·rfl
 ·rfl
 ·obtain⟨h1,h2⟩:=Bool.and_eq_true_iff.1 h
  obtain⟨h2,h3⟩:=Bool.and_eq_true_iff.1 h2
  have h1:=bE h1
  have h2:=oY h2
  rw[aS]at h3
  subst h1;subst h2;subst h3
  simp[DG,nE,ao.toI]
 ·obtain⟨h1,h3⟩:=Bool.and_eq_true_iff.1 h
  have h1:=bE h1
  rw[aS]at h3
  subst h1;subst h3
  simp[DG,SE,ao.toB]
 ·obtain⟨h1,h2⟩:=Bool.and_eq_true_iff.1 h
  obtain⟨h2,h3⟩:=Bool.and_eq_true_iff.1 h2
  have h1:=bE h1
  have h2:=oY h2
  rw[aS]at h3
  subst h1;subst h2;subst h3
  simp[DG,tB,ao.toR,Zae]
 ·rw[bE h];rfl
 ·cases h
theorem Zio:∀{ts:List CT} {pre ds:List D},Bf ts ds=true->wg ts (pre++ds) pre.length=ds
 |[],pre,[],_=>rfl
 |t::ts,pre,d::ds,h=>by
  simp only[Bf,aE]at h
  have h2:=Zio (pre:=pre++[d]) h.2
  have h3:(pre++d::ds).getD pre.length .dead=d:=by simp[aK]
  simp only[wg,h3,vw h.1]
  congr 1
  simpa using h2
 |[],_,_::_,h=>by simp[Bf]at h
 |_::_,_,[],h=>by simp[Bf]at h
theorem Qzk:∀{ts:List CT} {cs:List D} {j:Nat},(wg ts cs j).length=ts.length
 |[],_,_=>rfl
 |t::ts,cs,j=>by simp[wg,Qzk]
def RK.dec(k:RK)(cs:List D):Option (RK.T k):=match Bf k.sig cs with|true=>some (k.of cs)|false=>none
theorem RK.oF{k:RK}{cs:List D}{x:RK.T k}(h:k.dec cs=some x):cs=k.cells x:=by
 unfold RK.dec at h
 split at h
 ·rename_i hf
  cases h
  have:=Zio (pre:=[]) hf
  simp only[List.nil_append,List.length_nil]at this
  rw[RK.BN,this]
 ·cases h
theorem RK.rH(k:RK)(x:RK.T k):(k.cells x).length=k.size:=by
 rw[<-RK.oc,Qzk,RK.tV]
def RK.Bg(k:RK):List (List D)->Option (List (RK.T k))
 |[]=>some []
 |e::es=>match k.dec e,RK.Bg k es with|some x,some l=>some (x::l)|_,_=>none
theorem RK.nh{k:RK}:∀{es:List (List D)} {l:List (RK.T k)},k.Bg es=some l->es=l.map k.cells
 |[],l,h=>by simp[RK.Bg]at h;subst h;rfl
 |e ::es,l,h=>by
  simp only[RK.Bg]at h
  split at h
  ·rename_i x m h1 h2
   cases h
   rw[RK.oF h1,RK.nh h2];rfl
  ·cases h
def ao.l:ao->List (List D)
 |.gen es=>es
 |.ints k l=>l.map λn=>[.int k n]
 |.bo l=>l.map λb=>[.bool b]
 |.av k l=>l.map k.cells
def ao.len:ao->Nat
 |.gen es=>es.length
 |.ints _ l=>l.length
 |.bo l=>l.length
 |.av _ l=>l.length
def ao.get:ao->Nat->List D
 |.gen es,i=>es.getD i []
 |.ints k l,i=>[.int k (l.getD i 0)]
 |.bo l,i=>[.bool (l.getD i false)]
 |.av k l,i=>k.cells (l.getD i k.cj)
def ao.take:ao->Nat->ao
 |.gen es,n=>.gen (es.take n)
 |.ints k l,n=>.ints k (l.take n)
 |.bo l,n=>.bo (l.take n)
 |.av k l,n=>.av k (l.take n)
def ao.drop:ao->Nat->ao
 |.gen es,n=>.gen (es.drop n)
 |.ints k l,n=>.ints k (l.drop n)
 |.bo l,n=>.bo (l.drop n)
 |.av k l,n=>.av k (l.drop n)
def ao.QV(k:IntKind)(l:List Int)(i:Nat)(cs:List D):ao:=
 match cs with
 |[.int k' v]=>match decide (k'=k)with|true=>.ints k (l.set i v)|false=>.gen ((ao.ints k l).l.set i cs)
 |_=>.gen ((ao.ints k l).l.set i cs)
def ao.QW(l:List Bool)(i:Nat)(cs:List D):ao:=
 match cs with
 |[.bool v]=>.bo (l.set i v)
 |_=>.gen ((ao.bo l).l.set i cs)
def ao.set:ao->Nat->List D->ao
 |.gen es,i,cs=>.gen (es.set i cs)
 |.ints k l,i,cs=>ao.QV k l i cs
 |.bo l,i,cs=>ao.QW l i cs
 |.av k l,i,cs=>match k.dec cs with|some x=>.av k (l.set i x)|none=>.gen ((ao.av k l).l.set i cs)
def ao.app:ao->ao->ao
 |.gen [],F=>F
 |.ints k l,.ints k' m=>match decide (k'=k)with|true=>.ints k (l++m)|false=>.gen ((ao.ints k l).l++(ao.ints k' m).l)
 |.bo l,.bo m=>.bo (l++m)
 |.av k l,.av k' m=>match Gd k' k m with|some m'=>.av k (l++m')|none=>.gen ((ao.av k l).l++(ao.av k' m).l)
 |.ints k l,.gen []=>.ints k l
 |.bo l,.gen []=>.bo l
 |.av k l,.gen []=>.av k l
 |.av k l,.gen es=>match k.Bg es with|some m=>.av k (l++m)|none=>.gen ((ao.av k l).l++es)
 |E,F=>.gen (E.l++F.l)
def ao.rep(n:Nat):List D->ao
 |[.int k v]=>.ints k (cQ n v)
 |[.bool b]=>.bo (cQ n b)
 |z=>.gen (cQ n z)
def ao.FU(t n:Nat)(z:List D):ao:=
 match RK.Nl t with
 |some k=>match k.dec z with|some x=>.av k (cQ n x)|none=>ao.rep n z
 |none=>ao.rep n z
def ao.QX(k:IntKind):List (List D)->Option (List Int)
 |[]=>some []
 |[.int k' v]::l=>match decide (k'=k),ao.QX k l with|true,some m=>some (v::m)|_,_=>none
 |_=>none
def ao.QY:List (List D)->Option (List Bool)
 |[]=>some []
 |[.bool b]::l=>match ao.QY l with|some m=>some (b::m)|none=>none
 |_=>none
def ao.Vf:List (List D)->ao
 |[.int k v]::l=>match ao.QX k l with|some m=>.ints k (v::m)|none=>.gen ([.int k v]::l)
 |[.bool b]::l=>match ao.QY l with|some m=>.bo (b::m)|none=>.gen ([.bool b]::l)
 |l=>.gen l
def ao.ofT(t:Nat)(es:List (List D)):ao:=
 match RK.Nl t with
 |some k=>match k.Bg es with|some l=>.av k l|none=>ao.Vf es
 |none=>ao.Vf es
@[simp] theorem ao.iw:∀(E:ao),E.l.length=E.len
 |.gen es=>rfl
 |.ints k l=>by simp[ao.l,ao.len]
 |.bo l=>by simp[ao.l,ao.len]
 |.av k l=>by simp[ao.l,ao.len]
theorem ao.nq:∀(E:ao) {i:Nat},i<E.len->E.l.getD i []=E.get i
 |.gen es,i,_=>rfl
 |.ints k l,i,h=>by simp only[ao.len]at h;simp[ao.l,ao.get,aK,h]
 |.bo l,i,h=>by simp only[ao.len]at h;simp[ao.l,ao.get,aK,h]
 |.av k l,i,h=>by simp only[ao.len]at h;simp[ao.l,ao.get,aK,h]
theorem ao.iZ:∀(E:ao) (n:Nat),(E.take n).l=E.l.take n
 |.gen es,n=>rfl
 |.ints k l,n=>by simp[ao.l,ao.take]
 |.bo l,n=>by simp[ao.l,ao.take]
 |.av k l,n=>by simp[ao.l,ao.take]
theorem ao.kb:∀(E:ao) (n:Nat),(E.drop n).l=E.l.drop n
 |.gen es,n=>rfl
 |.ints k l,n=>by simp[ao.l,ao.drop]
 |.bo l,n=>by simp[ao.l,ao.drop]
 |.av k l,n=>by simp[ao.l,ao.drop]
theorem ao.QK:∀(E:ao) (i:Nat) (cs:List D),(E.set i cs).l=E.l.set i cs
 |.gen es,i,cs=>rfl
 |.ints k l,i,cs=>by
  simp only[ao.set,ao.QV]
  split
  ·split
   ·rename_i h
    have:=oY h
    subst this
    simp[ao.l,gT]
   ·rfl
  ·rfl
 |.bo l,i,cs=>by
  simp only[ao.set,ao.QW]
  split
  ·simp[ao.l,gT]
  ·rfl
 |.av k l,i,cs=>by
  simp only[ao.set]
  split
  ·rename_i x h
   rw[RK.oF h]
   simp[ao.l,gT]
  ·rfl
theorem ao.jX(E F:ao):(E.app F).l=E.l++F.l:=by
 cases E with
 |gen es=>
  cases es with
  |nil=>cases F<;>simp[ao.app,ao.l]
  |cons e es=>cases F<;>simp[ao.app,ao.l]
 |ints k l=>
  cases F with
  |ints k' m=>
   simp only[ao.app]
   split
   ·rename_i h
    have:=oY h
    subst this
    simp[ao.l]
   ·rfl
  |gen es=>cases es<;>simp[ao.app,ao.l]
  |_=>simp[ao.app,ao.l]
 |bo l=>
  cases F with
  |gen es=>cases es<;>simp[ao.app,ao.l]
  |_=>simp[ao.app,ao.l]
 |av k l=>
  cases F with
  |av k' m=>
   simp only[ao.app]
   split
   ·rename_i m' h
    obtain⟨e,hm⟩:=Ws h
    subst e
    simp only at hm
    subst hm
    simp[ao.l]
   ·rfl
  |gen es=>
   cases es with
   |nil=>simp[ao.app,ao.l]
   |cons e es=>
    simp only[ao.app]
    split
    ·rename_i m h
     have h2:=RK.nh h
     simp only[ao.l,h2,List.map_append]
    ·rfl
  |_=>simp[ao.app,ao.l]
theorem ao.HO(n:Nat)(z:List D):(ao.rep n z).l=cQ n z:=by
 unfold ao.rep
 split<;>simp[ao.l]
theorem ao.uR(t n:Nat)(z:List D):(ao.FU t n z).l=cQ n z:=by
 unfold ao.FU
 split
 ·split
  ·rename_i x h
   rw[RK.oF h]
   simp[ao.l]
  ·exact ao.HO n z
 ·exact ao.HO n z
theorem ao.HP{k:IntKind}:∀{es:List (List D)} {l:List Int},ao.QX k es=some l->es=l.map λn=>[.int k n]
 |[],l,h=>by simp[ao.QX]at h;subst h;rfl
 |e ::es,l,h=>by
  unfold ao.QX at h
  split at h
  ·rename_i h0;cases h0
  ·rename_i k' v l' h0
   cases h0
   split at h
   ·rename_i m h1 h2
    cases h
    have:=oY h1
    subst this
    rw[ao.HP h2];rfl
   ·cases h
  ·cases h
theorem ao.HQ:∀{es:List (List D)} {l:List Bool},ao.QY es=some l->es=l.map λn=>[.bool n]
 |[],l,h=>by simp[ao.QY]at h;subst h;rfl
 |e ::es,l,h=>by
  unfold ao.QY at h
  split at h
  ·rename_i h0;cases h0
  ·rename_i v l' h0
   cases h0
   split at h
   ·rename_i m h2
    cases h
    rw[ao.HQ h2];rfl
   ·cases h
  ·cases h
theorem ao.HR(es:List (List D)):(ao.Vf es).l=es:=by
 unfold ao.Vf
 split
 ·split
  ·rename_i m h;rw[ao.HP h];rfl
  ·rfl
 ·split
  ·rename_i m h;rw[ao.HQ h];rfl
  ·rfl
 ·rfl
theorem ao.Da(t:Nat)(es:List (List D)):(ao.ofT t es).l=es:=by
 unfold ao.ofT
 split
 ·split
  ·rename_i l h;exact(RK.nh h).symm
  ·exact ao.HR es
 ·exact ao.HR es
theorem ao.toI_l{k:IntKind}{E:ao}{l:List Int}(h:E.toI k=some l):E.l=(ao.ints k l).l:=by
 unfold ao.toI at h
 split at h
 ·split at h
  ·rename_i hk
   cases h
   rw[oY hk]
  ·cases h
 ·cases h;rfl
 ·cases h
theorem ao.toB_l{E:ao}{l:List Bool}(h:E.toB=some l):E.l=(ao.bo l).l:=by
 unfold ao.toB at h
 split at h
 ·cases h;rfl
 ·cases h;rfl
 ·cases h
theorem ao.toR_l{k:RK}{E:ao}{l:List (RK.T k)}(h:E.toR k=some l):E.l=(ao.av k l).l:=by
 unfold ao.toR at h
 split at h
 ·obtain⟨e,hm⟩:=Ws h
  subst e
  simp only at hm
  subst hm
  rfl
 ·cases h;rfl
 ·cases h
structure Row where
 box:Bool
 ty:TypeId
 sz:Nat
 es:ao
 deriving Inhabited
abbrev ae:=Nat->Prop
def AE(n:Nat)(a:Option Addr):Prop:=∀x,a=some x->x.block<n
theorem AE.mono{m n:Nat}{a:Option Addr}(h:AE m a)(g:m<=n):AE n a:=λx hx=>Nat.lt_of_lt_of_le (h x hx) g
theorem Nu{n:Nat}:AE n none:=λx hx=>by cases hx
mutual
inductive fy(I:ae)(w:World):D->Value->Prop
 |bool (b:Bool):fy I w (.bool b) (.bool b)
 |int (k:IntKind) (n:Int):fy I w (.int k n) (.int k n)
 |str (s:List UInt8):fy I w (.str s) (.string ⟨s.toArray⟩)
 |iM:fy I w .iM (.pointer none)
 |du:fy I w .du (.slice none 0 0)
 |emp (a:Option Addr):fy I w .emp (.slice a 0 0)
 |UE (sz:Nat) (es:ao) (fr:Bool) (a:Option Addr) (cap:Nat) (h:es.l=[]):fy I w (.sl sz es fr) (.slice a es.l.length cap)
 |UF (sz:Nat) (es:ao) (fr:Bool) (cap:Nat) (hc:es.l.length<=cap) (b off:Nat) (arr:Array Value) (ty:TypeId) (fz:Nat×Nat) (hI:I b) (hh:w.heap[b]?=some (.cells arr ty fz)) (hE:iJ I w es.l arr off sz):
  fy I w (.sl sz es fr) (.slice (some ⟨b,off,none⟩) es.l.length cap)
inductive nQ(I:ae)(w:World):List D->Array Value->Nat->Prop
 |nil (arr:Array Value) (off:Nat):nQ I w [] arr off
 |cons (c:D) (cs:List D) (arr:Array Value) (off:Nat) (v:Value) (hv:arr[off]?=some v) (hp:fy I w c v) (hr:nQ I w cs arr (off+1)):nQ I w (c::cs) arr off
inductive iJ(I:ae)(w:World):List (List D)->Array Value->Nat->Nat->Prop
 |nil (arr:Array Value) (off sz:Nat):iJ I w [] arr off sz
 |cons (e:List D) (es:List (List D)) (arr:Array Value) (off sz:Nat) (hl:e.length=sz) (hc:nQ I w e arr off) (hr:iJ I w es arr (off+sz) sz):iJ I w (e::es) arr off sz
end
abbrev QZ(I:ae)(w:World)(E:ao)(arr:Array Value)(off sz:Nat):Prop:=iJ I w E.l arr off sz
theorem S0{I:ae}{w:World}{E:ao}{arr:Array Value}{off sz:Nat}:QZ I w E arr off sz↔iJ I w E.l arr off sz:=Iff.rfl
section
variable {I:ae} {w:World} {v:Value}
theorem sr{b:Bool}:fy I w (.bool b) v↔v=.bool b:=⟨λh=>by cases h;rfl,λh=>by subst h;exact .bool b⟩
theorem rP{k:IntKind}{n:Int}:fy I w (.int k n) v↔v=.int k n:=⟨λh=>by cases h;rfl,λh=>by subst h;exact .int k n⟩
theorem ss{s:List UInt8}:fy I w (.str s) v↔v=.string ⟨s.toArray⟩:=⟨λh=>by cases h;rfl,λh=>by subst h;exact .str s⟩
theorem su:fy I w .iM v↔v=.pointer none:=⟨λh=>by cases h;rfl,λh=>by subst h;exact .iM⟩
theorem sw:fy I w .du v↔v=.slice none 0 0:=⟨λh=>by cases h;rfl,λh=>by subst h;exact .du⟩
theorem sx:fy I w .emp v↔ ∃a,v=.slice a 0 0:=⟨λh=>by cases h;exact⟨_,rfl⟩,fun⟨a,h⟩=>by subst h;exact .emp a⟩
theorem tD{sz:Nat}{es:ao}{fr:Bool}:fy I w (.sl sz es fr) v↔ ∃a cap,v=.slice a es.l.length cap/\es.l.length<=cap/\
 (es.l=[]\/∃b off arr ty fz,a=some ⟨b,off,none⟩/\I b/\w.heap[b]?=some (.cells arr ty fz)/\QZ I w es arr off sz):=by
 constructor
 ·intro h
  cases h with
  |UE sz es fr a cap h=>exact⟨a,cap,rfl,by rw[h];exact Nat.zero_le _,.inl h⟩
  |UF sz es fr cap hc b off arr ty fz hI hh hE=>exact⟨_,cap,rfl,hc,.inr ⟨b,off,arr,ty,fz,rfl,hI,hh,hE⟩⟩
 ·rintro⟨a,cap,rfl,hc,h|⟨b,off,arr,ty,fz,rfl,hI,hh,hE⟩⟩
  ·exact .UE sz es fr a cap h
  ·exact .UF sz es fr cap hc b off arr ty fz hI hh hE
theorem tZ{r:Nat}:fy I w (.all r) v↔False:=⟨(λh=>nomatch h),False.elim⟩
theorem ua{r o n:Nat}:fy I w (.own r o n) v↔False:=⟨(λh=>nomatch h),False.elim⟩
theorem ub{r i o:Nat}:fy I w (.ptr r i o) v↔False:=⟨(λh=>nomatch h),False.elim⟩
theorem uc{r i o l:Nat}{k:Option IntKind}{n:Nat}:fy I w (.pa r i o l k n) v↔False:=⟨(λh=>nomatch h),False.elim⟩
theorem ud{sz:Nat}{es:ao}{i o:Nat}:fy I w (.iu sz es i o) v↔False:=⟨(λh=>nomatch h),False.elim⟩
theorem ue:fy I w .dead v↔False:=⟨(λh=>nomatch h),False.elim⟩
theorem uf{es:ao}:fy I w (.pY es) v↔False:=⟨(λh=>nomatch h),False.elim⟩
theorem vS{f:Nat}{cs:List iv}:fy I w (.gq f cs) v↔False:=⟨(λh=>nomatch h),False.elim⟩
theorem Zq1{r:Nat}:fy I w (.c8 r) v↔False:=⟨(λh=>nomatch h),False.elim⟩
theorem Zol:fy I w .jJ v↔False:=⟨(λh=>nomatch h),False.elim⟩
theorem ug{cs:List D}:fy I w (.agg cs) v↔False:=⟨(λh=>nomatch h),False.elim⟩
theorem uh{cs:List D}:fy I w (.dt cs) v↔False:=⟨(λh=>nomatch h),False.elim⟩
theorem BP{arr:Array Value}{off:Nat}:nQ I w [] arr off↔True:=⟨λ_=>trivial,λ_=>.nil arr off⟩
theorem Aq{c:D}{cs:List D}{arr:Array Value}{off:Nat}:nQ I w (c::cs) arr off↔(∃v,arr[off]?=some v/\fy I w c v)/\nQ I w cs arr (off+1):=
 ⟨λh=>by cases h with|cons _ _ _ _ v hv hp hr=>exact⟨⟨v,hv,hp⟩,hr⟩,fun⟨⟨v,hv,hp⟩,hr⟩=>.cons c cs arr off v hv hp hr⟩
theorem pN{arr:Array Value}{off sz:Nat}:iJ I w [] arr off sz↔True:=⟨λ_=>trivial,λ_=>.nil arr off sz⟩
theorem oi{e:List D}{es:List (List D)}{arr:Array Value}{off sz:Nat}:iJ I w (e::es) arr off sz↔e.length=sz/\nQ I w e arr off/\iJ I w es arr (off+sz) sz:=
 ⟨λh=>by cases h with|cons _ _ _ _ _ hl hc hr=>exact⟨hl,hc,hr⟩,fun⟨hl,hc,hr⟩=>.cons e es arr off sz hl hc hr⟩
end
structure Ctx where
 ρ:Nat->Nat
 R:Nat->Option Row
 V:Nat->Prop
 I:ae
 base:Nat
 top:Nat
 X:ae
def Vg(c:Ctx)(r:Nat)(a:Option Addr):Prop:=AE c.top a\/(¬c.V r/\∀x,a=some x->x.block=c.ρ r)
theorem Vg.mono{c c':Ctx}{r r':Nat}{a:Option Addr}(h:Vg c r a)(g:c.top<=c'.top)(hV:c'.V r'↔c.V r)(P3:c'.ρ r'=c.ρ r):Vg c' r' a:=
 h.imp (λh=>h.mono g) fun⟨p,q⟩=>⟨λe=>p (hV.1 e),λx hx=>(q x hx).trans P3.symm⟩
def J4(c:Ctx)(p:Nat×Nat×Nat)(v:Value):Prop:=∃row,c.R p.1=some row/\¬c.V p.1/\p.2.1<row.es.l.length/\v=.pointer (some ⟨c.ρ p.1,p.2.1*row.sz+p.2.2,none⟩)
def MH(c:Ctx):List (Nat×Nat×Nat)->List Value->Prop
 |[],[]=>True
 |p::ps,v::vs=>J4 c p v/\MH c ps vs
 |_,_=>False
def P8(f:Nat)(us:List Value)(rec:Loop):Prop:=
 rec.state=.ready/\rec.pending=none/\∃y,FV f=some y/\rec.params=y.ps/\rec.assign=y.assign/\rec.body=y.body/\y.n<=rec.tmps.size/\y.ps.size=1/\us=y.ts.map λt=>rec.tmps.getD t undef
def r7(c:Ctx)(w:World)(f:Nat)(us:List Value)(v:Value):Prop:=
 (f<YB/\v=.func (.func f) #[] us.toArray)\/(YB<=f/\∃l rec,v=.func (.yield l) #[] #[]/\c.I l/\w.heap[l]?=some (.loop rec)/\P8 f us rec)
def SI(c:Ctx)(w:World):iv->Value->Prop
 |.ptr r i off,v=>∃row,c.R r=some row/\¬c.V r/\i<row.es.l.length/\v=.pointer (some ⟨c.ρ r,i*row.sz+off,none⟩)
 |.int k n,v=>v=.int k n
 |.arr r,v=>∃row,c.R r=some row/\row.box=false/\((c.V r/\∃a,v=.slice a 0 0/\AE c.top a)\/(¬c.V r/\∃cap arr,v=.slice (some ⟨c.ρ r,0,none⟩) row.es.l.length cap/\row.es.l.length<=cap/\cap<=maxLen/\
  w.heap[c.ρ r]?=some (.cells arr row.ty (0,0))/\cap*row.sz=arr.size))
 |.sl sz es fr,v=>∃a cap,v=.slice a es.l.length cap/\es.l.length<=cap/\
  (es.l=[]\/∃b off arr ty fz,a=some ⟨b,off,none⟩/\c.I b/\(fr=true->c.base<=b)/\w.heap[b]?=some (.cells arr ty fz)/\iJ c.I w es.l arr off sz)
 |.fn f ps,v=>∃us:List Value,r7 c w f us v/\MH c ps us
def oM(c:Ctx)(w:World):List iv->List Value->Prop
 |[],[]=>True
 |x::xs,v::vs=>SI c w x v/\oM c w xs vs
 |_,_=>False
def cv(c:Ctx)(w:World):D->Value->Prop
 |.sl sz es fr,v=>∃a cap,v=.slice a es.l.length cap/\es.l.length<=cap/\
  (es.l=[]\/∃b off arr ty fz,a=some ⟨b,off,none⟩/\c.I b/\(fr=true->c.base<=b)/\w.heap[b]?=some (.cells arr ty fz)/\iJ c.I w es.l arr off sz)
 |.all r,v=>∃row,c.R r=some row/\row.box=false/\((c.V r/\∃a,v=.slice a 0 0/\AE c.top a)\/(¬c.V r/\∃cap arr,v=.slice (some ⟨c.ρ r,0,none⟩) row.es.l.length cap/\row.es.l.length<=cap/\cap<=maxLen/\
  w.heap[c.ρ r]?=some (.cells arr row.ty (0,0))/\cap*row.sz=arr.size))
 |.own r o n,v=>∃row,c.R r=some row/\row.box=false/\o+n<=row.es.l.length/\((n=0/\∃a,v=.slice a 0 0/\Vg c r a)\/(¬c.V r/\∃cap arr,n<=cap/\cap<=maxLen/\
  w.heap[c.ρ r]?=some (.cells arr row.ty (0,0))/\v=.slice (some ⟨c.ρ r,o*row.sz,none⟩) n cap/\(o+cap)*row.sz=arr.size))
 |.ptr r i off,v=>∃row,c.R r=some row/\¬c.V r/\i<row.es.l.length/\v=.pointer (some ⟨c.ρ r,i*row.sz+off,none⟩)
 |.pa r i off len _ n,v=>n<len/\∃row,c.R r=some row/\¬c.V r/\i<row.es.l.length/\v=.pointer (some ⟨c.ρ r,i*row.sz+(off+n),none⟩)
 |.iu sz es i off,v=>∃b o arr ty fz,v=.pointer (some ⟨b,o+i*sz+off,none⟩)/\c.I b/\i<es.l.length/\w.heap[b]?=some (.cells arr ty fz)/\iJ c.I w es.l arr o sz
 |.dead,v=>v.oneCell'=true
 |.bool b,v=>v=.bool b
 |.int k n,v=>v=.int k n
 |.str s,v=>v=.string ⟨s.toArray⟩
 |.iM,v=>v=.pointer none
 |.du,v=>v=.slice none 0 0
 |.emp,v=>∃a,v=.slice a 0 0/\AE c.top a
 |.pY es,v=>∃b,v=.bool b/\(b=true->es.l=[])
 |.c8 r,v=>v=.pointer none\/∃row,c.R r=some row/\¬c.V r/\0<row.es.l.length/\v=.pointer (some ⟨c.ρ r,0*row.sz+0,none⟩)
 |.jJ,v=>v=.nilIface
 |.gq f cs,v=>∃us:List Value,r7 c w f us v/\oM c w cs us
 |.agg _,_=>False
 |.dt _,_=>False
theorem Zhq{c:Ctx}{w:World}:∀{ps:List (Nat×Nat×Nat)} {vs:List Value},MH c ps vs↔oM c w (ps.map Ik) vs
 |[],[]=>Iff.rfl
 |p::ps,v::vs=>by simp only[MH,List.map_cons,oM];rw[Zhq (ps:=ps)];exact Iff.rfl
 |[],_::_=>Iff.rfl
 |_::_,[]=>Iff.rfl
theorem Wv{c:Ctx}{w:World}{x:iv}{v:Value}:SI c w x v↔cv c w x.d v:=by
 cases x with
 |fn f ps=>simp only[SI,iv.d,cv,Zhq (w:=w)]
 |_=>exact Iff.rfl
def jm(c:Ctx)(w:World):List D->List Value->Prop
 |[],[]=>True
 |d::ds,v::vs=>cv c w d v/\jm c w ds vs
 |_,_=>False
def VRep(c:Ctx)(w:World):D->Value->Prop
 |.agg cs,v=>∃vs,v=.agg vs.toArray/\jm c w cs vs
 |d,v=>cv c w d v
def j8(c:Ctx)(w:World):List D->List Value->Prop
 |[],[]=>True
 |d::ds,v::vs=>VRep c w d v/\j8 c w ds vs
 |_,_=>False
def Rep(c:Ctx)(w:World):D->Value->Prop
 |.dt ds,v=>∃vs,v=.tuple vs.toArray/\j8 c w ds vs
 |.dead,_=>True
 |d,v=>VRep c w d v
def kK(c:Ctx)(w:World):List D->Array Value->Nat->Prop
 |[],_,_=>True
 |d::ds,arr,off=>(∃v,arr[off]?=some v/\cv c w d v)/\kK c w ds arr (off+1)
def wZ(c:Ctx)(w:World)(r:Nat)(row:Row):Prop:=
 ∃ arr,w.heap[c.ρ r]?=some (.cells arr row.ty (0,0))/\0<row.sz/\
  if row.box then∃e,row.es=.gen [e]/\e.length=row.sz/\arr.size=row.sz/\kK c w e arr 0
  else iJ c.I w row.es.l arr 0 row.sz
def EM(c:Ctx)(w:World)(r:Nat)(row:Row):Prop:=
 (c.V r/\row.box=false/\row.es.l=[]/\0<row.sz)\/(¬c.V r/\wZ c w r row)

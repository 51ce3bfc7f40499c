import Derived.Test.YthjfindbamdacaaGreatDoorAuditAcceptsFa
open Nat renaming blt->bJ,beq->bT
open Bool renaming not_eq_true'->aS
open List renaming getD->aK,replicate->cQ,map_set->gR
set_option linter.all false
namespace Go.GD
open Go
variable {a:Option Addr}{arr:Array Value}{cs:List D}{i n o off r sz:Nat}{k:IntKind}{w:World}
structure YK where
 ts:List Nat
 ps:Array Tmp
 assign:Code
 body:Code
 n:Nat
def YB:Nat:=1000000000
def KL:List (Nat×IntKind×List Int):=[(0,.u8,[0,1,28,2,29,14,24,3,30,22,20,15,25,17,4,8,31,27,13,23,21,19,16,7,26,12,18,6,11,5,10,9]),(1,.u64,[1,10,100,1000,10000,100000,1000000,10000000,100000000,1000000000,10000000000,100000000000,1000000000000,10000000000000,100000000000000,1000000000000000,10000000000000000,100000000000000000,1000000000000000000,10000000000000000000])]
def YK.pos(y:YK):Option Nat:=
 match y.ps.toList,y.assign with
 |[p],.skip=>match bJ p y.n&&y.ts.all λt=>!(bT t p)&&bJ t y.n with|true=>some p|false=>none
 |[p],.region _ ops false=>match ops.toList with
  |[⟨some d,.assign (.tmp q),_,_,_,none⟩]=>match bT q p&&(bJ p y.n&&bJ d y.n)&&y.ts.all λt=>!(bT t p)&&!(bT t d)&&bJ t y.n with|true=>some d|false=>none
  |_=>none
 |_,_=>none
def yTs(f:Nat):List Nat:=[]
noncomputable def Gj (f:Nat):Option YK:=none
def Kl:CT->D->Bool
 |.int k,.int j _=>decide (j=k)
 |.bool,.bool _=>true
 |.str,.str _=>true
 |.ints k,.sl s (.ints j _) fr=>bT s 1&&(decide (j=k)&&!fr)
 |.bw,.sl s (.bw _) fr=>bT s 1&&!fr
 |.ax k,.sl s (.ax j _) fr=>bT s k.size&&(decide (j=k)&&!fr)
 |.row i,.all r=>bT r i
 |_,_=>false
def Bq:List CT->List D->Bool
 |[],[]=>true
 |t::ts,d::ds=>Kl t d&&Bq ts ds
 |_,_=>false
theorem xy{t:CT}{d:D}(h:Kl t d=true):DZ t d=d:=by
 unfold Kl at h
 split at h
 ·simp at h;subst h;rfl
 ·rfl
 ·rfl
 ·obtain⟨h1,h2⟩:=Bool.and_eq_true_iff.1 h
  obtain⟨h2,h3⟩:=Bool.and_eq_true_iff.1 h2
  have h1:=bE h1
  have h2:=oY h2
  rw[aS]at h3
  subst h1;subst h2;subst h3
  simp[DZ,nI,ak.toI]
 ·obtain⟨h1,h3⟩:=Bool.and_eq_true_iff.1 h
  have h1:=bE h1
  rw[aS]at h3
  subst h1;subst h3
  simp[DZ,S1,ak.toB]
 ·obtain⟨h1,h2⟩:=Bool.and_eq_true_iff.1 h
  obtain⟨h2,h3⟩:=Bool.and_eq_true_iff.1 h2
  have h1:=bE h1
  have h2:=oY h2
  rw[aS]at h3
  subst h1;subst h2;subst h3
  simp[DZ,sJ,ak.toR,Zbt]
 ·rw[bE h];rfl
 ·cases h
theorem Zio:∀{ts:List CT} {pre ds:List D},Bq ts ds=true->wE ts (pre++ds) pre.length=ds
 |[],pre,[],_=>rfl
 |t::ts,pre,d::ds,h=>by
  simp only[Bq,aE]at h
  have h2:=Zio (pre:=pre++[d]) h.2
  have h3:(pre++d::ds).getD pre.length .dead=d:=by simp[aK]
  simp only[wE,h3,xy h.1]
  congr 1
  simpa using h2
 |[],_,_::_,h=>by simp[Bq]at h
 |_::_,_,[],h=>by simp[Bq]at h
theorem Z0x:∀{ts:List CT} {cs:List D} {j:Nat},(wE ts cs j).length=ts.length
 |[],_,_=>rfl
 |t::ts,cs,j=>by simp[wE,Z0x]
def RK.dec(k:RK)(cs:List D):Option (RK.T k):=match Bq k.sig cs with|true=>some (k.of cs)|false=>none
theorem RK.oQ{k:RK}{x:RK.T k}(h:k.dec cs=some x):cs=k.cells x:=by
 unfold RK.dec at h
 split at h
 ·rename_i hf
  cases h
  have:=Zio (pre:=[]) hf
  simp only[List.nil_append,List.length_nil]at this
  rw[RK.BZ,this]
 ·cases h
theorem RK.rS(k:RK)(x:RK.T k):(k.cells x).length=k.size:=by
 rw[<-RK.ot,Z0x,RK.uj]
def RK.Br(k:RK):List (List D)->Option (List (RK.T k))
 |[]=>some []
 |e::es=>match k.dec e,RK.Br k es with|some x,some l=>some (x::l)|_,_=>none
theorem RK.nt{k:RK}:∀{es:List (List D)} {l:List (RK.T k)},k.Br es=some l->es=l.map k.cells
 |[],l,h=>by simp[RK.Br]at h;subst h;rfl
 |e ::es,l,h=>by
  simp only[RK.Br]at h
  split at h
  ·rename_i x m h1 h2
   cases h
   rw[RK.oQ h1,RK.nt h2];rfl
  ·cases h
def ak.l:ak->List (List D)
 |.gen es=>es
 |.ints k l=>l.map λn=>[.int k n]
 |.bw l=>l.map λb=>[.bool b]
 |.ax k l=>l.map k.cells
def ak.len:ak->Nat
 |.gen es=>es.length
 |.ints _ l=>l.length
 |.bw l=>l.length
 |.ax _ l=>l.length
def ak.get:ak->Nat->List D
 |.gen es,i=>es.getD i []
 |.ints k l,i=>[.int k (l.getD i 0)]
 |.bw l,i=>[.bool (l.getD i false)]
 |.ax k l,i=>k.cells (l.getD i k.cw)
def ak.take:ak->Nat->ak
 |.gen es,n=>.gen (es.take n)
 |.ints k l,n=>.ints k (l.take n)
 |.bw l,n=>.bw (l.take n)
 |.ax k l,n=>.ax k (l.take n)
def ak.drop:ak->Nat->ak
 |.gen es,n=>.gen (es.drop n)
 |.ints k l,n=>.ints k (l.drop n)
 |.bw l,n=>.bw (l.drop n)
 |.ax k l,n=>.ax k (l.drop n)
def ak.Rr(k:IntKind)(l:List Int)(i:Nat)(cs:List D):ak:=
 match cs with
 |[.int k' v]=>match decide (k'=k)with|true=>.ints k (l.set i v)|false=>.gen ((ak.ints k l).l.set i cs)
 |_=>.gen ((ak.ints k l).l.set i cs)
def ak.Rs(l:List Bool)(i:Nat)(cs:List D):ak:=
 match cs with
 |[.bool v]=>.bw (l.set i v)
 |_=>.gen ((ak.bw l).l.set i cs)
def ak.set:ak->Nat->List D->ak
 |.gen es,i,cs=>.gen (es.set i cs)
 |.ints k l,i,cs=>ak.Rr k l i cs
 |.bw l,i,cs=>ak.Rs l i cs
 |.ax k l,i,cs=>match k.dec cs with|some x=>.ax k (l.set i x)|none=>.gen ((ak.ax k l).l.set i cs)
def ak.app:ak->ak->ak
 |.gen [],F=>F
 |.ints k l,.ints k' m=>match decide (k'=k)with|true=>.ints k (l++m)|false=>.gen ((ak.ints k l).l++(ak.ints k' m).l)
 |.bw l,.bw m=>.bw (l++m)
 |.ax k l,.ax k' m=>match Gz k' k m with|some m'=>.ax k (l++m')|none=>.gen ((ak.ax k l).l++(ak.ax k' m).l)
 |.ints k l,.gen []=>.ints k l
 |.bw l,.gen []=>.bw l
 |.ax k l,.gen []=>.ax k l
 |.ax k l,.gen es=>match k.Br es with|some m=>.ax k (l++m)|none=>.gen ((ak.ax k l).l++es)
 |E,F=>.gen (E.l++F.l)
def ak.rep(n:Nat):List D->ak
 |[.int k v]=>.ints k (cQ n v)
 |[.bool b]=>.bw (cQ n b)
 |z=>.gen (cQ n z)
def ak.Gi(t n:Nat)(z:List D):ak:=
 match RK.NG t with
 |some k=>match k.dec z with|some x=>.ax k (cQ n x)|none=>ak.rep n z
 |none=>ak.rep n z
def ak.Rt(k:IntKind):List (List D)->Option (List Int)
 |[]=>some []
 |[.int k' v]::l=>match decide (k'=k),ak.Rt k l with|true,some m=>some (v::m)|_,_=>none
 |_=>none
def ak.Ru:List (List D)->Option (List Bool)
 |[]=>some []
 |[.bool b]::l=>match ak.Ru l with|some m=>some (b::m)|none=>none
 |_=>none
def ak.Vz:List (List D)->ak
 |[.int k v]::l=>match ak.Rt k l with|some m=>.ints k (v::m)|none=>.gen ([.int k v]::l)
 |[.bool b]::l=>match ak.Ru l with|some m=>.bw (b::m)|none=>.gen ([.bool b]::l)
 |l=>.gen l
def ak.ofT(t:Nat)(es:List (List D)):ak:=
 match RK.NG t with
 |some k=>match k.Br es with|some l=>.ax k l|none=>ak.Vz es
 |none=>ak.Vz es
@[simp] theorem ak.iy:∀(E:ak),E.l.length=E.len
 |.gen es=>rfl
 |.ints k l=>by simp[ak.l,ak.len]
 |.bw l=>by simp[ak.l,ak.len]
 |.ax k l=>by simp[ak.l,ak.len]
theorem ak.nz:∀(E:ak) {i:Nat},i<E.len->E.l.getD i []=E.get i
 |.gen es,i,_=>rfl
 |.ints k l,i,h=>by simp only[ak.len]at h;simp[ak.l,ak.get,aK,h]
 |.bw l,i,h=>by simp only[ak.len]at h;simp[ak.l,ak.get,aK,h]
 |.ax k l,i,h=>by simp only[ak.len]at h;simp[ak.l,ak.get,aK,h]
theorem ak.je:∀(E:ak) (n:Nat),(E.take n).l=E.l.take n
 |.gen es,n=>rfl
 |.ints k l,n=>by simp[ak.l,ak.take]
 |.bw l,n=>by simp[ak.l,ak.take]
 |.ax k l,n=>by simp[ak.l,ak.take]
theorem ak.kC:∀(E:ak) (n:Nat),(E.drop n).l=E.l.drop n
 |.gen es,n=>rfl
 |.ints k l,n=>by simp[ak.l,ak.drop]
 |.bw l,n=>by simp[ak.l,ak.drop]
 |.ax k l,n=>by simp[ak.l,ak.drop]
theorem ak.Rg:∀(E:ak) (i:Nat) (cs:List D),(E.set i cs).l=E.l.set i cs
 |.gen es,i,cs=>rfl
 |.ints k l,i,cs=>by
  simp only[ak.set,ak.Rr]
  split
  ·split
   ·rename_i h
    have:=oY h
    subst this
    simp[ak.l,gR]
   ·rfl
  ·rfl
 |.bw l,i,cs=>by
  simp only[ak.set,ak.Rs]
  split
  ·simp[ak.l,gR]
  ·rfl
 |.ax k l,i,cs=>by
  simp only[ak.set]
  split
  ·rename_i x h
   rw[RK.oQ h]
   simp[ak.l,gR]
  ·rfl
theorem ak.j9(E F:ak):(E.app F).l=E.l++F.l:=by
 cases E with
 |gen es=>
  cases es with
  |nil=>cases F<;>simp[ak.app,ak.l]
  |cons e es=>cases F<;>simp[ak.app,ak.l]
 |ints k l=>
  cases F with
  |ints k' m=>
   simp only[ak.app]
   split
   ·rename_i h
    have:=oY h
    subst this
    simp[ak.l]
   ·rfl
  |gen es=>cases es<;>simp[ak.app,ak.l]
  |_=>simp[ak.app,ak.l]
 |bw l=>
  cases F with
  |gen es=>cases es<;>simp[ak.app,ak.l]
  |_=>simp[ak.app,ak.l]
 |ax k l=>
  cases F with
  |ax k' m=>
   simp only[ak.app]
   split
   ·rename_i m' h
    obtain⟨e,hm⟩:=WR h
    subst e
    simp only at hm
    subst hm
    simp[ak.l]
   ·rfl
  |gen es=>
   cases es with
   |nil=>simp[ak.app,ak.l]
   |cons e es=>
    simp only[ak.app]
    split
    ·rename_i m h
     have h2:=RK.nt h
     simp only[ak.l,h2,List.map_append]
    ·rfl
  |_=>simp[ak.app,ak.l]
theorem ak.H3(n:Nat)(z:List D):(ak.rep n z).l=cQ n z:=by
 unfold ak.rep
 split<;>simp[ak.l]
theorem ak.wa(t n:Nat)(z:List D):(ak.Gi t n z).l=cQ n z:=by
 unfold ak.Gi
 split
 ·split
  ·rename_i x h
   rw[RK.oQ h]
   simp[ak.l]
  ·exact ak.H3 n z
 ·exact ak.H3 n z
theorem ak.H4{k:IntKind}:∀{es:List (List D)} {l:List Int},ak.Rt k es=some l->es=l.map λn=>[.int k n]
 |[],l,h=>by simp[ak.Rt]at h;subst h;rfl
 |e ::es,l,h=>by
  unfold ak.Rt at h
  split at h
  ·rename_i h0;cases h0
  ·rename_i k' v l' h0
   cases h0
   split at h
   ·rename_i m h1 h2
    cases h
    have:=oY h1
    subst this
    rw[ak.H4 h2];rfl
   ·cases h
  ·cases h
theorem ak.H5:∀{es:List (List D)} {l:List Bool},ak.Ru es=some l->es=l.map λn=>[.bool n]
 |[],l,h=>by simp[ak.Ru]at h;subst h;rfl
 |e ::es,l,h=>by
  unfold ak.Ru at h
  split at h
  ·rename_i h0;cases h0
  ·rename_i v l' h0
   cases h0
   split at h
   ·rename_i m h2
    cases h
    rw[ak.H5 h2];rfl
   ·cases h
  ·cases h
theorem ak.H6(es:List (List D)):(ak.Vz es).l=es:=by
 unfold ak.Vz
 split
 ·split
  ·rename_i m h;rw[ak.H4 h];rfl
  ·rfl
 ·split
  ·rename_i m h;rw[ak.H5 h];rfl
  ·rfl
 ·rfl
theorem ak.Dv(t:Nat)(es:List (List D)):(ak.ofT t es).l=es:=by
 unfold ak.ofT
 split
 ·split
  ·rename_i l h;exact(RK.nt h).symm
  ·exact ak.H6 es
 ·exact ak.H6 es
theorem ak.toI_l{E:ak}{l:List Int}(h:E.toI k=some l):E.l=(ak.ints k l).l:=by
 unfold ak.toI at h
 split at h
 ·split at h
  ·rename_i hk
   cases h
   rw[oY hk]
  ·cases h
 ·cases h;rfl
 ·cases h
theorem ak.toB_l{E:ak}{l:List Bool}(h:E.toB=some l):E.l=(ak.bw l).l:=by
 unfold ak.toB at h
 split at h
 ·cases h;rfl
 ·cases h;rfl
 ·cases h
theorem ak.toR_l{k:RK}{E:ak}{l:List (RK.T k)}(h:E.toR k=some l):E.l=(ak.ax k l).l:=by
 unfold ak.toR at h
 split at h
 ·obtain⟨e,hm⟩:=WR h
  subst e
  simp only at hm
  subst hm
  rfl
 ·cases h;rfl
 ·cases h
structure Row where
 box:Bool
 ty:TypeId
 sz:Nat
 es:ak
 deriving Inhabited
abbrev ag:=Nat->Prop
def AP(n:Nat)(a:Option Addr):Prop:=∀x,a=some x->x.block<n
theorem AP.mono{m n:Nat}(h:AP m a)(g:m<=n):AP n a:=λx hx=>Nat.lt_of_lt_of_le (h x hx) g
theorem NN:AP n none:=λx hx=>by cases hx
mutual
inductive ga(I:ag)(w:World):D->Value->Prop
 |bool (b:Bool):ga I w (.bool b) (.bool b)
 |int (k:IntKind) (n:Int):ga I w (.int k n) (.int k n)
 |str (s:List UInt8):ga I w (.str s) (.string ⟨s.toArray⟩)
 |iO:ga I w .iO (.pointer none)
 |dx:ga I w .dx (.slice none 0 0)
 |emp (a:Option Addr):ga I w .emp (.slice a 0 0)
 |UZ (sz:Nat) (es:ak) (fr:Bool) (a:Option Addr) (cap:Nat) (h:es.l=[]):ga I w (.sl sz es fr) (.slice a es.l.length cap)
 |U0 (sz:Nat) (es:ak) (fr:Bool) (cap:Nat) (hc:es.l.length<=cap) (b off:Nat) (arr:Array Value) (ty:TypeId) (fz:Nat×Nat) (hI:I b) (hh:w.heap[b]?=some (.cells arr ty fz)) (hE:iK I w es.l arr off sz):
  ga I w (.sl sz es fr) (.slice (some ⟨b,off,none⟩) es.l.length cap)
inductive nZ(I:ag)(w:World):List D->Array Value->Nat->Prop
 |nil (arr:Array Value) (off:Nat):nZ I w [] arr off
 |cons (c:D) (cs:List D) (arr:Array Value) (off:Nat) (v:Value) (hv:arr[off]?=some v) (hp:ga I w c v) (hr:nZ I w cs arr (off+1)):nZ I w (c::cs) arr off
inductive iK(I:ag)(w:World):List (List D)->Array Value->Nat->Nat->Prop
 |nil (arr:Array Value) (off sz:Nat):iK I w [] arr off sz
 |cons (e:List D) (es:List (List D)) (arr:Array Value) (off sz:Nat) (hl:e.length=sz) (hc:nZ I w e arr off) (hr:iK I w es arr (off+sz) sz):iK I w (e::es) arr off sz
end
abbrev Rv(I:ag)(w:World)(E:ak)(arr:Array Value)(off sz:Nat):Prop:=iK I w E.l arr off sz
theorem Tm{I:ag}{E:ak}:Rv I w E arr off sz↔iK I w E.l arr off sz:=Iff.rfl
section
variable {I:ag} {w:World} {v:Value}
theorem sK{b:Bool}:ga I w (.bool b) v↔v=.bool b:=⟨λh=>by cases h;rfl,λh=>by subst h;exact .bool b⟩
theorem r7{n:Int}:ga I w (.int k n) v↔v=.int k n:=⟨λh=>by cases h;rfl,λh=>by subst h;exact .int k n⟩
theorem Q6{s:List UInt8}:ga I w (.str s) v↔v=.string ⟨s.toArray⟩:=⟨λh=>by cases h;rfl,λh=>by subst h;exact .str s⟩
theorem sL:ga I w .iO v↔v=.pointer none:=⟨λh=>by cases h;rfl,λh=>by subst h;exact .iO⟩
theorem Q4:ga I w .dx v↔v=.slice none 0 0:=⟨λh=>by cases h;rfl,λh=>by subst h;exact .dx⟩
theorem sM:ga I w .emp v↔ ∃a,v=.slice a 0 0:=⟨λh=>by cases h;exact⟨_,rfl⟩,fun⟨a,h⟩=>by subst h;exact .emp a⟩
theorem tN{es:ak}{fr:Bool}:ga I w (.sl sz es fr) v↔ ∃a cap,v=.slice a es.l.length cap/\es.l.length<=cap/\
 (es.l=[]\/∃b off arr ty fz,a=some ⟨b,off,none⟩/\I b/\w.heap[b]?=some (.cells arr ty fz)/\Rv I w es arr off sz):=by
 constructor
 ·intro h
  cases h with
  |UZ sz es fr a cap h=>exact⟨a,cap,rfl,by rw[h];exact Nat.zero_le _,.inl h⟩
  |U0 sz es fr cap hc b off arr ty fz hI hh hE=>exact⟨_,cap,rfl,hc,.inr ⟨b,off,arr,ty,fz,rfl,hI,hh,hE⟩⟩
 ·rintro⟨a,cap,rfl,hc,h|⟨b,off,arr,ty,fz,rfl,hI,hh,hE⟩⟩
  ·exact .UZ sz es fr a cap h
  ·exact .U0 sz es fr cap hc b off arr ty fz hI hh hE
theorem uq:ga I w (.all r) v↔False:=⟨(λh=>nomatch h),False.elim⟩
theorem ur:ga I w (.own r o n) v↔False:=⟨(λh=>nomatch h),False.elim⟩
theorem uv:ga I w (.ptr r i o) v↔False:=⟨(λh=>nomatch h),False.elim⟩
theorem uw{r i o l:Nat}{k:Option IntKind}:ga I w (.pa r i o l k n) v↔False:=⟨(λh=>nomatch h),False.elim⟩
theorem uy{es:ak}:ga I w (.iv sz es i o) v↔False:=⟨(λh=>nomatch h),False.elim⟩
theorem uz:ga I w .dead v↔False:=⟨(λh=>nomatch h),False.elim⟩
theorem uA{es:ak}:ga I w (.rz es) v↔False:=⟨(λh=>nomatch h),False.elim⟩
theorem yT{f:Nat}{cs:List iJ}:ga I w (.gq f cs) v↔False:=⟨(λh=>nomatch h),False.elim⟩
theorem Zt1:ga I w (.c9 r) v↔False:=⟨(λh=>nomatch h),False.elim⟩
theorem Zsi:ga I w .jP v↔False:=⟨(λh=>nomatch h),False.elim⟩
theorem uB:ga I w (.agg cs) v↔False:=⟨(λh=>nomatch h),False.elim⟩
theorem uD:ga I w (.dt cs) v↔False:=⟨(λh=>nomatch h),False.elim⟩
theorem Cb:nZ I w [] arr off↔True:=⟨λ_=>trivial,λ_=>.nil arr off⟩
theorem AE{c:D}:nZ I w (c::cs) arr off↔(∃v,arr[off]?=some v/\ga I w c v)/\nZ I w cs arr (off+1):=
 ⟨λh=>by cases h with|cons _ _ _ _ v hv hp hr=>exact⟨⟨v,hv,hp⟩,hr⟩,fun⟨⟨v,hv,hp⟩,hr⟩=>.cons c cs arr off v hv hp hr⟩
theorem pY:iK I w [] arr off sz↔True:=⟨λ_=>trivial,λ_=>.nil arr off sz⟩
theorem oz{e:List D}{es:List (List D)}:iK I w (e::es) arr off sz↔e.length=sz/\nZ I w e arr off/\iK I w es arr (off+sz) sz:=
 ⟨λh=>by cases h with|cons _ _ _ _ _ hl hc hr=>exact⟨hl,hc,hr⟩,fun⟨hl,hc,hr⟩=>.cons e es arr off sz hl hc hr⟩
end
structure Ctx where
 ρ:Nat->Nat
 R:Nat->Option Row
 V:Nat->Prop
 I:ag
 base:Nat
 top:Nat
 X:ag
def VA(c:Ctx)(r:Nat)(a:Option Addr):Prop:=AP c.top a\/(¬c.V r/\∀x,a=some x->x.block=c.ρ r)
theorem VA.mono{c c':Ctx}{r r':Nat}(h:VA c r a)(g:c.top<=c'.top)(hV:c'.V r'↔c.V r)(QP:c'.ρ r'=c.ρ r):VA c' r' a:=
 h.imp (λh=>h.mono g) fun⟨p,q⟩=>⟨λe=>p (hV.1 e),λx hx=>(q x hx).trans QP.symm⟩
def Km(c:Ctx)(p:Nat×Nat×Nat)(v:Value):Prop:=∃row,c.R p.1=some row/\¬c.V p.1/\p.2.1<row.es.l.length/\v=.pointer (some ⟨c.ρ p.1,p.2.1*row.sz+p.2.2,none⟩)
def M1(c:Ctx):List (Nat×Nat×Nat)->List Value->Prop
 |[],[]=>True
 |p::ps,v::vs=>Km c p v/\M1 c ps vs
 |_,_=>False
def QU(f:Nat)(us:List Value)(rec:Loop):Prop:=
 rec.state=.ready/\rec.pending=none/\∃y,Gj f=some y/\rec.params=y.ps/\rec.assign=y.assign/\rec.body=y.body/\y.n<=rec.tmps.size/\y.ps.size=1/\us=y.ts.map λt=>rec.tmps.getD t undef
def sw(c:Ctx)(w:World)(f:Nat)(us:List Value)(v:Value):Prop:=
 (f<YB/\v=.func (.func f) #[] us.toArray)\/(YB<=f/\∃l rec,v=.func (.yield l) #[] #[]/\c.I l/\w.heap[l]?=some (.loop rec)/\QU f us rec)
def S6(c:Ctx)(w:World):iJ->Value->Prop
 |.ptr r i off,v=>∃row,c.R r=some row/\¬c.V r/\i<row.es.l.length/\v=.pointer (some ⟨c.ρ r,i*row.sz+off,none⟩)
 |.int k n,v=>v=.int k n
 |.arr r,v=>∃row,c.R r=some row/\row.box=false/\((c.V r/\∃a,v=.slice a 0 0/\AP c.top a)\/(¬c.V r/\∃cap arr,v=.slice (some ⟨c.ρ r,0,none⟩) row.es.l.length cap/\row.es.l.length<=cap/\cap<=maxLen/\
  w.heap[c.ρ r]?=some (.cells arr row.ty (0,0))/\cap*row.sz=arr.size))
 |.sl sz es fr,v=>∃a cap,v=.slice a es.l.length cap/\es.l.length<=cap/\
  (es.l=[]\/∃b off arr ty fz,a=some ⟨b,off,none⟩/\c.I b/\(fr=true->c.base<=b)/\w.heap[b]?=some (.cells arr ty fz)/\iK c.I w es.l arr off sz)
 |.fn f ps,v=>∃us:List Value,sw c w f us v/\M1 c ps us
def oX(c:Ctx)(w:World):List iJ->List Value->Prop
 |[],[]=>True
 |x::xs,v::vs=>S6 c w x v/\oX c w xs vs
 |_,_=>False
def cz(c:Ctx)(w:World):D->Value->Prop
 |.sl sz es fr,v=>∃a cap,v=.slice a es.l.length cap/\es.l.length<=cap/\
  (es.l=[]\/∃b off arr ty fz,a=some ⟨b,off,none⟩/\c.I b/\(fr=true->c.base<=b)/\w.heap[b]?=some (.cells arr ty fz)/\iK c.I w es.l arr off sz)
 |.all r,v=>∃row,c.R r=some row/\row.box=false/\((c.V r/\∃a,v=.slice a 0 0/\AP c.top a)\/(¬c.V r/\∃cap arr,v=.slice (some ⟨c.ρ r,0,none⟩) row.es.l.length cap/\row.es.l.length<=cap/\cap<=maxLen/\
  w.heap[c.ρ r]?=some (.cells arr row.ty (0,0))/\cap*row.sz=arr.size))
 |.own r o n,v=>∃row,c.R r=some row/\row.box=false/\o+n<=row.es.l.length/\((n=0/\∃a,v=.slice a 0 0/\VA c r a)\/(¬c.V r/\∃cap arr,n<=cap/\cap<=maxLen/\
  w.heap[c.ρ r]?=some (.cells arr row.ty (0,0))/\v=.slice (some ⟨c.ρ r,o*row.sz,none⟩) n cap/\(o+cap)*row.sz=arr.size))
 |.ptr r i off,v=>∃row,c.R r=some row/\¬c.V r/\i<row.es.l.length/\v=.pointer (some ⟨c.ρ r,i*row.sz+off,none⟩)
 |.pa r i off len _ n,v=>n<len/\∃row,c.R r=some row/\¬c.V r/\i<row.es.l.length/\v=.pointer (some ⟨c.ρ r,i*row.sz+(off+n),none⟩)
 |.iv sz es i off,v=>∃b o arr ty fz,v=.pointer (some ⟨b,o+i*sz+off,none⟩)/\c.I b/\i<es.l.length/\w.heap[b]?=some (.cells arr ty fz)/\iK c.I w es.l arr o sz
 |.dead,v=>v.oneCell'=true
 |.bool b,v=>v=.bool b
 |.int k n,v=>v=.int k n
 |.str s,v=>v=.string ⟨s.toArray⟩
 |.iO,v=>v=.pointer none
 |.dx,v=>v=.slice none 0 0
 |.emp,v=>∃a,v=.slice a 0 0/\AP c.top a
 |.rz es,v=>∃b,v=.bool b/\(b=true->es.l=[])
 |.c9 r,v=>v=.pointer none\/∃row,c.R r=some row/\¬c.V r/\0<row.es.l.length/\v=.pointer (some ⟨c.ρ r,0*row.sz+0,none⟩)
 |.jP,v=>v=.nilIface
 |.gq f cs,v=>∃us:List Value,sw c w f us v/\oX c w cs us
 |.agg _,_=>False
 |.dt _,_=>False
theorem Zk8{c:Ctx}{w:World}:∀{ps:List (Nat×Nat×Nat)} {vs:List Value},M1 c ps vs↔oX c w (ps.map Iz) vs
 |[],[]=>Iff.rfl
 |p::ps,v::vs=>by simp only[M1,List.map_cons,oX];rw[Zk8 (ps:=ps)];exact Iff.rfl
 |[],_::_=>Iff.rfl
 |_::_,[]=>Iff.rfl
theorem WV{c:Ctx}{x:iJ}{v:Value}:S6 c w x v↔cz c w x.d v:=by
 cases x with
 |fn f ps=>simp only[S6,iJ.d,cz,Zk8 (w:=w)]
 |_=>exact Iff.rfl
def jq(c:Ctx)(w:World):List D->List Value->Prop
 |[],[]=>True
 |d::ds,v::vs=>cz c w d v/\jq c w ds vs
 |_,_=>False
def VRep(c:Ctx)(w:World):D->Value->Prop
 |.agg cs,v=>∃vs,v=.agg vs.toArray/\jq c w cs vs
 |d,v=>cz c w d v
def kp(c:Ctx)(w:World):List D->List Value->Prop
 |[],[]=>True
 |d::ds,v::vs=>VRep c w d v/\kp c w ds vs
 |_,_=>False
def Rep(c:Ctx)(w:World):D->Value->Prop
 |.dt ds,v=>∃vs,v=.tuple vs.toArray/\kp c w ds vs
 |.dead,_=>True
 |d,v=>VRep c w d v
def kU(c:Ctx)(w:World):List D->Array Value->Nat->Prop
 |[],_,_=>True
 |d::ds,arr,off=>(∃v,arr[off]?=some v/\cz c w d v)/\kU c w ds arr (off+1)
def Af(c:Ctx)(w:World)(r:Nat)(row:Row):Prop:=
 ∃ arr,w.heap[c.ρ r]?=some (.cells arr row.ty (0,0))/\0<row.sz/\
  if row.box then∃e,row.es=.gen [e]/\e.length=row.sz/\arr.size=row.sz/\kU c w e arr 0
  else iK c.I w row.es.l arr 0 row.sz
def Fl(c:Ctx)(w:World)(r:Nat)(row:Row):Prop:=
 (c.V r/\row.box=false/\row.es.l=[]/\0<row.sz)\/(¬c.V r/\Af c w r row)

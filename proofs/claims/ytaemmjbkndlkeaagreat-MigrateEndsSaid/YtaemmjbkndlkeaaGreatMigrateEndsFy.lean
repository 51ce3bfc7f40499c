import Derived.Test.YtaemmjbkndlkeaaGreatMigrateEndsFa
import Derived.Test.YtaemmjbkndlkeaaGreatProg
open Nat renaming blt->bN,beq->bX
open Bool renaming not_eq_true'->bB
open List renaming getD->aV,replicate->cO,map_set->gM
set_option linter.all false
namespace Go.GD
open Go
variable {a:Option Addr}{arr:Array Value}{cs:List D}{i n o off r sz:Nat}{k:IntKind}{w:World}
structure YK where
 ts:List Nat
 ps:Array Tmp
 assign:Code
 body:Code
 n:Nat
def YB:Nat:=1000000000
def Gq:List (Nat×IntKind×List Int):=[]
def splits:List (Nat×Nat):=[(101,1)]
def Fy:List Nat:=[23]
def sQ:Code->Option (Array Tmp×Code×Code)
 |.seq a b=>match sQ a with|some x=>some x|none=>sQ b
 |.cond _ a b=>match sQ a with|some x=>some x|none=>sQ b
 |.block _ a=>sQ a
 |.loop a=>sQ a
 |.scope a=>sQ a
 |.rangeFunc _ ps x y=>some (ps,x,y)
 |_=>none
def Ft(ts:List Nat)(fn:Func):Option YK:=match fn.body with|some c=>(match sQ c with|some (ps,x,y)=>some ⟨ts,ps,x,y,fn.ntmps⟩|none=>none)|none=>none
def YK.pos(y:YK):Option Nat:=
 match y.ps.toList,y.assign with
 |[p],.skip=>match bN p y.n&&y.ts.all λt=>!(bX t p)&&bN t y.n with|true=>some p|false=>none
 |[p],.region _ ops false=>match ops.toList with
  |[⟨some d,.assign (.tmp q),_,_,_,none⟩]=>match bX q p&&(bN p y.n&&bN d y.n)&&y.ts.all λt=>!(bX t p)&&!(bX t d)&&bN t y.n with|true=>some d|false=>none
  |_=>none
 |_,_=>none
def Wv(f:Nat):List Nat:=match bX f 1000000095 with|true=>[3,6]|false=>match bX f 1000000144 with|true=>[3]|false=>[]
noncomputable def Ay (f:Nat):Option YK:=match bX f 1000000095 with|true=>Ft [3,6] Go.Proofs.Tryz.f95|false=>match bX f 1000000144 with|true=>Ft [3] Go.Proofs.Tryz.f144|false=>none
noncomputable def yFn (f:Nat):Func:=match Ay f with
 |some y=>match y.pos with
  |some d=>{name:= "",origin:= "",params:=(d::y.ts).toArray,resultTypes:= #[],nfree:=YB,ntmps:=y.n,results:= #[],body:=some y.body,norace:=false,tmpNames:= #[]}
  |none=>{name:= "",origin:= "",params:=(y.ps.toList++y.ts).toArray,resultTypes:= #[],nfree:=YB+1,ntmps:=y.n,results:= #[],body:=some (.seq y.assign y.body),norace:=false,tmpNames:= #[]}
 |none=>default
def Jv:CT->D->Bool
 |.int k,.int j _=>decide (j=k)
 |.bool,.bool _=>true
 |.str,.str _=>true
 |.ints k,.sl s (.ints j _) fr=>bX s 1&&(decide (j=k)&&!fr)
 |.ag,.sl s (.ag _) fr=>bX s 1&&!fr
 |.ah k,.sl s (.ah j _) fr=>bX s k.size&&(decide (j=k)&&!fr)
 |.row i,.all r=>bX r i
 |_,_=>false
def AA:List CT->List D->Bool
 |[],[]=>true
 |t::ts,d::ds=>Jv t d&&AA ts ds
 |_,_=>false
theorem qx{t:CT}{d:D}(h:Jv t d=true):Dt t d=d:=by
 unfold Jv at h
 split at h
 ·simp at h;subst h;rfl
 ·rfl
 ·rfl
 ·obtain⟨h1,h2⟩:=Bool.and_eq_true_iff.1 h
  obtain⟨h2,h3⟩:=Bool.and_eq_true_iff.1 h2
  have h1:=bE h1
  have h2:=oY h2
  rw[bB]at h3
  subst h1;subst h2;subst h3
  simp[Dt,bz,ai.toI]
 ·obtain⟨h1,h3⟩:=Bool.and_eq_true_iff.1 h
  have h1:=bE h1
  rw[bB]at h3
  subst h1;subst h3
  simp[Dt,ez,ai.toB]
 ·obtain⟨h1,h2⟩:=Bool.and_eq_true_iff.1 h
  obtain⟨h2,h3⟩:=Bool.and_eq_true_iff.1 h2
  have h1:=bE h1
  have h2:=oY h2
  rw[bB]at h3
  subst h1;subst h2;subst h3
  simp[Dt,iP,ai.toR,Wc]
 ·rw[bE h];rfl
 ·cases h
theorem Zjl:∀{ts:List CT} {pre ds:List D},AA ts ds=true->uX ts (pre++ds) pre.length=ds
 |[],pre,[],_=>rfl
 |t::ts,pre,d::ds,h=>by
  simp only[AA,aE]at h
  have h2:=Zjl (pre:=pre++[d]) h.2
  have h3:(pre++d::ds).getD pre.length .dead=d:=by simp[aV]
  simp only[uX,h3,qx h.1]
  congr 1
  simpa using h2
 |[],_,_::_,h=>by simp[AA]at h
 |_::_,_,[],h=>by simp[AA]at h
theorem Z26:∀{ts:List CT} {cs:List D} {j:Nat},(uX ts cs j).length=ts.length
 |[],_,_=>rfl
 |t::ts,cs,j=>by simp[uX,Z26]
def RK.dec(k:RK)(cs:List D):Option (RK.T k):=match AA k.sig cs with|true=>some (k.of cs)|false=>none
theorem RK.oy{k:RK}{x:RK.T k}(h:k.dec cs=some x):cs=k.cells x:=by
 unfold RK.dec at h
 split at h
 ·rename_i hf
  cases h
  have:=Zjl (pre:=[]) hf
  simp only[List.nil_append,List.length_nil]at this
  rw[RK.Bx,this]
 ·cases h
theorem RK.rB(k:RK)(x:RK.T k):(k.cells x).length=k.size:=by
 rw[<-RK.oa,Z26,RK.tO]
def RK.AB(k:RK):List (List D)->Option (List (RK.T k))
 |[]=>some []
 |e::es=>match k.dec e,RK.AB k es with|some x,some l=>some (x::l)|_,_=>none
theorem RK.mW{k:RK}:∀{es:List (List D)} {l:List (RK.T k)},k.AB es=some l->es=l.map k.cells
 |[],l,h=>by simp[RK.AB]at h;subst h;rfl
 |e ::es,l,h=>by
  simp only[RK.AB]at h
  split at h
  ·rename_i x m h1 h2
   cases h
   rw[RK.oy h1,RK.mW h2];rfl
  ·cases h
def ai.l:ai->List (List D)
 |.gen es=>es
 |.ints k l=>l.map λn=>[.int k n]
 |.ag l=>l.map λb=>[.bool b]
 |.ah k l=>l.map k.cells
def ai.len:ai->Nat
 |.gen es=>es.length
 |.ints _ l=>l.length
 |.ag l=>l.length
 |.ah _ l=>l.length
def ai.get:ai->Nat->List D
 |.gen es,i=>es.getD i []
 |.ints k l,i=>[.int k (l.getD i 0)]
 |.ag l,i=>[.bool (l.getD i false)]
 |.ah k l,i=>k.cells (l.getD i k.ed)
def ai.take:ai->Nat->ai
 |.gen es,n=>.gen (es.take n)
 |.ints k l,n=>.ints k (l.take n)
 |.ag l,n=>.ag (l.take n)
 |.ah k l,n=>.ah k (l.take n)
def ai.drop:ai->Nat->ai
 |.gen es,n=>.gen (es.drop n)
 |.ints k l,n=>.ints k (l.drop n)
 |.ag l,n=>.ag (l.drop n)
 |.ah k l,n=>.ah k (l.drop n)
def ai.QI(k:IntKind)(l:List Int)(i:Nat)(cs:List D):ai:=
 match cs with
 |[.int k' v]=>match decide (k'=k)with|true=>.ints k (l.set i v)|false=>.gen ((ai.ints k l).l.set i cs)
 |_=>.gen ((ai.ints k l).l.set i cs)
def ai.ET(l:List Bool)(i:Nat)(cs:List D):ai:=
 match cs with
 |[.bool v]=>.ag (l.set i v)
 |_=>.gen ((ai.ag l).l.set i cs)
def ai.set:ai->Nat->List D->ai
 |.gen es,i,cs=>.gen (es.set i cs)
 |.ints k l,i,cs=>ai.QI k l i cs
 |.ag l,i,cs=>ai.ET l i cs
 |.ah k l,i,cs=>match k.dec cs with|some x=>.ah k (l.set i x)|none=>.gen ((ai.ah k l).l.set i cs)
def ai.app:ai->ai->ai
 |.gen [],F=>F
 |.ints k l,.ints k' m=>match decide (k'=k)with|true=>.ints k (l++m)|false=>.gen ((ai.ints k l).l++(ai.ints k' m).l)
 |.ag l,.ag m=>.ag (l++m)
 |.ah k l,.ah k' m=>match FU k' k m with|some m'=>.ah k (l++m')|none=>.gen ((ai.ah k l).l++(ai.ah k' m).l)
 |.ints k l,.gen []=>.ints k l
 |.ag l,.gen []=>.ag l
 |.ah k l,.gen []=>.ah k l
 |.ah k l,.gen es=>match k.AB es with|some m=>.ah k (l++m)|none=>.gen ((ai.ah k l).l++es)
 |E,F=>.gen (E.l++F.l)
def ai.rep(n:Nat):List D->ai
 |[.int k v]=>.ints k (cO n v)
 |[.bool b]=>.ag (cO n b)
 |z=>.gen (cO n z)
def ai.Fo(t n:Nat)(z:List D):ai:=
 match RK.M0 t with
 |some k=>match k.dec z with|some x=>.ah k (cO n x)|none=>ai.rep n z
 |none=>ai.rep n z
def ai.QJ(k:IntKind):List (List D)->Option (List Int)
 |[]=>some []
 |[.int k' v]::l=>match decide (k'=k),ai.QJ k l with|true,some m=>some (v::m)|_,_=>none
 |_=>none
def ai.QK:List (List D)->Option (List Bool)
 |[]=>some []
 |[.bool b]::l=>match ai.QK l with|some m=>some (b::m)|none=>none
 |_=>none
def ai.U2:List (List D)->ai
 |[.int k v]::l=>match ai.QJ k l with|some m=>.ints k (v::m)|none=>.gen ([.int k v]::l)
 |[.bool b]::l=>match ai.QK l with|some m=>.ag (b::m)|none=>.gen ([.bool b]::l)
 |l=>.gen l
def ai.P9(t:Nat)(es:List (List D)):ai:=
 match RK.M0 t with
 |some k=>match k.AB es with|some l=>.ah k l|none=>ai.U2 es
 |none=>ai.U2 es
@[simp] theorem ai.iv:∀(E:ai),E.l.length=E.len
 |.gen es=>rfl
 |.ints k l=>by simp[ai.l,ai.len]
 |.ag l=>by simp[ai.l,ai.len]
 |.ah k l=>by simp[ai.l,ai.len]
theorem ai.ng:∀(E:ai) {i:Nat},i<E.len->E.l.getD i []=E.get i
 |.gen es,i,_=>rfl
 |.ints k l,i,h=>by simp only[ai.len]at h;simp[ai.l,ai.get,aV,h]
 |.ag l,i,h=>by simp only[ai.len]at h;simp[ai.l,ai.get,aV,h]
 |.ah k l,i,h=>by simp only[ai.len]at h;simp[ai.l,ai.get,aV,h]
theorem ai.iY:∀(E:ai) (n:Nat),(E.take n).l=E.l.take n
 |.gen es,n=>rfl
 |.ints k l,n=>by simp[ai.l,ai.take]
 |.ag l,n=>by simp[ai.l,ai.take]
 |.ah k l,n=>by simp[ai.l,ai.take]
theorem ai.kj:∀(E:ai) (n:Nat),(E.drop n).l=E.l.drop n
 |.gen es,n=>rfl
 |.ints k l,n=>by simp[ai.l,ai.drop]
 |.ag l,n=>by simp[ai.l,ai.drop]
 |.ah k l,n=>by simp[ai.l,ai.drop]
theorem ai.P5:∀(E:ai) (i:Nat) (cs:List D),(E.set i cs).l=E.l.set i cs
 |.gen es,i,cs=>rfl
 |.ints k l,i,cs=>by
  simp only[ai.set,ai.QI]
  split
  ·split
   ·rename_i h
    have:=oY h
    subst this
    simp[ai.l,gM]
   ·rfl
  ·rfl
 |.ag l,i,cs=>by
  simp only[ai.set,ai.ET]
  split
  ·simp[ai.l,gM]
  ·rfl
 |.ah k l,i,cs=>by
  simp only[ai.set]
  split
  ·rename_i x h
   rw[RK.oy h]
   simp[ai.l,gM]
  ·rfl
theorem ai.j8(E F:ai):(E.app F).l=E.l++F.l:=by
 cases E with
 |gen es=>
  cases es with
  |nil=>cases F<;>simp[ai.app,ai.l]
  |cons e es=>cases F<;>simp[ai.app,ai.l]
 |ints k l=>
  cases F with
  |ints k' m=>
   simp only[ai.app]
   split
   ·rename_i h
    have:=oY h
    subst this
    simp[ai.l]
   ·rfl
  |gen es=>cases es<;>simp[ai.app,ai.l]
  |_=>simp[ai.app,ai.l]
 |ag l=>
  cases F with
  |gen es=>cases es<;>simp[ai.app,ai.l]
  |_=>simp[ai.app,ai.l]
 |ah k l=>
  cases F with
  |ah k' m=>
   simp only[ai.app]
   split
   ·rename_i m' h
    obtain⟨e,hm⟩:=Wd h
    subst e
    simp only at hm
    subst hm
    simp[ai.l]
   ·rfl
  |gen es=>
   cases es with
   |nil=>simp[ai.app,ai.l]
   |cons e es=>
    simp only[ai.app]
    split
    ·rename_i m h
     have h2:=RK.mW h
     simp only[ai.l,h2,List.map_append]
    ·rfl
  |_=>simp[ai.app,ai.l]
theorem ai.Hm(n:Nat)(z:List D):(ai.rep n z).l=cO n z:=by
 unfold ai.rep
 split<;>simp[ai.l]
theorem ai.uG(t n:Nat)(z:List D):(ai.Fo t n z).l=cO n z:=by
 unfold ai.Fo
 split
 ·split
  ·rename_i x h
   rw[RK.oy h]
   simp[ai.l]
  ·exact ai.Hm n z
 ·exact ai.Hm n z
theorem ai.Hn{k:IntKind}:∀{es:List (List D)} {l:List Int},ai.QJ k es=some l->es=l.map λn=>[.int k n]
 |[],l,h=>by simp[ai.QJ]at h;subst h;rfl
 |e ::es,l,h=>by
  unfold ai.QJ at h
  split at h
  ·rename_i h0;cases h0
  ·rename_i k' v l' h0
   cases h0
   split at h
   ·rename_i m h1 h2
    cases h
    have:=oY h1
    subst this
    rw[ai.Hn h2];rfl
   ·cases h
  ·cases h
theorem ai.Ho:∀{es:List (List D)} {l:List Bool},ai.QK es=some l->es=l.map λn=>[.bool n]
 |[],l,h=>by simp[ai.QK]at h;subst h;rfl
 |e ::es,l,h=>by
  unfold ai.QK at h
  split at h
  ·rename_i h0;cases h0
  ·rename_i v l' h0
   cases h0
   split at h
   ·rename_i m h2
    cases h
    rw[ai.Ho h2];rfl
   ·cases h
  ·cases h
theorem ai.Hp(es:List (List D)):(ai.U2 es).l=es:=by
 unfold ai.U2
 split
 ·split
  ·rename_i m h;rw[ai.Hn h];rfl
  ·rfl
 ·split
  ·rename_i m h;rw[ai.Ho h];rfl
  ·rfl
 ·rfl
theorem ai.pS(t:Nat)(es:List (List D)):(ai.P9 t es).l=es:=by
 unfold ai.P9
 split
 ·split
  ·rename_i l h;exact(RK.mW h).symm
  ·exact ai.Hp es
 ·exact ai.Hp es
theorem ai.toI_l{E:ai}{l:List Int}(h:E.toI k=some l):E.l=(ai.ints k l).l:=by
 unfold ai.toI at h
 split at h
 ·split at h
  ·rename_i hk
   cases h
   rw[oY hk]
  ·cases h
 ·cases h;rfl
 ·cases h
theorem ai.toB_l{E:ai}{l:List Bool}(h:E.toB=some l):E.l=(ai.ag l).l:=by
 unfold ai.toB at h
 split at h
 ·cases h;rfl
 ·cases h;rfl
 ·cases h
theorem ai.toR_l{k:RK}{E:ai}{l:List (RK.T k)}(h:E.toR k=some l):E.l=(ai.ah k l).l:=by
 unfold ai.toR at h
 split at h
 ·obtain⟨e,hm⟩:=Wd h
  subst e
  simp only at hm
  subst hm
  rfl
 ·cases h;rfl
 ·cases h
structure Row where
 box:Bool
 ty:TypeId
 sz:Nat
 es:ai
 deriving Inhabited
abbrev ae:=Nat->Prop
def Cu(n:Nat)(a:Option Addr):Prop:=∀x,a=some x->x.block<n
theorem Cu.mono{m n:Nat}(h:Cu m a)(g:m<=n):Cu n a:=λx hx=>Nat.lt_of_lt_of_le (h x hx) g
theorem Qy:Cu n none:=λx hx=>by cases hx
mutual
inductive fy(I:ae)(w:World):D->Value->Prop
 |bool (b:Bool):fy I w (.bool b) (.bool b)
 |int (k:IntKind) (n:Int):fy I w (.int k n) (.int k n)
 |str (s:List UInt8):fy I w (.str s) (.string ⟨s.toArray⟩)
 |iz:fy I w .iz (.pointer none)
 |c8:fy I w .c8 (.slice none 0 0)
 |emp (a:Option Addr):fy I w .emp (.slice a 0 0)
 |Uu (sz:Nat) (es:ai) (fr:Bool) (a:Option Addr) (cap:Nat) (h:es.l=[]):fy I w (.sl sz es fr) (.slice a es.l.length cap)
 |Uv (sz:Nat) (es:ai) (fr:Bool) (cap:Nat) (hc:es.l.length<=cap) (b off:Nat) (arr:Array Value) (ty:TypeId) (fz:Nat×Nat) (hI:I b) (hh:w.heap[b]?=some (.cells arr ty fz)) (hE:im I w es.l arr off sz):
  fy I w (.sl sz es fr) (.slice (some ⟨b,off,none⟩) es.l.length cap)
inductive oG(I:ae)(w:World):List D->Array Value->Nat->Prop
 |nil (arr:Array Value) (off:Nat):oG I w [] arr off
 |cons (c:D) (cs:List D) (arr:Array Value) (off:Nat) (v:Value) (hv:arr[off]?=some v) (hp:fy I w c v) (hr:oG I w cs arr (off+1)):oG I w (c::cs) arr off
inductive im(I:ae)(w:World):List (List D)->Array Value->Nat->Nat->Prop
 |nil (arr:Array Value) (off sz:Nat):im I w [] arr off sz
 |cons (e:List D) (es:List (List D)) (arr:Array Value) (off sz:Nat) (hl:e.length=sz) (hc:oG I w e arr off) (hr:im I w es arr (off+sz) sz):im I w (e::es) arr off sz
end
abbrev QL(I:ae)(w:World)(E:ai)(arr:Array Value)(off sz:Nat):Prop:=im I w E.l arr off sz
theorem SP{I:ae}{E:ai}:QL I w E arr off sz↔im I w E.l arr off sz:=Iff.rfl
section
variable {I:ae} {w:World} {v:Value}
theorem r6{b:Bool}:fy I w (.bool b) v↔v=.bool b:=⟨λh=>by cases h;rfl,λh=>by subst h;exact .bool b⟩
theorem r7{n:Int}:fy I w (.int k n) v↔v=.int k n:=⟨λh=>by cases h;rfl,λh=>by subst h;exact .int k n⟩
theorem r8{s:List UInt8}:fy I w (.str s) v↔v=.string ⟨s.toArray⟩:=⟨λh=>by cases h;rfl,λh=>by subst h;exact .str s⟩
theorem r9:fy I w .iz v↔v=.pointer none:=⟨λh=>by cases h;rfl,λh=>by subst h;exact .iz⟩
theorem sc:fy I w .c8 v↔v=.slice none 0 0:=⟨λh=>by cases h;rfl,λh=>by subst h;exact .c8⟩
theorem sd:fy I w .emp v↔ ∃a,v=.slice a 0 0:=⟨λh=>by cases h;exact⟨_,rfl⟩,fun⟨a,h⟩=>by subst h;exact .emp a⟩
theorem tt{es:ai}{fr:Bool}:fy I w (.sl sz es fr) v↔ ∃a cap,v=.slice a es.l.length cap/\es.l.length<=cap/\
 (es.l=[]\/∃b off arr ty fz,a=some ⟨b,off,none⟩/\I b/\w.heap[b]?=some (.cells arr ty fz)/\QL I w es arr off sz):=by
 constructor
 ·intro h
  cases h with
  |Uu sz es fr a cap h=>exact⟨a,cap,rfl,by rw[h];exact Nat.zero_le _,.inl h⟩
  |Uv sz es fr cap hc b off arr ty fz hI hh hE=>exact⟨_,cap,rfl,hc,.inr ⟨b,off,arr,ty,fz,rfl,hI,hh,hE⟩⟩
 ·rintro⟨a,cap,rfl,hc,h|⟨b,off,arr,ty,fz,rfl,hI,hh,hE⟩⟩
  ·exact .Uu sz es fr a cap h
  ·exact .Uv sz es fr cap hc b off arr ty fz hI hh hE
theorem tR:fy I w (.all r) v↔False:=⟨(λh=>nomatch h),False.elim⟩
theorem tS:fy I w (.own r o n) v↔False:=⟨(λh=>nomatch h),False.elim⟩
theorem tT:fy I w (.ptr r i o) v↔False:=⟨(λh=>nomatch h),False.elim⟩
theorem tU{r i o l:Nat}{k:Option IntKind}:fy I w (.pa r i o l k n) v↔False:=⟨(λh=>nomatch h),False.elim⟩
theorem tV{es:ai}:fy I w (.iu sz es i o) v↔False:=⟨(λh=>nomatch h),False.elim⟩
theorem tW:fy I w .dead v↔False:=⟨(λh=>nomatch h),False.elim⟩
theorem tX{es:ai}:fy I w (.mO es) v↔False:=⟨(λh=>nomatch h),False.elim⟩
theorem yU{f:Nat}{cs:List iD}:fy I w (.gp f cs) v↔False:=⟨(λh=>nomatch h),False.elim⟩
theorem Zu2:fy I w (.gq r) v↔False:=⟨(λh=>nomatch h),False.elim⟩
theorem Zta:fy I w .jL v↔False:=⟨(λh=>nomatch h),False.elim⟩
theorem tY:fy I w (.agg cs) v↔False:=⟨(λh=>nomatch h),False.elim⟩
theorem tZ:fy I w (.dw cs) v↔False:=⟨(λh=>nomatch h),False.elim⟩
theorem Du:oG I w [] arr off↔True:=⟨λ_=>trivial,λ_=>.nil arr off⟩
theorem Dv{c:D}:oG I w (c::cs) arr off↔(∃v,arr[off]?=some v/\fy I w c v)/\oG I w cs arr (off+1):=
 ⟨λh=>by cases h with|cons _ _ _ _ v hv hp hr=>exact⟨⟨v,hv,hp⟩,hr⟩,fun⟨⟨v,hv,hp⟩,hr⟩=>.cons c cs arr off v hv hp hr⟩
theorem pY:im I w [] arr off sz↔True:=⟨λ_=>trivial,λ_=>.nil arr off sz⟩
theorem pK{e:List D}{es:List (List D)}:im I w (e::es) arr off sz↔e.length=sz/\oG I w e arr off/\im I w es arr (off+sz) sz:=
 ⟨λh=>by cases h with|cons _ _ _ _ _ hl hc hr=>exact⟨hl,hc,hr⟩,fun⟨hl,hc,hr⟩=>.cons e es arr off sz hl hc hr⟩
end
structure Ctx where
 ρ:Nat->Nat
 R:Nat->Option Row
 V:Nat->Prop
 I:ae
 base:Nat
 top:Nat
 X:ae
def U3(c:Ctx)(r:Nat)(a:Option Addr):Prop:=Cu c.top a\/(¬c.V r/\∀x,a=some x->x.block=c.ρ r)
theorem U3.mono{c c':Ctx}{r r':Nat}(h:U3 c r a)(g:c.top<=c'.top)(hV:c'.V r'↔c.V r)(PL:c'.ρ r'=c.ρ r):U3 c' r' a:=
 h.imp (λh=>h.mono g) fun⟨p,q⟩=>⟨λe=>p (hV.1 e),λx hx=>(q x hx).trans PL.symm⟩
def Jw(c:Ctx)(p:Nat×Nat×Nat)(v:Value):Prop:=∃row,c.R p.1=some row/\¬c.V p.1/\p.2.1<row.es.l.length/\v=.pointer (some ⟨c.ρ p.1,p.2.1*row.sz+p.2.2,none⟩)
def Mh(c:Ctx):List (Nat×Nat×Nat)->List Value->Prop
 |[],[]=>True
 |p::ps,v::vs=>Jw c p v/\Mh c ps vs
 |_,_=>False
def PU(f:Nat)(us:List Value)(rec:Loop):Prop:=
 rec.state=.ready/\rec.pending=none/\∃y,Ay f=some y/\rec.params=y.ps/\rec.assign=y.assign/\rec.body=y.body/\y.n<=rec.tmps.size/\y.ps.size=1/\us=y.ts.map λt=>rec.tmps.getD t undef
def rP(c:Ctx)(w:World)(f:Nat)(us:List Value)(v:Value):Prop:=
 (f<YB/\v=.func (.func f) #[] us.toArray)\/(YB<=f/\∃l rec,v=.func (.yield l) #[] #[]/\c.I l/\w.heap[l]?=some (.loop rec)/\PU f us rec)
def Sx(c:Ctx)(w:World):iD->Value->Prop
 |.ptr r i off,v=>∃row,c.R r=some row/\¬c.V r/\i<row.es.l.length/\v=.pointer (some ⟨c.ρ r,i*row.sz+off,none⟩)
 |.int k n,v=>v=.int k n
 |.arr r,v=>∃row,c.R r=some row/\row.box=false/\((c.V r/\∃a,v=.slice a 0 0/\Cu c.top a)\/(¬c.V r/\∃cap arr,v=.slice (some ⟨c.ρ r,0,none⟩) row.es.l.length cap/\row.es.l.length<=cap/\cap<=maxLen/\
  w.heap[c.ρ r]?=some (.cells arr row.ty (0,0))/\cap*row.sz=arr.size))
 |.sl sz es fr,v=>∃a cap,v=.slice a es.l.length cap/\es.l.length<=cap/\
  (es.l=[]\/∃b off arr ty fz,a=some ⟨b,off,none⟩/\c.I b/\(fr=true->c.base<=b)/\w.heap[b]?=some (.cells arr ty fz)/\im c.I w es.l arr off sz)
 |.fn f ps,v=>∃us:List Value,rP c w f us v/\Mh c ps us
def oD(c:Ctx)(w:World):List iD->List Value->Prop
 |[],[]=>True
 |x::xs,v::vs=>Sx c w x v/\oD c w xs vs
 |_,_=>False
def dc(c:Ctx)(w:World):D->Value->Prop
 |.sl sz es fr,v=>∃a cap,v=.slice a es.l.length cap/\es.l.length<=cap/\
  (es.l=[]\/∃b off arr ty fz,a=some ⟨b,off,none⟩/\c.I b/\(fr=true->c.base<=b)/\w.heap[b]?=some (.cells arr ty fz)/\im c.I w es.l arr off sz)
 |.all r,v=>∃row,c.R r=some row/\row.box=false/\((c.V r/\∃a,v=.slice a 0 0/\Cu c.top a)\/(¬c.V r/\∃cap arr,v=.slice (some ⟨c.ρ r,0,none⟩) row.es.l.length cap/\row.es.l.length<=cap/\cap<=maxLen/\
  w.heap[c.ρ r]?=some (.cells arr row.ty (0,0))/\cap*row.sz=arr.size))
 |.own r o n,v=>∃row,c.R r=some row/\row.box=false/\o+n<=row.es.l.length/\((n=0/\∃a,v=.slice a 0 0/\U3 c r a)\/(¬c.V r/\∃cap arr,n<=cap/\cap<=maxLen/\
  w.heap[c.ρ r]?=some (.cells arr row.ty (0,0))/\v=.slice (some ⟨c.ρ r,o*row.sz,none⟩) n cap/\(o+cap)*row.sz=arr.size))
 |.ptr r i off,v=>∃row,c.R r=some row/\¬c.V r/\i<row.es.l.length/\v=.pointer (some ⟨c.ρ r,i*row.sz+off,none⟩)
 |.pa r i off len _ n,v=>n<len/\∃row,c.R r=some row/\¬c.V r/\i<row.es.l.length/\v=.pointer (some ⟨c.ρ r,i*row.sz+(off+n),none⟩)
 |.iu sz es i off,v=>∃b o arr ty fz,v=.pointer (some ⟨b,o+i*sz+off,none⟩)/\c.I b/\i<es.l.length/\w.heap[b]?=some (.cells arr ty fz)/\im c.I w es.l arr o sz
 |.dead,v=>v.oneCell'=true
 |.bool b,v=>v=.bool b
 |.int k n,v=>v=.int k n
 |.str s,v=>v=.string ⟨s.toArray⟩
 |.iz,v=>v=.pointer none
 |.c8,v=>v=.slice none 0 0
 |.emp,v=>∃a,v=.slice a 0 0/\Cu c.top a
 |.mO es,v=>∃b,v=.bool b/\(b=true->es.l=[])
 |.gq r,v=>v=.pointer none\/∃row,c.R r=some row/\¬c.V r/\0<row.es.l.length/\v=.pointer (some ⟨c.ρ r,0*row.sz+0,none⟩)
 |.jL,v=>v=.nilIface
 |.gp f cs,v=>∃us:List Value,rP c w f us v/\oD c w cs us
 |.agg _,_=>False
 |.dw _,_=>False
theorem Zkd{c:Ctx}{w:World}:∀{ps:List (Nat×Nat×Nat)} {vs:List Value},Mh c ps vs↔oD c w (ps.map HM) vs
 |[],[]=>Iff.rfl
 |p::ps,v::vs=>by simp only[Mh,List.map_cons,oD];rw[Zkd (ps:=ps)];exact Iff.rfl
 |[],_::_=>Iff.rfl
 |_::_,[]=>Iff.rfl
theorem Wg{c:Ctx}{x:iD}{v:Value}:Sx c w x v↔dc c w x.d v:=by
 cases x with
 |fn f ps=>simp only[Sx,iD.d,dc,Zkd (w:=w)]
 |_=>exact Iff.rfl
def jl(c:Ctx)(w:World):List D->List Value->Prop
 |[],[]=>True
 |d::ds,v::vs=>dc c w d v/\jl c w ds vs
 |_,_=>False
def VRep(c:Ctx)(w:World):D->Value->Prop
 |.agg cs,v=>∃vs,v=.agg vs.toArray/\jl c w cs vs
 |d,v=>dc c w d v
def kg(c:Ctx)(w:World):List D->List Value->Prop
 |[],[]=>True
 |d::ds,v::vs=>VRep c w d v/\kg c w ds vs
 |_,_=>False
def Rep(c:Ctx)(w:World):D->Value->Prop
 |.dw ds,v=>∃vs,v=.tuple vs.toArray/\kg c w ds vs
 |.dead,_=>True
 |d,v=>VRep c w d v
def kJ(c:Ctx)(w:World):List D->Array Value->Nat->Prop
 |[],_,_=>True
 |d::ds,arr,off=>(∃v,arr[off]?=some v/\dc c w d v)/\kJ c w ds arr (off+1)
def wE(c:Ctx)(w:World)(r:Nat)(row:Row):Prop:=
 ∃ arr,w.heap[c.ρ r]?=some (.cells arr row.ty (0,0))/\0<row.sz/\
  if row.box then∃e,row.es=.gen [e]/\e.length=row.sz/\arr.size=row.sz/\kJ c w e arr 0
  else im c.I w row.es.l arr 0 row.sz
def El(c:Ctx)(w:World)(r:Nat)(row:Row):Prop:=
 (c.V r/\row.box=false/\row.es.l=[]/\0<row.sz)\/(¬c.V r/\wE c w r row)

import Derived.Test.YtaemmjbkndlkeaaGreatMigrateOrdersFa
import Derived.Test.YtaemmjbkndlkeaaGreatProg
open Nat renaming blt->bN,beq->bX
open Bool renaming not_eq_true'->bB
open List renaming getD->aV,replicate->cO,map_set->gK
set_option linter.all false
namespace Go.GD
open Go
variable {a:Option Addr}{arr:Array Value}{cs:List D}{i n o off r sz:Nat}{k:IntKind}{w:World}
structure YK where
 ts:List Nat
 ps:Array Tmp
 assign:Code
 body:Code
 n:Nat
def YB:Nat:=1000000000
def GN:List (Nat×IntKind×List Int):=[]
def splits:List (Nat×Nat):=[(101,1)]
def FT:List Nat:=[23]
def sY:Code->Option (Array Tmp×Code×Code)
 |.seq a b=>match sY a with|some x=>some x|none=>sY b
 |.cond _ a b=>match sY a with|some x=>some x|none=>sY b
 |.block _ a=>sY a
 |.loop a=>sY a
 |.scope a=>sY a
 |.rangeFunc _ ps x y=>some (ps,x,y)
 |_=>none
def FN(ts:List Nat)(fn:Func):Option YK:=match fn.body with|some c=>(match sY c with|some (ps,x,y)=>some ⟨ts,ps,x,y,fn.ntmps⟩|none=>none)|none=>none
def YK.pos(y:YK):Option Nat:=
 match y.ps.toList,y.assign with
 |[p],.skip=>match bN p y.n&&y.ts.all λt=>!(bX t p)&&bN t y.n with|true=>some p|false=>none
 |[p],.region _ ops false=>match ops.toList with
  |[⟨some d,.assign (.tmp q),_,_,_,none⟩]=>match bX q p&&(bN p y.n&&bN d y.n)&&y.ts.all λt=>!(bX t p)&&!(bX t d)&&bN t y.n with|true=>some d|false=>none
  |_=>none
 |_,_=>none
def WC(f:Nat):List Nat:=match bX f 1000000095 with|true=>[3,6]|false=>match bX f 1000000144 with|true=>[3]|false=>[]
noncomputable def AI (f:Nat):Option YK:=match bX f 1000000095 with|true=>FN [3,6] Go.Proofs.Tryz.f95|false=>match bX f 1000000144 with|true=>FN [3] Go.Proofs.Tryz.f144|false=>none
noncomputable def yFn (f:Nat):Func:=match AI f with
 |some y=>match y.pos with
  |some d=>{name:= "",origin:= "",params:=(d::y.ts).toArray,resultTypes:= #[],nfree:=YB,ntmps:=y.n,results:= #[],body:=some y.body,norace:=false,tmpNames:= #[]}
  |none=>{name:= "",origin:= "",params:=(y.ps.toList++y.ts).toArray,resultTypes:= #[],nfree:=YB+1,ntmps:=y.n,results:= #[],body:=some (.seq y.assign y.body),norace:=false,tmpNames:= #[]}
 |none=>default
def JP:CT->D->Bool
 |.int k,.int j _=>decide (j=k)
 |.bool,.bool _=>true
 |.str,.str _=>true
 |.ints k,.sl s (.ints j _) fr=>bX s 1&&(decide (j=k)&&!fr)
 |.ag,.sl s (.ag _) fr=>bX s 1&&!fr
 |.ah k,.sl s (.ah j _) fr=>bX s k.size&&(decide (j=k)&&!fr)
 |.row i,.all r=>bX r i
 |_,_=>false
def AK:List CT->List D->Bool
 |[],[]=>true
 |t::ts,d::ds=>JP t d&&AK ts ds
 |_,_=>false
theorem xw{t:CT}{d:D}(h:JP t d=true):DI t d=d:=by
 unfold JP at h
 split at h
 ·simp at h;subst h;rfl
 ·rfl
 ·rfl
 ·obtain⟨h1,h2⟩:=Bool.and_eq_true_iff.1 h
  obtain⟨h2,h3⟩:=Bool.and_eq_true_iff.1 h2
  have h1:=bE h1
  have h2:=oY h2
  rw[bB]at h3
  subst h1;subst h2;subst h3
  simp[DI,cf,ai.toI]
 ·obtain⟨h1,h3⟩:=Bool.and_eq_true_iff.1 h
  have h1:=bE h1
  rw[bB]at h3
  subst h1;subst h3
  simp[DI,ej,ai.toB]
 ·obtain⟨h1,h2⟩:=Bool.and_eq_true_iff.1 h
  obtain⟨h2,h3⟩:=Bool.and_eq_true_iff.1 h2
  have h1:=bE h1
  have h2:=oY h2
  rw[bB]at h3
  subst h1;subst h2;subst h3
  simp[DI,iP,ai.toR,Wj]
 ·rw[bE h];rfl
 ·cases h
theorem Zkn:∀{ts:List CT} {pre ds:List D},AK ts ds=true->wh ts (pre++ds) pre.length=ds
 |[],pre,[],_=>rfl
 |t::ts,pre,d::ds,h=>by
  simp only[AK,aE]at h
  have h2:=Zkn (pre:=pre++[d]) h.2
  have h3:(pre++d::ds).getD pre.length .dead=d:=by simp[aV]
  simp only[wh,h3,xw h.1]
  congr 1
  simpa using h2
 |[],_,_::_,h=>by simp[AK]at h
 |_::_,_,[],h=>by simp[AK]at h
theorem Z18:∀{ts:List CT} {cs:List D} {j:Nat},(wh ts cs j).length=ts.length
 |[],_,_=>rfl
 |t::ts,cs,j=>by simp[wh,Z18]
def RK.dec(k:RK)(cs:List D):Option (RK.T k):=match AK k.sig cs with|true=>some (k.of cs)|false=>none
theorem RK.oG{k:RK}{x:RK.T k}(h:k.dec cs=some x):cs=k.cells x:=by
 unfold RK.dec at h
 split at h
 ·rename_i hf
  cases h
  have:=Zkn (pre:=[]) hf
  simp only[List.nil_append,List.length_nil]at this
  rw[RK.BI,this]
 ·cases h
theorem RK.rD(k:RK)(x:RK.T k):(k.cells x).length=k.size:=by
 rw[<-RK.oj,Z18,RK.tW]
def RK.AL(k:RK):List (List D)->Option (List (RK.T k))
 |[]=>some []
 |e::es=>match k.dec e,RK.AL k es with|some x,some l=>some (x::l)|_,_=>none
theorem RK.nd{k:RK}:∀{es:List (List D)} {l:List (RK.T k)},k.AL es=some l->es=l.map k.cells
 |[],l,h=>by simp[RK.AL]at h;subst h;rfl
 |e ::es,l,h=>by
  simp only[RK.AL]at h
  split at h
  ·rename_i x m h1 h2
   cases h
   rw[RK.oG h1,RK.nd h2];rfl
  ·cases h
def ai.l:ai->List (List D)
 |.gen es=>es
 |.ints k l=>l.map λn=>[.int k n]
 |.ag l=>l.map λb=>[.bool b]
 |.ah k l=>l.map k.cells
def ai.len:ai->Nat
 |.gen es=>es.length
 |.ints _ l=>l.length
 |.ag l=>l.length
 |.ah _ l=>l.length
def ai.get:ai->Nat->List D
 |.gen es,i=>es.getD i []
 |.ints k l,i=>[.int k (l.getD i 0)]
 |.ag l,i=>[.bool (l.getD i false)]
 |.ah k l,i=>k.cells (l.getD i k.ed)
def ai.take:ai->Nat->ai
 |.gen es,n=>.gen (es.take n)
 |.ints k l,n=>.ints k (l.take n)
 |.ag l,n=>.ag (l.take n)
 |.ah k l,n=>.ah k (l.take n)
def ai.drop:ai->Nat->ai
 |.gen es,n=>.gen (es.drop n)
 |.ints k l,n=>.ints k (l.drop n)
 |.ag l,n=>.ag (l.drop n)
 |.ah k l,n=>.ah k (l.drop n)
def ai.QU(k:IntKind)(l:List Int)(i:Nat)(cs:List D):ai:=
 match cs with
 |[.int k' v]=>match decide (k'=k)with|true=>.ints k (l.set i v)|false=>.gen ((ai.ints k l).l.set i cs)
 |_=>.gen ((ai.ints k l).l.set i cs)
def ai.Fl(l:List Bool)(i:Nat)(cs:List D):ai:=
 match cs with
 |[.bool v]=>.ag (l.set i v)
 |_=>.gen ((ai.ag l).l.set i cs)
def ai.set:ai->Nat->List D->ai
 |.gen es,i,cs=>.gen (es.set i cs)
 |.ints k l,i,cs=>ai.QU k l i cs
 |.ag l,i,cs=>ai.Fl l i cs
 |.ah k l,i,cs=>match k.dec cs with|some x=>.ah k (l.set i x)|none=>.gen ((ai.ah k l).l.set i cs)
def ai.app:ai->ai->ai
 |.gen [],F=>F
 |.ints k l,.ints k' m=>match decide (k'=k)with|true=>.ints k (l++m)|false=>.gen ((ai.ints k l).l++(ai.ints k' m).l)
 |.ag l,.ag m=>.ag (l++m)
 |.ah k l,.ah k' m=>match Gr k' k m with|some m'=>.ah k (l++m')|none=>.gen ((ai.ah k l).l++(ai.ah k' m).l)
 |.ints k l,.gen []=>.ints k l
 |.ag l,.gen []=>.ag l
 |.ah k l,.gen []=>.ah k l
 |.ah k l,.gen es=>match k.AL es with|some m=>.ah k (l++m)|none=>.gen ((ai.ah k l).l++es)
 |E,F=>.gen (E.l++F.l)
def ai.rep(n:Nat):List D->ai
 |[.int k v]=>.ints k (cO n v)
 |[.bool b]=>.ag (cO n b)
 |z=>.gen (cO n z)
def ai.FI(t n:Nat)(z:List D):ai:=
 match RK.Ng t with
 |some k=>match k.dec z with|some x=>.ah k (cO n x)|none=>ai.rep n z
 |none=>ai.rep n z
def ai.QV(k:IntKind):List (List D)->Option (List Int)
 |[]=>some []
 |[.int k' v]::l=>match decide (k'=k),ai.QV k l with|true,some m=>some (v::m)|_,_=>none
 |_=>none
def ai.QW:List (List D)->Option (List Bool)
 |[]=>some []
 |[.bool b]::l=>match ai.QW l with|some m=>some (b::m)|none=>none
 |_=>none
def ai.Vb:List (List D)->ai
 |[.int k v]::l=>match ai.QV k l with|some m=>.ints k (v::m)|none=>.gen ([.int k v]::l)
 |[.bool b]::l=>match ai.QW l with|some m=>.ag (b::m)|none=>.gen ([.bool b]::l)
 |l=>.gen l
def ai.QL(t:Nat)(es:List (List D)):ai:=
 match RK.Ng t with
 |some k=>match k.AL es with|some l=>.ah k l|none=>ai.Vb es
 |none=>ai.Vb es
@[simp] theorem ai.iq:∀(E:ai),E.l.length=E.len
 |.gen es=>rfl
 |.ints k l=>by simp[ai.l,ai.len]
 |.ag l=>by simp[ai.l,ai.len]
 |.ah k l=>by simp[ai.l,ai.len]
theorem ai.nn:∀(E:ai) {i:Nat},i<E.len->E.l.getD i []=E.get i
 |.gen es,i,_=>rfl
 |.ints k l,i,h=>by simp only[ai.len]at h;simp[ai.l,ai.get,aV,h]
 |.ag l,i,h=>by simp only[ai.len]at h;simp[ai.l,ai.get,aV,h]
 |.ah k l,i,h=>by simp only[ai.len]at h;simp[ai.l,ai.get,aV,h]
theorem ai.iW:∀(E:ai) (n:Nat),(E.take n).l=E.l.take n
 |.gen es,n=>rfl
 |.ints k l,n=>by simp[ai.l,ai.take]
 |.ag l,n=>by simp[ai.l,ai.take]
 |.ah k l,n=>by simp[ai.l,ai.take]
theorem ai.kh:∀(E:ai) (n:Nat),(E.drop n).l=E.l.drop n
 |.gen es,n=>rfl
 |.ints k l,n=>by simp[ai.l,ai.drop]
 |.ag l,n=>by simp[ai.l,ai.drop]
 |.ah k l,n=>by simp[ai.l,ai.drop]
theorem ai.QH:∀(E:ai) (i:Nat) (cs:List D),(E.set i cs).l=E.l.set i cs
 |.gen es,i,cs=>rfl
 |.ints k l,i,cs=>by
  simp only[ai.set,ai.QU]
  split
  ·split
   ·rename_i h
    have:=oY h
    subst this
    simp[ai.l,gK]
   ·rfl
  ·rfl
 |.ag l,i,cs=>by
  simp only[ai.set,ai.Fl]
  split
  ·simp[ai.l,gK]
  ·rfl
 |.ah k l,i,cs=>by
  simp only[ai.set]
  split
  ·rename_i x h
   rw[RK.oG h]
   simp[ai.l,gK]
  ·rfl
theorem ai.j4(E F:ai):(E.app F).l=E.l++F.l:=by
 cases E with
 |gen es=>
  cases es with
  |nil=>cases F<;>simp[ai.app,ai.l]
  |cons e es=>cases F<;>simp[ai.app,ai.l]
 |ints k l=>
  cases F with
  |ints k' m=>
   simp only[ai.app]
   split
   ·rename_i h
    have:=oY h
    subst this
    simp[ai.l]
   ·rfl
  |gen es=>cases es<;>simp[ai.app,ai.l]
  |_=>simp[ai.app,ai.l]
 |ag l=>
  cases F with
  |gen es=>cases es<;>simp[ai.app,ai.l]
  |_=>simp[ai.app,ai.l]
 |ah k l=>
  cases F with
  |ah k' m=>
   simp only[ai.app]
   split
   ·rename_i m' h
    obtain⟨e,hm⟩:=Wk h
    subst e
    simp only at hm
    subst hm
    simp[ai.l]
   ·rfl
  |gen es=>
   cases es with
   |nil=>simp[ai.app,ai.l]
   |cons e es=>
    simp only[ai.app]
    split
    ·rename_i m h
     have h2:=RK.nd h
     simp only[ai.l,h2,List.map_append]
    ·rfl
  |_=>simp[ai.app,ai.l]
theorem ai.HK(n:Nat)(z:List D):(ai.rep n z).l=cO n z:=by
 unfold ai.rep
 split<;>simp[ai.l]
theorem ai.uT(t n:Nat)(z:List D):(ai.FI t n z).l=cO n z:=by
 unfold ai.FI
 split
 ·split
  ·rename_i x h
   rw[RK.oG h]
   simp[ai.l]
  ·exact ai.HK n z
 ·exact ai.HK n z
theorem ai.HL{k:IntKind}:∀{es:List (List D)} {l:List Int},ai.QV k es=some l->es=l.map λn=>[.int k n]
 |[],l,h=>by simp[ai.QV]at h;subst h;rfl
 |e ::es,l,h=>by
  unfold ai.QV at h
  split at h
  ·rename_i h0;cases h0
  ·rename_i k' v l' h0
   cases h0
   split at h
   ·rename_i m h1 h2
    cases h
    have:=oY h1
    subst this
    rw[ai.HL h2];rfl
   ·cases h
  ·cases h
theorem ai.HM:∀{es:List (List D)} {l:List Bool},ai.QW es=some l->es=l.map λn=>[.bool n]
 |[],l,h=>by simp[ai.QW]at h;subst h;rfl
 |e ::es,l,h=>by
  unfold ai.QW at h
  split at h
  ·rename_i h0;cases h0
  ·rename_i v l' h0
   cases h0
   split at h
   ·rename_i m h2
    cases h
    rw[ai.HM h2];rfl
   ·cases h
  ·cases h
theorem ai.HN(es:List (List D)):(ai.Vb es).l=es:=by
 unfold ai.Vb
 split
 ·split
  ·rename_i m h;rw[ai.HL h];rfl
  ·rfl
 ·split
  ·rename_i m h;rw[ai.HM h];rfl
  ·rfl
 ·rfl
theorem ai.pV(t:Nat)(es:List (List D)):(ai.QL t es).l=es:=by
 unfold ai.QL
 split
 ·split
  ·rename_i l h;exact(RK.nd h).symm
  ·exact ai.HN es
 ·exact ai.HN es
theorem ai.toI_l{E:ai}{l:List Int}(h:E.toI k=some l):E.l=(ai.ints k l).l:=by
 unfold ai.toI at h
 split at h
 ·split at h
  ·rename_i hk
   cases h
   rw[oY hk]
  ·cases h
 ·cases h;rfl
 ·cases h
theorem ai.toB_l{E:ai}{l:List Bool}(h:E.toB=some l):E.l=(ai.ag l).l:=by
 unfold ai.toB at h
 split at h
 ·cases h;rfl
 ·cases h;rfl
 ·cases h
theorem ai.toR_l{k:RK}{E:ai}{l:List (RK.T k)}(h:E.toR k=some l):E.l=(ai.ah k l).l:=by
 unfold ai.toR at h
 split at h
 ·obtain⟨e,hm⟩:=Wk h
  subst e
  simp only at hm
  subst hm
  rfl
 ·cases h;rfl
 ·cases h
structure Row where
 box:Bool
 ty:TypeId
 sz:Nat
 es:ai
 deriving Inhabited
abbrev ae:=Nat->Prop
def CI(n:Nat)(a:Option Addr):Prop:=∀x,a=some x->x.block<n
theorem CI.mono{m n:Nat}(h:CI m a)(g:m<=n):CI n a:=λx hx=>Nat.lt_of_lt_of_le (h x hx) g
theorem Nn:CI n none:=λx hx=>by cases hx
mutual
inductive fy(I:ae)(w:World):D->Value->Prop
 |bool (b:Bool):fy I w (.bool b) (.bool b)
 |int (k:IntKind) (n:Int):fy I w (.int k n) (.int k n)
 |str (s:List UInt8):fy I w (.str s) (.string ⟨s.toArray⟩)
 |iw:fy I w .iw (.pointer none)
 |c7:fy I w .c7 (.slice none 0 0)
 |emp (a:Option Addr):fy I w .emp (.slice a 0 0)
 |UD (sz:Nat) (es:ai) (fr:Bool) (a:Option Addr) (cap:Nat) (h:es.l=[]):fy I w (.sl sz es fr) (.slice a es.l.length cap)
 |UE (sz:Nat) (es:ai) (fr:Bool) (cap:Nat) (hc:es.l.length<=cap) (b off:Nat) (arr:Array Value) (ty:TypeId) (fz:Nat×Nat) (hI:I b) (hh:w.heap[b]?=some (.cells arr ty fz)) (hE:ik I w es.l arr off sz):
  fy I w (.sl sz es fr) (.slice (some ⟨b,off,none⟩) es.l.length cap)
inductive oP(I:ae)(w:World):List D->Array Value->Nat->Prop
 |nil (arr:Array Value) (off:Nat):oP I w [] arr off
 |cons (c:D) (cs:List D) (arr:Array Value) (off:Nat) (v:Value) (hv:arr[off]?=some v) (hp:fy I w c v) (hr:oP I w cs arr (off+1)):oP I w (c::cs) arr off
inductive ik(I:ae)(w:World):List (List D)->Array Value->Nat->Nat->Prop
 |nil (arr:Array Value) (off sz:Nat):ik I w [] arr off sz
 |cons (e:List D) (es:List (List D)) (arr:Array Value) (off sz:Nat) (hl:e.length=sz) (hc:oP I w e arr off) (hr:ik I w es arr (off+sz) sz):ik I w (e::es) arr off sz
end
abbrev QX(I:ae)(w:World)(E:ai)(arr:Array Value)(off sz:Nat):Prop:=ik I w E.l arr off sz
theorem S2{I:ae}{E:ai}:QX I w E arr off sz↔ik I w E.l arr off sz:=Iff.rfl
section
variable {I:ae} {w:World} {v:Value}
theorem se{b:Bool}:fy I w (.bool b) v↔v=.bool b:=⟨λh=>by cases h;rfl,λh=>by subst h;exact .bool b⟩
theorem si{n:Int}:fy I w (.int k n) v↔v=.int k n:=⟨λh=>by cases h;rfl,λh=>by subst h;exact .int k n⟩
theorem sj{s:List UInt8}:fy I w (.str s) v↔v=.string ⟨s.toArray⟩:=⟨λh=>by cases h;rfl,λh=>by subst h;exact .str s⟩
theorem sk:fy I w .iw v↔v=.pointer none:=⟨λh=>by cases h;rfl,λh=>by subst h;exact .iw⟩
theorem sn:fy I w .c7 v↔v=.slice none 0 0:=⟨λh=>by cases h;rfl,λh=>by subst h;exact .c7⟩
theorem so:fy I w .emp v↔ ∃a,v=.slice a 0 0:=⟨λh=>by cases h;exact⟨_,rfl⟩,fun⟨a,h⟩=>by subst h;exact .emp a⟩
theorem tC{es:ai}{fr:Bool}:fy I w (.sl sz es fr) v↔ ∃a cap,v=.slice a es.l.length cap/\es.l.length<=cap/\
 (es.l=[]\/∃b off arr ty fz,a=some ⟨b,off,none⟩/\I b/\w.heap[b]?=some (.cells arr ty fz)/\QX I w es arr off sz):=by
 constructor
 ·intro h
  cases h with
  |UD sz es fr a cap h=>exact⟨a,cap,rfl,by rw[h];exact Nat.zero_le _,.inl h⟩
  |UE sz es fr cap hc b off arr ty fz hI hh hE=>exact⟨_,cap,rfl,hc,.inr ⟨b,off,arr,ty,fz,rfl,hI,hh,hE⟩⟩
 ·rintro⟨a,cap,rfl,hc,h|⟨b,off,arr,ty,fz,rfl,hI,hh,hE⟩⟩
  ·exact .UD sz es fr a cap h
  ·exact .UE sz es fr cap hc b off arr ty fz hI hh hE
theorem tZ:fy I w (.all r) v↔False:=⟨(λh=>nomatch h),False.elim⟩
theorem ua:fy I w (.own r o n) v↔False:=⟨(λh=>nomatch h),False.elim⟩
theorem ub:fy I w (.ptr r i o) v↔False:=⟨(λh=>nomatch h),False.elim⟩
theorem uc{r i o l:Nat}{k:Option IntKind}:fy I w (.pa r i o l k n) v↔False:=⟨(λh=>nomatch h),False.elim⟩
theorem ud{es:ai}:fy I w (.im sz es i o) v↔False:=⟨(λh=>nomatch h),False.elim⟩
theorem ue:fy I w .dead v↔False:=⟨(λh=>nomatch h),False.elim⟩
theorem uf{es:ai}:fy I w (.mW es) v↔False:=⟨(λh=>nomatch h),False.elim⟩
theorem qU{f:Nat}{cs:List iB}:fy I w (.gj f cs) v↔False:=⟨(λh=>nomatch h),False.elim⟩
theorem Zrc:fy I w (.gk r) v↔False:=⟨(λh=>nomatch h),False.elim⟩
theorem Zs4:fy I w .jI v↔False:=⟨(λh=>nomatch h),False.elim⟩
theorem ug:fy I w (.agg cs) v↔False:=⟨(λh=>nomatch h),False.elim⟩
theorem uh:fy I w (.dw cs) v↔False:=⟨(λh=>nomatch h),False.elim⟩
theorem DJ:oP I w [] arr off↔True:=⟨λ_=>trivial,λ_=>.nil arr off⟩
theorem DK{c:D}:oP I w (c::cs) arr off↔(∃v,arr[off]?=some v/\fy I w c v)/\oP I w cs arr (off+1):=
 ⟨λh=>by cases h with|cons _ _ _ _ v hv hp hr=>exact⟨⟨v,hv,hp⟩,hr⟩,fun⟨⟨v,hv,hp⟩,hr⟩=>.cons c cs arr off v hv hp hr⟩
theorem ra:ik I w [] arr off sz↔True:=⟨λ_=>trivial,λ_=>.nil arr off sz⟩
theorem pN{e:List D}{es:List (List D)}:ik I w (e::es) arr off sz↔e.length=sz/\oP I w e arr off/\ik I w es arr (off+sz) sz:=
 ⟨λh=>by cases h with|cons _ _ _ _ _ hl hc hr=>exact⟨hl,hc,hr⟩,fun⟨hl,hc,hr⟩=>.cons e es arr off sz hl hc hr⟩
end
structure Ctx where
 ρ:Nat->Nat
 R:Nat->Option Row
 V:Nat->Prop
 I:ae
 base:Nat
 top:Nat
 X:ae
def Vc(c:Ctx)(r:Nat)(a:Option Addr):Prop:=CI c.top a\/(¬c.V r/\∀x,a=some x->x.block=c.ρ r)
theorem Vc.mono{c c':Ctx}{r r':Nat}(h:Vc c r a)(g:c.top<=c'.top)(hV:c'.V r'↔c.V r)(P0:c'.ρ r'=c.ρ r):Vc c' r' a:=
 h.imp (λh=>h.mono g) fun⟨p,q⟩=>⟨λe=>p (hV.1 e),λx hx=>(q x hx).trans P0.symm⟩
def JQ(c:Ctx)(p:Nat×Nat×Nat)(v:Value):Prop:=∃row,c.R p.1=some row/\¬c.V p.1/\p.2.1<row.es.l.length/\v=.pointer (some ⟨c.ρ p.1,p.2.1*row.sz+p.2.2,none⟩)
def Mu(c:Ctx):List (Nat×Nat×Nat)->List Value->Prop
 |[],[]=>True
 |p::ps,v::vs=>JQ c p v/\Mu c ps vs
 |_,_=>False
def P7(f:Nat)(us:List Value)(rec:Loop):Prop:=
 rec.state=.ready/\rec.pending=none/\∃y,AI f=some y/\rec.params=y.ps/\rec.assign=y.assign/\rec.body=y.body/\y.n<=rec.tmps.size/\y.ps.size=1/\us=y.ts.map λt=>rec.tmps.getD t undef
def rT(c:Ctx)(w:World)(f:Nat)(us:List Value)(v:Value):Prop:=
 (f<YB/\v=.func (.func f) #[] us.toArray)\/(YB<=f/\∃l rec,v=.func (.yield l) #[] #[]/\c.I l/\w.heap[l]?=some (.loop rec)/\P7 f us rec)
def SJ(c:Ctx)(w:World):iB->Value->Prop
 |.ptr r i off,v=>∃row,c.R r=some row/\¬c.V r/\i<row.es.l.length/\v=.pointer (some ⟨c.ρ r,i*row.sz+off,none⟩)
 |.int k n,v=>v=.int k n
 |.arr r,v=>∃row,c.R r=some row/\row.box=false/\((c.V r/\∃a,v=.slice a 0 0/\CI c.top a)\/(¬c.V r/\∃cap arr,v=.slice (some ⟨c.ρ r,0,none⟩) row.es.l.length cap/\row.es.l.length<=cap/\cap<=maxLen/\
  w.heap[c.ρ r]?=some (.cells arr row.ty (0,0))/\cap*row.sz=arr.size))
 |.sl sz es fr,v=>∃a cap,v=.slice a es.l.length cap/\es.l.length<=cap/\
  (es.l=[]\/∃b off arr ty fz,a=some ⟨b,off,none⟩/\c.I b/\(fr=true->c.base<=b)/\w.heap[b]?=some (.cells arr ty fz)/\ik c.I w es.l arr off sz)
 |.fn f ps,v=>∃us:List Value,rT c w f us v/\Mu c ps us
def oL(c:Ctx)(w:World):List iB->List Value->Prop
 |[],[]=>True
 |x::xs,v::vs=>SJ c w x v/\oL c w xs vs
 |_,_=>False
def dc(c:Ctx)(w:World):D->Value->Prop
 |.sl sz es fr,v=>∃a cap,v=.slice a es.l.length cap/\es.l.length<=cap/\
  (es.l=[]\/∃b off arr ty fz,a=some ⟨b,off,none⟩/\c.I b/\(fr=true->c.base<=b)/\w.heap[b]?=some (.cells arr ty fz)/\ik c.I w es.l arr off sz)
 |.all r,v=>∃row,c.R r=some row/\row.box=false/\((c.V r/\∃a,v=.slice a 0 0/\CI c.top a)\/(¬c.V r/\∃cap arr,v=.slice (some ⟨c.ρ r,0,none⟩) row.es.l.length cap/\row.es.l.length<=cap/\cap<=maxLen/\
  w.heap[c.ρ r]?=some (.cells arr row.ty (0,0))/\cap*row.sz=arr.size))
 |.own r o n,v=>∃row,c.R r=some row/\row.box=false/\o+n<=row.es.l.length/\((n=0/\∃a,v=.slice a 0 0/\Vc c r a)\/(¬c.V r/\∃cap arr,n<=cap/\cap<=maxLen/\
  w.heap[c.ρ r]?=some (.cells arr row.ty (0,0))/\v=.slice (some ⟨c.ρ r,o*row.sz,none⟩) n cap/\(o+cap)*row.sz=arr.size))
 |.ptr r i off,v=>∃row,c.R r=some row/\¬c.V r/\i<row.es.l.length/\v=.pointer (some ⟨c.ρ r,i*row.sz+off,none⟩)
 |.pa r i off len _ n,v=>n<len/\∃row,c.R r=some row/\¬c.V r/\i<row.es.l.length/\v=.pointer (some ⟨c.ρ r,i*row.sz+(off+n),none⟩)
 |.im sz es i off,v=>∃b o arr ty fz,v=.pointer (some ⟨b,o+i*sz+off,none⟩)/\c.I b/\i<es.l.length/\w.heap[b]?=some (.cells arr ty fz)/\ik c.I w es.l arr o sz
 |.dead,v=>v.oneCell'=true
 |.bool b,v=>v=.bool b
 |.int k n,v=>v=.int k n
 |.str s,v=>v=.string ⟨s.toArray⟩
 |.iw,v=>v=.pointer none
 |.c7,v=>v=.slice none 0 0
 |.emp,v=>∃a,v=.slice a 0 0/\CI c.top a
 |.mW es,v=>∃b,v=.bool b/\(b=true->es.l=[])
 |.gk r,v=>v=.pointer none\/∃row,c.R r=some row/\¬c.V r/\0<row.es.l.length/\v=.pointer (some ⟨c.ρ r,0*row.sz+0,none⟩)
 |.jI,v=>v=.nilIface
 |.gj f cs,v=>∃us:List Value,rT c w f us v/\oL c w cs us
 |.agg _,_=>False
 |.dw _,_=>False
theorem Ziv{c:Ctx}{w:World}:∀{ps:List (Nat×Nat×Nat)} {vs:List Value},Mu c ps vs↔oL c w (ps.map Ib) vs
 |[],[]=>Iff.rfl
 |p::ps,v::vs=>by simp only[Mu,List.map_cons,oL];rw[Ziv (ps:=ps)];exact Iff.rfl
 |[],_::_=>Iff.rfl
 |_::_,[]=>Iff.rfl
theorem Wn{c:Ctx}{x:iB}{v:Value}:SJ c w x v↔dc c w x.d v:=by
 cases x with
 |fn f ps=>simp only[SJ,iB.d,dc,Ziv (w:=w)]
 |_=>exact Iff.rfl
def jk(c:Ctx)(w:World):List D->List Value->Prop
 |[],[]=>True
 |d::ds,v::vs=>dc c w d v/\jk c w ds vs
 |_,_=>False
def VRep(c:Ctx)(w:World):D->Value->Prop
 |.agg cs,v=>∃vs,v=.agg vs.toArray/\jk c w cs vs
 |d,v=>dc c w d v
def kd(c:Ctx)(w:World):List D->List Value->Prop
 |[],[]=>True
 |d::ds,v::vs=>VRep c w d v/\kd c w ds vs
 |_,_=>False
def Rep(c:Ctx)(w:World):D->Value->Prop
 |.dw ds,v=>∃vs,v=.tuple vs.toArray/\kd c w ds vs
 |.dead,_=>True
 |d,v=>VRep c w d v
def kF(c:Ctx)(w:World):List D->Array Value->Nat->Prop
 |[],_,_=>True
 |d::ds,arr,off=>(∃v,arr[off]?=some v/\dc c w d v)/\kF c w ds arr (off+1)
def wO(c:Ctx)(w:World)(r:Nat)(row:Row):Prop:=
 ∃ arr,w.heap[c.ρ r]?=some (.cells arr row.ty (0,0))/\0<row.sz/\
  if row.box then∃e,row.es=.gen [e]/\e.length=row.sz/\arr.size=row.sz/\kF c w e arr 0
  else ik c.I w row.es.l arr 0 row.sz
def ED(c:Ctx)(w:World)(r:Nat)(row:Row):Prop:=
 (c.V r/\row.box=false/\row.es.l=[]/\0<row.sz)\/(¬c.V r/\wO c w r row)

import Derived.Test.YtaemmjbkndlkeaaGreatMigrateOneFa
import Derived.Test.YtaemmjbkndlkeaaGreatProg
open Nat renaming blt->bN,beq->bX
open Bool renaming not_eq_true'->bB
open List renaming getD->aV,replicate->cO,map_set->gK
set_option linter.all false
namespace Go.GD
open Go
structure YK where
 ts:List Nat
 ps:Array Tmp
 assign:Code
 body:Code
 n:Nat
def YB:Nat:=1000000000
def Gd:List (Nat×IntKind×List Int):=[]
def splits:List (Nat×Nat):=[(101,1)]
def Fh:List Nat:=[23]
def sH:Code->Option (Array Tmp×Code×Code)
 |.seq a b=>match sH a with|some x=>some x|none=>sH b
 |.cond _ a b=>match sH a with|some x=>some x|none=>sH b
 |.block _ a=>sH a
 |.loop a=>sH a
 |.scope a=>sH a
 |.rangeFunc _ ps x y=>some (ps,x,y)
 |_=>none
def Fb(ts:List Nat)(fn:Func):Option YK:=match fn.body with|some c=>(match sH c with|some (ps,x,y)=>some ⟨ts,ps,x,y,fn.ntmps⟩|none=>none)|none=>none
def YK.pos(y:YK):Option Nat:=
 match y.ps.toList,y.assign with
 |[p],.skip=>match bN p y.n&&y.ts.all λt=>!(bX t p)&&bN t y.n with|true=>some p|false=>none
 |[p],.region _ ops false=>match ops.toList with
  |[⟨some d,.assign (.tmp q),_,_,_,none⟩]=>match bX q p&&(bN p y.n&&bN d y.n)&&y.ts.all λt=>!(bX t p)&&!(bX t d)&&bN t y.n with|true=>some d|false=>none
  |_=>none
 |_,_=>none
def V0(f:Nat):List Nat:=match bX f 1000000095 with|true=>[3,6]|false=>match bX f 1000000144 with|true=>[3]|false=>[]
noncomputable def Al (f:Nat):Option YK:=match bX f 1000000095 with|true=>Fb [3,6] Go.Proofs.Tryz.f95|false=>match bX f 1000000144 with|true=>Fb [3] Go.Proofs.Tryz.f144|false=>none
noncomputable def yFn (f:Nat):Func:=match Al f with
 |some y=>match y.pos with
  |some d=>{name:= "",origin:= "",params:=(d::y.ts).toArray,resultTypes:= #[],nfree:=YB,ntmps:=y.n,results:= #[],body:=some y.body,norace:=false,tmpNames:= #[]}
  |none=>{name:= "",origin:= "",params:=(y.ps.toList++y.ts).toArray,resultTypes:= #[],nfree:=YB+1,ntmps:=y.n,results:= #[],body:=some (.seq y.assign y.body),norace:=false,tmpNames:= #[]}
 |none=>default
def Jf:CT->D->Bool
 |.int k,.int j _=>decide (j=k)
 |.bool,.bool _=>true
 |.str,.str _=>true
 |.ints k,.sl s (.ints j _) fr=>bX s 1&&(decide (j=k)&&!fr)
 |.ag,.sl s (.ag _) fr=>bX s 1&&!fr
 |.ai k,.sl s (.ai j _) fr=>bX s k.size&&(decide (j=k)&&!fr)
 |.row i,.all r=>bX r i
 |_,_=>false
def An:List CT->List D->Bool
 |[],[]=>true
 |t::ts,d::ds=>Jf t d&&An ts ds
 |_,_=>false
theorem zw{t:CT}{d:D}(h:Jf t d=true):Dd t d=d:=by
 unfold Jf at h
 split at h
 ·simp at h;subst h;rfl
 ·rfl
 ·rfl
 ·obtain⟨h1,h2⟩:=Bool.and_eq_true_iff.1 h
  obtain⟨h2,h3⟩:=Bool.and_eq_true_iff.1 h2
  have h1:=bE h1
  have h2:=oY h2
  rw[bB]at h3
  subst h1;subst h2;subst h3
  simp[Dd,cf,ah.toI]
 ·obtain⟨h1,h3⟩:=Bool.and_eq_true_iff.1 h
  have h1:=bE h1
  rw[bB]at h3
  subst h1;subst h3
  simp[Dd,ey,ah.toB]
 ·obtain⟨h1,h2⟩:=Bool.and_eq_true_iff.1 h
  obtain⟨h2,h3⟩:=Bool.and_eq_true_iff.1 h2
  have h1:=bE h1
  have h2:=oY h2
  rw[bB]at h3
  subst h1;subst h2;subst h3
  simp[Dd,iM,ah.toR,VH]
 ·rw[bE h];rfl
 ·cases h
theorem Zgl:∀{ts:List CT} {pre ds:List D},An ts ds=true->uO ts (pre++ds) pre.length=ds
 |[],pre,[],_=>rfl
 |t::ts,pre,d::ds,h=>by
  simp only[An,aE]at h
  have h2:=Zgl (pre:=pre++[d]) h.2
  have h3:(pre++d::ds).getD pre.length .dead=d:=by simp[aV]
  simp only[uO,h3,zw h.1]
  congr 1
  simpa using h2
 |[],_,_::_,h=>by simp[An]at h
 |_::_,_,[],h=>by simp[An]at h
theorem Z10:∀{ts:List CT} {cs:List D} {j:Nat},(uO ts cs j).length=ts.length
 |[],_,_=>rfl
 |t::ts,cs,j=>by simp[uO,Z10]
def RK.dec(k:RK)(cs:List D):Option (RK.T k):=match An k.sig cs with|true=>some (k.of cs)|false=>none
theorem RK.oq{k:RK}{cs:List D}{x:RK.T k}(h:k.dec cs=some x):cs=k.cells x:=by
 unfold RK.dec at h
 split at h
 ·rename_i hf
  cases h
  have:=Zgl (pre:=[]) hf
  simp only[List.nil_append,List.length_nil]at this
  rw[RK.Bl,this]
 ·cases h
theorem RK.re(k:RK)(x:RK.T k):(k.cells x).length=k.size:=by
 rw[<-RK.nT,Z10,RK.tG]
def RK.Ao(k:RK):List (List D)->Option (List (RK.T k))
 |[]=>some []
 |e::es=>match k.dec e,RK.Ao k es with|some x,some l=>some (x::l)|_,_=>none
theorem RK.mM{k:RK}:∀{es:List (List D)} {l:List (RK.T k)},k.Ao es=some l->es=l.map k.cells
 |[],l,h=>by simp[RK.Ao]at h;subst h;rfl
 |e ::es,l,h=>by
  simp only[RK.Ao]at h
  split at h
  ·rename_i x m h1 h2
   cases h
   rw[RK.oq h1,RK.mM h2];rfl
  ·cases h
def ah.l:ah->List (List D)
 |.gen es=>es
 |.ints k l=>l.map λn=>[.int k n]
 |.ag l=>l.map λb=>[.bool b]
 |.ai k l=>l.map k.cells
def ah.len:ah->Nat
 |.gen es=>es.length
 |.ints _ l=>l.length
 |.ag l=>l.length
 |.ai _ l=>l.length
def ah.get:ah->Nat->List D
 |.gen es,i=>es.getD i []
 |.ints k l,i=>[.int k (l.getD i 0)]
 |.ag l,i=>[.bool (l.getD i false)]
 |.ai k l,i=>k.cells (l.getD i k.ei)
def ah.take:ah->Nat->ah
 |.gen es,n=>.gen (es.take n)
 |.ints k l,n=>.ints k (l.take n)
 |.ag l,n=>.ag (l.take n)
 |.ai k l,n=>.ai k (l.take n)
def ah.drop:ah->Nat->ah
 |.gen es,n=>.gen (es.drop n)
 |.ints k l,n=>.ints k (l.drop n)
 |.ag l,n=>.ag (l.drop n)
 |.ai k l,n=>.ai k (l.drop n)
def ah.PX(k:IntKind)(l:List Int)(i:Nat)(cs:List D):ah:=
 match cs with
 |[.int k' v]=>match decide (k'=k)with|true=>.ints k (l.set i v)|false=>.gen ((ah.ints k l).l.set i cs)
 |_=>.gen ((ah.ints k l).l.set i cs)
def ah.ED(l:List Bool)(i:Nat)(cs:List D):ah:=
 match cs with
 |[.bool v]=>.ag (l.set i v)
 |_=>.gen ((ah.ag l).l.set i cs)
def ah.set:ah->Nat->List D->ah
 |.gen es,i,cs=>.gen (es.set i cs)
 |.ints k l,i,cs=>ah.PX k l i cs
 |.ag l,i,cs=>ah.ED l i cs
 |.ai k l,i,cs=>match k.dec cs with|some x=>.ai k (l.set i x)|none=>.gen ((ah.ai k l).l.set i cs)
def ah.app:ah->ah->ah
 |.gen [],F=>F
 |.ints k l,.ints k' m=>match decide (k'=k)with|true=>.ints k (l++m)|false=>.gen ((ah.ints k l).l++(ah.ints k' m).l)
 |.ag l,.ag m=>.ag (l++m)
 |.ai k l,.ai k' m=>match FH k' k m with|some m'=>.ai k (l++m')|none=>.gen ((ah.ai k l).l++(ah.ai k' m).l)
 |.ints k l,.gen []=>.ints k l
 |.ag l,.gen []=>.ag l
 |.ai k l,.gen []=>.ai k l
 |.ai k l,.gen es=>match k.Ao es with|some m=>.ai k (l++m)|none=>.gen ((ah.ai k l).l++es)
 |E,F=>.gen (E.l++F.l)
def ah.rep(n:Nat):List D->ah
 |[.int k v]=>.ints k (cO n v)
 |[.bool b]=>.ag (cO n b)
 |z=>.gen (cO n z)
def ah.EW(t n:Nat)(z:List D):ah:=
 match RK.MD t with
 |some k=>match k.dec z with|some x=>.ai k (cO n x)|none=>ah.rep n z
 |none=>ah.rep n z
def ah.PY(k:IntKind):List (List D)->Option (List Int)
 |[]=>some []
 |[.int k' v]::l=>match decide (k'=k),ah.PY k l with|true,some m=>some (v::m)|_,_=>none
 |_=>none
def ah.PZ:List (List D)->Option (List Bool)
 |[]=>some []
 |[.bool b]::l=>match ah.PZ l with|some m=>some (b::m)|none=>none
 |_=>none
def ah.Uw:List (List D)->ah
 |[.int k v]::l=>match ah.PY k l with|some m=>.ints k (v::m)|none=>.gen ([.int k v]::l)
 |[.bool b]::l=>match ah.PZ l with|some m=>.ag (b::m)|none=>.gen ([.bool b]::l)
 |l=>.gen l
def ah.PM(t:Nat)(es:List (List D)):ah:=
 match RK.MD t with
 |some k=>match k.Ao es with|some l=>.ai k l|none=>ah.Uw es
 |none=>ah.Uw es
@[simp] theorem ah.ir:∀(E:ah),E.l.length=E.len
 |.gen es=>rfl
 |.ints k l=>by simp[ah.l,ah.len]
 |.ag l=>by simp[ah.l,ah.len]
 |.ai k l=>by simp[ah.l,ah.len]
theorem ah.mW:∀(E:ah) {i:Nat},i<E.len->E.l.getD i []=E.get i
 |.gen es,i,_=>rfl
 |.ints k l,i,h=>by simp only[ah.len]at h;simp[ah.l,ah.get,aV,h]
 |.ag l,i,h=>by simp only[ah.len]at h;simp[ah.l,ah.get,aV,h]
 |.ai k l,i,h=>by simp only[ah.len]at h;simp[ah.l,ah.get,aV,h]
theorem ah.iT:∀(E:ah) (n:Nat),(E.take n).l=E.l.take n
 |.gen es,n=>rfl
 |.ints k l,n=>by simp[ah.l,ah.take]
 |.ag l,n=>by simp[ah.l,ah.take]
 |.ai k l,n=>by simp[ah.l,ah.take]
theorem ah.j8:∀(E:ah) (n:Nat),(E.drop n).l=E.l.drop n
 |.gen es,n=>rfl
 |.ints k l,n=>by simp[ah.l,ah.drop]
 |.ag l,n=>by simp[ah.l,ah.drop]
 |.ai k l,n=>by simp[ah.l,ah.drop]
theorem ah.PI:∀(E:ah) (i:Nat) (cs:List D),(E.set i cs).l=E.l.set i cs
 |.gen es,i,cs=>rfl
 |.ints k l,i,cs=>by
  simp only[ah.set,ah.PX]
  split
  ·split
   ·rename_i h
    have:=oY h
    subst this
    simp[ah.l,gK]
   ·rfl
  ·rfl
 |.ag l,i,cs=>by
  simp only[ah.set,ah.ED]
  split
  ·simp[ah.l,gK]
  ·rfl
 |.ai k l,i,cs=>by
  simp only[ah.set]
  split
  ·rename_i x h
   rw[RK.oq h]
   simp[ah.l,gK]
  ·rfl
theorem ah.jU(E F:ah):(E.app F).l=E.l++F.l:=by
 cases E with
 |gen es=>
  cases es with
  |nil=>cases F<;>simp[ah.app,ah.l]
  |cons e es=>cases F<;>simp[ah.app,ah.l]
 |ints k l=>
  cases F with
  |ints k' m=>
   simp only[ah.app]
   split
   ·rename_i h
    have:=oY h
    subst this
    simp[ah.l]
   ·rfl
  |gen es=>cases es<;>simp[ah.app,ah.l]
  |_=>simp[ah.app,ah.l]
 |ag l=>
  cases F with
  |gen es=>cases es<;>simp[ah.app,ah.l]
  |_=>simp[ah.app,ah.l]
 |ai k l=>
  cases F with
  |ai k' m=>
   simp only[ah.app]
   split
   ·rename_i m' h
    obtain⟨e,hm⟩:=VI h
    subst e
    simp only at hm
    subst hm
    simp[ah.l]
   ·rfl
  |gen es=>
   cases es with
   |nil=>simp[ah.app,ah.l]
   |cons e es=>
    simp only[ah.app]
    split
    ·rename_i m h
     have h2:=RK.mM h
     simp only[ah.l,h2,List.map_append]
    ·rfl
  |_=>simp[ah.app,ah.l]
theorem ah.G9(n:Nat)(z:List D):(ah.rep n z).l=cO n z:=by
 unfold ah.rep
 split<;>simp[ah.l]
theorem ah.uy(t n:Nat)(z:List D):(ah.EW t n z).l=cO n z:=by
 unfold ah.EW
 split
 ·split
  ·rename_i x h
   rw[RK.oq h]
   simp[ah.l]
  ·exact ah.G9 n z
 ·exact ah.G9 n z
theorem ah.Ha{k:IntKind}:∀{es:List (List D)} {l:List Int},ah.PY k es=some l->es=l.map λn=>[.int k n]
 |[],l,h=>by simp[ah.PY]at h;subst h;rfl
 |e ::es,l,h=>by
  unfold ah.PY at h
  split at h
  ·rename_i h0;cases h0
  ·rename_i k' v l' h0
   cases h0
   split at h
   ·rename_i m h1 h2
    cases h
    have:=oY h1
    subst this
    rw[ah.Ha h2];rfl
   ·cases h
  ·cases h
theorem ah.Hb:∀{es:List (List D)} {l:List Bool},ah.PZ es=some l->es=l.map λn=>[.bool n]
 |[],l,h=>by simp[ah.PZ]at h;subst h;rfl
 |e ::es,l,h=>by
  unfold ah.PZ at h
  split at h
  ·rename_i h0;cases h0
  ·rename_i v l' h0
   cases h0
   split at h
   ·rename_i m h2
    cases h
    rw[ah.Hb h2];rfl
   ·cases h
  ·cases h
theorem ah.Hc(es:List (List D)):(ah.Uw es).l=es:=by
 unfold ah.Uw
 split
 ·split
  ·rename_i m h;rw[ah.Ha h];rfl
  ·rfl
 ·split
  ·rename_i m h;rw[ah.Hb h];rfl
  ·rfl
 ·rfl
theorem ah.pK(t:Nat)(es:List (List D)):(ah.PM t es).l=es:=by
 unfold ah.PM
 split
 ·split
  ·rename_i l h;exact(RK.mM h).symm
  ·exact ah.Hc es
 ·exact ah.Hc es
theorem ah.toI_l{k:IntKind}{E:ah}{l:List Int}(h:E.toI k=some l):E.l=(ah.ints k l).l:=by
 unfold ah.toI at h
 split at h
 ·split at h
  ·rename_i hk
   cases h
   rw[oY hk]
  ·cases h
 ·cases h;rfl
 ·cases h
theorem ah.toB_l{E:ah}{l:List Bool}(h:E.toB=some l):E.l=(ah.ag l).l:=by
 unfold ah.toB at h
 split at h
 ·cases h;rfl
 ·cases h;rfl
 ·cases h
theorem ah.toR_l{k:RK}{E:ah}{l:List (RK.T k)}(h:E.toR k=some l):E.l=(ah.ai k l).l:=by
 unfold ah.toR at h
 split at h
 ·obtain⟨e,hm⟩:=VI h
  subst e
  simp only at hm
  subst hm
  rfl
 ·cases h;rfl
 ·cases h
structure Row where
 box:Bool
 ty:TypeId
 sz:Nat
 es:ah
 deriving Inhabited
abbrev ab:=Nat->Prop
def Cg(n:Nat)(a:Option Addr):Prop:=∀x,a=some x->x.block<n
theorem Cg.mono{m n:Nat}{a:Option Addr}(h:Cg m a)(g:m<=n):Cg n a:=λx hx=>Nat.lt_of_lt_of_le (h x hx) g
theorem MJ{n:Nat}:Cg n none:=λx hx=>by cases hx
mutual
inductive fx(I:ab)(w:World):D->Value->Prop
 |bool (b:Bool):fx I w (.bool b) (.bool b)
 |int (k:IntKind) (n:Int):fx I w (.int k n) (.int k n)
 |str (s:List UInt8):fx I w (.str s) (.string ⟨s.toArray⟩)
 |iB:fx I w .iB (.pointer none)
 |c8:fx I w .c8 (.slice none 0 0)
 |emp (a:Option Addr):fx I w .emp (.slice a 0 0)
 |TT (sz:Nat) (es:ah) (fr:Bool) (a:Option Addr) (cap:Nat) (h:es.l=[]):fx I w (.sl sz es fr) (.slice a es.l.length cap)
 |TU (sz:Nat) (es:ah) (fr:Bool) (cap:Nat) (hc:es.l.length<=cap) (b off:Nat) (arr:Array Value) (ty:TypeId) (fz:Nat×Nat) (hI:I b) (hh:w.heap[b]?=some (.cells arr ty fz)) (hE:ij I w es.l arr off sz):
  fx I w (.sl sz es fr) (.slice (some ⟨b,off,none⟩) es.l.length cap)
inductive oB(I:ab)(w:World):List D->Array Value->Nat->Prop
 |nil (arr:Array Value) (off:Nat):oB I w [] arr off
 |cons (c:D) (cs:List D) (arr:Array Value) (off:Nat) (v:Value) (hv:arr[off]?=some v) (hp:fx I w c v) (hr:oB I w cs arr (off+1)):oB I w (c::cs) arr off
inductive ij(I:ab)(w:World):List (List D)->Array Value->Nat->Nat->Prop
 |nil (arr:Array Value) (off sz:Nat):ij I w [] arr off sz
 |cons (e:List D) (es:List (List D)) (arr:Array Value) (off sz:Nat) (hl:e.length=sz) (hc:oB I w e arr off) (hr:ij I w es arr (off+sz) sz):ij I w (e::es) arr off sz
end
abbrev P0(I:ab)(w:World)(E:ah)(arr:Array Value)(off sz:Nat):Prop:=ij I w E.l arr off sz
theorem So{I:ab}{w:World}{E:ah}{arr:Array Value}{off sz:Nat}:P0 I w E arr off sz↔ij I w E.l arr off sz:=Iff.rfl
section
variable {I:ab} {w:World} {v:Value}
theorem rS{b:Bool}:fx I w (.bool b) v↔v=.bool b:=⟨λh=>by cases h;rfl,λh=>by subst h;exact .bool b⟩
theorem rT{k:IntKind}{n:Int}:fx I w (.int k n) v↔v=.int k n:=⟨λh=>by cases h;rfl,λh=>by subst h;exact .int k n⟩
theorem rU{s:List UInt8}:fx I w (.str s) v↔v=.string ⟨s.toArray⟩:=⟨λh=>by cases h;rfl,λh=>by subst h;exact .str s⟩
theorem rV:fx I w .iB v↔v=.pointer none:=⟨λh=>by cases h;rfl,λh=>by subst h;exact .iB⟩
theorem rW:fx I w .c8 v↔v=.slice none 0 0:=⟨λh=>by cases h;rfl,λh=>by subst h;exact .c8⟩
theorem rY:fx I w .emp v↔ ∃a,v=.slice a 0 0:=⟨λh=>by cases h;exact⟨_,rfl⟩,fun⟨a,h⟩=>by subst h;exact .emp a⟩
theorem sY{sz:Nat}{es:ah}{fr:Bool}:fx I w (.sl sz es fr) v↔ ∃a cap,v=.slice a es.l.length cap/\es.l.length<=cap/\
 (es.l=[]\/∃b off arr ty fz,a=some ⟨b,off,none⟩/\I b/\w.heap[b]?=some (.cells arr ty fz)/\P0 I w es arr off sz):=by
 constructor
 ·intro h
  cases h with
  |TT sz es fr a cap h=>exact⟨a,cap,rfl,by rw[h];exact Nat.zero_le _,.inl h⟩
  |TU sz es fr cap hc b off arr ty fz hI hh hE=>exact⟨_,cap,rfl,hc,.inr ⟨b,off,arr,ty,fz,rfl,hI,hh,hE⟩⟩
 ·rintro⟨a,cap,rfl,hc,h|⟨b,off,arr,ty,fz,rfl,hI,hh,hE⟩⟩
  ·exact .TT sz es fr a cap h
  ·exact .TU sz es fr cap hc b off arr ty fz hI hh hE
theorem tJ{r:Nat}:fx I w (.all r) v↔False:=⟨(λh=>nomatch h),False.elim⟩
theorem tK{r o n:Nat}:fx I w (.own r o n) v↔False:=⟨(λh=>nomatch h),False.elim⟩
theorem tL{r i o:Nat}:fx I w (.ptr r i o) v↔False:=⟨(λh=>nomatch h),False.elim⟩
theorem tM{r i o l:Nat}{k:Option IntKind}{n:Nat}:fx I w (.pa r i o l k n) v↔False:=⟨(λh=>nomatch h),False.elim⟩
theorem tN{sz:Nat}{es:ah}{i o:Nat}:fx I w (.im sz es i o) v↔False:=⟨(λh=>nomatch h),False.elim⟩
theorem Q6:fx I w .dead v↔False:=⟨(λh=>nomatch h),False.elim⟩
theorem tO{es:ah}:fx I w (.mF es) v↔False:=⟨(λh=>nomatch h),False.elim⟩
theorem zU{f:Nat}{cs:List iq}:fx I w (.gk f cs) v↔False:=⟨(λh=>nomatch h),False.elim⟩
theorem Zrf{r:Nat}:fx I w (.gd r) v↔False:=⟨(λh=>nomatch h),False.elim⟩
theorem Zrq:fx I w .jC v↔False:=⟨(λh=>nomatch h),False.elim⟩
theorem tP{cs:List D}:fx I w (.agg cs) v↔False:=⟨(λh=>nomatch h),False.elim⟩
theorem tQ{cs:List D}:fx I w (.dw cs) v↔False:=⟨(λh=>nomatch h),False.elim⟩
theorem Df{arr:Array Value}{off:Nat}:oB I w [] arr off↔True:=⟨λ_=>trivial,λ_=>.nil arr off⟩
theorem Dg{c:D}{cs:List D}{arr:Array Value}{off:Nat}:oB I w (c::cs) arr off↔(∃v,arr[off]?=some v/\fx I w c v)/\oB I w cs arr (off+1):=
 ⟨λh=>by cases h with|cons _ _ _ _ v hv hp hr=>exact⟨⟨v,hv,hp⟩,hr⟩,fun⟨⟨v,hv,hp⟩,hr⟩=>.cons c cs arr off v hv hp hr⟩
theorem pQ{arr:Array Value}{off sz:Nat}:ij I w [] arr off sz↔True:=⟨λ_=>trivial,λ_=>.nil arr off sz⟩
theorem pB{e:List D}{es:List (List D)}{arr:Array Value}{off sz:Nat}:ij I w (e::es) arr off sz↔e.length=sz/\oB I w e arr off/\ij I w es arr (off+sz) sz:=
 ⟨λh=>by cases h with|cons _ _ _ _ _ hl hc hr=>exact⟨hl,hc,hr⟩,fun⟨hl,hc,hr⟩=>.cons e es arr off sz hl hc hr⟩
end
structure Ctx where
 ρ:Nat->Nat
 R:Nat->Option Row
 V:Nat->Prop
 I:ab
 base:Nat
 top:Nat
 X:ab
def Ux(c:Ctx)(r:Nat)(a:Option Addr):Prop:=Cg c.top a\/(¬c.V r/\∀x,a=some x->x.block=c.ρ r)
theorem Ux.mono{c c':Ctx}{r r':Nat}{a:Option Addr}(h:Ux c r a)(g:c.top<=c'.top)(hV:c'.V r'↔c.V r)(Pq:c'.ρ r'=c.ρ r):Ux c' r' a:=
 h.imp (λh=>h.mono g) fun⟨p,q⟩=>⟨λe=>p (hV.1 e),λx hx=>(q x hx).trans Pq.symm⟩
def Jg(c:Ctx)(p:Nat×Nat×Nat)(v:Value):Prop:=∃row,c.R p.1=some row/\¬c.V p.1/\p.2.1<row.es.l.length/\v=.pointer (some ⟨c.ρ p.1,p.2.1*row.sz+p.2.2,none⟩)
def LY(c:Ctx):List (Nat×Nat×Nat)->List Value->Prop
 |[],[]=>True
 |p::ps,v::vs=>Jg c p v/\LY c ps vs
 |_,_=>False
def Px(f:Nat)(us:List Value)(rec:Loop):Prop:=
 rec.state=.ready/\rec.pending=none/\∃y,Al f=some y/\rec.params=y.ps/\rec.assign=y.assign/\rec.body=y.body/\y.n<=rec.tmps.size/\y.ps.size=1/\us=y.ts.map λt=>rec.tmps.getD t undef
def rF(c:Ctx)(w:World)(f:Nat)(us:List Value)(v:Value):Prop:=
 (f<YB/\v=.func (.func f) #[] us.toArray)\/(YB<=f/\∃l rec,v=.func (.yield l) #[] #[]/\c.I l/\w.heap[l]?=some (.loop rec)/\Px f us rec)
def R6(c:Ctx)(w:World):iq->Value->Prop
 |.ptr r i off,v=>∃row,c.R r=some row/\¬c.V r/\i<row.es.l.length/\v=.pointer (some ⟨c.ρ r,i*row.sz+off,none⟩)
 |.int k n,v=>v=.int k n
 |.arr r,v=>∃row,c.R r=some row/\row.box=false/\((c.V r/\∃a,v=.slice a 0 0/\Cg c.top a)\/(¬c.V r/\∃cap arr,v=.slice (some ⟨c.ρ r,0,none⟩) row.es.l.length cap/\row.es.l.length<=cap/\cap<=maxLen/\
  w.heap[c.ρ r]?=some (.cells arr row.ty (0,0))/\cap*row.sz=arr.size))
 |.sl sz es fr,v=>∃a cap,v=.slice a es.l.length cap/\es.l.length<=cap/\
  (es.l=[]\/∃b off arr ty fz,a=some ⟨b,off,none⟩/\c.I b/\(fr=true->c.base<=b)/\w.heap[b]?=some (.cells arr ty fz)/\ij c.I w es.l arr off sz)
 |.fn f ps,v=>∃us:List Value,rF c w f us v/\LY c ps us
def oy(c:Ctx)(w:World):List iq->List Value->Prop
 |[],[]=>True
 |x::xs,v::vs=>R6 c w x v/\oy c w xs vs
 |_,_=>False
def dd(c:Ctx)(w:World):D->Value->Prop
 |.sl sz es fr,v=>∃a cap,v=.slice a es.l.length cap/\es.l.length<=cap/\
  (es.l=[]\/∃b off arr ty fz,a=some ⟨b,off,none⟩/\c.I b/\(fr=true->c.base<=b)/\w.heap[b]?=some (.cells arr ty fz)/\ij c.I w es.l arr off sz)
 |.all r,v=>∃row,c.R r=some row/\row.box=false/\((c.V r/\∃a,v=.slice a 0 0/\Cg c.top a)\/(¬c.V r/\∃cap arr,v=.slice (some ⟨c.ρ r,0,none⟩) row.es.l.length cap/\row.es.l.length<=cap/\cap<=maxLen/\
  w.heap[c.ρ r]?=some (.cells arr row.ty (0,0))/\cap*row.sz=arr.size))
 |.own r o n,v=>∃row,c.R r=some row/\row.box=false/\o+n<=row.es.l.length/\((n=0/\∃a,v=.slice a 0 0/\Ux c r a)\/(¬c.V r/\∃cap arr,n<=cap/\cap<=maxLen/\
  w.heap[c.ρ r]?=some (.cells arr row.ty (0,0))/\v=.slice (some ⟨c.ρ r,o*row.sz,none⟩) n cap/\(o+cap)*row.sz=arr.size))
 |.ptr r i off,v=>∃row,c.R r=some row/\¬c.V r/\i<row.es.l.length/\v=.pointer (some ⟨c.ρ r,i*row.sz+off,none⟩)
 |.pa r i off len _ n,v=>n<len/\∃row,c.R r=some row/\¬c.V r/\i<row.es.l.length/\v=.pointer (some ⟨c.ρ r,i*row.sz+(off+n),none⟩)
 |.im sz es i off,v=>∃b o arr ty fz,v=.pointer (some ⟨b,o+i*sz+off,none⟩)/\c.I b/\i<es.l.length/\w.heap[b]?=some (.cells arr ty fz)/\ij c.I w es.l arr o sz
 |.dead,v=>v.oneCell'=true
 |.bool b,v=>v=.bool b
 |.int k n,v=>v=.int k n
 |.str s,v=>v=.string ⟨s.toArray⟩
 |.iB,v=>v=.pointer none
 |.c8,v=>v=.slice none 0 0
 |.emp,v=>∃a,v=.slice a 0 0/\Cg c.top a
 |.mF es,v=>∃b,v=.bool b/\(b=true->es.l=[])
 |.gd r,v=>v=.pointer none\/∃row,c.R r=some row/\¬c.V r/\0<row.es.l.length/\v=.pointer (some ⟨c.ρ r,0*row.sz+0,none⟩)
 |.jC,v=>v=.nilIface
 |.gk f cs,v=>∃us:List Value,rF c w f us v/\oy c w cs us
 |.agg _,_=>False
 |.dw _,_=>False
theorem Zgi{c:Ctx}{w:World}:∀{ps:List (Nat×Nat×Nat)} {vs:List Value},LY c ps vs↔oy c w (ps.map HA) vs
 |[],[]=>Iff.rfl
 |p::ps,v::vs=>by simp only[LY,List.map_cons,oy];rw[Zgi (ps:=ps)];exact Iff.rfl
 |[],_::_=>Iff.rfl
 |_::_,[]=>Iff.rfl
theorem VL{c:Ctx}{w:World}{x:iq}{v:Value}:R6 c w x v↔dd c w x.d v:=by
 cases x with
 |fn f ps=>simp only[R6,iq.d,dd,Zgi (w:=w)]
 |_=>exact Iff.rfl
def je(c:Ctx)(w:World):List D->List Value->Prop
 |[],[]=>True
 |d::ds,v::vs=>dd c w d v/\je c w ds vs
 |_,_=>False
def VRep(c:Ctx)(w:World):D->Value->Prop
 |.agg cs,v=>∃vs,v=.agg vs.toArray/\je c w cs vs
 |d,v=>dd c w d v
def j4(c:Ctx)(w:World):List D->List Value->Prop
 |[],[]=>True
 |d::ds,v::vs=>VRep c w d v/\j4 c w ds vs
 |_,_=>False
def Rep(c:Ctx)(w:World):D->Value->Prop
 |.dw ds,v=>∃vs,v=.tuple vs.toArray/\j4 c w ds vs
 |.dead,_=>True
 |d,v=>VRep c w d v
def ku(c:Ctx)(w:World):List D->Array Value->Nat->Prop
 |[],_,_=>True
 |d::ds,arr,off=>(∃v,arr[off]?=some v/\dd c w d v)/\ku c w ds arr (off+1)
def wj(c:Ctx)(w:World)(r:Nat)(row:Row):Prop:=
 ∃ arr,w.heap[c.ρ r]?=some (.cells arr row.ty (0,0))/\0<row.sz/\
  if row.box then∃e,row.es=.gen [e]/\e.length=row.sz/\arr.size=row.sz/\ku c w e arr 0
  else ij c.I w row.es.l arr 0 row.sz
def DX(c:Ctx)(w:World)(r:Nat)(row:Row):Prop:=
 (c.V r/\row.box=false/\row.es.l=[]/\0<row.sz)\/(¬c.V r/\wj c w r row)

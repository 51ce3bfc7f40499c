import Derived.Test.YtaemmjbkndlkeaaGreatMigrateTellsFa
import Derived.Test.YtaemmjbkndlkeaaGreatProg
open Nat renaming blt->bN,beq->bX
open Bool renaming not_eq_true'->bB
open List renaming getD->aV,replicate->cO,map_set->hY
set_option linter.all false
namespace Go.GD
open Go
variable {a:Option Addr}{arr:Array Value}{cs:List D}{i n o off r sz:Nat}{k:IntKind}{w:World}
structure YK where
 ts:List Nat
 ps:Array Tmp
 assign:Code
 body:Code
 n:Nat
def YB:Nat:=1000000000
def Hu:List (Nat×IntKind×List Int):=[]
def splits:List (Nat×Nat):=[(101,1)]
def GK:List Nat:=[23]
def tP:Code->Option (Array Tmp×Code×Code)
 |.seq a b=>match tP a with|some x=>some x|none=>tP b
 |.cond _ a b=>match tP a with|some x=>some x|none=>tP b
 |.block _ a=>tP a
 |.loop a=>tP a
 |.scope a=>tP a
 |.rangeFunc _ ps x y=>some (ps,x,y)
 |_=>none
def GF(ts:List Nat)(fn:Func):Option YK:=match fn.body with|some c=>(match tP c with|some (ps,x,y)=>some ⟨ts,ps,x,y,fn.ntmps⟩|none=>none)|none=>none
def YK.pos(y:YK):Option Nat:=
 match y.ps.toList,y.assign with
 |[p],.skip=>match bN p y.n&&y.ts.all λt=>!(bX t p)&&bN t y.n with|true=>some p|false=>none
 |[p],.region _ ops false=>match ops.toList with
  |[⟨some d,.assign (.tmp q),_,_,_,none⟩]=>match bX q p&&(bN p y.n&&bN d y.n)&&y.ts.all λt=>!(bX t p)&&!(bX t d)&&bN t y.n with|true=>some d|false=>none
  |_=>none
 |_,_=>none
def YM(f:Nat):List Nat:=match bX f 1000000095 with|true=>[3,6]|false=>match bX f 1000000144 with|true=>[3]|false=>[]
noncomputable def Bv (f:Nat):Option YK:=match bX f 1000000095 with|true=>GF [3,6] Go.Proofs.Tryz.f95|false=>match bX f 1000000144 with|true=>GF [3] Go.Proofs.Tryz.f144|false=>none
noncomputable def yFn (f:Nat):Func:=match Bv f with
 |some y=>match y.pos with
  |some d=>{name:= "",origin:= "",params:=(d::y.ts).toArray,resultTypes:= #[],nfree:=YB,ntmps:=y.n,results:= #[],body:=some y.body,norace:=false,tmpNames:= #[]}
  |none=>{name:= "",origin:= "",params:=(y.ps.toList++y.ts).toArray,resultTypes:= #[],nfree:=YB+1,ntmps:=y.n,results:= #[],body:=some (.seq y.assign y.body),norace:=false,tmpNames:= #[]}
 |none=>default
def KT:CT->D->Bool
 |.int k,.int j _=>decide (j=k)
 |.bool,.bool _=>true
 |.str,.str _=>true
 |.ints k,.sl s (.ints j _) fr=>bX s 1&&(decide (j=k)&&!fr)
 |.ah,.sl s (.ah _) fr=>bX s 1&&!fr
 |.ao k,.sl s (.ao j _) fr=>bX s k.size&&(decide (j=k)&&!fr)
 |.row i,.all r=>bX r i
 |_,_=>false
def Bx:List CT->List D->Bool
 |[],[]=>true
 |t::ts,d::ds=>KT t d&&Bx ts ds
 |_,_=>false
theorem qy{t:CT}{d:D}(h:KT t d=true):Ey t d=d:=by
 unfold KT at h
 split at h
 ·simp at h;subst h;rfl
 ·rfl
 ·rfl
 ·obtain⟨h1,h2⟩:=Bool.and_eq_true_iff.1 h
  obtain⟨h2,h3⟩:=Bool.and_eq_true_iff.1 h2
  have h1:=bE h1
  have h2:=oY h2
  rw[bB]at h3
  subst h1;subst h2;subst h3
  simp[Ey,iv,ag.toI]
 ·obtain⟨h1,h3⟩:=Bool.and_eq_true_iff.1 h
  have h1:=bE h1
  rw[bB]at h3
  subst h1;subst h3
  simp[Ey,mb,ag.toB]
 ·obtain⟨h1,h2⟩:=Bool.and_eq_true_iff.1 h
  obtain⟨h2,h3⟩:=Bool.and_eq_true_iff.1 h2
  have h1:=bE h1
  have h2:=oY h2
  rw[bB]at h3
  subst h1;subst h2;subst h3
  simp[Ey,nN,ag.toR,Yr]
 ·rw[bE h];rfl
 ·cases h
theorem Zn7:∀{ts:List CT} {pre ds:List D},Bx ts ds=true->wV ts (pre++ds) pre.length=ds
 |[],pre,[],_=>rfl
 |t::ts,pre,d::ds,h=>by
  simp only[Bx,aE]at h
  have h2:=Zn7 (pre:=pre++[d]) h.2
  have h3:(pre++d::ds).getD pre.length .dead=d:=by simp[aV]
  simp only[wV,h3,qy h.1]
  congr 1
  simpa using h2
 |[],_,_::_,h=>by simp[Bx]at h
 |_::_,_,[],h=>by simp[Bx]at h
theorem Z61:∀{ts:List CT} {cs:List D} {j:Nat},(wV ts cs j).length=ts.length
 |[],_,_=>rfl
 |t::ts,cs,j=>by simp[wV,Z61]
def RK.dec(k:RK)(cs:List D):Option (RK.T k):=match Bx k.sig cs with|true=>some (k.of cs)|false=>none
theorem RK.pb{k:RK}{x:RK.T k}(h:k.dec cs=some x):cs=k.cells x:=by
 unfold RK.dec at h
 split at h
 ·rename_i hf
  cases h
  have:=Zn7 (pre:=[]) hf
  simp only[List.nil_append,List.length_nil]at this
  rw[RK.Cx,this]
 ·cases h
theorem RK.sj(k:RK)(x:RK.T k):(k.cells x).length=k.size:=by
 rw[<-RK.oM,Z61,RK.uM]
def RK.By(k:RK):List (List D)->Option (List (RK.T k))
 |[]=>some []
 |e::es=>match k.dec e,RK.By k es with|some x,some l=>some (x::l)|_,_=>none
theorem RK.nF{k:RK}:∀{es:List (List D)} {l:List (RK.T k)},k.By es=some l->es=l.map k.cells
 |[],l,h=>by simp[RK.By]at h;subst h;rfl
 |e ::es,l,h=>by
  simp only[RK.By]at h
  split at h
  ·rename_i x m h1 h2
   cases h
   rw[RK.pb h1,RK.nF h2];rfl
  ·cases h
def ag.l:ag->List (List D)
 |.gen es=>es
 |.ints k l=>l.map λn=>[.int k n]
 |.ah l=>l.map λb=>[.bool b]
 |.ao k l=>l.map k.cells
def ag.len:ag->Nat
 |.gen es=>es.length
 |.ints _ l=>l.length
 |.ah l=>l.length
 |.ao _ l=>l.length
def ag.get:ag->Nat->List D
 |.gen es,i=>es.getD i []
 |.ints k l,i=>[.int k (l.getD i 0)]
 |.ah l,i=>[.bool (l.getD i false)]
 |.ao k l,i=>k.cells (l.getD i k.dk)
def ag.take:ag->Nat->ag
 |.gen es,n=>.gen (es.take n)
 |.ints k l,n=>.ints k (l.take n)
 |.ah l,n=>.ah (l.take n)
 |.ao k l,n=>.ao k (l.take n)
def ag.drop:ag->Nat->ag
 |.gen es,n=>.gen (es.drop n)
 |.ints k l,n=>.ints k (l.drop n)
 |.ah l,n=>.ah (l.drop n)
 |.ao k l,n=>.ao k (l.drop n)
def ag.SX(k:IntKind)(l:List Int)(i:Nat)(cs:List D):ag:=
 match cs with
 |[.int k' v]=>match decide (k'=k)with|true=>.ints k (l.set i v)|false=>.gen ((ag.ints k l).l.set i cs)
 |_=>.gen ((ag.ints k l).l.set i cs)
def ag.Gb(l:List Bool)(i:Nat)(cs:List D):ag:=
 match cs with
 |[.bool v]=>.ah (l.set i v)
 |_=>.gen ((ag.ah l).l.set i cs)
def ag.set:ag->Nat->List D->ag
 |.gen es,i,cs=>.gen (es.set i cs)
 |.ints k l,i,cs=>ag.SX k l i cs
 |.ah l,i,cs=>ag.Gb l i cs
 |.ao k l,i,cs=>match k.dec cs with|some x=>.ao k (l.set i x)|none=>.gen ((ag.ao k l).l.set i cs)
def ag.app:ag->ag->ag
 |.gen [],F=>F
 |.ints k l,.ints k' m=>match decide (k'=k)with|true=>.ints k (l++m)|false=>.gen ((ag.ints k l).l++(ag.ints k' m).l)
 |.ah l,.ah m=>.ah (l++m)
 |.ao k l,.ao k' m=>match Ha k' k m with|some m'=>.ao k (l++m')|none=>.gen ((ag.ao k l).l++(ag.ao k' m).l)
 |.ints k l,.gen []=>.ints k l
 |.ah l,.gen []=>.ah l
 |.ao k l,.gen []=>.ao k l
 |.ao k l,.gen es=>match k.By es with|some m=>.ao k (l++m)|none=>.gen ((ag.ao k l).l++es)
 |E,F=>.gen (E.l++F.l)
def ag.rep(n:Nat):List D->ag
 |[.int k v]=>.ints k (cO n v)
 |[.bool b]=>.ah (cO n b)
 |z=>.gen (cO n z)
def ag.Gz(t n:Nat)(z:List D):ag:=
 match RK.Oz t with
 |some k=>match k.dec z with|some x=>.ao k (cO n x)|none=>ag.rep n z
 |none=>ag.rep n z
def ag.SY(k:IntKind):List (List D)->Option (List Int)
 |[]=>some []
 |[.int k' v]::l=>match decide (k'=k),ag.SY k l with|true,some m=>some (v::m)|_,_=>none
 |_=>none
def ag.SZ:List (List D)->Option (List Bool)
 |[]=>some []
 |[.bool b]::l=>match ag.SZ l with|some m=>some (b::m)|none=>none
 |_=>none
def ag.Xe:List (List D)->ag
 |[.int k v]::l=>match ag.SY k l with|some m=>.ints k (v::m)|none=>.gen ([.int k v]::l)
 |[.bool b]::l=>match ag.SZ l with|some m=>.ah (b::m)|none=>.gen ([.bool b]::l)
 |l=>.gen l
def ag.SN(t:Nat)(es:List (List D)):ag:=
 match RK.Oz t with
 |some k=>match k.By es with|some l=>.ao k l|none=>ag.Xe es
 |none=>ag.Xe es
@[simp] theorem ag.iw:∀(E:ag),E.l.length=E.len
 |.gen es=>rfl
 |.ints k l=>by simp[ag.l,ag.len]
 |.ah l=>by simp[ag.l,ag.len]
 |.ao k l=>by simp[ag.l,ag.len]
theorem ag.nQ:∀(E:ag) {i:Nat},i<E.len->E.l.getD i []=E.get i
 |.gen es,i,_=>rfl
 |.ints k l,i,h=>by simp only[ag.len]at h;simp[ag.l,ag.get,aV,h]
 |.ah l,i,h=>by simp only[ag.len]at h;simp[ag.l,ag.get,aV,h]
 |.ao k l,i,h=>by simp only[ag.len]at h;simp[ag.l,ag.get,aV,h]
theorem ag.jo:∀(E:ag) (n:Nat),(E.take n).l=E.l.take n
 |.gen es,n=>rfl
 |.ints k l,n=>by simp[ag.l,ag.take]
 |.ah l,n=>by simp[ag.l,ag.take]
 |.ao k l,n=>by simp[ag.l,ag.take]
theorem ag.kL:∀(E:ag) (n:Nat),(E.drop n).l=E.l.drop n
 |.gen es,n=>rfl
 |.ints k l,n=>by simp[ag.l,ag.drop]
 |.ah l,n=>by simp[ag.l,ag.drop]
 |.ao k l,n=>by simp[ag.l,ag.drop]
theorem ag.SJ:∀(E:ag) (i:Nat) (cs:List D),(E.set i cs).l=E.l.set i cs
 |.gen es,i,cs=>rfl
 |.ints k l,i,cs=>by
  simp only[ag.set,ag.SX]
  split
  ·split
   ·rename_i h
    have:=oY h
    subst this
    simp[ag.l,hY]
   ·rfl
  ·rfl
 |.ah l,i,cs=>by
  simp only[ag.set,ag.Gb]
  split
  ·simp[ag.l,hY]
  ·rfl
 |.ao k l,i,cs=>by
  simp only[ag.set]
  split
  ·rename_i x h
   rw[RK.pb h]
   simp[ag.l,hY]
  ·rfl
theorem ag.kB(E F:ag):(E.app F).l=E.l++F.l:=by
 cases E with
 |gen es=>
  cases es with
  |nil=>cases F<;>simp[ag.app,ag.l]
  |cons e es=>cases F<;>simp[ag.app,ag.l]
 |ints k l=>
  cases F with
  |ints k' m=>
   simp only[ag.app]
   split
   ·rename_i h
    have:=oY h
    subst this
    simp[ag.l]
   ·rfl
  |gen es=>cases es<;>simp[ag.app,ag.l]
  |_=>simp[ag.app,ag.l]
 |ah l=>
  cases F with
  |gen es=>cases es<;>simp[ag.app,ag.l]
  |_=>simp[ag.app,ag.l]
 |ao k l=>
  cases F with
  |ao k' m=>
   simp only[ag.app]
   split
   ·rename_i m' h
    obtain⟨e,hm⟩:=Ys h
    subst e
    simp only at hm
    subst hm
    simp[ag.l]
   ·rfl
  |gen es=>
   cases es with
   |nil=>simp[ag.app,ag.l]
   |cons e es=>
    simp only[ag.app]
    split
    ·rename_i m h
     have h2:=RK.nF h
     simp only[ag.l,h2,List.map_append]
    ·rfl
  |_=>simp[ag.app,ag.l]
theorem ag.IG(n:Nat)(z:List D):(ag.rep n z).l=cO n z:=by
 unfold ag.rep
 split<;>simp[ag.l]
theorem ag.wF(t n:Nat)(z:List D):(ag.Gz t n z).l=cO n z:=by
 unfold ag.Gz
 split
 ·split
  ·rename_i x h
   rw[RK.pb h]
   simp[ag.l]
  ·exact ag.IG n z
 ·exact ag.IG n z
theorem ag.IH{k:IntKind}:∀{es:List (List D)} {l:List Int},ag.SY k es=some l->es=l.map λn=>[.int k n]
 |[],l,h=>by simp[ag.SY]at h;subst h;rfl
 |e ::es,l,h=>by
  unfold ag.SY at h
  split at h
  ·rename_i h0;cases h0
  ·rename_i k' v l' h0
   cases h0
   split at h
   ·rename_i m h1 h2
    cases h
    have:=oY h1
    subst this
    rw[ag.IH h2];rfl
   ·cases h
  ·cases h
theorem ag.II:∀{es:List (List D)} {l:List Bool},ag.SZ es=some l->es=l.map λn=>[.bool n]
 |[],l,h=>by simp[ag.SZ]at h;subst h;rfl
 |e ::es,l,h=>by
  unfold ag.SZ at h
  split at h
  ·rename_i h0;cases h0
  ·rename_i v l' h0
   cases h0
   split at h
   ·rename_i m h2
    cases h
    rw[ag.II h2];rfl
   ·cases h
  ·cases h
theorem ag.IJ(es:List (List D)):(ag.Xe es).l=es:=by
 unfold ag.Xe
 split
 ·split
  ·rename_i m h;rw[ag.IH h];rfl
  ·rfl
 ·split
  ·rename_i m h;rw[ag.II h];rfl
  ·rfl
 ·rfl
theorem ag.rQ(t:Nat)(es:List (List D)):(ag.SN t es).l=es:=by
 unfold ag.SN
 split
 ·split
  ·rename_i l h;exact(RK.nF h).symm
  ·exact ag.IJ es
 ·exact ag.IJ es
theorem ag.toI_l{E:ag}{l:List Int}(h:E.toI k=some l):E.l=(ag.ints k l).l:=by
 unfold ag.toI at h
 split at h
 ·split at h
  ·rename_i hk
   cases h
   rw[oY hk]
  ·cases h
 ·cases h;rfl
 ·cases h
theorem ag.toB_l{E:ag}{l:List Bool}(h:E.toB=some l):E.l=(ag.ah l).l:=by
 unfold ag.toB at h
 split at h
 ·cases h;rfl
 ·cases h;rfl
 ·cases h
theorem ag.toR_l{k:RK}{E:ag}{l:List (RK.T k)}(h:E.toR k=some l):E.l=(ag.ao k l).l:=by
 unfold ag.toR at h
 split at h
 ·obtain⟨e,hm⟩:=Ys h
  subst e
  simp only at hm
  subst hm
  rfl
 ·cases h;rfl
 ·cases h
structure Row where
 box:Bool
 ty:TypeId
 sz:Nat
 es:ag
 deriving Inhabited
abbrev ab:=Nat->Prop
def DA(n:Nat)(a:Option Addr):Prop:=∀x,a=some x->x.block<n
theorem DA.mono{m n:Nat}(h:DA m a)(g:m<=n):DA n a:=λx hx=>Nat.lt_of_lt_of_le (h x hx) g
theorem OF:DA n none:=λx hx=>by cases hx
mutual
inductive gh(I:ab)(w:World):D->Value->Prop
 |bool (b:Bool):gh I w (.bool b) (.bool b)
 |int (k:IntKind) (n:Int):gh I w (.int k n) (.int k n)
 |str (s:List UInt8):gh I w (.str s) (.string ⟨s.toArray⟩)
 |iQ:gh I w .iQ (.pointer none)
 |c8:gh I w .c8 (.slice none 0 0)
 |emp (a:Option Addr):gh I w .emp (.slice a 0 0)
 |WD (sz:Nat) (es:ag) (fr:Bool) (a:Option Addr) (cap:Nat) (h:es.l=[]):gh I w (.sl sz es fr) (.slice a es.l.length cap)
 |WE (sz:Nat) (es:ag) (fr:Bool) (cap:Nat) (hc:es.l.length<=cap) (b off:Nat) (arr:Array Value) (ty:TypeId) (fz:Nat×Nat) (hI:I b) (hh:w.heap[b]?=some (.cells arr ty fz)) (hE:im I w es.l arr off sz):
  gh I w (.sl sz es fr) (.slice (some ⟨b,off,none⟩) es.l.length cap)
inductive py(I:ab)(w:World):List D->Array Value->Nat->Prop
 |nil (arr:Array Value) (off:Nat):py I w [] arr off
 |cons (c:D) (cs:List D) (arr:Array Value) (off:Nat) (v:Value) (hv:arr[off]?=some v) (hp:gh I w c v) (hr:py I w cs arr (off+1)):py I w (c::cs) arr off
inductive im(I:ab)(w:World):List (List D)->Array Value->Nat->Nat->Prop
 |nil (arr:Array Value) (off sz:Nat):im I w [] arr off sz
 |cons (e:List D) (es:List (List D)) (arr:Array Value) (off sz:Nat) (hl:e.length=sz) (hc:py I w e arr off) (hr:im I w es arr (off+sz) sz):im I w (e::es) arr off sz
end
abbrev S0(I:ab)(w:World)(E:ag)(arr:Array Value)(off sz:Nat):Prop:=im I w E.l arr off sz
theorem U0{I:ab}{E:ag}:S0 I w E arr off sz↔im I w E.l arr off sz:=Iff.rfl
section
variable {I:ab} {w:World} {v:Value}
theorem sR{b:Bool}:gh I w (.bool b) v↔v=.bool b:=⟨λh=>by cases h;rfl,λh=>by subst h;exact .bool b⟩
theorem sS{n:Int}:gh I w (.int k n) v↔v=.int k n:=⟨λh=>by cases h;rfl,λh=>by subst h;exact .int k n⟩
theorem sU{s:List UInt8}:gh I w (.str s) v↔v=.string ⟨s.toArray⟩:=⟨λh=>by cases h;rfl,λh=>by subst h;exact .str s⟩
theorem sV:gh I w .iQ v↔v=.pointer none:=⟨λh=>by cases h;rfl,λh=>by subst h;exact .iQ⟩
theorem sW:gh I w .c8 v↔v=.slice none 0 0:=⟨λh=>by cases h;rfl,λh=>by subst h;exact .c8⟩
theorem sX:gh I w .emp v↔ ∃a,v=.slice a 0 0:=⟨λh=>by cases h;exact⟨_,rfl⟩,fun⟨a,h⟩=>by subst h;exact .emp a⟩
theorem uo{es:ag}{fr:Bool}:gh I w (.sl sz es fr) v↔ ∃a cap,v=.slice a es.l.length cap/\es.l.length<=cap/\
 (es.l=[]\/∃b off arr ty fz,a=some ⟨b,off,none⟩/\I b/\w.heap[b]?=some (.cells arr ty fz)/\S0 I w es arr off sz):=by
 constructor
 ·intro h
  cases h with
  |WD sz es fr a cap h=>exact⟨a,cap,rfl,by rw[h];exact Nat.zero_le _,.inl h⟩
  |WE sz es fr cap hc b off arr ty fz hI hh hE=>exact⟨_,cap,rfl,hc,.inr ⟨b,off,arr,ty,fz,rfl,hI,hh,hE⟩⟩
 ·rintro⟨a,cap,rfl,hc,h|⟨b,off,arr,ty,fz,rfl,hI,hh,hE⟩⟩
  ·exact .WD sz es fr a cap h
  ·exact .WE sz es fr cap hc b off arr ty fz hI hh hE
theorem Q9:gh I w (.all r) v↔False:=⟨(λh=>nomatch h),False.elim⟩
theorem uP:gh I w (.own r o n) v↔False:=⟨(λh=>nomatch h),False.elim⟩
theorem uQ:gh I w (.ptr r i o) v↔False:=⟨(λh=>nomatch h),False.elim⟩
theorem uR{r i o l:Nat}{k:Option IntKind}:gh I w (.pa r i o l k n) v↔False:=⟨(λh=>nomatch h),False.elim⟩
theorem uS{es:ag}:gh I w (.iu sz es i o) v↔False:=⟨(λh=>nomatch h),False.elim⟩
theorem uT:gh I w .dead v↔False:=⟨(λh=>nomatch h),False.elim⟩
theorem uU{es:ag}:gh I w (.nA es) v↔False:=⟨(λh=>nomatch h),False.elim⟩
theorem vX{f:Nat}{cs:List iS}:gh I w (.gv f cs) v↔False:=⟨(λh=>nomatch h),False.elim⟩
theorem Zyf:gh I w (.gw r) v↔False:=⟨(λh=>nomatch h),False.elim⟩
theorem Zz9:gh I w .j4 v↔False:=⟨(λh=>nomatch h),False.elim⟩
theorem uV:gh I w (.agg cs) v↔False:=⟨(λh=>nomatch h),False.elim⟩
theorem uW:gh I w (.dw cs) v↔False:=⟨(λh=>nomatch h),False.elim⟩
theorem EA:py I w [] arr off↔True:=⟨λ_=>trivial,λ_=>.nil arr off⟩
theorem EB{c:D}:py I w (c::cs) arr off↔(∃v,arr[off]?=some v/\gh I w c v)/\py I w cs arr (off+1):=
 ⟨λh=>by cases h with|cons _ _ _ _ v hv hp hr=>exact⟨⟨v,hv,hp⟩,hr⟩,fun⟨⟨v,hv,hp⟩,hr⟩=>.cons c cs arr off v hv hp hr⟩
theorem rV:im I w [] arr off sz↔True:=⟨λ_=>trivial,λ_=>.nil arr off sz⟩
theorem rF{e:List D}{es:List (List D)}:im I w (e::es) arr off sz↔e.length=sz/\py I w e arr off/\im I w es arr (off+sz) sz:=
 ⟨λh=>by cases h with|cons _ _ _ _ _ hl hc hr=>exact⟨hl,hc,hr⟩,fun⟨hl,hc,hr⟩=>.cons e es arr off sz hl hc hr⟩
end
structure Ctx where
 ρ:Nat->Nat
 R:Nat->Option Row
 V:Nat->Prop
 I:ab
 base:Nat
 top:Nat
 X:ab
def Xf(c:Ctx)(r:Nat)(a:Option Addr):Prop:=DA c.top a\/(¬c.V r/\∀x,a=some x->x.block=c.ρ r)
theorem Xf.mono{c c':Ctx}{r r':Nat}(h:Xf c r a)(g:c.top<=c'.top)(hV:c'.V r'↔c.V r)(Ss:c'.ρ r'=c.ρ r):Xf c' r' a:=
 h.imp (λh=>h.mono g) fun⟨p,q⟩=>⟨λe=>p (hV.1 e),λx hx=>(q x hx).trans Ss.symm⟩
def KU(c:Ctx)(p:Nat×Nat×Nat)(v:Value):Prop:=∃row,c.R p.1=some row/\¬c.V p.1/\p.2.1<row.es.l.length/\v=.pointer (some ⟨c.ρ p.1,p.2.1*row.sz+p.2.2,none⟩)
def NO(c:Ctx):List (Nat×Nat×Nat)->List Value->Prop
 |[],[]=>True
 |p::ps,v::vs=>KU c p v/\NO c ps vs
 |_,_=>False
def SA(f:Nat)(us:List Value)(rec:Loop):Prop:=
 rec.state=.ready/\rec.pending=none/\∃y,Bv f=some y/\rec.params=y.ps/\rec.assign=y.assign/\rec.body=y.body/\y.n<=rec.tmps.size/\y.ps.size=1/\us=y.ts.map λt=>rec.tmps.getD t undef
def sD(c:Ctx)(w:World)(f:Nat)(us:List Value)(v:Value):Prop:=
 (f<YB/\v=.func (.func f) #[] us.toArray)\/(YB<=f/\∃l rec,v=.func (.yield l) #[] #[]/\c.I l/\w.heap[l]?=some (.loop rec)/\SA f us rec)
def UG(c:Ctx)(w:World):iS->Value->Prop
 |.ptr r i off,v=>∃row,c.R r=some row/\¬c.V r/\i<row.es.l.length/\v=.pointer (some ⟨c.ρ r,i*row.sz+off,none⟩)
 |.int k n,v=>v=.int k n
 |.arr r,v=>∃row,c.R r=some row/\row.box=false/\((c.V r/\∃a,v=.slice a 0 0/\DA c.top a)\/(¬c.V r/\∃cap arr,v=.slice (some ⟨c.ρ r,0,none⟩) row.es.l.length cap/\row.es.l.length<=cap/\cap<=maxLen/\
  w.heap[c.ρ r]?=some (.cells arr row.ty (0,0))/\cap*row.sz=arr.size))
 |.sl sz es fr,v=>∃a cap,v=.slice a es.l.length cap/\es.l.length<=cap/\
  (es.l=[]\/∃b off arr ty fz,a=some ⟨b,off,none⟩/\c.I b/\(fr=true->c.base<=b)/\w.heap[b]?=some (.cells arr ty fz)/\im c.I w es.l arr off sz)
 |.fn f ps,v=>∃us:List Value,sD c w f us v/\NO c ps us
def pr(c:Ctx)(w:World):List iS->List Value->Prop
 |[],[]=>True
 |x::xs,v::vs=>UG c w x v/\pr c w xs vs
 |_,_=>False
def dc(c:Ctx)(w:World):D->Value->Prop
 |.sl sz es fr,v=>∃a cap,v=.slice a es.l.length cap/\es.l.length<=cap/\
  (es.l=[]\/∃b off arr ty fz,a=some ⟨b,off,none⟩/\c.I b/\(fr=true->c.base<=b)/\w.heap[b]?=some (.cells arr ty fz)/\im c.I w es.l arr off sz)
 |.all r,v=>∃row,c.R r=some row/\row.box=false/\((c.V r/\∃a,v=.slice a 0 0/\DA c.top a)\/(¬c.V r/\∃cap arr,v=.slice (some ⟨c.ρ r,0,none⟩) row.es.l.length cap/\row.es.l.length<=cap/\cap<=maxLen/\
  w.heap[c.ρ r]?=some (.cells arr row.ty (0,0))/\cap*row.sz=arr.size))
 |.own r o n,v=>∃row,c.R r=some row/\row.box=false/\o+n<=row.es.l.length/\((n=0/\∃a,v=.slice a 0 0/\Xf c r a)\/(¬c.V r/\∃cap arr,n<=cap/\cap<=maxLen/\
  w.heap[c.ρ r]?=some (.cells arr row.ty (0,0))/\v=.slice (some ⟨c.ρ r,o*row.sz,none⟩) n cap/\(o+cap)*row.sz=arr.size))
 |.ptr r i off,v=>∃row,c.R r=some row/\¬c.V r/\i<row.es.l.length/\v=.pointer (some ⟨c.ρ r,i*row.sz+off,none⟩)
 |.pa r i off len _ n,v=>n<len/\∃row,c.R r=some row/\¬c.V r/\i<row.es.l.length/\v=.pointer (some ⟨c.ρ r,i*row.sz+(off+n),none⟩)
 |.iu sz es i off,v=>∃b o arr ty fz,v=.pointer (some ⟨b,o+i*sz+off,none⟩)/\c.I b/\i<es.l.length/\w.heap[b]?=some (.cells arr ty fz)/\im c.I w es.l arr o sz
 |.dead,v=>v.oneCell'=true
 |.bool b,v=>v=.bool b
 |.int k n,v=>v=.int k n
 |.str s,v=>v=.string ⟨s.toArray⟩
 |.iQ,v=>v=.pointer none
 |.c8,v=>v=.slice none 0 0
 |.emp,v=>∃a,v=.slice a 0 0/\DA c.top a
 |.nA es,v=>∃b,v=.bool b/\(b=true->es.l=[])
 |.gw r,v=>v=.pointer none\/∃row,c.R r=some row/\¬c.V r/\0<row.es.l.length/\v=.pointer (some ⟨c.ρ r,0*row.sz+0,none⟩)
 |.j4,v=>v=.nilIface
 |.gv f cs,v=>∃us:List Value,sD c w f us v/\pr c w cs us
 |.agg _,_=>False
 |.dw _,_=>False
theorem Zqr{c:Ctx}{w:World}:∀{ps:List (Nat×Nat×Nat)} {vs:List Value},NO c ps vs↔pr c w (ps.map Ja) vs
 |[],[]=>Iff.rfl
 |p::ps,v::vs=>by simp only[NO,List.map_cons,pr];rw[Zqr (ps:=ps)];exact Iff.rfl
 |[],_::_=>Iff.rfl
 |_::_,[]=>Iff.rfl
theorem Yv{c:Ctx}{x:iS}{v:Value}:UG c w x v↔dc c w x.d v:=by
 cases x with
 |fn f ps=>simp only[UG,iS.d,dc,Zqr (w:=w)]
 |_=>exact Iff.rfl
def jG(c:Ctx)(w:World):List D->List Value->Prop
 |[],[]=>True
 |d::ds,v::vs=>dc c w d v/\jG c w ds vs
 |_,_=>False
def VRep(c:Ctx)(w:World):D->Value->Prop
 |.agg cs,v=>∃vs,v=.agg vs.toArray/\jG c w cs vs
 |d,v=>dc c w d v
def kJ(c:Ctx)(w:World):List D->List Value->Prop
 |[],[]=>True
 |d::ds,v::vs=>VRep c w d v/\kJ c w ds vs
 |_,_=>False
def Rep(c:Ctx)(w:World):D->Value->Prop
 |.dw ds,v=>∃vs,v=.tuple vs.toArray/\kJ c w ds vs
 |.dead,_=>True
 |d,v=>VRep c w d v
def lg(c:Ctx)(w:World):List D->Array Value->Nat->Prop
 |[],_,_=>True
 |d::ds,arr,off=>(∃v,arr[off]?=some v/\dc c w d v)/\lg c w ds arr (off+1)
def Ar(c:Ctx)(w:World)(r:Nat)(row:Row):Prop:=
 ∃ arr,w.heap[c.ρ r]?=some (.cells arr row.ty (0,0))/\0<row.sz/\
  if row.box then∃e,row.es=.gen [e]/\e.length=row.sz/\arr.size=row.sz/\lg c w e arr 0
  else im c.I w row.es.l arr 0 row.sz
def Fv(c:Ctx)(w:World)(r:Nat)(row:Row):Prop:=
 (c.V r/\row.box=false/\row.es.l=[]/\0<row.sz)\/(¬c.V r/\Ar c w r row)

import Derived.Test.YtoijmgbahaekiaaGreatTopJournalFa
open Nat renaming blt->bK,beq->bV
open Bool renaming not_eq_true'->aS
open List renaming getD->aK,replicate->gA,map_set->gL
set_option linter.all false
namespace Go.GD
open Go
structure YK where
 ts:List Nat
 ps:Array Tmp
 assign:Code
 body:Code
 n:Nat
def YB:Nat:=1000000000
def gtabs:List (Nat×IntKind×List Int):=[]
def splits:List (Nat×Nat):=[]
def rowLits:List Nat:=[]
def rowLits1:List Nat:=[119,169]
def YK.pos(y:YK):Option Nat:=
 match y.ps.toList,y.assign with
 |[p],.skip=>match bK p y.n&&y.ts.all λt=>!(bV t p)&&bK t y.n with|true=>some p|false=>none
 |[p],.region _ ops false=>match ops.toList with
  |[⟨some d,.assign (.tmp q),_,_,_,none⟩]=>match bV q p&&(bK p y.n&&bK d y.n)&&y.ts.all λt=>!(bV t p)&&!(bV t d)&&bK t y.n with|true=>some d|false=>none
  |_=>none
 |_,_=>none
def yTs(f:Nat):List Nat:=[]
noncomputable def yTab (f:Nat):Option YK:=none
def fit1:CT->D->Bool
 |.int k,.int j _=>decide (j=k)
 |.bool,.bool _=>true
 |.str,.str _=>true
 |.ints k,.sl s (.ints j _) fr=>bV s 1&&(decide (j=k)&&!fr)
 |.bools,.sl s (.bools _) fr=>bV s 1&&!fr
 |.recs k,.sl s (.recs j _) fr=>bV s k.size&&(decide (j=k)&&!fr)
 |.row i,.all r=>bV r i
 |_,_=>false
def fitC:List CT->List D->Bool
 |[],[]=>true
 |t::ts,d::ds=>fit1 t d&&fitC ts ds
 |_,_=>false
theorem qo{t:CT}{d:D}(h:fit1 t d=true):Qlo t d=d:=by
 unfold fit1 at h
 split at h
 ·simp at h;subst h;rfl
 ·rfl
 ·rfl
 ·obtain⟨h1,h2⟩:=Bool.and_eq_true_iff.1 h
  obtain⟨h2,h3⟩:=Bool.and_eq_true_iff.1 h2
  have h1:=bE h1
  have h2:=oY h2
  rw[aS]at h3
  subst h1;subst h2;subst h3
  simp[Qlo,slI,Els.toI]
 ·obtain⟨h1,h3⟩:=Bool.and_eq_true_iff.1 h
  have h1:=bE h1
  rw[aS]at h3
  subst h1;subst h3
  simp[Qlo,slB,Els.toB]
 ·obtain⟨h1,h2⟩:=Bool.and_eq_true_iff.1 h
  obtain⟨h2,h3⟩:=Bool.and_eq_true_iff.1 h2
  have h1:=bE h1
  have h2:=oY h2
  rw[aS]at h3
  subst h1;subst h2;subst h3
  simp[Qlo,slR,Els.toR,Z0j]
 ·rw[bE h];rfl
 ·cases h
theorem Z6i:∀{ts:List CT} {pre ds:List D},fitC ts ds=true->Qn5 ts (pre++ds) pre.length=ds
 |[],pre,[],_=>rfl
 |t::ts,pre,d::ds,h=>by
  simp only[fitC,aE]at h
  have h2:=Z6i (pre:=pre++[d]) h.2
  have h3:(pre++d::ds).getD pre.length .dead=d:=by simp[aK]
  simp only[Qn5,h3,qo h.1]
  congr 1
  simpa using h2
 |[],_,_::_,h=>by simp[fitC]at h
 |_::_,_,[],h=>by simp[fitC]at h
theorem Qr:∀{ts:List CT} {cs:List D} {j:Nat},(Qn5 ts cs j).length=ts.length
 |[],_,_=>rfl
 |t::ts,cs,j=>by simp[Qn5,Qr]
def RK.dec(k:RK)(cs:List D):Option (RK.T k):=match fitC k.sig cs with|true=>some (k.of cs)|false=>none
theorem RK.dec_spec{k:RK}{cs:List D}{x:RK.T k}(h:k.dec cs=some x):cs=k.cells x:=by
 unfold RK.dec at h
 split at h
 ·rename_i hf
  cases h
  have:=Z6i (pre:=[]) hf
  simp only[List.nil_append,List.length_nil]at this
  rw[RK.cells_of,this]
 ·cases h
theorem RK.cells_length(k:RK)(x:RK.T k):(k.cells x).length=k.size:=by
 rw[<-RK.conv_cells,Qr,RK.sig_length]
def RK.decs(k:RK):List (List D)->Option (List (RK.T k))
 |[]=>some []
 |e::es=>match k.dec e,RK.decs k es with|some x,some l=>some (x::l)|_,_=>none
theorem RK.decs_spec{k:RK}:∀{es:List (List D)} {l:List (RK.T k)},k.decs es=some l->es=l.map k.cells
 |[],l,h=>by simp[RK.decs]at h;subst h;rfl
 |e ::es,l,h=>by
  simp only[RK.decs]at h
  split at h
  ·rename_i x m h1 h2
   cases h
   rw[RK.dec_spec h1,RK.decs_spec h2];rfl
  ·cases h
def Els.l:Els->List (List D)
 |.gen es=>es
 |.ints k l=>l.map λn=>[.int k n]
 |.bools l=>l.map λb=>[.bool b]
 |.recs k l=>l.map k.cells
def Els.len:Els->Nat
 |.gen es=>es.length
 |.ints _ l=>l.length
 |.bools l=>l.length
 |.recs _ l=>l.length
def Els.get:Els->Nat->List D
 |.gen es,i=>es.getD i []
 |.ints k l,i=>[.int k (l.getD i 0)]
 |.bools l,i=>[.bool (l.getD i false)]
 |.recs k l,i=>k.cells (l.getD i k.dflt)
def Els.take:Els->Nat->Els
 |.gen es,n=>.gen (es.take n)
 |.ints k l,n=>.ints k (l.take n)
 |.bools l,n=>.bools (l.take n)
 |.recs k l,n=>.recs k (l.take n)
def Els.drop:Els->Nat->Els
 |.gen es,n=>.gen (es.drop n)
 |.ints k l,n=>.ints k (l.drop n)
 |.bools l,n=>.bools (l.drop n)
 |.recs k l,n=>.recs k (l.drop n)
def Els.setI(k:IntKind)(l:List Int)(i:Nat)(cs:List D):Els:=
 match cs with
 |[.int k' v]=>match decide (k'=k)with|true=>.ints k (l.set i v)|false=>.gen ((Els.ints k l).l.set i cs)
 |_=>.gen ((Els.ints k l).l.set i cs)
def Els.setB(l:List Bool)(i:Nat)(cs:List D):Els:=
 match cs with
 |[.bool v]=>.bools (l.set i v)
 |_=>.gen ((Els.bools l).l.set i cs)
def Els.set:Els->Nat->List D->Els
 |.gen es,i,cs=>.gen (es.set i cs)
 |.ints k l,i,cs=>Els.setI k l i cs
 |.bools l,i,cs=>Els.setB l i cs
 |.recs k l,i,cs=>match k.dec cs with|some x=>.recs k (l.set i x)|none=>.gen ((Els.recs k l).l.set i cs)
def Els.app:Els->Els->Els
 |.gen [],F=>F
 |.ints k l,.ints k' m=>match decide (k'=k)with|true=>.ints k (l++m)|false=>.gen ((Els.ints k l).l++(Els.ints k' m).l)
 |.bools l,.bools m=>.bools (l++m)
 |.recs k l,.recs k' m=>match Z6k k' k m with|some m'=>.recs k (l++m')|none=>.gen ((Els.recs k l).l++(Els.recs k' m).l)
 |.ints k l,.gen []=>.ints k l
 |.bools l,.gen []=>.bools l
 |.recs k l,.gen []=>.recs k l
 |.recs k l,.gen es=>match k.decs es with|some m=>.recs k (l++m)|none=>.gen ((Els.recs k l).l++es)
 |E,F=>.gen (E.l++F.l)
def Els.rep(n:Nat):List D->Els
 |[.int k v]=>.ints k (gA n v)
 |[.bool b]=>.bools (gA n b)
 |z=>.gen (gA n z)
def Els.repT(t n:Nat)(z:List D):Els:=
 match RK.ofTy t with
 |some k=>match k.dec z with|some x=>.recs k (gA n x)|none=>Els.rep n z
 |none=>Els.rep n z
def Els.ofI(k:IntKind):List (List D)->Option (List Int)
 |[]=>some []
 |[.int k' v]::l=>match decide (k'=k),Els.ofI k l with|true,some m=>some (v::m)|_,_=>none
 |_=>none
def Els.ofB:List (List D)->Option (List Bool)
 |[]=>some []
 |[.bool b]::l=>match Els.ofB l with|some m=>some (b::m)|none=>none
 |_=>none
def Els.ofL:List (List D)->Els
 |[.int k v]::l=>match Els.ofI k l with|some m=>.ints k (v::m)|none=>.gen ([.int k v]::l)
 |[.bool b]::l=>match Els.ofB l with|some m=>.bools (b::m)|none=>.gen ([.bool b]::l)
 |l=>.gen l
def Els.ofT(t:Nat)(es:List (List D)):Els:=
 match RK.ofTy t with
 |some k=>match k.decs es with|some l=>.recs k l|none=>Els.ofL es
 |none=>Els.ofL es
@[simp] theorem Els.len_l:∀(E:Els),E.l.length=E.len
 |.gen es=>rfl
 |.ints k l=>by simp[Els.l,Els.len]
 |.bools l=>by simp[Els.l,Els.len]
 |.recs k l=>by simp[Els.l,Els.len]
theorem Els.get_l:∀(E:Els) {i:Nat},i<E.len->E.l.getD i []=E.get i
 |.gen es,i,_=>rfl
 |.ints k l,i,h=>by simp only[Els.len]at h;simp[Els.l,Els.get,aK,h]
 |.bools l,i,h=>by simp only[Els.len]at h;simp[Els.l,Els.get,aK,h]
 |.recs k l,i,h=>by simp only[Els.len]at h;simp[Els.l,Els.get,aK,h]
theorem Els.take_l:∀(E:Els) (n:Nat),(E.take n).l=E.l.take n
 |.gen es,n=>rfl
 |.ints k l,n=>by simp[Els.l,Els.take]
 |.bools l,n=>by simp[Els.l,Els.take]
 |.recs k l,n=>by simp[Els.l,Els.take]
theorem Els.drop_l:∀(E:Els) (n:Nat),(E.drop n).l=E.l.drop n
 |.gen es,n=>rfl
 |.ints k l,n=>by simp[Els.l,Els.drop]
 |.bools l,n=>by simp[Els.l,Els.drop]
 |.recs k l,n=>by simp[Els.l,Els.drop]
theorem Els.set_l:∀(E:Els) (i:Nat) (cs:List D),(E.set i cs).l=E.l.set i cs
 |.gen es,i,cs=>rfl
 |.ints k l,i,cs=>by
  simp only[Els.set,Els.setI]
  split
  ·split
   ·rename_i h
    have:=oY h
    subst this
    simp[Els.l,gL]
   ·rfl
  ·rfl
 |.bools l,i,cs=>by
  simp only[Els.set,Els.setB]
  split
  ·simp[Els.l,gL]
  ·rfl
 |.recs k l,i,cs=>by
  simp only[Els.set]
  split
  ·rename_i x h
   rw[RK.dec_spec h]
   simp[Els.l,gL]
  ·rfl
theorem Els.app_l(E F:Els):(E.app F).l=E.l++F.l:=by
 cases E with
 |gen es=>
  cases es with
  |nil=>cases F<;>simp[Els.app,Els.l]
  |cons e es=>cases F<;>simp[Els.app,Els.l]
 |ints k l=>
  cases F with
  |ints k' m=>
   simp only[Els.app]
   split
   ·rename_i h
    have:=oY h
    subst this
    simp[Els.l]
   ·rfl
  |gen es=>cases es<;>simp[Els.app,Els.l]
  |_=>simp[Els.app,Els.l]
 |bools l=>
  cases F with
  |gen es=>cases es<;>simp[Els.app,Els.l]
  |_=>simp[Els.app,Els.l]
 |recs k l=>
  cases F with
  |recs k' m=>
   simp only[Els.app]
   split
   ·rename_i m' h
    obtain⟨e,hm⟩:=Qox h
    subst e
    simp only at hm
    subst hm
    simp[Els.l]
   ·rfl
  |gen es=>
   cases es with
   |nil=>simp[Els.app,Els.l]
   |cons e es=>
    simp only[Els.app]
    split
    ·rename_i m h
     have h2:=RK.decs_spec h
     simp only[Els.l,h2,List.map_append]
    ·rfl
  |_=>simp[Els.app,Els.l]
theorem Els.rep_l(n:Nat)(z:List D):(Els.rep n z).l=gA n z:=by
 unfold Els.rep
 split<;>simp[Els.l]
theorem Els.repT_l(t n:Nat)(z:List D):(Els.repT t n z).l=gA n z:=by
 unfold Els.repT
 split
 ·split
  ·rename_i x h
   rw[RK.dec_spec h]
   simp[Els.l]
  ·exact Els.rep_l n z
 ·exact Els.rep_l n z
theorem Els.ofI_l{k:IntKind}:∀{es:List (List D)} {l:List Int},Els.ofI k es=some l->es=l.map λn=>[.int k n]
 |[],l,h=>by simp[Els.ofI]at h;subst h;rfl
 |e ::es,l,h=>by
  unfold Els.ofI at h
  split at h
  ·rename_i h0;cases h0
  ·rename_i k' v l' h0
   cases h0
   split at h
   ·rename_i m h1 h2
    cases h
    have:=oY h1
    subst this
    rw[Els.ofI_l h2];rfl
   ·cases h
  ·cases h
theorem Els.ofB_l:∀{es:List (List D)} {l:List Bool},Els.ofB es=some l->es=l.map λn=>[.bool n]
 |[],l,h=>by simp[Els.ofB]at h;subst h;rfl
 |e ::es,l,h=>by
  unfold Els.ofB at h
  split at h
  ·rename_i h0;cases h0
  ·rename_i v l' h0
   cases h0
   split at h
   ·rename_i m h2
    cases h
    rw[Els.ofB_l h2];rfl
   ·cases h
  ·cases h
theorem Els.ofL_l(es:List (List D)):(Els.ofL es).l=es:=by
 unfold Els.ofL
 split
 ·split
  ·rename_i m h;rw[Els.ofI_l h];rfl
  ·rfl
 ·split
  ·rename_i m h;rw[Els.ofB_l h];rfl
  ·rfl
 ·rfl
theorem Els.ofT_l(t:Nat)(es:List (List D)):(Els.ofT t es).l=es:=by
 unfold Els.ofT
 split
 ·split
  ·rename_i l h;exact(RK.decs_spec h).symm
  ·exact Els.ofL_l es
 ·exact Els.ofL_l es
theorem Els.toI_l{k:IntKind}{E:Els}{l:List Int}(h:E.toI k=some l):E.l=(Els.ints k l).l:=by
 unfold Els.toI at h
 split at h
 ·split at h
  ·rename_i hk
   cases h
   rw[oY hk]
  ·cases h
 ·cases h;rfl
 ·cases h
theorem Els.toB_l{E:Els}{l:List Bool}(h:E.toB=some l):E.l=(Els.bools l).l:=by
 unfold Els.toB at h
 split at h
 ·cases h;rfl
 ·cases h;rfl
 ·cases h
theorem Els.toR_l{k:RK}{E:Els}{l:List (RK.T k)}(h:E.toR k=some l):E.l=(Els.recs k l).l:=by
 unfold Els.toR at h
 split at h
 ·obtain⟨e,hm⟩:=Qox h
  subst e
  simp only at hm
  subst hm
  rfl
 ·cases h;rfl
 ·cases h
structure Row where
 box:Bool
 ty:TypeId
 sz:Nat
 es:Els
 deriving Inhabited
abbrev Blocks:=Nat->Prop
def okA(n:Nat)(a:Option Addr):Prop:=∀x,a=some x->x.block<n
theorem okA.mono{m n:Nat}{a:Option Addr}(h:okA m a)(g:m<=n):okA n a:=λx hx=>Nat.lt_of_lt_of_le (h x hx) g
theorem Qmq{n:Nat}:okA n none:=λx hx=>by cases hx
mutual
inductive PRep(I:Blocks)(w:World):D->Value->Prop
 |bool (b:Bool):PRep I w (.bool b) (.bool b)
 |int (k:IntKind) (n:Int):PRep I w (.int k n) (.int k n)
 |str (s:List UInt8):PRep I w (.str s) (.string ⟨s.toArray⟩)
 |nilp:PRep I w .nilp (.pointer none)
 |nils:PRep I w .nils (.slice none 0 0)
 |emp (a:Option Addr):PRep I w .emp (.slice a 0 0)
 |sl0 (sz:Nat) (es:Els) (fr:Bool) (a:Option Addr) (cap:Nat) (h:es.l=[]):PRep I w (.sl sz es fr) (.slice a es.l.length cap)
 |sl1 (sz:Nat) (es:Els) (fr:Bool) (cap:Nat) (hc:es.l.length<=cap) (b off:Nat) (arr:Array Value) (ty:TypeId) (fz:Nat×Nat) (hI:I b) (hh:w.heap[b]?=some (.cells arr ty fz)) (hE:Q15 I w es.l arr off sz):
  PRep I w (.sl sz es fr) (.slice (some ⟨b,off,none⟩) es.l.length cap)
inductive Q8i(I:Blocks)(w:World):List D->Array Value->Nat->Prop
 |nil (arr:Array Value) (off:Nat):Q8i I w [] arr off
 |cons (c:D) (cs:List D) (arr:Array Value) (off:Nat) (v:Value) (hv:arr[off]?=some v) (hp:PRep I w c v) (hr:Q8i I w cs arr (off+1)):Q8i I w (c::cs) arr off
inductive Q15(I:Blocks)(w:World):List (List D)->Array Value->Nat->Nat->Prop
 |nil (arr:Array Value) (off sz:Nat):Q15 I w [] arr off sz
 |cons (e:List D) (es:List (List D)) (arr:Array Value) (off sz:Nat) (hl:e.length=sz) (hc:Q8i I w e arr off) (hr:Q15 I w es arr (off+sz) sz):Q15 I w (e::es) arr off sz
end
abbrev PEls(I:Blocks)(w:World)(E:Els)(arr:Array Value)(off sz:Nat):Prop:=Q15 I w E.l arr off sz
theorem Qtl{I:Blocks}{w:World}{E:Els}{arr:Array Value}{off sz:Nat}:PEls I w E arr off sz↔Q15 I w E.l arr off sz:=Iff.rfl
section
variable {I:Blocks} {w:World} {v:Value}
theorem Q38{b:Bool}:PRep I w (.bool b) v↔v=.bool b:=⟨λh=>by cases h;rfl,λh=>by subst h;exact .bool b⟩
theorem Q4u{k:IntKind}{n:Int}:PRep I w (.int k n) v↔v=.int k n:=⟨λh=>by cases h;rfl,λh=>by subst h;exact .int k n⟩
theorem Q4s{s:List UInt8}:PRep I w (.str s) v↔v=.string ⟨s.toArray⟩:=⟨λh=>by cases h;rfl,λh=>by subst h;exact .str s⟩
theorem Q39:PRep I w .nilp v↔v=.pointer none:=⟨λh=>by cases h;rfl,λh=>by subst h;exact .nilp⟩
theorem Q3c:PRep I w .nils v↔v=.slice none 0 0:=⟨λh=>by cases h;rfl,λh=>by subst h;exact .nils⟩
theorem Q4p:PRep I w .emp v↔ ∃a,v=.slice a 0 0:=⟨λh=>by cases h;exact⟨_,rfl⟩,fun⟨a,h⟩=>by subst h;exact .emp a⟩
theorem Q8n{sz:Nat}{es:Els}{fr:Bool}:PRep I w (.sl sz es fr) v↔ ∃a cap,v=.slice a es.l.length cap/\es.l.length<=cap/\
 (es.l=[]\/∃b off arr ty fz,a=some ⟨b,off,none⟩/\I b/\w.heap[b]?=some (.cells arr ty fz)/\PEls I w es arr off sz):=by
 constructor
 ·intro h
  cases h with
  |sl0 sz es fr a cap h=>exact⟨a,cap,rfl,by rw[h];exact Nat.zero_le _,.inl h⟩
  |sl1 sz es fr cap hc b off arr ty fz hI hh hE=>exact⟨_,cap,rfl,hc,.inr ⟨b,off,arr,ty,fz,rfl,hI,hh,hE⟩⟩
 ·rintro⟨a,cap,rfl,hc,h|⟨b,off,arr,ty,fz,rfl,hI,hh,hE⟩⟩
  ·exact .sl0 sz es fr a cap h
  ·exact .sl1 sz es fr cap hc b off arr ty fz hI hh hE
theorem Q5v{r:Nat}:PRep I w (.all r) v↔False:=⟨(λh=>nomatch h),False.elim⟩
theorem Q5w{r o n:Nat}:PRep I w (.own r o n) v↔False:=⟨(λh=>nomatch h),False.elim⟩
theorem Q61{r i o:Nat}:PRep I w (.ptr r i o) v↔False:=⟨(λh=>nomatch h),False.elim⟩
theorem Q9m{r i o l:Nat}{k:Option IntKind}{n:Nat}:PRep I w (.pa r i o l k n) v↔False:=⟨(λh=>nomatch h),False.elim⟩
theorem Q41{sz:Nat}{es:Els}{i o:Nat}:PRep I w (.iptr sz es i o) v↔False:=⟨(λh=>nomatch h),False.elim⟩
theorem Q46:PRep I w .dead v↔False:=⟨(λh=>nomatch h),False.elim⟩
theorem Q44{es:Els}:PRep I w (.nilq es) v↔False:=⟨(λh=>nomatch h),False.elim⟩
theorem vG{f:Nat}{cs:List Cap}:PRep I w (.clo f cs) v↔False:=⟨(λh=>nomatch h),False.elim⟩
theorem Zas{r:Nat}:PRep I w (.selfp r) v↔False:=⟨(λh=>nomatch h),False.elim⟩
theorem Zbx:PRep I w .nilif v↔False:=⟨(λh=>nomatch h),False.elim⟩
theorem Q60{cs:List D}:PRep I w (.agg cs) v↔False:=⟨(λh=>nomatch h),False.elim⟩
theorem Q5z{cs:List D}:PRep I w (.tup cs) v↔False:=⟨(λh=>nomatch h),False.elim⟩
theorem Q6o{arr:Array Value}{off:Nat}:Q8i I w [] arr off↔True:=⟨λ_=>trivial,λ_=>.nil arr off⟩
theorem Q5{c:D}{cs:List D}{arr:Array Value}{off:Nat}:Q8i I w (c::cs) arr off↔(∃v,arr[off]?=some v/\PRep I w c v)/\Q8i I w cs arr (off+1):=
 ⟨λh=>by cases h with|cons _ _ _ _ v hv hp hr=>exact⟨⟨v,hv,hp⟩,hr⟩,fun⟨⟨v,hv,hp⟩,hr⟩=>.cons c cs arr off v hv hp hr⟩
theorem Q25{arr:Array Value}{off sz:Nat}:Q15 I w [] arr off sz↔True:=⟨λ_=>trivial,λ_=>.nil arr off sz⟩
theorem Q1u{e:List D}{es:List (List D)}{arr:Array Value}{off sz:Nat}:Q15 I w (e::es) arr off sz↔e.length=sz/\Q8i I w e arr off/\Q15 I w es arr (off+sz) sz:=
 ⟨λh=>by cases h with|cons _ _ _ _ _ hl hc hr=>exact⟨hl,hc,hr⟩,fun⟨hl,hc,hr⟩=>.cons e es arr off sz hl hc hr⟩
end
structure Ctx where
 ρ:Nat->Nat
 R:Nat->Option Row
 V:Nat->Prop
 I:Blocks
 base:Nat
 top:Nat
 X:Blocks
def okO(c:Ctx)(r:Nat)(a:Option Addr):Prop:=okA c.top a\/(¬c.V r/\∀x,a=some x->x.block=c.ρ r)
theorem okO.mono{c c':Ctx}{r r':Nat}{a:Option Addr}(h:okO c r a)(g:c.top<=c'.top)(hV:c'.V r'↔c.V r)(hρ:c'.ρ r'=c.ρ r):okO c' r' a:=
 h.imp (λh=>h.mono g) fun⟨p,q⟩=>⟨λe=>p (hV.1 e),λx hx=>(q x hx).trans hρ.symm⟩
def PtrRep(c:Ctx)(p:Nat×Nat×Nat)(v:Value):Prop:=∃row,c.R p.1=some row/\¬c.V p.1/\p.2.1<row.es.l.length/\v=.pointer (some ⟨c.ρ p.1,p.2.1*row.sz+p.2.2,none⟩)
def Qqp(c:Ctx):List (Nat×Nat×Nat)->List Value->Prop
 |[],[]=>True
 |p::ps,v::vs=>PtrRep c p v/\Qqp c ps vs
 |_,_=>False
def YRec(f:Nat)(us:List Value)(rec:Loop):Prop:=
 rec.state=.ready/\rec.pending=none/\∃y,yTab f=some y/\rec.params=y.ps/\rec.assign=y.assign/\rec.body=y.body/\y.n<=rec.tmps.size/\y.ps.size=1/\us=y.ts.map λt=>rec.tmps.getD t undef
def FnV(c:Ctx)(w:World)(f:Nat)(us:List Value)(v:Value):Prop:=
 (f<YB/\v=.func (.func f) #[] us.toArray)\/(YB<=f/\∃l rec,v=.func (.yield l) #[] #[]/\c.I l/\w.heap[l]?=some (.loop rec)/\YRec f us rec)
def Z90(c:Ctx)(w:World):Cap->Value->Prop
 |.ptr r i off,v=>∃row,c.R r=some row/\¬c.V r/\i<row.es.l.length/\v=.pointer (some ⟨c.ρ r,i*row.sz+off,none⟩)
 |.int k n,v=>v=.int k n
 |.arr r,v=>∃row,c.R r=some row/\row.box=false/\((c.V r/\∃a,v=.slice a 0 0/\okA c.top a)\/(¬c.V r/\∃cap arr,v=.slice (some ⟨c.ρ r,0,none⟩) row.es.l.length cap/\row.es.l.length<=cap/\cap<=maxLen/\
  w.heap[c.ρ r]?=some (.cells arr row.ty (0,0))/\cap*row.sz=arr.size))
 |.sl sz es fr,v=>∃a cap,v=.slice a es.l.length cap/\es.l.length<=cap/\
  (es.l=[]\/∃b off arr ty fz,a=some ⟨b,off,none⟩/\c.I b/\(fr=true->c.base<=b)/\w.heap[b]?=some (.cells arr ty fz)/\Q15 c.I w es.l arr off sz)
 |.fn f ps,v=>∃us:List Value,FnV c w f us v/\Qqp c ps us
def Q4e(c:Ctx)(w:World):List Cap->List Value->Prop
 |[],[]=>True
 |x::xs,v::vs=>Z90 c w x v/\Q4e c w xs vs
 |_,_=>False
def CRep(c:Ctx)(w:World):D->Value->Prop
 |.sl sz es fr,v=>∃a cap,v=.slice a es.l.length cap/\es.l.length<=cap/\
  (es.l=[]\/∃b off arr ty fz,a=some ⟨b,off,none⟩/\c.I b/\(fr=true->c.base<=b)/\w.heap[b]?=some (.cells arr ty fz)/\Q15 c.I w es.l arr off sz)
 |.all r,v=>∃row,c.R r=some row/\row.box=false/\((c.V r/\∃a,v=.slice a 0 0/\okA c.top a)\/(¬c.V r/\∃cap arr,v=.slice (some ⟨c.ρ r,0,none⟩) row.es.l.length cap/\row.es.l.length<=cap/\cap<=maxLen/\
  w.heap[c.ρ r]?=some (.cells arr row.ty (0,0))/\cap*row.sz=arr.size))
 |.own r o n,v=>∃row,c.R r=some row/\row.box=false/\o+n<=row.es.l.length/\((n=0/\∃a,v=.slice a 0 0/\okO c r a)\/(¬c.V r/\∃cap arr,n<=cap/\cap<=maxLen/\
  w.heap[c.ρ r]?=some (.cells arr row.ty (0,0))/\v=.slice (some ⟨c.ρ r,o*row.sz,none⟩) n cap/\(o+cap)*row.sz=arr.size))
 |.ptr r i off,v=>∃row,c.R r=some row/\¬c.V r/\i<row.es.l.length/\v=.pointer (some ⟨c.ρ r,i*row.sz+off,none⟩)
 |.pa r i off len _ n,v=>n<len/\∃row,c.R r=some row/\¬c.V r/\i<row.es.l.length/\v=.pointer (some ⟨c.ρ r,i*row.sz+(off+n),none⟩)
 |.iptr sz es i off,v=>∃b o arr ty fz,v=.pointer (some ⟨b,o+i*sz+off,none⟩)/\c.I b/\i<es.l.length/\w.heap[b]?=some (.cells arr ty fz)/\Q15 c.I w es.l arr o sz
 |.dead,v=>v.oneCell'=true
 |.bool b,v=>v=.bool b
 |.int k n,v=>v=.int k n
 |.str s,v=>v=.string ⟨s.toArray⟩
 |.nilp,v=>v=.pointer none
 |.nils,v=>v=.slice none 0 0
 |.emp,v=>∃a,v=.slice a 0 0/\okA c.top a
 |.nilq es,v=>∃b,v=.bool b/\(b=true->es.l=[])
 |.selfp r,v=>v=.pointer none\/∃row,c.R r=some row/\¬c.V r/\0<row.es.l.length/\v=.pointer (some ⟨c.ρ r,0*row.sz+0,none⟩)
 |.nilif,v=>v=.nilIface
 |.clo f cs,v=>∃us:List Value,FnV c w f us v/\Q4e c w cs us
 |.agg _,_=>False
 |.tup _,_=>False
theorem Z4q{c:Ctx}{w:World}:∀{ps:List (Nat×Nat×Nat)} {vs:List Value},Qqp c ps vs↔Q4e c w (ps.map ptrC) vs
 |[],[]=>Iff.rfl
 |p::ps,v::vs=>by simp only[Qqp,List.map_cons,Q4e];rw[Z4q (ps:=ps)];exact Iff.rfl
 |[],_::_=>Iff.rfl
 |_::_,[]=>Iff.rfl
theorem Z2h{c:Ctx}{w:World}{x:Cap}{v:Value}:Z90 c w x v↔CRep c w x.d v:=by
 cases x with
 |fn f ps=>simp only[Z90,Cap.d,CRep,Z4q (w:=w)]
 |_=>exact Iff.rfl
def Q2y(c:Ctx)(w:World):List D->List Value->Prop
 |[],[]=>True
 |d::ds,v::vs=>CRep c w d v/\Q2y c w ds vs
 |_,_=>False
def VRep(c:Ctx)(w:World):D->Value->Prop
 |.agg cs,v=>∃vs,v=.agg vs.toArray/\Q2y c w cs vs
 |d,v=>CRep c w d v
def Q5p(c:Ctx)(w:World):List D->List Value->Prop
 |[],[]=>True
 |d::ds,v::vs=>VRep c w d v/\Q5p c w ds vs
 |_,_=>False
def Rep(c:Ctx)(w:World):D->Value->Prop
 |.tup ds,v=>∃vs,v=.tuple vs.toArray/\Q5p c w ds vs
 |.dead,_=>True
 |d,v=>VRep c w d v
def Q32(c:Ctx)(w:World):List D->Array Value->Nat->Prop
 |[],_,_=>True
 |d::ds,arr,off=>(∃v,arr[off]?=some v/\CRep c w d v)/\Q32 c w ds arr (off+1)
def RowIn(c:Ctx)(w:World)(r:Nat)(row:Row):Prop:=
 ∃ arr,w.heap[c.ρ r]?=some (.cells arr row.ty (0,0))/\0<row.sz/\
  if row.box then∃e,row.es=.gen [e]/\e.length=row.sz/\arr.size=row.sz/\Q32 c w e arr 0
  else Q15 c.I w row.es.l arr 0 row.sz
def Qol(c:Ctx)(w:World)(r:Nat)(row:Row):Prop:=
 (c.V r/\row.box=false/\row.es.l=[]/\0<row.sz)\/(¬c.V r/\RowIn c w r row)

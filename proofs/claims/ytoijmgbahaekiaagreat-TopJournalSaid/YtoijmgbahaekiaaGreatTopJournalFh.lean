import Derived.Shelf.Strings.Builder1
import Derived.Test.YtoijmgbahaekiaaGreatTopJournalFd
import Derived.Test.YtoijmgbahaekiaaGreatTopJournalShelf
import Derived.Test.YtoijmgbahaekiaaGreatTopJournalBase
import Derived.Shelf.Spec.SlicesGrow
import Derived.Lib.ItoaNum
import Derived.Lib.ItoaMem
import Derived.Shelf.Strconv.Itoa3
import Derived.Shelf.Spec.TrailingZeros
set_option linter.all false
namespace Go.GD
open Go
end Go.GD
namespace Go.GD
open Go Go.Proofs Go.Shelf Go.RowKit
variable {P:Program} {ρ:Ren}
end Go.GD
namespace Go.GD
open Go
theorem Q2f.of_mem{P:Program}{f:FuncId}{args:List D}{res:D}(h:∀(c:Ctx) (w:World) (vs:List Value),Qh3 c.I w->Q5p c w args vs->Calls P f vs.toArray w λe w'=>∃v,e=.returned v/\(∀c',Rep c' w' res v)/\RowKit.Below w.heap.size w w'):Q2f P f args [] res []:=by
 intro c w vs hm hb hR ha
 refine(h c w vs hm.tab ha).mono λe w' hq=>?_
 obtain⟨v,he,hr,h1,h2,h3,h4,h5⟩:=hq
 have nor:∀r x,c.R r=some x->False:=λr x hx=>by rw[hR]at hx;simp at hx
 refine⟨v,c,he,⟨⟨λr x hx=>(nor r x hx).elim,λr s x y hx=>(nor r x hx).elim,λb hbI=>⟨Nat.lt_of_lt_of_le (hm.imm b hbI).1 h4,λr x hx=>(nor r x hx).elim⟩,Nat.le_trans hm.top h4,hm.tab.mono λb hb=>⟨hb,h5 b (hm.imm b hb).1⟩⟩,⟨rfl,Nat.le_refl _,λb hbI=>⟨hbI,h5 b (hm.imm b hbI).1⟩,λr x hx=>(nor r x hx).elim⟩,⟨h1,h2,h3,h4,λb hb' _=>h5 b hb'⟩,λb hbI=>.inl hbI,λr x hx=>(nor r x hx).elim⟩,hR,hr c⟩
theorem Q2f.of_below{P:Program}{f:FuncId}{args:List D}{res:D}(h:∀(c:Ctx) (w:World) (vs:List Value),Q5p c w args vs->Calls P f vs.toArray w λe w'=>∃v,e=.returned v/\(∀c',Rep c' w' res v)/\RowKit.Below w.heap.size w w'):Q2f P f args [] res []:=
 .of_mem λc w vs _ ha=>h c w vs ha
theorem qe{P:Program}{f:FuncId}(H:∀(s:ByteArray) (c:Nat) (w:World),c<=9223372036854775807->s.size*c<=140737488355328->Calls P f #[.string s,.int .i64 c] w λe w'=>e=.returned (.string ⟨(Lib.repeatL s.data.toList c).toArray⟩)/\RowKit.Below w.heap.size w w')
 {s:List UInt8} {n:Int} (h0:0<=n) (h1:n<=9223372036854775807) (h2:s.length*n.toNat<=140737488355328):Q2f P f [.str s,.int .i64 n] [] (.str (Lib.repeatL s n.toNat)) []:=by
 refine Q2f.of_below λc w vs ha=>?_
 match vs,ha with
 |[u,v],ha=>
  have hu:u=.string ⟨s.toArray⟩:=ha.1
  have hv:v=.int .i64 n:=ha.2.1
  subst hu;subst hv
  have hn:((n.toNat:Nat):Int)=n:=Int.toNat_of_nonneg h0
  have:=H ⟨s.toArray⟩ n.toNat w (by omega) (by simpa[ByteArray.size]using h2)
  rw[hn]at this
  exact this.mono λe w' ⟨he,hb⟩=>⟨_,he,λc'=>by simp[Rep,VRep,CRep],hb⟩
theorem Qh3.at{I:Blocks}{w:World}(h:Qh3 I w){g:Nat}{l:List Nat}(hm:(g,IntKind.u8,l.map λ(n:Nat)=>(n:Int))∈gtabs):Proofs.TabAt g l w:=by
 obtain⟨_,ty,fz,h2⟩:=h _ hm
 intro j hj
 simp only[World.cell?,h2]
 simp[hj]
theorem v6{P:Program}{f:FuncId}(H:∀(a b:ByteArray) (w:World),Calls P f #[.string a,.string b] w λe w'=>e=.returned (.int .i64 (Lib.compareBytes a.data.toList b.data.toList))/\w'=w){a b:List UInt8}:Q2f P f [.str a,.str b] [] (.int .i64 (Lib.compareBytes a b)) []:=by
 refine Q2f.of_mem λc w vs ht ha=>?_
 match vs,ha with
 |[u,v],ha=>
  have hu:u=.string ⟨a.toArray⟩:=ha.1
  have hv:v=.string ⟨b.toArray⟩:=ha.2.1
  subst hu;subst hv
  refine(H _ _ w).mono λe w' ⟨he,hb⟩=>⟨_,he,λc'=>by simp[Rep,VRep,CRep],?_⟩
  subst hb
  exact⟨rfl,rfl,rfl,Nat.le_refl _,λb hb=>rfl⟩

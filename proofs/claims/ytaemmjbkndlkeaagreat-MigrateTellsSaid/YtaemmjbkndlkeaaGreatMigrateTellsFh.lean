import Derived.Shelf.Strings.Builder1
import Derived.Test.YtaemmjbkndlkeaaGreatMigrateTellsFd
import Derived.Test.YtaemmjbkndlkeaaGreatMigrateTellsShelf
import Derived.Test.YtaemmjbkndlkeaaGreatMigrateTellsBase
import Derived.Shelf.Spec.SlicesGrow
import Derived.Lib.ItoaNum
import Derived.Lib.ItoaMem
import Derived.Shelf.Strconv.Itoa3
import Derived.Shelf.Spec.TrailingZeros
set_option linter.all false
namespace Go.GD
open Go
end Go.GD
namespace Go.GD
open Go Go.Proofs Go.Shelf Go.RowKit
variable {P:Program} {ρ:Ren}
end Go.GD
namespace Go.GD
open Go
variable {P:Program}{args:List D}{f:FuncId}{res:D}
theorem kM.JA(h:∀(c:Ctx) (w:World) (vs:List Value),Ba c.I w->kJ c w args vs->Calls P f vs.toArray w λe w'=>∃v,e=.returned v/\(∀c',Rep c' w' res v)/\RowKit.Below w.heap.size w w'):kM P f args [] res []:=by
 intro c w vs hm hb hR ha
 refine(h c w vs hm.kb ha).mono λe w' hq=>?_
 obtain⟨v,he,hr,h1,h2,h3,h4,h5⟩:=hq
 have Ht:∀r x,c.R r=some x->False:=λr x hx=>by rw[hR]at hx;simp at hx
 refine⟨v,c,he,⟨⟨λr x hx=>(Ht r x hx).elim,λr s x y hx=>(Ht r x hx).elim,λb ik=>⟨Nat.lt_of_lt_of_le (hm.fk b ik).1 h4,λr x hx=>(Ht r x hx).elim⟩,Nat.le_trans hm.top h4,hm.kb.mono λb hb=>⟨hb,h5 b (hm.fk b hb).1⟩⟩,⟨rfl,Nat.le_refl _,λb ik=>⟨ik,h5 b (hm.fk b ik).1⟩,λr x hx=>(Ht r x hx).elim⟩,⟨h1,h2,h3,h4,λb su _=>h5 b su⟩,λb ik=>.inl ik,λr x hx=>(Ht r x hx).elim⟩,hR,hr c⟩
theorem kM.CN(h:∀(c:Ctx) (w:World) (vs:List Value),kJ c w args vs->Calls P f vs.toArray w λe w'=>∃v,e=.returned v/\(∀c',Rep c' w' res v)/\RowKit.Below w.heap.size w w'):kM P f args [] res []:=
 .JA λc w vs _ ha=>h c w vs ha
theorem zd(H:∀(s:ByteArray) (c:Nat) (w:World),c<=9223372036854775807->s.size*c<=140737488355328->Calls P f #[.string s,.int .i64 c] w λe w'=>e=.returned (.string ⟨(Lib.repeatL s.data.toList c).toArray⟩)/\RowKit.Below w.heap.size w w')
 {s:List UInt8} {n:Int} (h0:0<=n) (h1:n<=9223372036854775807) (h2:s.length*n.toNat<=140737488355328):kM P f [.str s,.int .i64 n] [] (.str (Lib.repeatL s n.toNat)) []:=by
 refine kM.CN λc w vs ha=>?_
 match vs,ha with
 |[u,v],ha=>
  have hu:u=.string ⟨s.toArray⟩:=ha.1
  have hv:v=.int .i64 n:=ha.2.1
  subst hu;subst hv
  have hn:((n.toNat:Nat):Int)=n:=Int.toNat_of_nonneg h0
  have:=H ⟨s.toArray⟩ n.toNat w (by omega) (by simpa[ByteArray.size]using h2)
  rw[hn]at this
  exact this.mono λe w' ⟨he,hb⟩=>⟨_,he,λc'=>by simp[Rep,VRep,dc],hb⟩
theorem Ba.at{I:ab}{w:World}(h:Ba I w){g:Nat}{l:List Nat}(hm:(g,IntKind.u8,l.map λ(n:Nat)=>(n:Int))∈Hu):Proofs.TabAt g l w:=by
 obtain⟨_,ty,fz,h2⟩:=h _ hm
 intro j hj
 simp only[World.cell?,h2]
 simp[hj]

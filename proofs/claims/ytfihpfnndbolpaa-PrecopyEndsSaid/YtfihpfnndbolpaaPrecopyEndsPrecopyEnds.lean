/-
  PROVED: 'Rows.PrecopyEndsSaid': whatever the input: vmfleetlaw30.PrecopyEnds returns true, and each argument reads behind the call as it read before. No condition.
-/
import Derived.Test.YtfihpfnndbolpaaRows
import Derived.WalkKit
import Derived.ProofKit
import Derived.OpenShut
import Derived.ShutString
import Derived.ChangeOld
import Derived.Below
import Derived.SizedLaws
import Derived.Test.YtfihpfnndbolpaaPrecopyEndsLaw
import Derived.Test.YtfihpfnndbolpaaPrecopyEndsFacts
import Derived.Test.YtfihpfnndbolpaaPrecopyEndsP30L
namespace Go.Proofs.Ytfihpfnndbolpaa.precopyEnds
open Go Go.GD Go.ChangeShapes Go.WideShapes Go.ChangeAt Go.RowKit
set_option linter.unusedVariables false
theorem own : ownKnob Try.prog.godebug = none := by kernel_rfl
theorem laidOut : laidOutB Try.prog = true := by kernel_rfl
def sig : List (Bool × List STy) := [(false, [.int .i64]), (false, [.int .i64])]
theorem sigOK : SigOK Try.prog 8 Try.f4.params.toList sig := by
  rw [Try.params4]
  exact ⟨by kernel_rfl, by kernel_rfl, by kernel_rfl, of_decide_eq_true (by kernel_rfl), ⟨by kernel_rfl, by kernel_rfl, by kernel_rfl, of_decide_eq_true (by kernel_rfl), trivial⟩⟩
theorem called (Ds : List D) (h : FitA sig Ds) : ACalls Try.prog 4 Ds [] (.bool true) [] := by
  obtain ⟨d1, Ds, rfl, h1, h⟩ := fitA_one h
  obtain ⟨d2, Ds, rfl, h2, h⟩ := fitA_one h
  obtain rfl := fitA_nil h
  obtain ⟨pages, rfl, _⟩ := fit_int (fits_one h1)
  obtain ⟨extra, rfl, _⟩ := fit_int (fits_one h2)
  obtain ⟨g1, g2⟩ := Tree.pp (W := fun r => r = true) (ends_w pages extra)
  have := (law30_PrecopyEnds_ok.absW rfl [.int .i64 pages, .int .i64 extra] [] _ Bool (law30_PrecopyEnds pages extra) (fun X => .bool X) (fun X => []) (by rfl) g1).1
  rw [show law30_PrecopyEnds pages extra = true from g2] at this
  exact this
set_option maxRecDepth 100000 in
theorem lifted (os : Os) (started : os.Started) (H : Type) (enc : TypeId × Value → H) :
    ReturnsInHanded {} Try.checked os 4 .any (Rows.precopyEndsSpec.pre6 enc Try.prog Try.f4 Rows.precopyEndsRow.domain false) (Rows.precopyEndsSpec.post enc Try.prog Try.f4 false true false false) := by
  refine returnsInHanded_of_change_sized (C := Try.checked) own started (by kernel_rfl) Try.func4
    (ChangeSpec.witness6 (enc := enc) (C := Try.checked) false ⟨#[], #[.int .i64 0, .int .i64 0], []⟩ 8 (by kernel_rfl) (by kernel_rfl) (by kernel_rfl) (by kernel_rfl)) ?_
  intro W base args ds gs before hval0 hW hcnd hsz _
  exact law_lifted laidOut sigOK (by kernel_rfl) Try.underlying4 rfl (fun ds hd => by match ds, hd with | [d0, d1], _ => exact ⟨rfl, rfl, rfl⟩) called W base args ds gs before hval0 hW hsz
theorem named : Try.pinned.checked.prog.funcNamed Rows.precopyEndsRow.func = some 4 := by kernel_rfl
theorem inst : Try.f4.isInstance Try.pinned.checked.prog Rows.precopyEndsRow.origin Rows.precopyEndsRow.targs := of_decide_eq_true (by kernel_rfl)
theorem wrap : Try.f4.isWrapper Try.pinned.checked.prog Rows.precopyEndsRow.wrapper Rows.precopyEndsRow.mainSum := by unfold Func.isWrapper; first | (rw [if_pos (by decide +kernel)]; kernel_rfl) | (rw [if_neg (by decide +kernel)]; exact ⟨rfl, rfl⟩)
theorem over : Rows.precopyEndsRow.holds Try.pinned (OpenSpec.ofChange Rows.precopyEndsSpec) :=
  OpenClaim.holds_of_wide 4 Try.f4 rfl rfl rfl rfl rfl rfl rfl ⟨rfl, rfl, rfl, rfl, rfl⟩ rfl rfl rfl rfl rfl named Try.func4 facts inst wrap (fun os started H enc _ => lifted os started H enc)
theorem proved : Rows.PrecopyEndsSaid := over
#print axioms proved
end Go.Proofs.Ytfihpfnndbolpaa.precopyEnds

/-
  The closed facts of the row of PrecopyTells.
-/
import Derived.Test.YtfihpfnndbolpaaRows
import Derived.WalkKit
import Derived.ProofKit
import Derived.OpenShut
import Derived.ShutString
import Derived.ChangeOld
import Derived.Below
import Derived.SizedLaws
namespace Go.Proofs.Ytfihpfnndbolpaa.precopyTells
open Go Go.ChangeShapes Go.WideShapes Go.ChangeAt Go.RowKit
set_option maxHeartbeats 0 in
theorem facts : joinedFacts Try.pinned.checked.prog 5 Try.f5 Rows.precopyTellsSpec Rows.precopyTellsRow = true := by
  unfold joinedFacts
  repeat' (with_reducible refine Bool.and_eq_true_iff.mpr ⟨?_, ?_⟩)
  all_goals as_aux_lemma => kernel_rfl
end Go.Proofs.Ytfihpfnndbolpaa.precopyTells

/-
  The closed facts of the row of MachineHalted.
-/
import Derived.Test.YtdkiadhigcfmkaaGreatRows
import Derived.WalkKit
import Derived.ProofKit
import Derived.OpenShut
import Derived.ShutString
import Derived.ChangeOld
import Derived.Below
import Derived.SizedLaws
namespace Go.Proofs.YtdkiadhigcfmkaaGreat.machineHalted
open Go Go.ChangeShapes Go.WideShapes Go.ChangeAt Go.RowKit
set_option maxHeartbeats 0 in
theorem facts : joinedFacts Tryz.pinned.checked.prog 10 Tryz.f10 Rows.machineHaltedSpec Rows.machineHaltedRow = true := by
  unfold joinedFacts
  repeat' (with_reducible refine Bool.and_eq_true_iff.mpr ⟨?_, ?_⟩)
  all_goals as_aux_lemma => kernel_rfl
end Go.Proofs.YtdkiadhigcfmkaaGreat.machineHalted

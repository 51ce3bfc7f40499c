import Derived.Test.YtoijmgbahaekiaaGreatRows
import Derived.WalkKit
import Derived.ProofKit
import Derived.OpenShut
import Derived.ShutString
import Derived.ChangeOld
import Derived.Below
import Derived.SizedLaws
namespace Go.Proofs.YtoijmgbahaekiaaGreat.topJournal
open Go Go.ChangeShapes Go.WideShapes Go.ChangeAt Go.RowKit
set_option maxHeartbeats 0 in
theorem facts:joinedFacts Tryz.pinned.checked.prog 5 Tryz.f5 Rows.topJournalSpec Rows.topJournalRow=true:=by
 unfold joinedFacts
 repeat'(with_reducible refine Bool.and_eq_true_iff.mpr ⟨?_,?_⟩)
 all_goals as_aux_lemma=>kernel_rfl

/-
  A part of the proof.
-/
import Derived.Test.YtpcbkbalabgnlaaGreatRecordTimerYe
import Derived.Test.YtpcbkbalabgnlaaGreatRecordTimerDecs
import Derived.SizedLaws
set_option linter.unusedVariables false
namespace Go.Proofs.YtpcbkbalabgnlaaGreat
open Go Go.GD
set_option maxRecDepth 100000
end Go.Proofs.YtpcbkbalabgnlaaGreat

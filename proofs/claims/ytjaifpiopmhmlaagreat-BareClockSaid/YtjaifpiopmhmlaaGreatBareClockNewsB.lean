/-
  A part of the proof.
-/
import Derived.Test.YtjaifpiopmhmlaaGreatBareClockYe
import Derived.Test.YtjaifpiopmhmlaaGreatBareClockCk
import Derived.SizedLaws
set_option maxRecDepth 100000
set_option linter.unusedVariables false
namespace Go.Proofs.YtjaifpiopmhmlaaGreat
open Go Go.GD
end Go.Proofs.YtjaifpiopmhmlaaGreat

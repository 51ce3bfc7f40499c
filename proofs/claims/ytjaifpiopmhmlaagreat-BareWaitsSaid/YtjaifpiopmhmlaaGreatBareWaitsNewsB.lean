/-
  A part of the proof.
-/
import Derived.Test.YtjaifpiopmhmlaaGreatBareWaitsYe
import Derived.Test.YtjaifpiopmhmlaaGreatBareWaitsCk
import Derived.SizedLaws
set_option maxRecDepth 100000
set_option linter.unusedVariables false
namespace Go.Proofs.YtjaifpiopmhmlaaGreat
open Go Go.GD
end Go.Proofs.YtjaifpiopmhmlaaGreat

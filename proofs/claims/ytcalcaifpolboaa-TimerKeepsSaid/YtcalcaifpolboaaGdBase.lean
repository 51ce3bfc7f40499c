/-
  What GD needs of this seat's program.
-/
import Derived.Test.YtcalcaifpolboaaGdList
import Derived.Test.YtcalcaifpolboaaGdT
import Derived.Test.YtcalcaifpolboaaChecked
namespace Go.Proofs.Ytcalcaifpolboaa
open Go Go.GD

theorem drawn : DrawOK Try.prog := drawOK_ok (Checked.mixed Try.checked)
end Go.Proofs.Ytcalcaifpolboaa

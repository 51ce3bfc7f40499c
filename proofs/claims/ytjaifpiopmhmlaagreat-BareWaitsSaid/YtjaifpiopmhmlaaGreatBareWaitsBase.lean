/-
  What GD needs of this seat's program.
-/
import Derived.Test.YtjaifpiopmhmlaaGreatBareWaitsMod
import Derived.Test.YtjaifpiopmhmlaaGreatBareWaitsLate
import Derived.Test.YtjaifpiopmhmlaaGreatBareWaitsT
import Derived.Test.YtjaifpiopmhmlaaGreatChecked
namespace Go.Proofs.YtjaifpiopmhmlaaGreat
open Go Go.GD
theorem Q0s:Qh0 Tryz.prog:=drawVC_ok (Checked.mixed Tryz.checked)
end Go.Proofs.YtjaifpiopmhmlaaGreat

/-
  What GD needs of this seat's program.
-/
import Derived.Test.YtjaifpiopmhmlaaGreatBareClockMod
import Derived.Test.YtjaifpiopmhmlaaGreatBareClockLate
import Derived.Test.YtjaifpiopmhmlaaGreatBareClockT
import Derived.Test.YtjaifpiopmhmlaaGreatChecked
namespace Go.Proofs.YtjaifpiopmhmlaaGreat
open Go Go.GD
theorem Q0p:Qge Tryz.prog:=drawVC_ok (Checked.mixed Tryz.checked)
end Go.Proofs.YtjaifpiopmhmlaaGreat

/-
  What GD needs of this seat's program.
-/
import Derived.Test.YtjaifpiopmhmlaaGreatBareDriversMod
import Derived.Test.YtjaifpiopmhmlaaGreatBareDriversLate
import Derived.Test.YtjaifpiopmhmlaaGreatBareDriversT
import Derived.Test.YtjaifpiopmhmlaaGreatChecked
namespace Go.Proofs.YtjaifpiopmhmlaaGreat
open Go Go.GD
theorem Q0r:Qgx Tryz.prog:=drawVC_ok (Checked.mixed Tryz.checked)
end Go.Proofs.YtjaifpiopmhmlaaGreat

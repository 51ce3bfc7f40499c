/-
  What GD needs of this seat's program.
-/
import Derived.Test.YtjaifpiopmhmlaaGreatBarePositionsMod
import Derived.Test.YtjaifpiopmhmlaaGreatBarePositionsLate
import Derived.Test.YtjaifpiopmhmlaaGreatBarePositionsT
import Derived.Test.YtjaifpiopmhmlaaGreatChecked
namespace Go.Proofs.YtjaifpiopmhmlaaGreat
open Go Go.GD
theorem Q0k:Qjw Tryz.prog:=drawVC_ok (Checked.mixed Tryz.checked)
end Go.Proofs.YtjaifpiopmhmlaaGreat

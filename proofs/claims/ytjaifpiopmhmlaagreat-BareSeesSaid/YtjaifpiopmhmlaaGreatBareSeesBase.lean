/-
  What GD needs of this seat's program.
-/
import Derived.Test.YtjaifpiopmhmlaaGreatBareSeesMod
import Derived.Test.YtjaifpiopmhmlaaGreatBareSeesLate
import Derived.Test.YtjaifpiopmhmlaaGreatBareSeesT
import Derived.Test.YtjaifpiopmhmlaaGreatChecked
namespace Go.Proofs.YtjaifpiopmhmlaaGreat
open Go Go.GD
theorem Q0j:Qki Tryz.prog:=zv (Checked.mixed Tryz.checked)
end Go.Proofs.YtjaifpiopmhmlaaGreat

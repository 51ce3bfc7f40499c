/-
  What GD needs of this seat's program.
-/
import Derived.Test.YtjaifpiopmhmlaaGreatBareIgnoresMod
import Derived.Test.YtjaifpiopmhmlaaGreatBareIgnoresLate
import Derived.Test.YtjaifpiopmhmlaaGreatBareIgnoresT
import Derived.Test.YtjaifpiopmhmlaaGreatChecked
namespace Go.Proofs.YtjaifpiopmhmlaaGreat
open Go Go.GD
theorem Q0j:Qjy Tryz.prog:=vu (Checked.mixed Tryz.checked)
end Go.Proofs.YtjaifpiopmhmlaaGreat

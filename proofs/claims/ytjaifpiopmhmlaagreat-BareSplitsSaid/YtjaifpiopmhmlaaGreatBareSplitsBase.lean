/-
  What GD needs of this seat's program.
-/
import Derived.Test.YtjaifpiopmhmlaaGreatBareSplitsMod
import Derived.Test.YtjaifpiopmhmlaaGreatBareSplitsLate
import Derived.Test.YtjaifpiopmhmlaaGreatBareSplitsT
import Derived.Test.YtjaifpiopmhmlaaGreatChecked
namespace Go.Proofs.YtjaifpiopmhmlaaGreat
open Go Go.GD
theorem Q0j:Qka Tryz.prog:=zu (Checked.mixed Tryz.checked)
end Go.Proofs.YtjaifpiopmhmlaaGreat

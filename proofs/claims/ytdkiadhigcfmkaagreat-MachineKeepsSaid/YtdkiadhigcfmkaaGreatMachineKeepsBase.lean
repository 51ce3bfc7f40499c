/-
  What GD needs of this seat's program.
-/
import Derived.Test.YtdkiadhigcfmkaaGreatMachineKeepsMod
import Derived.Test.YtdkiadhigcfmkaaGreatMachineKeepsLate
import Derived.Test.YtdkiadhigcfmkaaGreatMachineKeepsT
import Derived.Test.YtdkiadhigcfmkaaGreatChecked
namespace Go.Proofs.YtdkiadhigcfmkaaGreat
open Go Go.GD
theorem Q0f : Qfo Tryz.prog := drawVC_ok (Checked.mixed Tryz.checked)
end Go.Proofs.YtdkiadhigcfmkaaGreat

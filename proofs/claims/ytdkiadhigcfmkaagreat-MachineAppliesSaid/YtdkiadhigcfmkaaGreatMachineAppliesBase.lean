/-
  What GD needs of this seat's program.
-/
import Derived.Test.YtdkiadhigcfmkaaGreatMachineAppliesMod
import Derived.Test.YtdkiadhigcfmkaaGreatMachineAppliesLate
import Derived.Test.YtdkiadhigcfmkaaGreatMachineAppliesT
import Derived.Test.YtdkiadhigcfmkaaGreatChecked
namespace Go.Proofs.YtdkiadhigcfmkaaGreat
open Go Go.GD
theorem Q0f:Qfh Tryz.prog:=drawVC_ok (Checked.mixed Tryz.checked)
end Go.Proofs.YtdkiadhigcfmkaaGreat

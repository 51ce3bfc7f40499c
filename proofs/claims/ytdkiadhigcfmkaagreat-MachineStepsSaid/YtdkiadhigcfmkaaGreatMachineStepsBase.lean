/-
  What GD needs of this seat's program.
-/
import Derived.Test.YtdkiadhigcfmkaaGreatMachineStepsMod
import Derived.Test.YtdkiadhigcfmkaaGreatMachineStepsLate
import Derived.Test.YtdkiadhigcfmkaaGreatMachineStepsT
import Derived.Test.YtdkiadhigcfmkaaGreatChecked
namespace Go.Proofs.YtdkiadhigcfmkaaGreat
open Go Go.GD
theorem Q0g:Qho Tryz.prog:=drawVC_ok (Checked.mixed Tryz.checked)
end Go.Proofs.YtdkiadhigcfmkaaGreat

/-
  What GD needs of this seat's program.
-/
import Derived.Test.YtdkiadhigcfmkaaGreatMachineInterruptsMod
import Derived.Test.YtdkiadhigcfmkaaGreatMachineInterruptsLate
import Derived.Test.YtdkiadhigcfmkaaGreatMachineInterruptsT
import Derived.Test.YtdkiadhigcfmkaaGreatChecked
namespace Go.Proofs.YtdkiadhigcfmkaaGreat
open Go Go.GD
theorem Q0i:Qio Tryz.prog:=drawVC_ok (Checked.mixed Tryz.checked)
end Go.Proofs.YtdkiadhigcfmkaaGreat

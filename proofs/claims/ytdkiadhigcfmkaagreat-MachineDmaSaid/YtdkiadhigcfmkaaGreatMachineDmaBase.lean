/-
  What GD needs of this seat's program.
-/
import Derived.Test.YtdkiadhigcfmkaaGreatMachineDmaMod
import Derived.Test.YtdkiadhigcfmkaaGreatMachineDmaLate
import Derived.Test.YtdkiadhigcfmkaaGreatMachineDmaT
import Derived.Test.YtdkiadhigcfmkaaGreatChecked
namespace Go.Proofs.YtdkiadhigcfmkaaGreat
open Go Go.GD
theorem drawn : DrawOK Tryz.prog := drawVC_ok (Checked.mixed Tryz.checked)
end Go.Proofs.YtdkiadhigcfmkaaGreat

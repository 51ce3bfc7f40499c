/-
  What GD needs of this seat's program.
-/
import Derived.Test.YtpcbkbalabgnlaaGreatRecordTimerMod
import Derived.Test.YtpcbkbalabgnlaaGreatRecordTimerLate
import Derived.Test.YtpcbkbalabgnlaaGreatRecordTimerT
import Derived.Test.YtpcbkbalabgnlaaGreatChecked
namespace Go.Proofs.YtpcbkbalabgnlaaGreat
open Go Go.GD
theorem Q0s:Qgw Tryz.prog:=drawVC_ok (Checked.mixed Tryz.checked)
end Go.Proofs.YtpcbkbalabgnlaaGreat

/-
  What GD needs of this seat's program.
-/
import Derived.Test.YtpcbkbalabgnlaaGreatRecordClockMod
import Derived.Test.YtpcbkbalabgnlaaGreatRecordClockLate
import Derived.Test.YtpcbkbalabgnlaaGreatRecordClockT
import Derived.Test.YtpcbkbalabgnlaaGreatChecked
namespace Go.Proofs.YtpcbkbalabgnlaaGreat
open Go Go.GD
theorem Q0j:Qjf Tryz.prog:=drawVC_ok (Checked.mixed Tryz.checked)
end Go.Proofs.YtpcbkbalabgnlaaGreat

/-
  What GD needs of this seat's program.
-/
import Derived.Test.YtpcbkbalabgnlaaGreatRecordQueueMod
import Derived.Test.YtpcbkbalabgnlaaGreatRecordQueueLate
import Derived.Test.YtpcbkbalabgnlaaGreatRecordQueueT
import Derived.Test.YtpcbkbalabgnlaaGreatChecked
namespace Go.Proofs.YtpcbkbalabgnlaaGreat
open Go Go.GD
theorem Q0o:Qhc Tryz.prog:=drawVC_ok (Checked.mixed Tryz.checked)
end Go.Proofs.YtpcbkbalabgnlaaGreat

/-
  What GD needs of this seat's program.
-/
import Derived.Test.YtpcbkbalabgnlaaGreatRecordTellsMod
import Derived.Test.YtpcbkbalabgnlaaGreatRecordTellsLate
import Derived.Test.YtpcbkbalabgnlaaGreatRecordTellsT
import Derived.Test.YtpcbkbalabgnlaaGreatChecked
namespace Go.Proofs.YtpcbkbalabgnlaaGreat
open Go Go.GD
theorem Q0j:Qla Tryz.prog:=drawVC_ok (Checked.mixed Tryz.checked)
end Go.Proofs.YtpcbkbalabgnlaaGreat

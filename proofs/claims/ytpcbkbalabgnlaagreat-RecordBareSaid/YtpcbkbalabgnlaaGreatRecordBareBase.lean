/-
  What GD needs of this seat's program.
-/
import Derived.Test.YtpcbkbalabgnlaaGreatRecordBareMod
import Derived.Test.YtpcbkbalabgnlaaGreatRecordBareLate
import Derived.Test.YtpcbkbalabgnlaaGreatRecordBareT
import Derived.Test.YtpcbkbalabgnlaaGreatChecked
namespace Go.Proofs.YtpcbkbalabgnlaaGreat
open Go Go.GD
theorem Q0j:Qk5 Tryz.prog:=drawVC_ok (Checked.mixed Tryz.checked)
end Go.Proofs.YtpcbkbalabgnlaaGreat

/-
  What GD needs of this seat's program.
-/
import Derived.Test.YtpcbkbalabgnlaaGreatRecordOrderedMod
import Derived.Test.YtpcbkbalabgnlaaGreatRecordOrderedLate
import Derived.Test.YtpcbkbalabgnlaaGreatRecordOrderedT
import Derived.Test.YtpcbkbalabgnlaaGreatChecked
namespace Go.Proofs.YtpcbkbalabgnlaaGreat
open Go Go.GD
theorem Q0i:Qjr Tryz.prog:=drawVC_ok (Checked.mixed Tryz.checked)
end Go.Proofs.YtpcbkbalabgnlaaGreat

/-
  What GD needs of this seat's program.
-/
import Derived.Test.YtpcbkbalabgnlaaGreatRecordPiecesMod
import Derived.Test.YtpcbkbalabgnlaaGreatRecordPiecesLate
import Derived.Test.YtpcbkbalabgnlaaGreatRecordPiecesT
import Derived.Test.YtpcbkbalabgnlaaGreatChecked
namespace Go.Proofs.YtpcbkbalabgnlaaGreat
open Go Go.GD
theorem Q0i:Qk1 Tryz.prog:=drawVC_ok (Checked.mixed Tryz.checked)
end Go.Proofs.YtpcbkbalabgnlaaGreat

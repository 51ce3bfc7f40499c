/-
  The table of types of this seat's program, as GD reads it (by a program: tab.py).
-/
import Derived.Test.YtfihpfnndbolpaaProg
import Derived.Test.YtfihpfnndbolpaaPrecopyTellsTab
import Derived.KernelRfl
namespace Go.Proofs.Ytfihpfnndbolpaa
open Go Go.GD
def tab : Tab := [
  (2, ⟨.int .i64, 1, 8, [.int .i64], some [.int .i64 0], true⟩),
  (3, ⟨.int .i64, 1, 8, [.int .i64], some [.int .i64 0], true⟩),
  (4, ⟨.bool, 1, 1, [.bool], some [.bool false], true⟩),
  (5, ⟨.int .u8, 1, 1, [.int .u8], some [.int .u8 0], true⟩),
  (9, ⟨.string, 1, 16, [.str], some [.str []], true⟩),
  (12, ⟨.int .u64, 1, 8, [.int .u64], some [.int .u64 0], true⟩),
  (21, ⟨.int .i32, 1, 4, [.int .i32], some [.int .i32 0], true⟩),
  (22, ⟨.slice 3 1, 1, 24, [.sl 1], some [.nils], false⟩),
  (24, ⟨.slice 4 1, 1, 24, [.sl 1], some [.nils], false⟩),
  (26, ⟨.struct [(0, 24, 1), (1, 3, 1), (2, 3, 1)], 3, 40, [.sl 1, .int .i64, .int .i64], some [.nils, .int .i64 0, .int .i64 0], false⟩),
  (29, ⟨.slice 61 1, 1, 24, [.sl 1], some [.nils], false⟩),
  (31, ⟨.slice 57 2, 1, 24, [.sl 2], some [.nils], false⟩),
  (51, ⟨.other, 1, 8, [.other], some [.dead], false⟩),
  (57, ⟨.struct [(0, 3, 1), (1, 9, 1)], 2, 24, [.int .i64, .str], some [.int .i64 0, .str []], true⟩),
  (61, ⟨.int .u32, 1, 4, [.int .u32], some [.int .u32 0], true⟩),
  (69, ⟨.slice 5 1, 1, 24, [.sl 1], some [.nils], false⟩),
  (71, ⟨.int .u64, 1, 8, [.int .u64], some [.int .u64 0], true⟩)]
theorem tabOK : TabOK Try.prog tab := by
  unfold TabOK
  kernel_rfl
end Go.Proofs.Ytfihpfnndbolpaa

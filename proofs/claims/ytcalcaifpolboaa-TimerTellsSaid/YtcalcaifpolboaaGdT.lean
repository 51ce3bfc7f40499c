/-
  The table of types of this seat's program, as GD reads it (by a program: tab.py).
-/
import Derived.Test.YtcalcaifpolboaaProg
import Derived.Test.YtcalcaifpolboaaGdTab
import Derived.KernelRfl
namespace Go.Proofs.Ytcalcaifpolboaa
open Go Go.GD

def tab : Tab := [
  (2, ⟨.int .i64, 1, 8, [.int .i64], some [.int .i64 0], true⟩),
  (3, ⟨.int .i64, 1, 8, [.int .i64], some [.int .i64 0], true⟩),
  (4, ⟨.bool, 1, 1, [.bool], some [.bool false], true⟩),
  (5, ⟨.int .u8, 1, 1, [.int .u8], some [.int .u8 0], true⟩),
  (9, ⟨.string, 1, 16, [.str], some [.str []], true⟩),
  (12, ⟨.int .u64, 1, 8, [.int .u64], some [.int .u64 0], true⟩),
  (21, ⟨.int .i32, 1, 4, [.int .i32], some [.int .i32 0], true⟩),
  (22, ⟨.int .u32, 1, 4, [.int .u32], some [.int .u32 0], true⟩),
  (24, ⟨.struct [(0, 4, 1), (1, 22, 1), (2, 4, 1)], 3, 12, [.bool, .int .u32, .bool], some [.bool false, .int .u32 0, .bool false], true⟩),
  (34, ⟨.slice 22 1, 1, 24, [.sl 1], some [.nils], false⟩),
  (35, ⟨.int .u64, 1, 8, [.int .u64], some [.int .u64 0], true⟩),
  (37, ⟨.slice 3 1, 1, 24, [.sl 1], some [.nils], false⟩),
  (38, ⟨.slice 4 1, 1, 24, [.sl 1], some [.nils], false⟩),
  (40, ⟨.struct [(0, 38, 1), (1, 3, 1), (2, 3, 1)], 3, 40, [.sl 1, .int .i64, .int .i64], some [.nils, .int .i64 0, .int .i64 0], false⟩),
  (44, ⟨.slice 70 2, 1, 24, [.sl 2], some [.nils], false⟩),
  (70, ⟨.struct [(0, 3, 1), (1, 9, 1)], 2, 24, [.int .i64, .str], some [.int .i64 0, .str []], true⟩),
  (81, ⟨.slice 5 1, 1, 24, [.sl 1], some [.nils], false⟩)]

theorem tabOK : TabOK Try.prog tab := by
  unfold TabOK
  kernel_rfl
end Go.Proofs.Ytcalcaifpolboaa

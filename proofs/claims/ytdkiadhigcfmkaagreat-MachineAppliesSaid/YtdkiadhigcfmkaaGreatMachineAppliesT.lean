/-
  The table of types of this seat's program, as GD reads it (by a program: tab.py).
-/
import Derived.Test.YtdkiadhigcfmkaaGreatProg
import Derived.Test.YtdkiadhigcfmkaaGreatMachineAppliesTab
import Derived.KernelRfl
namespace Go.Proofs.YtdkiadhigcfmkaaGreat
open Go Go.GD
def tab:Tab:=[
 (2,⟨.int .i64,1,8,[.int .i64],some [.int .i64 0],true⟩),
 (3,⟨.int .i64,1,8,[.int .i64],some [.int .i64 0],true⟩),
 (4,⟨.bool,1,1,[.bool],some [.bool false],true⟩),
 (5,⟨.int .u8,1,1,[.int .u8],some [.int .u8 0],true⟩),
 (9,⟨.string,1,16,[.str],some [.str []],true⟩),
 (12,⟨.int .u64,1,8,[.int .u64],some [.int .u64 0],true⟩),
 (21,⟨.int .i32,1,4,[.int .i32],some [.int .i32 0],true⟩),
 (22,⟨.slice 27 1,1,24,[.sl 1],some [.nils],false⟩),
 (23,⟨.slice 3 1,1,24,[.sl 1],some [.nils],false⟩),
 (27,⟨.int .u32,1,4,[.int .u32],some [.int .u32 0],true⟩),
 (28,⟨.array 16 27 1,16,64,[.int .u32, .int .u32, .int .u32, .int .u32, .int .u32, .int .u32, .int .u32, .int .u32, .int .u32, .int .u32, .int .u32, .int .u32, .int .u32, .int .u32, .int .u32, .int .u32],some [.int .u32 0, .int .u32 0, .int .u32 0, .int .u32 0, .int .u32 0, .int .u32 0, .int .u32 0, .int .u32 0, .int .u32 0, .int .u32 0, .int .u32 0, .int .u32 0, .int .u32 0, .int .u32 0, .int .u32 0, .int .u32 0],true⟩),
 (29,⟨.array 8 27 1,8,32,[.int .u32, .int .u32, .int .u32, .int .u32, .int .u32, .int .u32, .int .u32, .int .u32],some [.int .u32 0, .int .u32 0, .int .u32 0, .int .u32 0, .int .u32 0, .int .u32 0, .int .u32 0, .int .u32 0],true⟩),
 (31,⟨.struct [(0,28,16),(16,27,1),(17,29,8)],25,100,[.int .u32, .int .u32, .int .u32, .int .u32, .int .u32, .int .u32, .int .u32, .int .u32, .int .u32, .int .u32, .int .u32, .int .u32, .int .u32, .int .u32, .int .u32, .int .u32, .int .u32, .int .u32, .int .u32, .int .u32, .int .u32, .int .u32, .int .u32, .int .u32, .int .u32],some [.int .u32 0, .int .u32 0, .int .u32 0, .int .u32 0, .int .u32 0, .int .u32 0, .int .u32 0, .int .u32 0, .int .u32 0, .int .u32 0, .int .u32 0, .int .u32 0, .int .u32 0, .int .u32 0, .int .u32 0, .int .u32 0, .int .u32 0, .int .u32 0, .int .u32 0, .int .u32 0, .int .u32 0, .int .u32 0, .int .u32 0, .int .u32 0, .int .u32 0],true⟩),
 (33,⟨.struct [(0,9,1)],1,16,[.str],some [.str []],true⟩),
 (35,⟨.struct [(0,4,1),(1,27,1),(2,4,1)],3,12,[.bool, .int .u32, .bool],some [.bool false, .int .u32 0, .bool false],true⟩),
 (37,⟨.struct [(0,27,1),(1,27,1),(2,27,1),(3,3,1),(4,3,1),(5,27,1),(6,27,1),(7,9,1)],8,56,[.int .u32, .int .u32, .int .u32, .int .i64, .int .i64, .int .u32, .int .u32, .str],some [.int .u32 0, .int .u32 0, .int .u32 0, .int .i64 0, .int .i64 0, .int .u32 0, .int .u32 0, .str []],true⟩),
 (39,⟨.struct [(0,27,1),(1,27,1),(2,4,1),(3,27,1),(4,4,1),(5,27,1)],6,24,[.int .u32, .int .u32, .bool, .int .u32, .bool, .int .u32],some [.int .u32 0, .int .u32 0, .bool false, .int .u32 0, .bool false, .int .u32 0],true⟩),
 (41,⟨.struct [(0,27,1),(1,27,1)],2,8,[.int .u32, .int .u32],some [.int .u32 0, .int .u32 0],true⟩),
 (42,⟨.int .u64,1,8,[.int .u64],some [.int .u64 0],true⟩),
 (44,⟨.struct [(0,31,25),(25,22,1),(26,33,1),(27,35,3),(30,37,8),(38,39,6),(44,41,2),(46,42,1),(47,4,1),(48,4,1)],49,264,[.int .u32, .int .u32, .int .u32, .int .u32, .int .u32, .int .u32, .int .u32, .int .u32, .int .u32, .int .u32, .int .u32, .int .u32, .int .u32, .int .u32, .int .u32, .int .u32, .int .u32, .int .u32, .int .u32, .int .u32, .int .u32, .int .u32, .int .u32, .int .u32, .int .u32, .sl 1, .str, .bool, .int .u32, .bool, .int .u32, .int .u32, .int .u32, .int .i64, .int .i64, .int .u32, .int .u32, .str, .int .u32, .int .u32, .bool, .int .u32, .bool, .int .u32, .int .u32, .int .u32, .int .u64, .bool, .bool],some [.int .u32 0, .int .u32 0, .int .u32 0, .int .u32 0, .int .u32 0, .int .u32 0, .int .u32 0, .int .u32 0, .int .u32 0, .int .u32 0, .int .u32 0, .int .u32 0, .int .u32 0, .int .u32 0, .int .u32 0, .int .u32 0, .int .u32 0, .int .u32 0, .int .u32 0, .int .u32 0, .int .u32 0, .int .u32 0, .int .u32 0, .int .u32 0, .int .u32 0, .nils, .str [], .bool false, .int .u32 0, .bool false, .int .u32 0, .int .u32 0, .int .u32 0, .int .i64 0, .int .i64 0, .int .u32 0, .int .u32 0, .str [], .int .u32 0, .int .u32 0, .bool false, .int .u32 0, .bool false, .int .u32 0, .int .u32 0, .int .u32 0, .int .u64 0, .bool false, .bool false],false⟩),
 (45,⟨.int .i64,1,8,[.int .i64],some [.int .i64 0],true⟩),
 (55,⟨.slice 92 4,1,24,[.sl 4],some [.nils],false⟩),
 (63,⟨.struct [(0,3,1),(1,27,1),(2,9,1)],3,32,[.int .i64, .int .u32, .str],some [.int .i64 0, .int .u32 0, .str []],true⟩),
 (68,⟨.struct [(0,3,1),(1,3,1),(2,3,1),(3,3,1),(4,21,1)],5,40,[.int .i64, .int .i64, .int .i64, .int .i64, .int .i32],some [.int .i64 0, .int .i64 0, .int .i64 0, .int .i64 0, .int .i32 0],true⟩),
 (70,⟨.int .u64,1,8,[.int .u64],some [.int .u64 0],true⟩),
 (85,⟨.slice 5 1,1,24,[.sl 1],some [.nils],false⟩),
 (88,⟨.struct [(0,45,1),(1,3,1)],2,16,[.int .i64, .int .i64],some [.int .i64 0, .int .i64 0],true⟩),
 (92,⟨.struct [(0,3,1),(1,42,1),(2,27,1),(3,9,1)],4,40,[.int .i64, .int .u64, .int .u32, .str],some [.int .i64 0, .int .u64 0, .int .u32 0, .str []],true⟩),
 (103,⟨.struct [(0,3,1),(1,3,1),(2,3,1),(3,27,1)],4,32,[.int .i64, .int .i64, .int .i64, .int .u32],some [.int .i64 0, .int .i64 0, .int .i64 0, .int .u32 0],true⟩),
 (111,⟨.slice 253 4,1,24,[.sl 4],some [.nils],false⟩),
 (112,⟨.slice 63 3,1,24,[.sl 3],some [.nils],false⟩),
 (114,⟨.struct [(0,44,49),(49,27,1),(50,111,1),(51,112,1)],52,320,[.int .u32, .int .u32, .int .u32, .int .u32, .int .u32, .int .u32, .int .u32, .int .u32, .int .u32, .int .u32, .int .u32, .int .u32, .int .u32, .int .u32, .int .u32, .int .u32, .int .u32, .int .u32, .int .u32, .int .u32, .int .u32, .int .u32, .int .u32, .int .u32, .int .u32, .sl 1, .str, .bool, .int .u32, .bool, .int .u32, .int .u32, .int .u32, .int .i64, .int .i64, .int .u32, .int .u32, .str, .int .u32, .int .u32, .bool, .int .u32, .bool, .int .u32, .int .u32, .int .u32, .int .u64, .bool, .bool, .int .u32, .sl 4, .sl 3],some [.int .u32 0, .int .u32 0, .int .u32 0, .int .u32 0, .int .u32 0, .int .u32 0, .int .u32 0, .int .u32 0, .int .u32 0, .int .u32 0, .int .u32 0, .int .u32 0, .int .u32 0, .int .u32 0, .int .u32 0, .int .u32 0, .int .u32 0, .int .u32 0, .int .u32 0, .int .u32 0, .int .u32 0, .int .u32 0, .int .u32 0, .int .u32 0, .int .u32 0, .nils, .str [], .bool false, .int .u32 0, .bool false, .int .u32 0, .int .u32 0, .int .u32 0, .int .i64 0, .int .i64 0, .int .u32 0, .int .u32 0, .str [], .int .u32 0, .int .u32 0, .bool false, .int .u32 0, .bool false, .int .u32 0, .int .u32 0, .int .u32 0, .int .u64 0, .bool false, .bool false, .int .u32 0, .nils, .nils],false⟩),
 (126,⟨.array 5 4 1,5,5,[.bool, .bool, .bool, .bool, .bool],some [.bool false, .bool false, .bool false, .bool false, .bool false],true⟩),
 (131,⟨.struct [(0,129,2)],2,32,[.other, .sl 1],some [.nilp, .nils],false⟩),
 (142,⟨.slice 42 1,1,24,[.sl 1],some [.nils],false⟩),
 (154,⟨.slice 225 2,1,24,[.sl 2],some [.nils],false⟩),
 (155,⟨.slice 160 6,1,24,[.sl 6],some [.nils],false⟩),
 (158,⟨.slice 162 3,1,24,[.sl 3],some [.nils],false⟩),
 (160,⟨.struct [(0,9,1),(1,3,1),(2,158,1),(3,3,1),(4,3,1),(5,3,1)],6,72,[.str, .int .i64, .sl 3, .int .i64, .int .i64, .int .i64],some [.str [], .int .i64 0, .nils, .int .i64 0, .int .i64 0, .int .i64 0],false⟩),
 (162,⟨.struct [(0,3,1),(1,2,1),(2,9,1)],3,32,[.int .i64, .int .i64, .str],some [.int .i64 0, .int .i64 0, .str []],true⟩),
 (220,⟨.slice 9 1,1,24,[.sl 1],some [.nils],false⟩),
 (225,⟨.struct [(0,9,1),(1,27,1)],2,24,[.str, .int .u32],some [.str [], .int .u32 0],true⟩),
 (231,⟨.struct [(0,4,1),(1,4,1),(2,4,1),(3,21,1),(4,21,1)],5,12,[.bool, .bool, .bool, .int .i32, .int .i32],some [.bool false, .bool false, .bool false, .int .i32 0, .int .i32 0],true⟩),
 (253,⟨.struct [(0,42,1),(1,63,3)],4,40,[.int .u64, .int .i64, .int .u32, .str],some [.int .u64 0, .int .i64 0, .int .u32 0, .str []],true⟩),
 (256,⟨.int .i16,1,2,[.int .i16],some [.int .i16 0],true⟩),
 (259,⟨.slice 263 3,1,24,[.sl 3],some [.nils],false⟩),
 (263,⟨.struct [(0,3,1),(1,9,1),(2,4,1)],3,32,[.int .i64, .str, .bool],some [.int .i64 0, .str [], .bool false],true⟩),
 (272,⟨.struct [(0,27,1),(1,27,1),(2,3,1)],3,16,[.int .u32, .int .u32, .int .i64],some [.int .u32 0, .int .u32 0, .int .i64 0],true⟩)]
theorem Q0g:Q3f Tryz.prog tab:=by
 unfold Q3f
 kernel_rfl
end Go.Proofs.YtdkiadhigcfmkaaGreat

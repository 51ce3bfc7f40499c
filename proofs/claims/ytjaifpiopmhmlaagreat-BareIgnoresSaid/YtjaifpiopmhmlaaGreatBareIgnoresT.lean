/-
  The table of types of this seat's program, as GD reads it (by a program: tab.py).
-/
import Derived.Test.YtjaifpiopmhmlaaGreatProg
import Derived.Test.YtjaifpiopmhmlaaGreatBareIgnoresTab
import Derived.KernelRfl
namespace Go.Proofs.YtjaifpiopmhmlaaGreat
open Go Go.GD
def tab:Tab:=[
 (2,⟨.int .i64,1,8,[.int .i64],some [.int .i64 0],true⟩),
 (3,⟨.int .i64,1,8,[.int .i64],some [.int .i64 0],true⟩),
 (4,⟨.bool,1,1,[.bool],some [.bool false],true⟩),
 (5,⟨.int .u8,1,1,[.int .u8],some [.int .u8 0],true⟩),
 (9,⟨.string,1,16,[.str],some [.str []],true⟩),
 (12,⟨.int .u64,1,8,[.int .u64],some [.int .u64 0],true⟩),
 (21,⟨.int .i32,1,4,[.int .i32],some [.int .i32 0],true⟩),
 (22,⟨.slice 3 1,1,24,[.sl 1],some [.nils],false⟩),
 (23,⟨.int .u32,1,4,[.int .u32],some [.int .u32 0],true⟩),
 (24,⟨.array 16 23 1,16,64,[.int .u32, .int .u32, .int .u32, .int .u32, .int .u32, .int .u32, .int .u32, .int .u32, .int .u32, .int .u32, .int .u32, .int .u32, .int .u32, .int .u32, .int .u32, .int .u32],some [.int .u32 0, .int .u32 0, .int .u32 0, .int .u32 0, .int .u32 0, .int .u32 0, .int .u32 0, .int .u32 0, .int .u32 0, .int .u32 0, .int .u32 0, .int .u32 0, .int .u32 0, .int .u32 0, .int .u32 0, .int .u32 0],true⟩),
 (25,⟨.array 8 23 1,8,32,[.int .u32, .int .u32, .int .u32, .int .u32, .int .u32, .int .u32, .int .u32, .int .u32],some [.int .u32 0, .int .u32 0, .int .u32 0, .int .u32 0, .int .u32 0, .int .u32 0, .int .u32 0, .int .u32 0],true⟩),
 (27,⟨.struct [(0,24,16),(16,23,1),(17,25,8)],25,100,[.int .u32, .int .u32, .int .u32, .int .u32, .int .u32, .int .u32, .int .u32, .int .u32, .int .u32, .int .u32, .int .u32, .int .u32, .int .u32, .int .u32, .int .u32, .int .u32, .int .u32, .int .u32, .int .u32, .int .u32, .int .u32, .int .u32, .int .u32, .int .u32, .int .u32],some [.int .u32 0, .int .u32 0, .int .u32 0, .int .u32 0, .int .u32 0, .int .u32 0, .int .u32 0, .int .u32 0, .int .u32 0, .int .u32 0, .int .u32 0, .int .u32 0, .int .u32 0, .int .u32 0, .int .u32 0, .int .u32 0, .int .u32 0, .int .u32 0, .int .u32 0, .int .u32 0, .int .u32 0, .int .u32 0, .int .u32 0, .int .u32 0, .int .u32 0],true⟩),
 (28,⟨.slice 23 1,1,24,[.sl 1],some [.nils],false⟩),
 (30,⟨.struct [(0,9,1)],1,16,[.str],some [.str []],true⟩),
 (32,⟨.struct [(0,4,1),(1,23,1),(2,4,1)],3,12,[.bool, .int .u32, .bool],some [.bool false, .int .u32 0, .bool false],true⟩),
 (34,⟨.struct [(0,23,1),(1,23,1),(2,23,1),(3,3,1),(4,3,1),(5,23,1),(6,23,1),(7,9,1)],8,56,[.int .u32, .int .u32, .int .u32, .int .i64, .int .i64, .int .u32, .int .u32, .str],some [.int .u32 0, .int .u32 0, .int .u32 0, .int .i64 0, .int .i64 0, .int .u32 0, .int .u32 0, .str []],true⟩),
 (36,⟨.struct [(0,23,1),(1,23,1),(2,4,1),(3,23,1),(4,4,1),(5,23,1)],6,24,[.int .u32, .int .u32, .bool, .int .u32, .bool, .int .u32],some [.int .u32 0, .int .u32 0, .bool false, .int .u32 0, .bool false, .int .u32 0],true⟩),
 (38,⟨.struct [(0,23,1),(1,23,1)],2,8,[.int .u32, .int .u32],some [.int .u32 0, .int .u32 0],true⟩),
 (39,⟨.int .u64,1,8,[.int .u64],some [.int .u64 0],true⟩),
 (41,⟨.struct [(0,27,25),(25,28,1),(26,30,1),(27,32,3),(30,34,8),(38,36,6),(44,38,2),(46,39,1),(47,4,1),(48,4,1)],49,264,[.int .u32, .int .u32, .int .u32, .int .u32, .int .u32, .int .u32, .int .u32, .int .u32, .int .u32, .int .u32, .int .u32, .int .u32, .int .u32, .int .u32, .int .u32, .int .u32, .int .u32, .int .u32, .int .u32, .int .u32, .int .u32, .int .u32, .int .u32, .int .u32, .int .u32, .sl 1, .str, .bool, .int .u32, .bool, .int .u32, .int .u32, .int .u32, .int .i64, .int .i64, .int .u32, .int .u32, .str, .int .u32, .int .u32, .bool, .int .u32, .bool, .int .u32, .int .u32, .int .u32, .int .u64, .bool, .bool],some [.int .u32 0, .int .u32 0, .int .u32 0, .int .u32 0, .int .u32 0, .int .u32 0, .int .u32 0, .int .u32 0, .int .u32 0, .int .u32 0, .int .u32 0, .int .u32 0, .int .u32 0, .int .u32 0, .int .u32 0, .int .u32 0, .int .u32 0, .int .u32 0, .int .u32 0, .int .u32 0, .int .u32 0, .int .u32 0, .int .u32 0, .int .u32 0, .int .u32 0, .nils, .str [], .bool false, .int .u32 0, .bool false, .int .u32 0, .int .u32 0, .int .u32 0, .int .i64 0, .int .i64 0, .int .u32 0, .int .u32 0, .str [], .int .u32 0, .int .u32 0, .bool false, .int .u32 0, .bool false, .int .u32 0, .int .u32 0, .int .u32 0, .int .u64 0, .bool false, .bool false],false⟩),
 (42,⟨.slice 72 4,1,24,[.sl 4],some [.nils],false⟩),
 (47,⟨.slice 70 3,1,24,[.sl 3],some [.nils],false⟩),
 (49,⟨.struct [(0,41,49),(49,23,1),(50,42,1),(51,47,1)],52,320,[.int .u32, .int .u32, .int .u32, .int .u32, .int .u32, .int .u32, .int .u32, .int .u32, .int .u32, .int .u32, .int .u32, .int .u32, .int .u32, .int .u32, .int .u32, .int .u32, .int .u32, .int .u32, .int .u32, .int .u32, .int .u32, .int .u32, .int .u32, .int .u32, .int .u32, .sl 1, .str, .bool, .int .u32, .bool, .int .u32, .int .u32, .int .u32, .int .i64, .int .i64, .int .u32, .int .u32, .str, .int .u32, .int .u32, .bool, .int .u32, .bool, .int .u32, .int .u32, .int .u32, .int .u64, .bool, .bool, .int .u32, .sl 4, .sl 3],some [.int .u32 0, .int .u32 0, .int .u32 0, .int .u32 0, .int .u32 0, .int .u32 0, .int .u32 0, .int .u32 0, .int .u32 0, .int .u32 0, .int .u32 0, .int .u32 0, .int .u32 0, .int .u32 0, .int .u32 0, .int .u32 0, .int .u32 0, .int .u32 0, .int .u32 0, .int .u32 0, .int .u32 0, .int .u32 0, .int .u32 0, .int .u32 0, .int .u32 0, .nils, .str [], .bool false, .int .u32 0, .bool false, .int .u32 0, .int .u32 0, .int .u32 0, .int .i64 0, .int .i64 0, .int .u32 0, .int .u32 0, .str [], .int .u32 0, .int .u32 0, .bool false, .int .u32 0, .bool false, .int .u32 0, .int .u32 0, .int .u32 0, .int .u64 0, .bool false, .bool false, .int .u32 0, .nils, .nils],false⟩),
 (50,⟨.slice 63 4,1,24,[.sl 4],some [.nils],false⟩),
 (55,⟨.int .i64,1,8,[.int .i64],some [.int .i64 0],true⟩),
 (63,⟨.struct [(0,3,1),(1,39,1),(2,23,1),(3,9,1)],4,40,[.int .i64, .int .u64, .int .u32, .str],some [.int .i64 0, .int .u64 0, .int .u32 0, .str []],true⟩),
 (65,⟨.slice 5 1,1,24,[.sl 1],some [.nils],false⟩),
 (70,⟨.struct [(0,3,1),(1,23,1),(2,9,1)],3,32,[.int .i64, .int .u32, .str],some [.int .i64 0, .int .u32 0, .str []],true⟩),
 (72,⟨.struct [(0,39,1),(1,70,3)],4,40,[.int .u64, .int .i64, .int .u32, .str],some [.int .u64 0, .int .i64 0, .int .u32 0, .str []],true⟩),
 (73,⟨.slice 9 1,1,24,[.sl 1],some [.nils],false⟩),
 (75,⟨.struct [(0,9,1),(1,73,1),(2,73,1)],3,64,[.str, .sl 1, .sl 1],some [.str [], .nils, .nils],false⟩),
 (95,⟨.struct [(0,55,1),(1,3,1)],2,16,[.int .i64, .int .i64],some [.int .i64 0, .int .i64 0],true⟩),
 (108,⟨.int .u64,1,8,[.int .u64],some [.int .u64 0],true⟩),
 (112,⟨.struct [(0,3,1),(1,3,1),(2,3,1),(3,3,1),(4,21,1)],5,40,[.int .i64, .int .i64, .int .i64, .int .i64, .int .i32],some [.int .i64 0, .int .i64 0, .int .i64 0, .int .i64 0, .int .i32 0],true⟩),
 (122,⟨.other,1,8,[.other],some [.nilp],false⟩),
 (124,⟨.struct [(0,122,1),(1,65,1)],2,32,[.other, .sl 1],some [.nilp, .nils],false⟩),
 (134,⟨.struct [(0,124,2)],2,32,[.other, .sl 1],some [.nilp, .nils],false⟩),
 (150,⟨.array 5 4 1,5,5,[.bool, .bool, .bool, .bool, .bool],some [.bool false, .bool false, .bool false, .bool false, .bool false],true⟩),
 (153,⟨.struct [(0,3,1),(1,3,1),(2,3,1),(3,23,1)],4,32,[.int .i64, .int .i64, .int .i64, .int .u32],some [.int .i64 0, .int .i64 0, .int .i64 0, .int .u32 0],true⟩),
 (156,⟨.slice 39 1,1,24,[.sl 1],some [.nils],false⟩),
 (160,⟨.slice 216 2,1,24,[.sl 2],some [.nils],false⟩),
 (161,⟨.slice 166 6,1,24,[.sl 6],some [.nils],false⟩),
 (164,⟨.slice 168 3,1,24,[.sl 3],some [.nils],false⟩),
 (166,⟨.struct [(0,9,1),(1,3,1),(2,164,1),(3,3,1),(4,3,1),(5,3,1)],6,72,[.str, .int .i64, .sl 3, .int .i64, .int .i64, .int .i64],some [.str [], .int .i64 0, .nils, .int .i64 0, .int .i64 0, .int .i64 0],false⟩),
 (168,⟨.struct [(0,3,1),(1,2,1),(2,9,1)],3,32,[.int .i64, .int .i64, .str],some [.int .i64 0, .int .i64 0, .str []],true⟩),
 (216,⟨.struct [(0,9,1),(1,23,1)],2,24,[.str, .int .u32],some [.str [], .int .u32 0],true⟩),
 (247,⟨.int .i16,1,2,[.int .i16],some [.int .i16 0],true⟩),
 (262,⟨.struct [(0,4,1),(1,4,1),(2,4,1),(3,21,1),(4,21,1)],5,12,[.bool, .bool, .bool, .int .i32, .int .i32],some [.bool false, .bool false, .bool false, .int .i32 0, .int .i32 0],true⟩),
 (269,⟨.slice 273 3,1,24,[.sl 3],some [.nils],false⟩),
 (273,⟨.struct [(0,3,1),(1,9,1),(2,4,1)],3,32,[.int .i64, .str, .bool],some [.int .i64 0, .str [], .bool false],true⟩),
 (287,⟨.struct [(0,23,1),(1,23,1),(2,3,1)],3,16,[.int .u32, .int .u32, .int .i64],some [.int .u32 0, .int .u32 0, .int .i64 0],true⟩)]
theorem Q0k:Q5l Tryz.prog tab:=by
 unfold Q5l
 kernel_rfl
end Go.Proofs.YtjaifpiopmhmlaaGreat

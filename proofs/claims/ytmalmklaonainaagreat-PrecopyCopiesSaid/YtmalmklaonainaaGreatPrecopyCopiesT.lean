/-
  The table of types of this seat's program, as GD reads it (by a program: tab.py).
-/
import Derived.Test.YtmalmklaonainaaGreatProg
import Derived.Test.YtmalmklaonainaaGreatPrecopyCopiesTab
import Derived.KernelRfl
namespace Go.Proofs.YtmalmklaonainaaGreat
open Go Go.GD
def tab:Tab:=[
 (2,⟨.int .i64,1,8,[.int .i64],some [.int .i64 0],true⟩),
 (3,⟨.int .i64,1,8,[.int .i64],some [.int .i64 0],true⟩),
 (4,⟨.bool,1,1,[.bool],some [.bool false],true⟩),
 (5,⟨.int .u8,1,1,[.int .u8],some [.int .u8 0],true⟩),
 (9,⟨.string,1,16,[.str],some [.str []],true⟩),
 (12,⟨.int .u64,1,8,[.int .u64],some [.int .u64 0],true⟩),
 (21,⟨.int .i32,1,4,[.int .i32],some [.int .i32 0],true⟩),
 (22,⟨.slice 3 1,1,24,[.sl 1],some [.nils],false⟩),
 (25,⟨.int .u32,1,4,[.int .u32],some [.int .u32 0],true⟩),
 (26,⟨.array 16 25 1,16,64,[.int .u32, .int .u32, .int .u32, .int .u32, .int .u32, .int .u32, .int .u32, .int .u32, .int .u32, .int .u32, .int .u32, .int .u32, .int .u32, .int .u32, .int .u32, .int .u32],some [.int .u32 0, .int .u32 0, .int .u32 0, .int .u32 0, .int .u32 0, .int .u32 0, .int .u32 0, .int .u32 0, .int .u32 0, .int .u32 0, .int .u32 0, .int .u32 0, .int .u32 0, .int .u32 0, .int .u32 0, .int .u32 0],true⟩),
 (27,⟨.array 8 25 1,8,32,[.int .u32, .int .u32, .int .u32, .int .u32, .int .u32, .int .u32, .int .u32, .int .u32],some [.int .u32 0, .int .u32 0, .int .u32 0, .int .u32 0, .int .u32 0, .int .u32 0, .int .u32 0, .int .u32 0],true⟩),
 (29,⟨.struct [(0,26,16),(16,25,1),(17,27,8)],25,100,[.int .u32, .int .u32, .int .u32, .int .u32, .int .u32, .int .u32, .int .u32, .int .u32, .int .u32, .int .u32, .int .u32, .int .u32, .int .u32, .int .u32, .int .u32, .int .u32, .int .u32, .int .u32, .int .u32, .int .u32, .int .u32, .int .u32, .int .u32, .int .u32, .int .u32],some [.int .u32 0, .int .u32 0, .int .u32 0, .int .u32 0, .int .u32 0, .int .u32 0, .int .u32 0, .int .u32 0, .int .u32 0, .int .u32 0, .int .u32 0, .int .u32 0, .int .u32 0, .int .u32 0, .int .u32 0, .int .u32 0, .int .u32 0, .int .u32 0, .int .u32 0, .int .u32 0, .int .u32 0, .int .u32 0, .int .u32 0, .int .u32 0, .int .u32 0],true⟩),
 (30,⟨.slice 25 1,1,24,[.sl 1],some [.nils],false⟩),
 (32,⟨.struct [(0,9,1)],1,16,[.str],some [.str []],true⟩),
 (34,⟨.struct [(0,4,1),(1,25,1),(2,4,1)],3,12,[.bool, .int .u32, .bool],some [.bool false, .int .u32 0, .bool false],true⟩),
 (36,⟨.struct [(0,25,1),(1,25,1),(2,25,1),(3,3,1),(4,3,1),(5,25,1),(6,25,1),(7,9,1)],8,56,[.int .u32, .int .u32, .int .u32, .int .i64, .int .i64, .int .u32, .int .u32, .str],some [.int .u32 0, .int .u32 0, .int .u32 0, .int .i64 0, .int .i64 0, .int .u32 0, .int .u32 0, .str []],true⟩),
 (38,⟨.struct [(0,25,1),(1,25,1),(2,4,1),(3,25,1),(4,4,1),(5,25,1)],6,24,[.int .u32, .int .u32, .bool, .int .u32, .bool, .int .u32],some [.int .u32 0, .int .u32 0, .bool false, .int .u32 0, .bool false, .int .u32 0],true⟩),
 (40,⟨.struct [(0,25,1),(1,25,1)],2,8,[.int .u32, .int .u32],some [.int .u32 0, .int .u32 0],true⟩),
 (41,⟨.int .u64,1,8,[.int .u64],some [.int .u64 0],true⟩),
 (43,⟨.struct [(0,29,25),(25,30,1),(26,32,1),(27,34,3),(30,36,8),(38,38,6),(44,40,2),(46,41,1),(47,4,1),(48,4,1)],49,264,[.int .u32, .int .u32, .int .u32, .int .u32, .int .u32, .int .u32, .int .u32, .int .u32, .int .u32, .int .u32, .int .u32, .int .u32, .int .u32, .int .u32, .int .u32, .int .u32, .int .u32, .int .u32, .int .u32, .int .u32, .int .u32, .int .u32, .int .u32, .int .u32, .int .u32, .sl 1, .str, .bool, .int .u32, .bool, .int .u32, .int .u32, .int .u32, .int .i64, .int .i64, .int .u32, .int .u32, .str, .int .u32, .int .u32, .bool, .int .u32, .bool, .int .u32, .int .u32, .int .u32, .int .u64, .bool, .bool],some [.int .u32 0, .int .u32 0, .int .u32 0, .int .u32 0, .int .u32 0, .int .u32 0, .int .u32 0, .int .u32 0, .int .u32 0, .int .u32 0, .int .u32 0, .int .u32 0, .int .u32 0, .int .u32 0, .int .u32 0, .int .u32 0, .int .u32 0, .int .u32 0, .int .u32 0, .int .u32 0, .int .u32 0, .int .u32 0, .int .u32 0, .int .u32 0, .int .u32 0, .nils, .str [], .bool false, .int .u32 0, .bool false, .int .u32 0, .int .u32 0, .int .u32 0, .int .i64 0, .int .i64 0, .int .u32 0, .int .u32 0, .str [], .int .u32 0, .int .u32 0, .bool false, .int .u32 0, .bool false, .int .u32 0, .int .u32 0, .int .u32 0, .int .u64 0, .bool false, .bool false],false⟩),
 (55,⟨.slice 5 1,1,24,[.sl 1],some [.nils],false⟩),
 (57,⟨.int .i64,1,8,[.int .i64],some [.int .i64 0],true⟩),
 (59,⟨.struct [(0,57,1),(1,3,1)],2,16,[.int .i64, .int .i64],some [.int .i64 0, .int .i64 0],true⟩),
 (66,⟨.struct [(0,3,1),(1,25,1),(2,9,1)],3,32,[.int .i64, .int .u32, .str],some [.int .i64 0, .int .u32 0, .str []],true⟩),
 (67,⟨.slice 71 4,1,24,[.sl 4],some [.nils],false⟩),
 (71,⟨.struct [(0,3,1),(1,41,1),(2,25,1),(3,9,1)],4,40,[.int .i64, .int .u64, .int .u32, .str],some [.int .i64 0, .int .u64 0, .int .u32 0, .str []],true⟩),
 (74,⟨.slice 4 1,1,24,[.sl 1],some [.nils],false⟩),
 (76,⟨.struct [(0,74,1),(1,3,1),(2,3,1)],3,40,[.sl 1, .int .i64, .int .i64],some [.nils, .int .i64 0, .int .i64 0],false⟩),
 (82,⟨.slice 210 2,1,24,[.sl 2],some [.nils],false⟩),
 (93,⟨.slice 126 4,1,24,[.sl 4],some [.nils],false⟩),
 (94,⟨.slice 66 3,1,24,[.sl 3],some [.nils],false⟩),
 (96,⟨.struct [(0,43,49),(49,25,1),(50,93,1),(51,94,1)],52,320,[.int .u32, .int .u32, .int .u32, .int .u32, .int .u32, .int .u32, .int .u32, .int .u32, .int .u32, .int .u32, .int .u32, .int .u32, .int .u32, .int .u32, .int .u32, .int .u32, .int .u32, .int .u32, .int .u32, .int .u32, .int .u32, .int .u32, .int .u32, .int .u32, .int .u32, .sl 1, .str, .bool, .int .u32, .bool, .int .u32, .int .u32, .int .u32, .int .i64, .int .i64, .int .u32, .int .u32, .str, .int .u32, .int .u32, .bool, .int .u32, .bool, .int .u32, .int .u32, .int .u32, .int .u64, .bool, .bool, .int .u32, .sl 4, .sl 3],some [.int .u32 0, .int .u32 0, .int .u32 0, .int .u32 0, .int .u32 0, .int .u32 0, .int .u32 0, .int .u32 0, .int .u32 0, .int .u32 0, .int .u32 0, .int .u32 0, .int .u32 0, .int .u32 0, .int .u32 0, .int .u32 0, .int .u32 0, .int .u32 0, .int .u32 0, .int .u32 0, .int .u32 0, .int .u32 0, .int .u32 0, .int .u32 0, .int .u32 0, .nils, .str [], .bool false, .int .u32 0, .bool false, .int .u32 0, .int .u32 0, .int .u32 0, .int .i64 0, .int .i64 0, .int .u32 0, .int .u32 0, .str [], .int .u32 0, .int .u32 0, .bool false, .int .u32 0, .bool false, .int .u32 0, .int .u32 0, .int .u32 0, .int .u64 0, .bool false, .bool false, .int .u32 0, .nils, .nils],false⟩),
 (106,⟨.struct [(0,43,49),(49,93,1),(50,41,1),(51,25,1)],52,304,[.int .u32, .int .u32, .int .u32, .int .u32, .int .u32, .int .u32, .int .u32, .int .u32, .int .u32, .int .u32, .int .u32, .int .u32, .int .u32, .int .u32, .int .u32, .int .u32, .int .u32, .int .u32, .int .u32, .int .u32, .int .u32, .int .u32, .int .u32, .int .u32, .int .u32, .sl 1, .str, .bool, .int .u32, .bool, .int .u32, .int .u32, .int .u32, .int .i64, .int .i64, .int .u32, .int .u32, .str, .int .u32, .int .u32, .bool, .int .u32, .bool, .int .u32, .int .u32, .int .u32, .int .u64, .bool, .bool, .sl 4, .int .u64, .int .u32],some [.int .u32 0, .int .u32 0, .int .u32 0, .int .u32 0, .int .u32 0, .int .u32 0, .int .u32 0, .int .u32 0, .int .u32 0, .int .u32 0, .int .u32 0, .int .u32 0, .int .u32 0, .int .u32 0, .int .u32 0, .int .u32 0, .int .u32 0, .int .u32 0, .int .u32 0, .int .u32 0, .int .u32 0, .int .u32 0, .int .u32 0, .int .u32 0, .int .u32 0, .nils, .str [], .bool false, .int .u32 0, .bool false, .int .u32 0, .int .u32 0, .int .u32 0, .int .i64 0, .int .i64 0, .int .u32 0, .int .u32 0, .str [], .int .u32 0, .int .u32 0, .bool false, .int .u32 0, .bool false, .int .u32 0, .int .u32 0, .int .u32 0, .int .u64 0, .bool false, .bool false, .nils, .int .u64 0, .int .u32 0],false⟩),
 (126,⟨.struct [(0,41,1),(1,66,3)],4,40,[.int .u64, .int .i64, .int .u32, .str],some [.int .u64 0, .int .i64 0, .int .u32 0, .str []],true⟩),
 (132,⟨.int .u64,1,8,[.int .u64],some [.int .u64 0],true⟩),
 (141,⟨.struct [(0,3,1),(1,3,1),(2,3,1),(3,3,1),(4,21,1)],5,40,[.int .i64, .int .i64, .int .i64, .int .i64, .int .i32],some [.int .i64 0, .int .i64 0, .int .i64 0, .int .i64 0, .int .i32 0],true⟩),
 (144,⟨.other,1,8,[.other],some [.nilp],false⟩),
 (146,⟨.struct [(0,144,1),(1,55,1)],2,32,[.other, .sl 1],some [.nilp, .nils],false⟩),
 (148,⟨.struct [(0,146,2)],2,32,[.other, .sl 1],some [.nilp, .nils],false⟩),
 (164,⟨.array 5 4 1,5,5,[.bool, .bool, .bool, .bool, .bool],some [.bool false, .bool false, .bool false, .bool false, .bool false],true⟩),
 (167,⟨.struct [(0,3,1),(1,3,1),(2,3,1),(3,25,1)],4,32,[.int .i64, .int .i64, .int .i64, .int .u32],some [.int .i64 0, .int .i64 0, .int .i64 0, .int .u32 0],true⟩),
 (170,⟨.slice 41 1,1,24,[.sl 1],some [.nils],false⟩),
 (175,⟨.slice 257 2,1,24,[.sl 2],some [.nils],false⟩),
 (176,⟨.slice 181 6,1,24,[.sl 6],some [.nils],false⟩),
 (179,⟨.slice 183 3,1,24,[.sl 3],some [.nils],false⟩),
 (181,⟨.struct [(0,9,1),(1,3,1),(2,179,1),(3,3,1),(4,3,1),(5,3,1)],6,72,[.str, .int .i64, .sl 3, .int .i64, .int .i64, .int .i64],some [.str [], .int .i64 0, .nils, .int .i64 0, .int .i64 0, .int .i64 0],false⟩),
 (183,⟨.struct [(0,3,1),(1,2,1),(2,9,1)],3,32,[.int .i64, .int .i64, .str],some [.int .i64 0, .int .i64 0, .str []],true⟩),
 (202,⟨.other,1,8,[.other],some [.dead],false⟩),
 (210,⟨.struct [(0,3,1),(1,9,1)],2,24,[.int .i64, .str],some [.int .i64 0, .str []],true⟩),
 (216,⟨.other,1,8,[.other],some [.dead],false⟩),
 (228,⟨.other,1,8,[.other],some [.dead],false⟩),
 (252,⟨.slice 9 1,1,24,[.sl 1],some [.nils],false⟩),
 (257,⟨.struct [(0,9,1),(1,25,1)],2,24,[.str, .int .u32],some [.str [], .int .u32 0],true⟩),
 (283,⟨.slice 93 1,1,24,[.sl 1],some [.nils],false⟩),
 (297,⟨.struct [(0,4,1),(1,4,1),(2,4,1),(3,21,1),(4,21,1)],5,12,[.bool, .bool, .bool, .int .i32, .int .i32],some [.bool false, .bool false, .bool false, .int .i32 0, .int .i32 0],true⟩),
 (306,⟨.int .i16,1,2,[.int .i16],some [.int .i16 0],true⟩),
 (307,⟨.slice 311 3,1,24,[.sl 3],some [.nils],false⟩),
 (311,⟨.struct [(0,3,1),(1,9,1),(2,4,1)],3,32,[.int .i64, .str, .bool],some [.int .i64 0, .str [], .bool false],true⟩),
 (332,⟨.struct [(0,25,1),(1,25,1),(2,3,1)],3,16,[.int .u32, .int .u32, .int .i64],some [.int .u32 0, .int .u32 0, .int .i64 0],true⟩)]
theorem Q0g:Q2o Tryz.prog tab:=by
 unfold Q2o
 kernel_rfl
end Go.Proofs.YtmalmklaonainaaGreat

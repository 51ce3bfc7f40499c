import Derived.Test.YtaemmjbkndlkeaaGreatMigrateTellsFm
namespace Go.Proofs.YtaemmjbkndlkeaaGreat
open Go Go.GD
def Em:Nat->List rT->List rT
 |0,l=>l
 |n+1,l=>.int .u32::Em n l
def En:Nat->List D->List D
 |0,l=>l
 |n+1,l=>.int .u32 0::En n l
def kb:iz:=[
 (2,⟨.int .i64,1,8,[.int .i64],some [.int .i64 0],true⟩),
 (3,⟨.int .i64,1,8,[.int .i64],some [.int .i64 0],true⟩),
 (4,⟨.bool,1,1,[.bool],some [.bool false],true⟩),
 (5,⟨.int .u8,1,1,[.int .u8],some [.int .u8 0],true⟩),
 (9,⟨.string,1,16,[.str],some [.str []],true⟩),
 (12,⟨.int .u64,1,8,[.int .u64],some [.int .u64 0],true⟩),
 (21,⟨.int .i32,1,4,[.int .i32],some [.int .i32 0],true⟩),
 (22,⟨.slice 3 1,1,24,[.sl 1],some [.c8],false⟩),
 (23,⟨.slice 61 4,1,24,[.sl 4],some [.c8],false⟩),
 (25,⟨.int .u32,1,4,[.int .u32],some [.int .u32 0],true⟩),
 (26,⟨.array 16 25 1,16,64,Em 16 [],some (En 16 []),true⟩),
 (27,⟨.array 8 25 1,8,32,Em 8 [],some (En 8 []),true⟩),
 (29,⟨.struct [(0,26,16),(16,25,1),(17,27,8)],25,100,Em 25 [],some (En 25 []),true⟩),
 (30,⟨.slice 25 1,1,24,[.sl 1],some [.c8],false⟩),
 (32,⟨.struct [(0,9,1)],1,16,[.str],some [.str []],true⟩),
 (34,⟨.struct [(0,4,1),(1,25,1),(2,4,1)],3,12,[.bool,.int .u32,.bool],some [.bool false,.int .u32 0,.bool false],true⟩),
 (36,⟨.struct [(0,25,1),(1,25,1),(2,25,1),(3,3,1),(4,3,1),(5,25,1),(6,25,1),(7,9,1)],8,56,[.int .u32,.int .u32,.int .u32,.int .i64,.int .i64,.int .u32,.int .u32,.str],some [.int .u32 0,.int .u32 0,.int .u32 0,.int .i64 0,.int .i64 0,.int .u32 0,.int .u32 0,.str []],true⟩),
 (38,⟨.struct [(0,25,1),(1,25,1),(2,4,1),(3,25,1),(4,4,1),(5,25,1)],6,24,[.int .u32,.int .u32,.bool,.int .u32,.bool,.int .u32],some [.int .u32 0,.int .u32 0,.bool false,.int .u32 0,.bool false,.int .u32 0],true⟩),
 (40,⟨.struct [(0,25,1),(1,25,1)],2,8,[.int .u32,.int .u32],some [.int .u32 0,.int .u32 0],true⟩),
 (41,⟨.int .u64,1,8,[.int .u64],some [.int .u64 0],true⟩),
 (43,⟨.struct [(0,29,25),(25,30,1),(26,32,1),(27,34,3),(30,36,8),(38,38,6),(44,40,2),(46,41,1),(47,4,1),(48,4,1)],49,264,Em 25 (.sl 1::.str::.bool::.int .u32::.bool::.int .u32::.int .u32::.int .u32::.int .i64::.int .i64::.int .u32::.int .u32::.str::.int .u32::.int .u32::.bool::.int .u32::.bool::.int .u32::.int .u32::.int .u32::.int .u64::.bool::[.bool]),some (En 25 (.c8::.str []::.bool false::.int .u32 0::.bool false::.int .u32 0::.int .u32 0::.int .u32 0::.int .i64 0::.int .i64 0::.int .u32 0::.int .u32 0::.str []::.int .u32 0::.int .u32 0::.bool false::.int .u32 0::.bool false::.int .u32 0::.int .u32 0::.int .u32 0::.int .u64 0::.bool false::[.bool false])),false⟩),
 (44,⟨.slice 4 1,1,24,[.sl 1],some [.c8],false⟩),
 (46,⟨.struct [(0,44,1),(1,3,1),(2,3,1)],3,40,[.sl 1,.int .i64,.int .i64],some [.c8,.int .i64 0,.int .i64 0],false⟩),
 (48,⟨.struct [(0,3,1),(1,43,49),(50,46,3),(53,22,1),(54,22,1),(55,41,1)],56,368,.int .i64::Em 25 (.sl 1::.str::.bool::.int .u32::.bool::.int .u32::.int .u32::.int .u32::.int .i64::.int .i64::.int .u32::.int .u32::.str::.int .u32::.int .u32::.bool::.int .u32::.bool::.int .u32::.int .u32::.int .u32::.int .u64::.bool::.bool::.sl 1::.int .i64::.int .i64::.sl 1::.sl 1::[.int .u64]),some (.int .i64 0::En 25 (.c8::.str []::.bool false::.int .u32 0::.bool false::.int .u32 0::.int .u32 0::.int .u32 0::.int .i64 0::.int .i64 0::.int .u32 0::.int .u32 0::.str []::.int .u32 0::.int .u32 0::.bool false::.int .u32 0::.bool false::.int .u32 0::.int .u32 0::.int .u32 0::.int .u64 0::.bool false::.bool false::.c8::.int .i64 0::.int .i64 0::.c8::.c8::[.int .u64 0])),false⟩),
 (49,⟨.slice 80 54,1,24,[.sl 54],some [.c8],false⟩),
 (50,⟨.slice 9 1,1,24,[.sl 1],some [.c8],false⟩),
 (52,⟨.struct [(0,50,1),(1,41,1),(2,3,1)],3,40,[.sl 1,.int .u64,.int .i64],some [.c8,.int .u64 0,.int .i64 0],false⟩),
 (54,⟨.struct [(0,48,56),(56,48,56),(112,49,1),(113,49,1),(114,52,3)],117,824,.int .i64::Em 25 (.sl 1::.str::.bool::.int .u32::.bool::.int .u32::.int .u32::.int .u32::.int .i64::.int .i64::.int .u32::.int .u32::.str::.int .u32::.int .u32::.bool::.int .u32::.bool::.int .u32::.int .u32::.int .u32::.int .u64::.bool::.bool::.sl 1::.int .i64::.int .i64::.sl 1::.sl 1::.int .u64::.int .i64::Em 25 (.sl 1::.str::.bool::.int .u32::.bool::.int .u32::.int .u32::.int .u32::.int .i64::.int .i64::.int .u32::.int .u32::.str::.int .u32::.int .u32::.bool::.int .u32::.bool::.int .u32::.int .u32::.int .u32::.int .u64::.bool::.bool::.sl 1::.int .i64::.int .i64::.sl 1::.sl 1::.int .u64::.sl 54::.sl 54::.sl 1::.int .u64::[.int .i64])),some (.int .i64 0::En 25 (.c8::.str []::.bool false::.int .u32 0::.bool false::.int .u32 0::.int .u32 0::.int .u32 0::.int .i64 0::.int .i64 0::.int .u32 0::.int .u32 0::.str []::.int .u32 0::.int .u32 0::.bool false::.int .u32 0::.bool false::.int .u32 0::.int .u32 0::.int .u32 0::.int .u64 0::.bool false::.bool false::.c8::.int .i64 0::.int .i64 0::.c8::.c8::.int .u64 0::.int .i64 0::En 25 (.c8::.str []::.bool false::.int .u32 0::.bool false::.int .u32 0::.int .u32 0::.int .u32 0::.int .i64 0::.int .i64 0::.int .u32 0::.int .u32 0::.str []::.int .u32 0::.int .u32 0::.bool false::.int .u32 0::.bool false::.int .u32 0::.int .u32 0::.int .u32 0::.int .u64 0::.bool false::.bool false::.c8::.int .i64 0::.int .i64 0::.c8::.c8::.int .u64 0::.c8::.c8::.c8::.int .u64 0::[.int .i64 0]))),false⟩),
 (61,⟨.struct [(0,3,1),(1,3,1),(2,4,1),(3,25,1)],4,24,[.int .i64,.int .i64,.bool,.int .u32],some [.int .i64 0,.int .i64 0,.bool false,.int .u32 0],true⟩),
 (72,⟨.slice 232 4,1,24,[.sl 4],some [.c8],false⟩),
 (80,⟨.struct [(0,3,1),(1,3,1),(2,3,1),(3,9,1),(4,43,49),(53,22,1)],54,328,.int .i64::.int .i64::.int .i64::.str::Em 25 (.sl 1::.str::.bool::.int .u32::.bool::.int .u32::.int .u32::.int .u32::.int .i64::.int .i64::.int .u32::.int .u32::.str::.int .u32::.int .u32::.bool::.int .u32::.bool::.int .u32::.int .u32::.int .u32::.int .u64::.bool::.bool::[.sl 1]),some (.int .i64 0::.int .i64 0::.int .i64 0::.str []::En 25 (.c8::.str []::.bool false::.int .u32 0::.bool false::.int .u32 0::.int .u32 0::.int .u32 0::.int .i64 0::.int .i64 0::.int .u32 0::.int .u32 0::.str []::.int .u32 0::.int .u32 0::.bool false::.int .u32 0::.bool false::.int .u32 0::.int .u32 0::.int .u32 0::.int .u64 0::.bool false::.bool false::[.c8])),false⟩),
 (96,⟨.int .u64,1,8,[.int .u64],some [.int .u64 0],true⟩),
 (97,⟨.struct [(0,48,56),(56,48,56),(112,49,1),(113,49,1),(114,52,3)],117,824,.int .i64::Em 25 (.sl 1::.str::.bool::.int .u32::.bool::.int .u32::.int .u32::.int .u32::.int .i64::.int .i64::.int .u32::.int .u32::.str::.int .u32::.int .u32::.bool::.int .u32::.bool::.int .u32::.int .u32::.int .u32::.int .u64::.bool::.bool::.sl 1::.int .i64::.int .i64::.sl 1::.sl 1::.int .u64::.int .i64::Em 25 (.sl 1::.str::.bool::.int .u32::.bool::.int .u32::.int .u32::.int .u32::.int .i64::.int .i64::.int .u32::.int .u32::.str::.int .u32::.int .u32::.bool::.int .u32::.bool::.int .u32::.int .u32::.int .u32::.int .u64::.bool::.bool::.sl 1::.int .i64::.int .i64::.sl 1::.sl 1::.int .u64::.sl 54::.sl 54::.sl 1::.int .u64::[.int .i64])),some (.int .i64 0::En 25 (.c8::.str []::.bool false::.int .u32 0::.bool false::.int .u32 0::.int .u32 0::.int .u32 0::.int .i64 0::.int .i64 0::.int .u32 0::.int .u32 0::.str []::.int .u32 0::.int .u32 0::.bool false::.int .u32 0::.bool false::.int .u32 0::.int .u32 0::.int .u32 0::.int .u64 0::.bool false::.bool false::.c8::.int .i64 0::.int .i64 0::.c8::.c8::.int .u64 0::.int .i64 0::En 25 (.c8::.str []::.bool false::.int .u32 0::.bool false::.int .u32 0::.int .u32 0::.int .u32 0::.int .i64 0::.int .i64 0::.int .u32 0::.int .u32 0::.str []::.int .u32 0::.int .u32 0::.bool false::.int .u32 0::.bool false::.int .u32 0::.int .u32 0::.int .u32 0::.int .u64 0::.bool false::.bool false::.c8::.int .i64 0::.int .i64 0::.c8::.c8::.int .u64 0::.c8::.c8::.c8::.int .u64 0::[.int .i64 0]))),false⟩),
 (118,⟨.int .i64,1,8,[.int .i64],some [.int .i64 0],true⟩),
 (120,⟨.struct [(0,118,1),(1,3,1)],2,16,[.int .i64,.int .i64],some [.int .i64 0,.int .i64 0],true⟩),
 (142,⟨.slice 146 2,1,24,[.sl 2],some [.c8],false⟩),
 (146,⟨.struct [(0,3,1),(1,9,1)],2,24,[.int .i64,.str],some [.int .i64 0,.str []],true⟩),
 (165,⟨.struct [(0,3,1),(1,3,1),(2,3,1),(3,25,1)],4,32,[.int .i64,.int .i64,.int .i64,.int .u32],some [.int .i64 0,.int .i64 0,.int .i64 0,.int .u32 0],true⟩),
 (171,⟨.slice 243 2,1,24,[.sl 2],some [.c8],false⟩),
 (172,⟨.slice 177 6,1,24,[.sl 6],some [.c8],false⟩),
 (175,⟨.slice 179 3,1,24,[.sl 3],some [.c8],false⟩),
 (177,⟨.struct [(0,9,1),(1,3,1),(2,175,1),(3,3,1),(4,3,1),(5,3,1)],6,72,[.str,.int .i64,.sl 3,.int .i64,.int .i64,.int .i64],some [.str [],.int .i64 0,.c8,.int .i64 0,.int .i64 0,.int .i64 0],false⟩),
 (179,⟨.struct [(0,3,1),(1,2,1),(2,9,1)],3,32,[.int .i64,.int .i64,.str],some [.int .i64 0,.int .i64 0,.str []],true⟩),
 (184,⟨.struct [(0,3,1),(1,3,1),(2,3,1),(3,3,1),(4,21,1)],5,40,[.int .i64,.int .i64,.int .i64,.int .i64,.int .i32],some [.int .i64 0,.int .i64 0,.int .i64 0,.int .i64 0,.int .i32 0],true⟩),
 (188,⟨.slice 193 4,1,24,[.sl 4],some [.c8],false⟩),
 (191,⟨.struct [(0,3,1),(1,25,1),(2,9,1)],3,32,[.int .i64,.int .u32,.str],some [.int .i64 0,.int .u32 0,.str []],true⟩),
 (193,⟨.struct [(0,41,1),(1,191,3)],4,40,[.int .u64,.int .i64,.int .u32,.str],some [.int .u64 0,.int .i64 0,.int .u32 0,.str []],true⟩),
 (195,⟨.slice 5 1,1,24,[.sl 1],some [.c8],false⟩),
 (205,⟨.other,1,8,[.other],some [.dead],false⟩),
 (232,⟨.struct [(0,3,1),(1,41,1),(2,25,1),(3,9,1)],4,40,[.int .i64,.int .u64,.int .u32,.str],some [.int .i64 0,.int .u64 0,.int .u32 0,.str []],true⟩),
 (243,⟨.struct [(0,9,1),(1,25,1)],2,24,[.str,.int .u32],some [.str [],.int .u32 0],true⟩),
 (272,⟨.struct [(0,25,1),(1,25,1),(2,3,1)],3,16,[.int .u32,.int .u32,.int .i64],some [.int .u32 0,.int .u32 0,.int .i64 0],true⟩),
 (275,⟨.int .i16,1,2,[.int .i16],some [.int .i16 0],true⟩),
 (286,⟨.slice 290 3,1,24,[.sl 3],some [.c8],false⟩),
 (290,⟨.struct [(0,3,1),(1,9,1),(2,4,1)],3,32,[.int .i64,.str,.bool],some [.int .i64 0,.str [],.bool false],true⟩),
 (300,⟨.struct [(0,4,1),(1,4,1),(2,4,1),(3,21,1),(4,21,1)],5,12,[.bool,.bool,.bool,.int .i32,.int .i32],some [.bool false,.bool false,.bool false,.int .i32 0,.int .i32 0],true⟩),
 (316,⟨.array 5 4 1,5,5,[.bool,.bool,.bool,.bool,.bool],some [.bool false,.bool false,.bool false,.bool false,.bool false],true⟩),
 (325,⟨.other,1,8,[.other],some [.iQ],false⟩),
 (327,⟨.struct [(0,325,1),(1,195,1)],2,32,[.other,.sl 1],some [.iQ,.c8],false⟩)]
theorem jL:jC Tryz.prog kb:=by
 unfold jC
 kernel_rfl

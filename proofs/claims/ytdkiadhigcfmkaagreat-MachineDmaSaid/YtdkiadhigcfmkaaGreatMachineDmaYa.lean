/-
  Functions of the program: models, and that its calls come to them (by a program: gen3.py).
-/
import Derived.Test.YtdkiadhigcfmkaaGreatMachineDmaBase
namespace Go.Proofs.YtdkiadhigcfmkaaGreat
open Go Go.GD Go.IntKind
set_option linter.unusedVariables false
set_option linter.unusedSimpArgs false
set_option maxRecDepth 100000
noncomputable section
def slices_Clone_uint32_uint32 (s : (List Int)) : (List Int) :=
s
def slices_Clone_uint32_uint32_pre (s : (List Int)) : Prop :=
s.length ≤ 35184372088832
def slices_Clone_uint32_uint32_args (s : (List Int)) : List D := [.sl 1 (.ints .u32 s) false]
def slices_Clone_uint32_uint32_rows (s : (List Int)) : List Row := []
def slices_Clone_uint32_uint32_enc (X : (List Int)) : D := .all 0
def slices_Clone_uint32_uint32_out (X : (List Int)) : List Row := [⟨false, 27, 1, .ints .u32 X⟩]
def slices_Clone_uint32_uint32_dirs : List Dir := [.row 27 1 (.ints .u32)]
def slices_Clone_uint32_uint32_sig : List PT := [.one (.ints .u32)]
def slices_Clone_uint32_uint32_rsig : List RT := []
def slices_Clone_uint32_uint32_val (args : List D) (rows : List Row) : (List Int) := slices_Clone_uint32_uint32 (argL .u32 args 0)
def slices_Clone_uint32_uint32_prf (args : List D) (rows : List Row) : Prop := slices_Clone_uint32_uint32_pre (argL .u32 args 0)
def slices_Clone_uint32_uint32_m : Model := mkP 59 [] true slices_Clone_uint32_uint32_sig slices_Clone_uint32_uint32_rsig slices_Clone_uint32_uint32_prf slices_Clone_uint32_uint32_val slices_Clone_uint32_uint32_enc slices_Clone_uint32_uint32_out
def slices_Clone_uint32_uint32_q (s : (List Int)) (Leaf : (List Int) → Prop) : Prop :=
(s = [] → Leaf []) ∧ cand (decide ((4 : Nat) * ((0 : Nat) + List.length s) ≤ (140737488355328 : Nat))) (Leaf s)
set_option maxRecDepth 100000 in
theorem slices_Clone_uint32_uint32_nf (s : (List Int)) (Q : D → List Row → Prop) : (fnVC tab [] (LL tab [] Tryz.f59.ntmps 0 [] 2) Tryz.f59 (slices_Clone_uint32_uint32_args s) (slices_Clone_uint32_uint32_rows s) fun d R => canonVC (slices_Clone_uint32_uint32_rows s).length slices_Clone_uint32_uint32_dirs d R Q) = slices_Clone_uint32_uint32_q s (fun X => Q (slices_Clone_uint32_uint32_enc X) (slices_Clone_uint32_uint32_out X)) := by kernel_rfl
theorem slices_Clone_uint32_uint32_main (s : (List Int)) (Leaf : (List Int) → Prop) (hw : slices_Clone_uint32_uint32_pre s) (h : Leaf (slices_Clone_uint32_uint32 s)) :
slices_Clone_uint32_uint32_q s Leaf := by
  delta slices_Clone_uint32_uint32_q
  refine ⟨fun e => by rw [e] at h; exact h, ?_⟩
  rw [cand_iff]
  refine ⟨decide_eq_true ?_, h⟩
  have : s.length ≤ 35184372088832 := hw
  omega
set_option maxRecDepth 100000 in
theorem slices_Clone_uint32_uint32_calls (s : (List Int)) (hw : slices_Clone_uint32_uint32_pre s) : ACalls Tryz.prog 59 (slices_Clone_uint32_uint32_args s) (slices_Clone_uint32_uint32_rows s) (slices_Clone_uint32_uint32_enc (slices_Clone_uint32_uint32 s)) (slices_Clone_uint32_uint32_out (slices_Clone_uint32_uint32 s)) :=
  have hG : AllOK Tryz.prog [] := .nil
  FnOK.calls drawn tabOK hG Tryz.func59 (LL_ok drawn tabOK hG 2 (invs := [])) (FnOK.of (slices_Clone_uint32_uint32_nf s _) (slices_Clone_uint32_uint32_main s (fun X => slices_Clone_uint32_uint32_enc X = slices_Clone_uint32_uint32_enc (slices_Clone_uint32_uint32 s) ∧ slices_Clone_uint32_uint32_out X = slices_Clone_uint32_uint32_out (slices_Clone_uint32_uint32 s)) hw ⟨rfl, rfl⟩))
set_option maxRecDepth 100000 in
theorem slices_Clone_uint32_uint32_conv (args : List D) (rows : List Row) : convA slices_Clone_uint32_uint32_sig args 0 = slices_Clone_uint32_uint32_args (argL .u32 args 0) := by kernel_rfl
set_option maxRecDepth 100000 in
theorem slices_Clone_uint32_uint32_convR (args : List D) (rows : List Row) : convRs slices_Clone_uint32_uint32_rsig rows 0 = slices_Clone_uint32_uint32_rows (argL .u32 args 0) := by kernel_rfl
set_option maxRecDepth 100000 in
theorem slices_Clone_uint32_uint32_ff (X : (List Int)) : (ffB (slices_Clone_uint32_uint32_enc X) && ffBR (slices_Clone_uint32_uint32_out X)) = true := by kernel_rfl
theorem slices_Clone_uint32_uint32_ok : ModelOK Tryz.prog slices_Clone_uint32_uint32_m := mkP_ok Tryz.call59 (fun args rows hp => by rw [slices_Clone_uint32_uint32_conv args rows, slices_Clone_uint32_uint32_convR args rows]; exact slices_Clone_uint32_uint32_calls (argL .u32 args 0) hp) (fun _ X => slices_Clone_uint32_uint32_ff X)
def memory_Pages_t (m : (List Int)) : Tree Int :=
.br (Int.tmod (↑(List.length m) : Int) (32 : Int) != (0 : Int)) (.lf 0) (.br (decide ((↑(List.length m) : Int) > (1024 : Int))) (.lf 0) (.lf (wrap i64 (Int.tdiv (↑(List.length m) : Int) 32))))
def memory_Pages (m : (List Int)) : Int := (memory_Pages_t m).m
def memory_Pages_m : Model := mkR 56 [] true [.one (.ints .u32)] [] (fun args rows => memory_Pages (argL .u32 args 0)) (fun X => .int .i64 X) (fun X => [])
theorem memory_Pages_ok : ModelOK Tryz.prog memory_Pages_m := mkR_of drawn tabOK (.nil) Tryz.func56 Tryz.call56 (fun args rows => memory_Pages_t (argL .u32 args 0)) [] [] 2 (fun _ _ _ => by kernel_rfl) (fun _ _ => rfl) (fun _ _ => Tree.free_ok (by kernel_rfl)) (fun _ X => by kernel_rfl)
def memory_within_t (m : (List Int)) (addr : Int) (size : Int) : Tree Bool :=
let T1 : Tree (Bool) := .cn (decide (wrap u32 size ≠ 0)) (.br (Int.tmod addr (wrap u32 size) != 0) (.lf false) (.lv (memory_Pages m) fun (x0 : Int) => .lf (decide (wrap u64 (wrap u64 addr + wrap u64 size) ≤ wrap u64 (wrap u64 x0 * 128))))); .br (size != 1) (.br (size != 4) (.lf false) T1) T1
def memory_within (m : (List Int)) (addr : Int) (size : Int) : Bool := (memory_within_t m addr size).m
abbrev memory_within_pre (m : (List Int)) (addr : Int) (size : Int) : Prop := (memory_within_t m addr size).p
def memory_within_m : Model := mkP 217 [] true [.one (.ints .u32), .one (.int .u32), .one (.int .i64)] [] (fun args rows => memory_within_pre (argL .u32 args 0) (argI args 1) (argI args 2)) (fun args rows => memory_within (argL .u32 args 0) (argI args 1) (argI args 2)) (fun X => .bool X) (fun X => [])
theorem memory_within_ok : ModelOK Tryz.prog memory_within_m := mkP_of drawn tabOK (.cons memory_Pages_ok (.nil)) Tryz.func217 Tryz.call217 (fun args rows => memory_within_t (argL .u32 args 0) (argI args 1) (argI args 2)) [] [] 2 (fun _ _ _ => by kernel_rfl) (fun _ _ => rfl) (fun _ _ h => h) (fun _ X => by kernel_rfl)
def bits_mask_t (n : Int) : Tree Int :=
.br (decide (n ≥ 32)) (.lf 4294967295) (.cn (decide (0 ≤ wrap u64 n)) (.lf (wrap u32 (ishl u32 1 (wrap u64 n) - 1))))
def bits_mask (n : Int) : Int := (bits_mask_t n).m
abbrev bits_mask_pre (n : Int) : Prop := (bits_mask_t n).p
def bits_mask_m : Model := mkP 218 [] true [.one (.int .i64)] [] (fun args rows => bits_mask_pre (argI args 0)) (fun args rows => bits_mask (argI args 0)) (fun X => .int .u32 X) (fun X => [])
theorem bits_mask_ok : ModelOK Tryz.prog bits_mask_m := mkP_of drawn tabOK (.nil) Tryz.func218 Tryz.call218 (fun args rows => bits_mask_t (argI args 0)) [] [] 2 (fun _ _ _ => by kernel_rfl) (fun _ _ => rfl) (fun _ _ h => h) (fun _ X => by kernel_rfl)
def bits_Field_t (w : Int) (low : Int) (n : Int) : Tree Int :=
.br (decide (low < 0)) (.lf 0) (.br (decide (low > 31)) (.lf 0) (.br (decide (n < 1)) (.lf 0) (.cn (decide (0 ≤ wrap u64 low)) (.an (bits_mask_pre n) (.lv (bits_mask n) fun (x0 : Int) => .lf (iand u32 (ishr u32 w (wrap u64 low)) x0))))))
def bits_Field (w : Int) (low : Int) (n : Int) : Int := (bits_Field_t w low n).m
abbrev bits_Field_pre (w : Int) (low : Int) (n : Int) : Prop := (bits_Field_t w low n).p
def bits_Field_m : Model := mkP 169 [] true [.one (.int .u32), .one (.int .i64), .one (.int .i64)] [] (fun args rows => bits_Field_pre (argI args 0) (argI args 1) (argI args 2)) (fun args rows => bits_Field (argI args 0) (argI args 1) (argI args 2)) (fun X => .int .u32 X) (fun X => [])
theorem bits_Field_ok : ModelOK Tryz.prog bits_Field_m := mkP_of drawn tabOK (.cons bits_mask_ok (.nil)) Tryz.func169 Tryz.call169 (fun args rows => bits_Field_t (argI args 0) (argI args 1) (argI args 2)) [] [] 2 (fun _ _ _ => by kernel_rfl) (fun _ _ => rfl) (fun _ _ h => h) (fun _ X => by kernel_rfl)
def bits_SetField_t (w : Int) (low : Int) (n : Int) (v : Int) : Tree Int :=
.br (decide (low < 0)) (.lf w) (.br (decide (low > 31)) (.lf w) (.br (decide (n < 1)) (.lf w) (.an (bits_mask_pre n) (.lv (bits_mask n) fun (x0 : Int) => .cn (decide (0 ≤ wrap u64 low)) (.cn (decide (0 ≤ wrap u64 low)) (.lf (ior u32 (iandn u32 w (ishl u32 x0 (wrap u64 low))) (ishl u32 (iand u32 v x0) (wrap u64 low)))))))))
def bits_SetField (w : Int) (low : Int) (n : Int) (v : Int) : Int := (bits_SetField_t w low n v).m
abbrev bits_SetField_pre (w : Int) (low : Int) (n : Int) (v : Int) : Prop := (bits_SetField_t w low n v).p
def bits_SetField_m : Model := mkP 220 [] true [.one (.int .u32), .one (.int .i64), .one (.int .i64), .one (.int .u32)] [] (fun args rows => bits_SetField_pre (argI args 0) (argI args 1) (argI args 2) (argI args 3)) (fun args rows => bits_SetField (argI args 0) (argI args 1) (argI args 2) (argI args 3)) (fun X => .int .u32 X) (fun X => [])
theorem bits_SetField_ok : ModelOK Tryz.prog bits_SetField_m := mkP_of drawn tabOK (.cons bits_mask_ok (.nil)) Tryz.func220 Tryz.call220 (fun args rows => bits_SetField_t (argI args 0) (argI args 1) (argI args 2) (argI args 3)) [] [] 2 (fun _ _ _ => by kernel_rfl) (fun _ _ => rfl) (fun _ _ h => h) (fun _ X => by kernel_rfl)
def memory_Store_t (m : (List Int)) (addr : Int) (size : Int) (v : Int) : Tree ((List Int) × Bool) :=
.an (slices_Clone_uint32_uint32_pre m) (.lv (slices_Clone_uint32_uint32 m) fun (x0 : List Int) => .an (memory_within_pre m addr size) (.lv (memory_within m addr size) fun (x1 : Bool) => .br (!x1) (.lf (x0, false)) (let E1 := Nat.beq 1 1 && Nat.blt 0 1 && decide (0 ≤ wrap u32 (Int.tdiv addr 4) ∧ wrap u32 (Int.tdiv addr 4) < (↑(List.length x0) : Int)); let E2 := Int.toNat (wrap u32 (Int.tdiv addr 4)); .br (size == 1) (.cn E1 (let E3 := wrap i64 (wrap i64 (Int.tmod addr 4) * 8); .an (bits_SetField_pre (List.getD x0 E2 0) E3 8 v) (.lv (bits_SetField (List.getD x0 E2 0) E3 8 v) fun (x2 : Int) => .cn E1 (.lf (List.set x0 E2 x2, true))))) (.cn E1 (.lf (List.set x0 E2 v, true))))))
def memory_Store (m : (List Int)) (addr : Int) (size : Int) (v : Int) : ((List Int) × Bool) := (memory_Store_t m addr size v).m
abbrev memory_Store_pre (m : (List Int)) (addr : Int) (size : Int) (v : Int) : Prop := (memory_Store_t m addr size v).p
def memory_Store_m : Model := mkP 175 [] true [.one (.ints .u32), .one (.int .u32), .one (.int .i64), .one (.int .u32)] [] (fun args rows => memory_Store_pre (argL .u32 args 0) (argI args 1) (argI args 2) (argI args 3)) (fun args rows => memory_Store (argL .u32 args 0) (argI args 1) (argI args 2) (argI args 3)) (fun X => .tup [.all 0, .bool (X.2)]) (fun X => [⟨false, 27, 1, .ints .u32 (X.1)⟩])
theorem memory_Store_ok : ModelOK Tryz.prog memory_Store_m := mkP_of drawn tabOK (.cons slices_Clone_uint32_uint32_ok (.cons memory_within_ok (.cons bits_SetField_ok (.nil)))) Tryz.func175 Tryz.call175 (fun args rows => memory_Store_t (argL .u32 args 0) (argI args 1) (argI args 2) (argI args 3)) [.row 27 1 (.ints .u32)] [] 2 (fun _ _ _ => by kernel_rfl) (fun _ _ => rfl) (fun _ _ h => h) (fun _ X => by kernel_rfl)
def isa_use_t (op : Int) : Tree (IsaUsage × Bool) :=
.br (op == 1) (.lf ({ a := true, b := true, c := true, low := 0, high := 0 }, true)) (.br (op == 2) (.lf ({ a := true, b := true, c := true, low := 0, high := 0 }, true)) (.br (op == 3) (.lf ({ a := true, b := true, c := true, low := 0, high := 0 }, true)) (.br (op == 4) (.lf ({ a := true, b := true, c := true, low := 0, high := 0 }, true)) (.br (op == 5) (.lf ({ a := true, b := true, c := true, low := 0, high := 0 }, true)) (.br (op == 6) (.lf ({ a := true, b := true, c := true, low := 0, high := 0 }, true)) (.br (op == 7) (.lf ({ a := true, b := true, c := true, low := 0, high := 0 }, true)) (.br (op == 8) (.lf ({ a := true, b := true, c := true, low := 0, high := 0 }, true)) (.br (op == 9) (.lf ({ a := true, b := true, c := true, low := 0, high := 0 }, true)) (.br (op == 10) (.lf ({ a := true, b := true, c := true, low := 0, high := 0 }, true)) (.br (op == 11) (.lf ({ a := true, b := true, c := true, low := 0, high := 0 }, true)) (.br (op == 12) (.lf ({ a := true, b := true, c := true, low := 0, high := 0 }, true)) (.br (op == 13) (.lf ({ a := true, b := true, c := true, low := 0, high := 0 }, true)) (.br (op == 16) (.lf ({ a := true, b := true, c := false, low := (-32768), high := 32767 }, true)) (.br (op == 23) (.lf ({ a := true, b := true, c := false, low := (-32768), high := 32767 }, true)) (.br (op == 32) (.lf ({ a := true, b := true, c := false, low := (-32768), high := 32767 }, true)) (.br (op == 33) (.lf ({ a := true, b := true, c := false, low := (-32768), high := 32767 }, true)) (.br (op == 34) (.lf ({ a := true, b := true, c := false, low := (-32768), high := 32767 }, true)) (.br (op == 35) (.lf ({ a := true, b := true, c := false, low := (-32768), high := 32767 }, true)) (.br (op == 36) (.lf ({ a := true, b := true, c := false, low := (-32768), high := 32767 }, true)) (.br (op == 40) (.lf ({ a := true, b := true, c := false, low := (-32768), high := 32767 }, true)) (.br (op == 41) (.lf ({ a := true, b := true, c := false, low := (-32768), high := 32767 }, true)) (.br (op == 42) (.lf ({ a := true, b := true, c := false, low := (-32768), high := 32767 }, true)) (.br (op == 43) (.lf ({ a := true, b := true, c := false, low := (-32768), high := 32767 }, true)) (.br (op == 44) (.lf ({ a := true, b := true, c := false, low := (-32768), high := 32767 }, true)) (.br (op == 45) (.lf ({ a := true, b := true, c := false, low := (-32768), high := 32767 }, true)) (.br (op == 49) (.lf ({ a := true, b := true, c := false, low := (-32768), high := 32767 }, true)) (.br (op == 17) (.lf ({ a := true, b := true, c := false, low := 0, high := 65535 }, true)) (.br (op == 18) (.lf ({ a := true, b := true, c := false, low := 0, high := 65535 }, true)) (.br (op == 19) (.lf ({ a := true, b := true, c := false, low := 0, high := 65535 }, true)) (.br (op == 20) (.lf ({ a := true, b := true, c := false, low := 0, high := 31 }, true)) (.br (op == 21) (.lf ({ a := true, b := true, c := false, low := 0, high := 31 }, true)) (.br (op == 22) (.lf ({ a := true, b := true, c := false, low := 0, high := 31 }, true)) (.br (op == 24) (.lf ({ a := true, b := false, c := false, low := 0, high := 65535 }, true)) (.br (op == 48) (.lf ({ a := true, b := false, c := false, low := (-32768), high := 32767 }, true)) (.br (op == 58) (.lf ({ a := true, b := false, c := false, low := 0, high := 7 }, true)) (.br (op == 59) (.lf ({ a := true, b := false, c := false, low := 0, high := 7 }, true)) (.br (op == 60) (.lf ({ a := true, b := false, c := false, low := 0, high := 11 }, true)) (.br (op == 61) (.lf ({ a := true, b := false, c := false, low := 0, high := 11 }, true)) (.br (op == 56) (.lf ({ a := false, b := false, c := false, low := 0, high := 0 }, true)) (.br (op == 57) (.lf ({ a := false, b := false, c := false, low := 0, high := 0 }, true)) (.br (op == 62) (.lf ({ a := false, b := false, c := false, low := 0, high := 0 }, true)) (.br (op == 63) (.lf ({ a := false, b := false, c := false, low := 0, high := 0 }, true)) (.br (op == 64) (.lf ({ a := false, b := false, c := false, low := 0, high := 0 }, true)) (.lf ({ a := false, b := false, c := false, low := 0, high := 0 }, false)))))))))))))))))))))))))))))))))))))))))))))
def isa_use (op : Int) : (IsaUsage × Bool) := (isa_use_t op).m
def isa_use_m : Model := mkR 170 [] true [.one (.int .i64)] [] (fun args rows => isa_use (argI args 0)) (fun X => .tup [.agg (IsaUsage.cells (X.1)), .bool (X.2)]) (fun X => [])
theorem isa_use_ok : ModelOK Tryz.prog isa_use_m := mkR_of drawn tabOK (.nil) Tryz.func170 Tryz.call170 (fun args rows => isa_use_t (argI args 0)) [] [] 2 (fun _ _ _ => by kernel_rfl) (fun _ _ => rfl) (fun _ _ => Tree.free_ok (by kernel_rfl)) (fun _ X => by kernel_rfl)
def bits_SignExtend_t (x : Int) (n : Int) : Tree Int :=
.br (decide (n < 1)) (.lf 0) (.br (decide (n ≥ 32)) (.lf x) (let E1 := decide (0 ≤ wrap u64 (wrap i64 (32 - n))); .cn E1 (.cn E1 (.lf (wrap u32 (ishr i32 (wrap i32 (ishl u32 x (wrap u64 (wrap i64 (32 - n))))) (wrap u64 (wrap i64 (32 - n)))))))))
def bits_SignExtend (x : Int) (n : Int) : Int := (bits_SignExtend_t x n).m
abbrev bits_SignExtend_pre (x : Int) (n : Int) : Prop := (bits_SignExtend_t x n).p
def bits_SignExtend_m : Model := mkP 171 [] true [.one (.int .u32), .one (.int .i64)] [] (fun args rows => bits_SignExtend_pre (argI args 0) (argI args 1)) (fun args rows => bits_SignExtend (argI args 0) (argI args 1)) (fun X => .int .u32 X) (fun X => [])
theorem bits_SignExtend_ok : ModelOK Tryz.prog bits_SignExtend_m := mkP_of drawn tabOK (.nil) Tryz.func171 Tryz.call171 (fun args rows => bits_SignExtend_t (argI args 0) (argI args 1)) [] [] 2 (fun _ _ _ => by kernel_rfl) (fun _ _ => rfl) (fun _ _ h => h) (fun _ X => by kernel_rfl)
def isa_register_t (r : Int) (used : Bool) : Tree Bool :=
.br used (.br (decide (r ≥ 0)) (.lf (decide (r ≤ 15))) (.lf false)) (.lf (r == 0))
def isa_register (r : Int) (used : Bool) : Bool := (isa_register_t r used).m
def isa_register_m : Model := mkR 219 [] true [.one (.int .i64), .one (.bool)] [] (fun args rows => isa_register (argI args 0) (argB args 1)) (fun X => .bool X) (fun X => [])
theorem isa_register_ok : ModelOK Tryz.prog isa_register_m := mkR_of drawn tabOK (.nil) Tryz.func219 Tryz.call219 (fun args rows => isa_register_t (argI args 0) (argB args 1)) [] [] 2 (fun _ _ _ => by kernel_rfl) (fun _ _ => rfl) (fun _ _ => Tree.free_ok (by kernel_rfl)) (fun _ X => by kernel_rfl)
def isa_Valid_t (i : ApiInst) : Tree Bool :=
.lv (isa_use i.Op) fun (x0 : IsaUsage × Bool) => .br x0.snd (.lv (isa_register i.A x0.fst.a) fun (x1 : Bool) => .br x1 (.lv (isa_register i.B x0.fst.b) fun (x2 : Bool) => .br x2 (.lv (isa_register i.C x0.fst.c) fun (x3 : Bool) => .br x3 (.br (decide (i.Imm ≥ x0.fst.low)) (.lf (decide (i.Imm ≤ x0.fst.high))) (.lf false)) (.lf false)) (.lf false)) (.lf false)) (.lf false)
def isa_Valid (i : ApiInst) : Bool := (isa_Valid_t i).m
def isa_Valid_m : Model := mkR 172 [] true [.agg ApiInst.sig] [] (fun args rows => isa_Valid (ApiInst.of (args.getD 0 .dead).cells)) (fun X => .bool X) (fun X => [])
theorem isa_Valid_ok : ModelOK Tryz.prog isa_Valid_m := mkR_of drawn tabOK (.cons isa_use_ok (.cons isa_register_ok (.nil))) Tryz.func172 Tryz.call172 (fun args rows => isa_Valid_t (ApiInst.of (args.getD 0 .dead).cells)) [] [] 2 (fun _ _ _ => by kernel_rfl) (fun _ _ => rfl) (fun _ _ => Tree.free_ok (by kernel_rfl)) (fun _ X => by kernel_rfl)
def isa_Decode_t (w : Int) : Tree (ApiInst × Bool) :=
.an (bits_Field_pre w 24 8) (.lv (bits_Field w 24 8) fun (x0 : Int) => .an (bits_Field_pre w 20 4) (.lv (bits_Field w 20 4) fun (x1 : Int) => .an (bits_Field_pre w 16 4) (.lv (bits_Field w 16 4) fun (x2 : Int) => .lv (isa_use (wrap i64 x0)) fun (x3 : IsaUsage × Bool) => let E1 := ({ Op := 0, A := 0, B := 0, C := 0, Imm := 0 } : ApiInst); .br (!x3.snd) (.lf (E1, false)) (.an (bits_Field_pre w 0 16) (.lv (bits_Field w 0 16) fun (x4 : Int) => .br x3.fst.c (let E2 := ({ Op := wrap i64 x0, A := wrap i64 x1, B := wrap i64 x2, C := wrap i64 x4, Imm := 0 } : ApiInst); .lv (isa_Valid E2) fun (x5 : Bool) => .br (!x5) (.lf (E1, false)) (.lf (E2, true))) (.br (decide (x3.fst.low < 0)) (.an (bits_SignExtend_pre x4 16) (.lv (bits_SignExtend x4 16) fun (x6 : Int) => let E3 := ({ Op := wrap i64 x0, A := wrap i64 x1, B := wrap i64 x2, C := 0, Imm := wrap i32 x6 } : ApiInst); .lv (isa_Valid E3) fun (x7 : Bool) => .br (!x7) (.lf (E1, false)) (.lf (E3, true)))) (let E4 := ({ Op := wrap i64 x0, A := wrap i64 x1, B := wrap i64 x2, C := 0, Imm := wrap i32 x4 } : ApiInst); .lv (isa_Valid E4) fun (x8 : Bool) => .br (!x8) (.lf (E1, false)) (.lf (E4, true)))))))))
def isa_Decode (w : Int) : (ApiInst × Bool) := (isa_Decode_t w).m
abbrev isa_Decode_pre (w : Int) : Prop := (isa_Decode_t w).p
def isa_Decode_m : Model := mkP 121 [] true [.one (.int .u32)] [] (fun args rows => isa_Decode_pre (argI args 0)) (fun args rows => isa_Decode (argI args 0)) (fun X => .tup [.agg (ApiInst.cells (X.1)), .bool (X.2)]) (fun X => [])
theorem isa_Decode_ok : ModelOK Tryz.prog isa_Decode_m := mkP_of drawn tabOK (.cons bits_Field_ok (.cons isa_use_ok (.cons bits_SignExtend_ok (.cons isa_Valid_ok (.nil))))) Tryz.func121 Tryz.call121 (fun args rows => isa_Decode_t (argI args 0)) [] [] 2 (fun _ _ _ => by kernel_rfl) (fun _ _ => rfl) (fun _ _ h => h) (fun _ X => by kernel_rfl)
def bits_Divide_t (a : Int) (b : Int) : Tree (Int × Int) :=
.br (b == 0) (.lf (4294967295, a)) (let T1 : Tree ((Int × Int)) := .cn (decide (wrap i32 b ≠ 0)) (.cn (decide (wrap i32 b ≠ 0)) (.lf (wrap u32 (wrap i32 (Int.tdiv (wrap i32 a) (wrap i32 b))), wrap u32 (Int.tmod (wrap i32 a) (wrap i32 b))))); .br (a == 2147483648) (.br (b == 4294967295) (.lf (a, 0)) T1) T1)
def bits_Divide (a : Int) (b : Int) : (Int × Int) := (bits_Divide_t a b).m
abbrev bits_Divide_pre (a : Int) (b : Int) : Prop := (bits_Divide_t a b).p
def bits_Divide_m : Model := mkP 221 [] true [.one (.int .u32), .one (.int .u32)] [] (fun args rows => bits_Divide_pre (argI args 0) (argI args 1)) (fun args rows => bits_Divide (argI args 0) (argI args 1)) (fun X => .tup [.int .u32 (X.1), .int .u32 (X.2)]) (fun X => [])
theorem bits_Divide_ok : ModelOK Tryz.prog bits_Divide_m := mkP_of drawn tabOK (.nil) Tryz.func221 Tryz.call221 (fun args rows => bits_Divide_t (argI args 0) (argI args 1)) [] [] 2 (fun _ _ _ => by kernel_rfl) (fun _ _ => rfl) (fun _ _ h => h) (fun _ X => by kernel_rfl)
def cpu_truth_t (b : Bool) : Tree Int :=
.br b (.lf 1) (.lf 0)
def cpu_truth (b : Bool) : Int := (cpu_truth_t b).m
def cpu_truth_m : Model := mkR 222 [] true [.one (.bool)] [] (fun args rows => cpu_truth (argB args 0)) (fun X => .int .u32 X) (fun X => [])
theorem cpu_truth_ok : ModelOK Tryz.prog cpu_truth_m := mkR_of drawn tabOK (.nil) Tryz.func222 Tryz.call222 (fun args rows => cpu_truth_t (argB args 0)) [] [] 2 (fun _ _ _ => by kernel_rfl) (fun _ _ => rfl) (fun _ _ => Tree.free_ok (by kernel_rfl)) (fun _ X => by kernel_rfl)
def cpu_Alu_t (op : Int) (a : Int) (b : Int) : Tree (Int × Bool) :=
.br (op == 2) (.lf (wrap u32 (a + wrap u32 (0 - b)), true)) (.br (op == 1) (.lf (wrap u32 (a + b), true)) (.br (op == 16) (.lf (wrap u32 (a + b), true)) (.br (op == 3) (.lf (iand u32 a b, true)) (.br (op == 17) (.lf (iand u32 a b, true)) (.br (op == 4) (.lf (ior u32 a b, true)) (.br (op == 18) (.lf (ior u32 a b, true)) (.br (op == 5) (.lf (ixor u32 a b, true)) (.br (op == 19) (.lf (ixor u32 a b, true)) (.br (op == 6) (.lf (ishl u32 a (iand u32 b 31), true)) (.br (op == 20) (.lf (ishl u32 a (iand u32 b 31), true)) (.br (op == 7) (.lf (ishr u32 a (iand u32 b 31), true)) (.br (op == 21) (.lf (ishr u32 a (iand u32 b 31), true)) (let E1 := (wrap u32 (ishr i32 (wrap i32 a) (iand u32 b 31)), true); .br (op == 8) (.lf E1) (.br (op == 22) (.lf E1) (.br (op == 9) (.lf (wrap u32 (a * b), true)) (.br (op == 10) (.an (bits_Divide_pre a b) (.lv (bits_Divide a b) fun (x0 : Int × Int) => .lf (x0.fst, true))) (.br (op == 11) (.an (bits_Divide_pre a b) (.lv (bits_Divide a b) fun (x1 : Int × Int) => .lf (x1.snd, true))) (.br (op == 12) (.lv (cpu_truth (decide (wrap i32 a < wrap i32 b))) fun (x2 : Int) => .lf (x2, true)) (.br (op == 23) (.lv (cpu_truth (decide (wrap i32 a < wrap i32 b))) fun (x3 : Int) => .lf (x3, true)) (.br (op == 13) (.lv (cpu_truth (decide (a < b))) fun (x4 : Int) => .lf (x4, true)) (.lf (0, false))))))))))))))))))))))
def cpu_Alu (op : Int) (a : Int) (b : Int) : (Int × Bool) := (cpu_Alu_t op a b).m
abbrev cpu_Alu_pre (op : Int) (a : Int) (b : Int) : Prop := (cpu_Alu_t op a b).p
def cpu_Alu_m : Model := mkP 179 [] true [.one (.int .i64), .one (.int .u32), .one (.int .u32)] [] (fun args rows => cpu_Alu_pre (argI args 0) (argI args 1) (argI args 2)) (fun args rows => cpu_Alu (argI args 0) (argI args 1) (argI args 2)) (fun X => .tup [.int .u32 (X.1), .bool (X.2)]) (fun X => [])
theorem cpu_Alu_ok : ModelOK Tryz.prog cpu_Alu_m := mkP_of drawn tabOK (.cons bits_Divide_ok (.cons cpu_truth_ok (.nil))) Tryz.func179 Tryz.call179 (fun args rows => cpu_Alu_t (argI args 0) (argI args 1) (argI args 2)) [] [] 2 (fun _ _ _ => by kernel_rfl) (fun _ _ => rfl) (fun _ _ h => h) (fun _ X => by kernel_rfl)
end
end Go.Proofs.YtdkiadhigcfmkaaGreat

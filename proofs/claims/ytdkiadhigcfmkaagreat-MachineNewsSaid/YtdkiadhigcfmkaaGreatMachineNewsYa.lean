/-
  Functions of the program: models, and that its calls come to them (by a program: gen3.py).
-/
import Derived.Test.YtdkiadhigcfmkaaGreatMachineNewsBase
namespace Go.Proofs.YtdkiadhigcfmkaaGreat
open Go Go.GD
set_option linter.unusedVariables false
set_option linter.unusedSimpArgs false
noncomputable section
def slices_Clone_uint32_uint32 (s : (List Int)) : (List Int) :=
s
def slices_Clone_uint32_uint32_pre (s : (List Int)) : Prop :=
s.length ≤ 35184372088832
def slices_Clone_uint32_uint32_args (s : (List Int)) : List D := [.sl 1 (.ints .u32 s) false]
def slices_Clone_uint32_uint32_rows (s : (List Int)) : List Row := []
def slices_Clone_uint32_uint32_enc (X : (List Int)) : D := .all 0
def slices_Clone_uint32_uint32_out (X : (List Int)) : List Row := [⟨false, 27, 1, .ints .u32 X⟩]
def slices_Clone_uint32_uint32_dirs : List Dir := [.row 27 1 (.ints .u32)]
def slices_Clone_uint32_uint32_sig : List PT := [.one (.ints .u32)]
def slices_Clone_uint32_uint32_rsig : List RT := []
def slices_Clone_uint32_uint32_val (args : List D) (rows : List Row) : (List Int) := slices_Clone_uint32_uint32 (argL .u32 args 0)
def slices_Clone_uint32_uint32_prf (args : List D) (rows : List Row) : Prop := slices_Clone_uint32_uint32_pre (argL .u32 args 0)
def slices_Clone_uint32_uint32_m : Model := mkP 59 [] true slices_Clone_uint32_uint32_sig slices_Clone_uint32_uint32_rsig slices_Clone_uint32_uint32_prf slices_Clone_uint32_uint32_val slices_Clone_uint32_uint32_enc slices_Clone_uint32_uint32_out
def slices_Clone_uint32_uint32_q (s : (List Int)) (Leaf : (List Int) → Prop) : Prop :=
(s = [] → Leaf []) ∧ cand (decide ((4 : Nat) * ((0 : Nat) + List.length s) ≤ (140737488355328 : Nat))) (Leaf s)
set_option maxRecDepth 100000 in
theorem slices_Clone_uint32_uint32_nf (s : (List Int)) (Q : D → List Row → Prop) : (fnVC tab [] (LL tab [] Tryz.f59.ntmps 0 [] 2) Tryz.f59 (slices_Clone_uint32_uint32_args s) (slices_Clone_uint32_uint32_rows s) fun d R => canonVC (slices_Clone_uint32_uint32_rows s).length slices_Clone_uint32_uint32_dirs d R Q) = slices_Clone_uint32_uint32_q s (fun X => Q (slices_Clone_uint32_uint32_enc X) (slices_Clone_uint32_uint32_out X)) := by kernel_rfl
theorem slices_Clone_uint32_uint32_main (s : (List Int)) (Leaf : (List Int) → Prop) (hw : slices_Clone_uint32_uint32_pre s) (h : Leaf (slices_Clone_uint32_uint32 s)) :
slices_Clone_uint32_uint32_q s Leaf := by
  delta slices_Clone_uint32_uint32_q
  refine ⟨fun e => by rw [e] at h; exact h, ?_⟩
  rw [cand_iff]
  refine ⟨decide_eq_true ?_, h⟩
  have : s.length ≤ 35184372088832 := hw
  omega
set_option maxRecDepth 100000 in
theorem slices_Clone_uint32_uint32_calls (s : (List Int)) (hw : slices_Clone_uint32_uint32_pre s) : ACalls Tryz.prog 59 (slices_Clone_uint32_uint32_args s) (slices_Clone_uint32_uint32_rows s) (slices_Clone_uint32_uint32_enc (slices_Clone_uint32_uint32 s)) (slices_Clone_uint32_uint32_out (slices_Clone_uint32_uint32 s)) :=
  have hG : AllOK Tryz.prog [] := .nil
  FnOK.calls drawn tabOK hG Tryz.func59 (LL_ok drawn tabOK hG 2 (invs := [])) (FnOK.of (slices_Clone_uint32_uint32_nf s _) (slices_Clone_uint32_uint32_main s (fun X => slices_Clone_uint32_uint32_enc X = slices_Clone_uint32_uint32_enc (slices_Clone_uint32_uint32 s) ∧ slices_Clone_uint32_uint32_out X = slices_Clone_uint32_uint32_out (slices_Clone_uint32_uint32 s)) hw ⟨rfl, rfl⟩))
set_option maxRecDepth 100000 in
theorem slices_Clone_uint32_uint32_conv (args : List D) (rows : List Row) : convA slices_Clone_uint32_uint32_sig args 0 = slices_Clone_uint32_uint32_args (argL .u32 args 0) := by kernel_rfl
set_option maxRecDepth 100000 in
theorem slices_Clone_uint32_uint32_convR (args : List D) (rows : List Row) : convRs slices_Clone_uint32_uint32_rsig rows 0 = slices_Clone_uint32_uint32_rows (argL .u32 args 0) := by kernel_rfl
set_option maxRecDepth 100000 in
theorem slices_Clone_uint32_uint32_ff (X : (List Int)) : (ffB (slices_Clone_uint32_uint32_enc X) && ffBR (slices_Clone_uint32_uint32_out X)) = true := by kernel_rfl
theorem slices_Clone_uint32_uint32_ok : ModelOK Tryz.prog slices_Clone_uint32_uint32_m := mkP_ok Tryz.call59 (fun args rows hp => by rw [slices_Clone_uint32_uint32_conv args rows, slices_Clone_uint32_uint32_convR args rows]; exact slices_Clone_uint32_uint32_calls (argL .u32 args 0) hp) (fun _ X => slices_Clone_uint32_uint32_ff X)
def memory_Pages_t (m : (List Int)) : Tree Int :=
.br (Int.tmod (↑(List.length m) : Int) (32 : Int) != (0 : Int)) (.lf (0 : Int)) (.br (decide ((↑(List.length m) : Int) > (1024 : Int))) (.lf (0 : Int)) (.lf (IntKind.wrap IntKind.i64 (Int.tdiv (↑(List.length m) : Int) (32 : Int)))))
def memory_Pages (m : (List Int)) : Int := (memory_Pages_t m).m
theorem memory_Pages_tot (m : (List Int)) : (memory_Pages_t m).p := (wB wL (wB wL wL))
def memory_Pages_args (m : (List Int)) : List D := [.sl 1 (.ints .u32 m) false]
def memory_Pages_rows (m : (List Int)) : List Row := []
def memory_Pages_enc (X : Int) : D := .int .i64 X
def memory_Pages_out (X : Int) : List Row := []
def memory_Pages_dirs : List Dir := []
def memory_Pages_sig : List PT := [.one (.ints .u32)]
def memory_Pages_rsig : List RT := []
def memory_Pages_val (args : List D) (rows : List Row) : Int := memory_Pages (argL .u32 args 0)
def memory_Pages_m : Model := mkR 56 [] true memory_Pages_sig memory_Pages_rsig memory_Pages_val memory_Pages_enc memory_Pages_out
set_option maxRecDepth 100000 in
theorem memory_Pages_nf (m : (List Int)) (Q : D → List Row → Prop) : (fnVC tab [] (LL tab [] Tryz.f56.ntmps 0 [] 2) Tryz.f56 (memory_Pages_args m) (memory_Pages_rows m) fun d R => canonVC (memory_Pages_rows m).length memory_Pages_dirs d R Q) = (memory_Pages_t m).q (fun X => Q (memory_Pages_enc X) (memory_Pages_out X)) := by kernel_rfl
set_option maxRecDepth 100000 in
theorem memory_Pages_calls (m : (List Int)) : ACalls Tryz.prog 56 (memory_Pages_args m) (memory_Pages_rows m) (memory_Pages_enc (memory_Pages m)) (memory_Pages_out (memory_Pages m)) :=
  have hG : AllOK Tryz.prog [] := .nil
  FnOK.calls drawn tabOK hG Tryz.func56 (LL_ok drawn tabOK hG 2 (invs := [])) (FnOK.of (memory_Pages_nf m _) (Tree.main' (memory_Pages_tot m) ⟨rfl, rfl⟩))
set_option maxRecDepth 100000 in
theorem memory_Pages_conv (args : List D) (rows : List Row) : convA memory_Pages_sig args 0 = memory_Pages_args (argL .u32 args 0) := by kernel_rfl
set_option maxRecDepth 100000 in
theorem memory_Pages_convR (args : List D) (rows : List Row) : convRs memory_Pages_rsig rows 0 = memory_Pages_rows (argL .u32 args 0) := by kernel_rfl
set_option maxRecDepth 100000 in
theorem memory_Pages_ff (X : Int) : (ffB (memory_Pages_enc X) && ffBR (memory_Pages_out X)) = true := by kernel_rfl
theorem memory_Pages_ok : ModelOK Tryz.prog memory_Pages_m := mkR_ok Tryz.call56 (fun args rows => by rw [memory_Pages_conv args rows, memory_Pages_convR args rows]; exact memory_Pages_calls (argL .u32 args 0)) (fun _ X => memory_Pages_ff X)
def memory_within_t (m : (List Int)) (addr : Int) (size : Int) : Tree Bool :=
.br (size != (1 : Int)) (.br (size != (4 : Int)) (.lf false) (.cn (decide (IntKind.wrap IntKind.u32 size ≠ (0 : Int))) (.br (Int.tmod addr (IntKind.wrap IntKind.u32 size) != (0 : Int)) (.lf false) (.lv (memory_Pages m) fun (x0 : Int) => .lf (decide (IntKind.wrap IntKind.u64 (IntKind.wrap IntKind.u64 addr + IntKind.wrap IntKind.u64 size) ≤ IntKind.wrap IntKind.u64 (IntKind.wrap IntKind.u64 x0 * (128 : Int)))))))) (.cn (decide (IntKind.wrap IntKind.u32 size ≠ (0 : Int))) (.br (Int.tmod addr (IntKind.wrap IntKind.u32 size) != (0 : Int)) (.lf false) (.lv (memory_Pages m) fun (x1 : Int) => .lf (decide (IntKind.wrap IntKind.u64 (IntKind.wrap IntKind.u64 addr + IntKind.wrap IntKind.u64 size) ≤ IntKind.wrap IntKind.u64 (IntKind.wrap IntKind.u64 x1 * (128 : Int)))))))
def memory_within (m : (List Int)) (addr : Int) (size : Int) : Bool := (memory_within_t m addr size).m
abbrev memory_within_pre (m : (List Int)) (addr : Int) (size : Int) : Prop := (memory_within_t m addr size).p
def memory_within_args (m : (List Int)) (addr : Int) (size : Int) : List D := [.sl 1 (.ints .u32 m) false, .int .u32 addr, .int .i64 size]
def memory_within_rows (m : (List Int)) (addr : Int) (size : Int) : List Row := []
def memory_within_enc (X : Bool) : D := .bool X
def memory_within_out (X : Bool) : List Row := []
def memory_within_dirs : List Dir := []
def memory_within_sig : List PT := [.one (.ints .u32), .one (.int .u32), .one (.int .i64)]
def memory_within_rsig : List RT := []
def memory_within_val (args : List D) (rows : List Row) : Bool := memory_within (argL .u32 args 0) (argI args 1) (argI args 2)
def memory_within_prf (args : List D) (rows : List Row) : Prop := memory_within_pre (argL .u32 args 0) (argI args 1) (argI args 2)
def memory_within_m : Model := mkP 217 [] true memory_within_sig memory_within_rsig memory_within_prf memory_within_val memory_within_enc memory_within_out
set_option maxRecDepth 100000 in
theorem memory_within_nf (m : (List Int)) (addr : Int) (size : Int) (Q : D → List Row → Prop) : (fnVC tab [memory_Pages_m] (LL tab [memory_Pages_m] Tryz.f217.ntmps 0 [] 2) Tryz.f217 (memory_within_args m addr size) (memory_within_rows m addr size) fun d R => canonVC (memory_within_rows m addr size).length memory_within_dirs d R Q) = (memory_within_t m addr size).q (fun X => Q (memory_within_enc X) (memory_within_out X)) := by kernel_rfl
set_option maxRecDepth 100000 in
theorem memory_within_calls (m : (List Int)) (addr : Int) (size : Int) (hw : memory_within_pre m addr size) : ACalls Tryz.prog 217 (memory_within_args m addr size) (memory_within_rows m addr size) (memory_within_enc (memory_within m addr size)) (memory_within_out (memory_within m addr size)) :=
  have hG : AllOK Tryz.prog [memory_Pages_m] := .cons memory_Pages_ok (.nil)
  FnOK.calls drawn tabOK hG Tryz.func217 (LL_ok drawn tabOK hG 2 (invs := [])) (FnOK.of (memory_within_nf m addr size _) (Tree.main' hw ⟨rfl, rfl⟩))
set_option maxRecDepth 100000 in
theorem memory_within_conv (args : List D) (rows : List Row) : convA memory_within_sig args 0 = memory_within_args (argL .u32 args 0) (argI args 1) (argI args 2) := by kernel_rfl
set_option maxRecDepth 100000 in
theorem memory_within_convR (args : List D) (rows : List Row) : convRs memory_within_rsig rows 0 = memory_within_rows (argL .u32 args 0) (argI args 1) (argI args 2) := by kernel_rfl
set_option maxRecDepth 100000 in
theorem memory_within_ff (X : Bool) : (ffB (memory_within_enc X) && ffBR (memory_within_out X)) = true := by kernel_rfl
theorem memory_within_ok : ModelOK Tryz.prog memory_within_m := mkP_ok Tryz.call217 (fun args rows hp => by rw [memory_within_conv args rows, memory_within_convR args rows]; exact memory_within_calls (argL .u32 args 0) (argI args 1) (argI args 2) hp) (fun _ X => memory_within_ff X)
def bits_mask_t (n : Int) : Tree Int :=
.br (decide (n ≥ (32 : Int))) (.lf (4294967295 : Int)) (.cn (decide ((0 : Int) ≤ IntKind.wrap IntKind.u64 n)) (.lf (IntKind.wrap IntKind.u32 (ishl IntKind.u32 (1 : Int) (IntKind.wrap IntKind.u64 n) - (1 : Int)))))
def bits_mask (n : Int) : Int := (bits_mask_t n).m
abbrev bits_mask_pre (n : Int) : Prop := (bits_mask_t n).p
def bits_mask_args (n : Int) : List D := [.int .i64 n]
def bits_mask_rows (n : Int) : List Row := []
def bits_mask_enc (X : Int) : D := .int .u32 X
def bits_mask_out (X : Int) : List Row := []
def bits_mask_dirs : List Dir := []
def bits_mask_sig : List PT := [.one (.int .i64)]
def bits_mask_rsig : List RT := []
def bits_mask_val (args : List D) (rows : List Row) : Int := bits_mask (argI args 0)
def bits_mask_prf (args : List D) (rows : List Row) : Prop := bits_mask_pre (argI args 0)
def bits_mask_m : Model := mkP 218 [] true bits_mask_sig bits_mask_rsig bits_mask_prf bits_mask_val bits_mask_enc bits_mask_out
set_option maxRecDepth 100000 in
theorem bits_mask_nf (n : Int) (Q : D → List Row → Prop) : (fnVC tab [] (LL tab [] Tryz.f218.ntmps 0 [] 2) Tryz.f218 (bits_mask_args n) (bits_mask_rows n) fun d R => canonVC (bits_mask_rows n).length bits_mask_dirs d R Q) = (bits_mask_t n).q (fun X => Q (bits_mask_enc X) (bits_mask_out X)) := by kernel_rfl
set_option maxRecDepth 100000 in
theorem bits_mask_calls (n : Int) (hw : bits_mask_pre n) : ACalls Tryz.prog 218 (bits_mask_args n) (bits_mask_rows n) (bits_mask_enc (bits_mask n)) (bits_mask_out (bits_mask n)) :=
  have hG : AllOK Tryz.prog [] := .nil
  FnOK.calls drawn tabOK hG Tryz.func218 (LL_ok drawn tabOK hG 2 (invs := [])) (FnOK.of (bits_mask_nf n _) (Tree.main' hw ⟨rfl, rfl⟩))
set_option maxRecDepth 100000 in
theorem bits_mask_conv (args : List D) (rows : List Row) : convA bits_mask_sig args 0 = bits_mask_args (argI args 0) := by kernel_rfl
set_option maxRecDepth 100000 in
theorem bits_mask_convR (args : List D) (rows : List Row) : convRs bits_mask_rsig rows 0 = bits_mask_rows (argI args 0) := by kernel_rfl
set_option maxRecDepth 100000 in
theorem bits_mask_ff (X : Int) : (ffB (bits_mask_enc X) && ffBR (bits_mask_out X)) = true := by kernel_rfl
theorem bits_mask_ok : ModelOK Tryz.prog bits_mask_m := mkP_ok Tryz.call218 (fun args rows hp => by rw [bits_mask_conv args rows, bits_mask_convR args rows]; exact bits_mask_calls (argI args 0) hp) (fun _ X => bits_mask_ff X)
def bits_Field_t (w : Int) (low : Int) (n : Int) : Tree Int :=
.br (decide (low < (0 : Int))) (.lf (0 : Int)) (.br (decide (low > (31 : Int))) (.lf (0 : Int)) (.br (decide (n < (1 : Int))) (.lf (0 : Int)) (.cn (decide ((0 : Int) ≤ IntKind.wrap IntKind.u64 low)) (.an (bits_mask_pre n) (.lv (bits_mask n) fun (x0 : Int) => .lf (iand IntKind.u32 (ishr IntKind.u32 w (IntKind.wrap IntKind.u64 low)) x0))))))
def bits_Field (w : Int) (low : Int) (n : Int) : Int := (bits_Field_t w low n).m
abbrev bits_Field_pre (w : Int) (low : Int) (n : Int) : Prop := (bits_Field_t w low n).p
def bits_Field_args (w : Int) (low : Int) (n : Int) : List D := [.int .u32 w, .int .i64 low, .int .i64 n]
def bits_Field_rows (w : Int) (low : Int) (n : Int) : List Row := []
def bits_Field_enc (X : Int) : D := .int .u32 X
def bits_Field_out (X : Int) : List Row := []
def bits_Field_dirs : List Dir := []
def bits_Field_sig : List PT := [.one (.int .u32), .one (.int .i64), .one (.int .i64)]
def bits_Field_rsig : List RT := []
def bits_Field_val (args : List D) (rows : List Row) : Int := bits_Field (argI args 0) (argI args 1) (argI args 2)
def bits_Field_prf (args : List D) (rows : List Row) : Prop := bits_Field_pre (argI args 0) (argI args 1) (argI args 2)
def bits_Field_m : Model := mkP 169 [] true bits_Field_sig bits_Field_rsig bits_Field_prf bits_Field_val bits_Field_enc bits_Field_out
set_option maxRecDepth 100000 in
theorem bits_Field_nf (w : Int) (low : Int) (n : Int) (Q : D → List Row → Prop) : (fnVC tab [bits_mask_m] (LL tab [bits_mask_m] Tryz.f169.ntmps 0 [] 2) Tryz.f169 (bits_Field_args w low n) (bits_Field_rows w low n) fun d R => canonVC (bits_Field_rows w low n).length bits_Field_dirs d R Q) = (bits_Field_t w low n).q (fun X => Q (bits_Field_enc X) (bits_Field_out X)) := by kernel_rfl
set_option maxRecDepth 100000 in
theorem bits_Field_calls (w : Int) (low : Int) (n : Int) (hw : bits_Field_pre w low n) : ACalls Tryz.prog 169 (bits_Field_args w low n) (bits_Field_rows w low n) (bits_Field_enc (bits_Field w low n)) (bits_Field_out (bits_Field w low n)) :=
  have hG : AllOK Tryz.prog [bits_mask_m] := .cons bits_mask_ok (.nil)
  FnOK.calls drawn tabOK hG Tryz.func169 (LL_ok drawn tabOK hG 2 (invs := [])) (FnOK.of (bits_Field_nf w low n _) (Tree.main' hw ⟨rfl, rfl⟩))
set_option maxRecDepth 100000 in
theorem bits_Field_conv (args : List D) (rows : List Row) : convA bits_Field_sig args 0 = bits_Field_args (argI args 0) (argI args 1) (argI args 2) := by kernel_rfl
set_option maxRecDepth 100000 in
theorem bits_Field_convR (args : List D) (rows : List Row) : convRs bits_Field_rsig rows 0 = bits_Field_rows (argI args 0) (argI args 1) (argI args 2) := by kernel_rfl
set_option maxRecDepth 100000 in
theorem bits_Field_ff (X : Int) : (ffB (bits_Field_enc X) && ffBR (bits_Field_out X)) = true := by kernel_rfl
theorem bits_Field_ok : ModelOK Tryz.prog bits_Field_m := mkP_ok Tryz.call169 (fun args rows hp => by rw [bits_Field_conv args rows, bits_Field_convR args rows]; exact bits_Field_calls (argI args 0) (argI args 1) (argI args 2) hp) (fun _ X => bits_Field_ff X)
def bits_SetField_t (w : Int) (low : Int) (n : Int) (v : Int) : Tree Int :=
.br (decide (low < (0 : Int))) (.lf w) (.br (decide (low > (31 : Int))) (.lf w) (.br (decide (n < (1 : Int))) (.lf w) (.an (bits_mask_pre n) (.lv (bits_mask n) fun (x0 : Int) => .cn (decide ((0 : Int) ≤ IntKind.wrap IntKind.u64 low)) (.cn (decide ((0 : Int) ≤ IntKind.wrap IntKind.u64 low)) (.lf (ior IntKind.u32 (iandn IntKind.u32 w (ishl IntKind.u32 x0 (IntKind.wrap IntKind.u64 low))) (ishl IntKind.u32 (iand IntKind.u32 v x0) (IntKind.wrap IntKind.u64 low)))))))))
def bits_SetField (w : Int) (low : Int) (n : Int) (v : Int) : Int := (bits_SetField_t w low n v).m
abbrev bits_SetField_pre (w : Int) (low : Int) (n : Int) (v : Int) : Prop := (bits_SetField_t w low n v).p
def bits_SetField_args (w : Int) (low : Int) (n : Int) (v : Int) : List D := [.int .u32 w, .int .i64 low, .int .i64 n, .int .u32 v]
def bits_SetField_rows (w : Int) (low : Int) (n : Int) (v : Int) : List Row := []
def bits_SetField_enc (X : Int) : D := .int .u32 X
def bits_SetField_out (X : Int) : List Row := []
def bits_SetField_dirs : List Dir := []
def bits_SetField_sig : List PT := [.one (.int .u32), .one (.int .i64), .one (.int .i64), .one (.int .u32)]
def bits_SetField_rsig : List RT := []
def bits_SetField_val (args : List D) (rows : List Row) : Int := bits_SetField (argI args 0) (argI args 1) (argI args 2) (argI args 3)
def bits_SetField_prf (args : List D) (rows : List Row) : Prop := bits_SetField_pre (argI args 0) (argI args 1) (argI args 2) (argI args 3)
def bits_SetField_m : Model := mkP 220 [] true bits_SetField_sig bits_SetField_rsig bits_SetField_prf bits_SetField_val bits_SetField_enc bits_SetField_out
set_option maxRecDepth 100000 in
theorem bits_SetField_nf (w : Int) (low : Int) (n : Int) (v : Int) (Q : D → List Row → Prop) : (fnVC tab [bits_mask_m] (LL tab [bits_mask_m] Tryz.f220.ntmps 0 [] 2) Tryz.f220 (bits_SetField_args w low n v) (bits_SetField_rows w low n v) fun d R => canonVC (bits_SetField_rows w low n v).length bits_SetField_dirs d R Q) = (bits_SetField_t w low n v).q (fun X => Q (bits_SetField_enc X) (bits_SetField_out X)) := by kernel_rfl
set_option maxRecDepth 100000 in
theorem bits_SetField_calls (w : Int) (low : Int) (n : Int) (v : Int) (hw : bits_SetField_pre w low n v) : ACalls Tryz.prog 220 (bits_SetField_args w low n v) (bits_SetField_rows w low n v) (bits_SetField_enc (bits_SetField w low n v)) (bits_SetField_out (bits_SetField w low n v)) :=
  have hG : AllOK Tryz.prog [bits_mask_m] := .cons bits_mask_ok (.nil)
  FnOK.calls drawn tabOK hG Tryz.func220 (LL_ok drawn tabOK hG 2 (invs := [])) (FnOK.of (bits_SetField_nf w low n v _) (Tree.main' hw ⟨rfl, rfl⟩))
set_option maxRecDepth 100000 in
theorem bits_SetField_conv (args : List D) (rows : List Row) : convA bits_SetField_sig args 0 = bits_SetField_args (argI args 0) (argI args 1) (argI args 2) (argI args 3) := by kernel_rfl
set_option maxRecDepth 100000 in
theorem bits_SetField_convR (args : List D) (rows : List Row) : convRs bits_SetField_rsig rows 0 = bits_SetField_rows (argI args 0) (argI args 1) (argI args 2) (argI args 3) := by kernel_rfl
set_option maxRecDepth 100000 in
theorem bits_SetField_ff (X : Int) : (ffB (bits_SetField_enc X) && ffBR (bits_SetField_out X)) = true := by kernel_rfl
theorem bits_SetField_ok : ModelOK Tryz.prog bits_SetField_m := mkP_ok Tryz.call220 (fun args rows hp => by rw [bits_SetField_conv args rows, bits_SetField_convR args rows]; exact bits_SetField_calls (argI args 0) (argI args 1) (argI args 2) (argI args 3) hp) (fun _ X => bits_SetField_ff X)
def memory_Store_t (m : (List Int)) (addr : Int) (size : Int) (v : Int) : Tree ((List Int) × Bool) :=
.an (slices_Clone_uint32_uint32_pre m) (.lv (slices_Clone_uint32_uint32 m) fun (x0 : List Int) => .an (memory_within_pre m addr size) (.lv (memory_within m addr size) fun (x1 : Bool) => .br (!x1) (.lf (x0, false)) (.br (size == (1 : Int)) (.cn (Nat.beq (1 : Nat) (1 : Nat) && Nat.blt (0 : Nat) (1 : Nat) && decide ((0 : Int) ≤ IntKind.wrap IntKind.u32 (Int.tdiv addr (4 : Int)) ∧ IntKind.wrap IntKind.u32 (Int.tdiv addr (4 : Int)) < (↑(List.length x0) : Int))) (.an (bits_SetField_pre (List.getD x0 (Int.toNat (IntKind.wrap IntKind.u32 (Int.tdiv addr (4 : Int)))) (0 : Int)) (IntKind.wrap IntKind.i64 (IntKind.wrap IntKind.i64 (Int.tmod addr (4 : Int)) * (8 : Int))) (8 : Int) v) (.lv (bits_SetField (List.getD x0 (Int.toNat (IntKind.wrap IntKind.u32 (Int.tdiv addr (4 : Int)))) (0 : Int)) (IntKind.wrap IntKind.i64 (IntKind.wrap IntKind.i64 (Int.tmod addr (4 : Int)) * (8 : Int))) (8 : Int) v) fun (x2 : Int) => .cn (Nat.beq (1 : Nat) (1 : Nat) && Nat.blt (0 : Nat) (1 : Nat) && decide ((0 : Int) ≤ IntKind.wrap IntKind.u32 (Int.tdiv addr (4 : Int)) ∧ IntKind.wrap IntKind.u32 (Int.tdiv addr (4 : Int)) < (↑(List.length x0) : Int))) (.lf (List.set x0 (Int.toNat (IntKind.wrap IntKind.u32 (Int.tdiv addr (4 : Int)))) x2, true))))) (.cn (Nat.beq (1 : Nat) (1 : Nat) && Nat.blt (0 : Nat) (1 : Nat) && decide ((0 : Int) ≤ IntKind.wrap IntKind.u32 (Int.tdiv addr (4 : Int)) ∧ IntKind.wrap IntKind.u32 (Int.tdiv addr (4 : Int)) < (↑(List.length x0) : Int))) (.lf (List.set x0 (Int.toNat (IntKind.wrap IntKind.u32 (Int.tdiv addr (4 : Int)))) v, true))))))
def memory_Store (m : (List Int)) (addr : Int) (size : Int) (v : Int) : ((List Int) × Bool) := (memory_Store_t m addr size v).m
abbrev memory_Store_pre (m : (List Int)) (addr : Int) (size : Int) (v : Int) : Prop := (memory_Store_t m addr size v).p
def memory_Store_args (m : (List Int)) (addr : Int) (size : Int) (v : Int) : List D := [.sl 1 (.ints .u32 m) false, .int .u32 addr, .int .i64 size, .int .u32 v]
def memory_Store_rows (m : (List Int)) (addr : Int) (size : Int) (v : Int) : List Row := []
def memory_Store_enc (X : ((List Int) × Bool)) : D := .tup [.all 0, .bool (X.2)]
def memory_Store_out (X : ((List Int) × Bool)) : List Row := [⟨false, 27, 1, .ints .u32 (X.1)⟩]
def memory_Store_dirs : List Dir := [.row 27 1 (.ints .u32)]
def memory_Store_sig : List PT := [.one (.ints .u32), .one (.int .u32), .one (.int .i64), .one (.int .u32)]
def memory_Store_rsig : List RT := []
def memory_Store_val (args : List D) (rows : List Row) : ((List Int) × Bool) := memory_Store (argL .u32 args 0) (argI args 1) (argI args 2) (argI args 3)
def memory_Store_prf (args : List D) (rows : List Row) : Prop := memory_Store_pre (argL .u32 args 0) (argI args 1) (argI args 2) (argI args 3)
def memory_Store_m : Model := mkP 175 [] true memory_Store_sig memory_Store_rsig memory_Store_prf memory_Store_val memory_Store_enc memory_Store_out
set_option maxRecDepth 100000 in
theorem memory_Store_nf (m : (List Int)) (addr : Int) (size : Int) (v : Int) (Q : D → List Row → Prop) : (fnVC tab [slices_Clone_uint32_uint32_m, memory_within_m, bits_SetField_m] (LL tab [slices_Clone_uint32_uint32_m, memory_within_m, bits_SetField_m] Tryz.f175.ntmps 0 [] 2) Tryz.f175 (memory_Store_args m addr size v) (memory_Store_rows m addr size v) fun d R => canonVC (memory_Store_rows m addr size v).length memory_Store_dirs d R Q) = (memory_Store_t m addr size v).q (fun X => Q (memory_Store_enc X) (memory_Store_out X)) := by kernel_rfl
set_option maxRecDepth 100000 in
theorem memory_Store_calls (m : (List Int)) (addr : Int) (size : Int) (v : Int) (hw : memory_Store_pre m addr size v) : ACalls Tryz.prog 175 (memory_Store_args m addr size v) (memory_Store_rows m addr size v) (memory_Store_enc (memory_Store m addr size v)) (memory_Store_out (memory_Store m addr size v)) :=
  have hG : AllOK Tryz.prog [slices_Clone_uint32_uint32_m, memory_within_m, bits_SetField_m] := .cons slices_Clone_uint32_uint32_ok (.cons memory_within_ok (.cons bits_SetField_ok (.nil)))
  FnOK.calls drawn tabOK hG Tryz.func175 (LL_ok drawn tabOK hG 2 (invs := [])) (FnOK.of (memory_Store_nf m addr size v _) (Tree.main' hw ⟨rfl, rfl⟩))
set_option maxRecDepth 100000 in
theorem memory_Store_conv (args : List D) (rows : List Row) : convA memory_Store_sig args 0 = memory_Store_args (argL .u32 args 0) (argI args 1) (argI args 2) (argI args 3) := by kernel_rfl
set_option maxRecDepth 100000 in
theorem memory_Store_convR (args : List D) (rows : List Row) : convRs memory_Store_rsig rows 0 = memory_Store_rows (argL .u32 args 0) (argI args 1) (argI args 2) (argI args 3) := by kernel_rfl
set_option maxRecDepth 100000 in
theorem memory_Store_ff (X : ((List Int) × Bool)) : (ffB (memory_Store_enc X) && ffBR (memory_Store_out X)) = true := by kernel_rfl
theorem memory_Store_ok : ModelOK Tryz.prog memory_Store_m := mkP_ok Tryz.call175 (fun args rows hp => by rw [memory_Store_conv args rows, memory_Store_convR args rows]; exact memory_Store_calls (argL .u32 args 0) (argI args 1) (argI args 2) (argI args 3) hp) (fun _ X => memory_Store_ff X)
def isa_use_t (op : Int) : Tree (IsaUsage × Bool) :=
.br (op == (1 : Int)) (.lf ({ a := true, b := true, c := true, low := (0 : Int), high := (0 : Int) }, true)) (.br (op == (2 : Int)) (.lf ({ a := true, b := true, c := true, low := (0 : Int), high := (0 : Int) }, true)) (.br (op == (3 : Int)) (.lf ({ a := true, b := true, c := true, low := (0 : Int), high := (0 : Int) }, true)) (.br (op == (4 : Int)) (.lf ({ a := true, b := true, c := true, low := (0 : Int), high := (0 : Int) }, true)) (.br (op == (5 : Int)) (.lf ({ a := true, b := true, c := true, low := (0 : Int), high := (0 : Int) }, true)) (.br (op == (6 : Int)) (.lf ({ a := true, b := true, c := true, low := (0 : Int), high := (0 : Int) }, true)) (.br (op == (7 : Int)) (.lf ({ a := true, b := true, c := true, low := (0 : Int), high := (0 : Int) }, true)) (.br (op == (8 : Int)) (.lf ({ a := true, b := true, c := true, low := (0 : Int), high := (0 : Int) }, true)) (.br (op == (9 : Int)) (.lf ({ a := true, b := true, c := true, low := (0 : Int), high := (0 : Int) }, true)) (.br (op == (10 : Int)) (.lf ({ a := true, b := true, c := true, low := (0 : Int), high := (0 : Int) }, true)) (.br (op == (11 : Int)) (.lf ({ a := true, b := true, c := true, low := (0 : Int), high := (0 : Int) }, true)) (.br (op == (12 : Int)) (.lf ({ a := true, b := true, c := true, low := (0 : Int), high := (0 : Int) }, true)) (.br (op == (13 : Int)) (.lf ({ a := true, b := true, c := true, low := (0 : Int), high := (0 : Int) }, true)) (.br (op == (16 : Int)) (.lf ({ a := true, b := true, c := false, low := (-32768 : Int), high := (32767 : Int) }, true)) (.br (op == (23 : Int)) (.lf ({ a := true, b := true, c := false, low := (-32768 : Int), high := (32767 : Int) }, true)) (.br (op == (32 : Int)) (.lf ({ a := true, b := true, c := false, low := (-32768 : Int), high := (32767 : Int) }, true)) (.br (op == (33 : Int)) (.lf ({ a := true, b := true, c := false, low := (-32768 : Int), high := (32767 : Int) }, true)) (.br (op == (34 : Int)) (.lf ({ a := true, b := true, c := false, low := (-32768 : Int), high := (32767 : Int) }, true)) (.br (op == (35 : Int)) (.lf ({ a := true, b := true, c := false, low := (-32768 : Int), high := (32767 : Int) }, true)) (.br (op == (36 : Int)) (.lf ({ a := true, b := true, c := false, low := (-32768 : Int), high := (32767 : Int) }, true)) (.br (op == (40 : Int)) (.lf ({ a := true, b := true, c := false, low := (-32768 : Int), high := (32767 : Int) }, true)) (.br (op == (41 : Int)) (.lf ({ a := true, b := true, c := false, low := (-32768 : Int), high := (32767 : Int) }, true)) (.br (op == (42 : Int)) (.lf ({ a := true, b := true, c := false, low := (-32768 : Int), high := (32767 : Int) }, true)) (.br (op == (43 : Int)) (.lf ({ a := true, b := true, c := false, low := (-32768 : Int), high := (32767 : Int) }, true)) (.br (op == (44 : Int)) (.lf ({ a := true, b := true, c := false, low := (-32768 : Int), high := (32767 : Int) }, true)) (.br (op == (45 : Int)) (.lf ({ a := true, b := true, c := false, low := (-32768 : Int), high := (32767 : Int) }, true)) (.br (op == (49 : Int)) (.lf ({ a := true, b := true, c := false, low := (-32768 : Int), high := (32767 : Int) }, true)) (.br (op == (17 : Int)) (.lf ({ a := true, b := true, c := false, low := (0 : Int), high := (65535 : Int) }, true)) (.br (op == (18 : Int)) (.lf ({ a := true, b := true, c := false, low := (0 : Int), high := (65535 : Int) }, true)) (.br (op == (19 : Int)) (.lf ({ a := true, b := true, c := false, low := (0 : Int), high := (65535 : Int) }, true)) (.br (op == (20 : Int)) (.lf ({ a := true, b := true, c := false, low := (0 : Int), high := (31 : Int) }, true)) (.br (op == (21 : Int)) (.lf ({ a := true, b := true, c := false, low := (0 : Int), high := (31 : Int) }, true)) (.br (op == (22 : Int)) (.lf ({ a := true, b := true, c := false, low := (0 : Int), high := (31 : Int) }, true)) (.br (op == (24 : Int)) (.lf ({ a := true, b := false, c := false, low := (0 : Int), high := (65535 : Int) }, true)) (.br (op == (48 : Int)) (.lf ({ a := true, b := false, c := false, low := (-32768 : Int), high := (32767 : Int) }, true)) (.br (op == (58 : Int)) (.lf ({ a := true, b := false, c := false, low := (0 : Int), high := (7 : Int) }, true)) (.br (op == (59 : Int)) (.lf ({ a := true, b := false, c := false, low := (0 : Int), high := (7 : Int) }, true)) (.br (op == (60 : Int)) (.lf ({ a := true, b := false, c := false, low := (0 : Int), high := (11 : Int) }, true)) (.br (op == (61 : Int)) (.lf ({ a := true, b := false, c := false, low := (0 : Int), high := (11 : Int) }, true)) (.br (op == (56 : Int)) (.lf ({ a := false, b := false, c := false, low := (0 : Int), high := (0 : Int) }, true)) (.br (op == (57 : Int)) (.lf ({ a := false, b := false, c := false, low := (0 : Int), high := (0 : Int) }, true)) (.br (op == (62 : Int)) (.lf ({ a := false, b := false, c := false, low := (0 : Int), high := (0 : Int) }, true)) (.br (op == (63 : Int)) (.lf ({ a := false, b := false, c := false, low := (0 : Int), high := (0 : Int) }, true)) (.br (op == (64 : Int)) (.lf ({ a := false, b := false, c := false, low := (0 : Int), high := (0 : Int) }, true)) (.lf ({ a := false, b := false, c := false, low := (0 : Int), high := (0 : Int) }, false)))))))))))))))))))))))))))))))))))))))))))))
def isa_use (op : Int) : (IsaUsage × Bool) := (isa_use_t op).m
theorem isa_use_tot (op : Int) : (isa_use_t op).p := (wB wL (wB wL (wB wL (wB wL (wB wL (wB wL (wB wL (wB wL (wB wL (wB wL (wB wL (wB wL (wB wL (wB wL (wB wL (wB wL (wB wL (wB wL (wB wL (wB wL (wB wL (wB wL (wB wL (wB wL (wB wL (wB wL (wB wL (wB wL (wB wL (wB wL (wB wL (wB wL (wB wL (wB wL (wB wL (wB wL (wB wL (wB wL (wB wL (wB wL (wB wL (wB wL (wB wL (wB wL wL))))))))))))))))))))))))))))))))))))))))))))
def isa_use_args (op : Int) : List D := [.int .i64 op]
def isa_use_rows (op : Int) : List Row := []
def isa_use_enc (X : (IsaUsage × Bool)) : D := .tup [.agg (IsaUsage.cells (X.1)), .bool (X.2)]
def isa_use_out (X : (IsaUsage × Bool)) : List Row := []
def isa_use_dirs : List Dir := []
def isa_use_sig : List PT := [.one (.int .i64)]
def isa_use_rsig : List RT := []
def isa_use_val (args : List D) (rows : List Row) : (IsaUsage × Bool) := isa_use (argI args 0)
def isa_use_m : Model := mkR 170 [] true isa_use_sig isa_use_rsig isa_use_val isa_use_enc isa_use_out
set_option maxRecDepth 100000 in
theorem isa_use_nf (op : Int) (Q : D → List Row → Prop) : (fnVC tab [] (LL tab [] Tryz.f170.ntmps 0 [] 2) Tryz.f170 (isa_use_args op) (isa_use_rows op) fun d R => canonVC (isa_use_rows op).length isa_use_dirs d R Q) = (isa_use_t op).q (fun X => Q (isa_use_enc X) (isa_use_out X)) := by kernel_rfl
set_option maxRecDepth 100000 in
theorem isa_use_calls (op : Int) : ACalls Tryz.prog 170 (isa_use_args op) (isa_use_rows op) (isa_use_enc (isa_use op)) (isa_use_out (isa_use op)) :=
  have hG : AllOK Tryz.prog [] := .nil
  FnOK.calls drawn tabOK hG Tryz.func170 (LL_ok drawn tabOK hG 2 (invs := [])) (FnOK.of (isa_use_nf op _) (Tree.main' (isa_use_tot op) ⟨rfl, rfl⟩))
set_option maxRecDepth 100000 in
theorem isa_use_conv (args : List D) (rows : List Row) : convA isa_use_sig args 0 = isa_use_args (argI args 0) := by kernel_rfl
set_option maxRecDepth 100000 in
theorem isa_use_convR (args : List D) (rows : List Row) : convRs isa_use_rsig rows 0 = isa_use_rows (argI args 0) := by kernel_rfl
set_option maxRecDepth 100000 in
theorem isa_use_ff (X : (IsaUsage × Bool)) : (ffB (isa_use_enc X) && ffBR (isa_use_out X)) = true := by kernel_rfl
theorem isa_use_ok : ModelOK Tryz.prog isa_use_m := mkR_ok Tryz.call170 (fun args rows => by rw [isa_use_conv args rows, isa_use_convR args rows]; exact isa_use_calls (argI args 0)) (fun _ X => isa_use_ff X)
def bits_SignExtend_t (x : Int) (n : Int) : Tree Int :=
.br (decide (n < (1 : Int))) (.lf (0 : Int)) (.br (decide (n ≥ (32 : Int))) (.lf x) (.cn (decide ((0 : Int) ≤ IntKind.wrap IntKind.u64 (IntKind.wrap IntKind.i64 ((32 : Int) - n)))) (.cn (decide ((0 : Int) ≤ IntKind.wrap IntKind.u64 (IntKind.wrap IntKind.i64 ((32 : Int) - n)))) (.lf (IntKind.wrap IntKind.u32 (ishr IntKind.i32 (IntKind.wrap IntKind.i32 (ishl IntKind.u32 x (IntKind.wrap IntKind.u64 (IntKind.wrap IntKind.i64 ((32 : Int) - n))))) (IntKind.wrap IntKind.u64 (IntKind.wrap IntKind.i64 ((32 : Int) - n)))))))))
def bits_SignExtend (x : Int) (n : Int) : Int := (bits_SignExtend_t x n).m
abbrev bits_SignExtend_pre (x : Int) (n : Int) : Prop := (bits_SignExtend_t x n).p
def bits_SignExtend_args (x : Int) (n : Int) : List D := [.int .u32 x, .int .i64 n]
def bits_SignExtend_rows (x : Int) (n : Int) : List Row := []
def bits_SignExtend_enc (X : Int) : D := .int .u32 X
def bits_SignExtend_out (X : Int) : List Row := []
def bits_SignExtend_dirs : List Dir := []
def bits_SignExtend_sig : List PT := [.one (.int .u32), .one (.int .i64)]
def bits_SignExtend_rsig : List RT := []
def bits_SignExtend_val (args : List D) (rows : List Row) : Int := bits_SignExtend (argI args 0) (argI args 1)
def bits_SignExtend_prf (args : List D) (rows : List Row) : Prop := bits_SignExtend_pre (argI args 0) (argI args 1)
def bits_SignExtend_m : Model := mkP 171 [] true bits_SignExtend_sig bits_SignExtend_rsig bits_SignExtend_prf bits_SignExtend_val bits_SignExtend_enc bits_SignExtend_out
set_option maxRecDepth 100000 in
theorem bits_SignExtend_nf (x : Int) (n : Int) (Q : D → List Row → Prop) : (fnVC tab [] (LL tab [] Tryz.f171.ntmps 0 [] 2) Tryz.f171 (bits_SignExtend_args x n) (bits_SignExtend_rows x n) fun d R => canonVC (bits_SignExtend_rows x n).length bits_SignExtend_dirs d R Q) = (bits_SignExtend_t x n).q (fun X => Q (bits_SignExtend_enc X) (bits_SignExtend_out X)) := by kernel_rfl
set_option maxRecDepth 100000 in
theorem bits_SignExtend_calls (x : Int) (n : Int) (hw : bits_SignExtend_pre x n) : ACalls Tryz.prog 171 (bits_SignExtend_args x n) (bits_SignExtend_rows x n) (bits_SignExtend_enc (bits_SignExtend x n)) (bits_SignExtend_out (bits_SignExtend x n)) :=
  have hG : AllOK Tryz.prog [] := .nil
  FnOK.calls drawn tabOK hG Tryz.func171 (LL_ok drawn tabOK hG 2 (invs := [])) (FnOK.of (bits_SignExtend_nf x n _) (Tree.main' hw ⟨rfl, rfl⟩))
set_option maxRecDepth 100000 in
theorem bits_SignExtend_conv (args : List D) (rows : List Row) : convA bits_SignExtend_sig args 0 = bits_SignExtend_args (argI args 0) (argI args 1) := by kernel_rfl
set_option maxRecDepth 100000 in
theorem bits_SignExtend_convR (args : List D) (rows : List Row) : convRs bits_SignExtend_rsig rows 0 = bits_SignExtend_rows (argI args 0) (argI args 1) := by kernel_rfl
set_option maxRecDepth 100000 in
theorem bits_SignExtend_ff (X : Int) : (ffB (bits_SignExtend_enc X) && ffBR (bits_SignExtend_out X)) = true := by kernel_rfl
theorem bits_SignExtend_ok : ModelOK Tryz.prog bits_SignExtend_m := mkP_ok Tryz.call171 (fun args rows hp => by rw [bits_SignExtend_conv args rows, bits_SignExtend_convR args rows]; exact bits_SignExtend_calls (argI args 0) (argI args 1) hp) (fun _ X => bits_SignExtend_ff X)
def isa_register_t (r : Int) (used : Bool) : Tree Bool :=
.br used (.br (decide (r ≥ (0 : Int))) (.lf (decide (r ≤ (15 : Int)))) (.lf false)) (.lf (r == (0 : Int)))
def isa_register (r : Int) (used : Bool) : Bool := (isa_register_t r used).m
theorem isa_register_tot (r : Int) (used : Bool) : (isa_register_t r used).p := (wB (wB wL wL) wL)
def isa_register_args (r : Int) (used : Bool) : List D := [.int .i64 r, .bool used]
def isa_register_rows (r : Int) (used : Bool) : List Row := []
def isa_register_enc (X : Bool) : D := .bool X
def isa_register_out (X : Bool) : List Row := []
def isa_register_dirs : List Dir := []
def isa_register_sig : List PT := [.one (.int .i64), .one (.bool)]
def isa_register_rsig : List RT := []
def isa_register_val (args : List D) (rows : List Row) : Bool := isa_register (argI args 0) (argB args 1)
def isa_register_m : Model := mkR 219 [] true isa_register_sig isa_register_rsig isa_register_val isa_register_enc isa_register_out
set_option maxRecDepth 100000 in
theorem isa_register_nf (r : Int) (used : Bool) (Q : D → List Row → Prop) : (fnVC tab [] (LL tab [] Tryz.f219.ntmps 0 [] 2) Tryz.f219 (isa_register_args r used) (isa_register_rows r used) fun d R => canonVC (isa_register_rows r used).length isa_register_dirs d R Q) = (isa_register_t r used).q (fun X => Q (isa_register_enc X) (isa_register_out X)) := by kernel_rfl
set_option maxRecDepth 100000 in
theorem isa_register_calls (r : Int) (used : Bool) : ACalls Tryz.prog 219 (isa_register_args r used) (isa_register_rows r used) (isa_register_enc (isa_register r used)) (isa_register_out (isa_register r used)) :=
  have hG : AllOK Tryz.prog [] := .nil
  FnOK.calls drawn tabOK hG Tryz.func219 (LL_ok drawn tabOK hG 2 (invs := [])) (FnOK.of (isa_register_nf r used _) (Tree.main' (isa_register_tot r used) ⟨rfl, rfl⟩))
set_option maxRecDepth 100000 in
theorem isa_register_conv (args : List D) (rows : List Row) : convA isa_register_sig args 0 = isa_register_args (argI args 0) (argB args 1) := by kernel_rfl
set_option maxRecDepth 100000 in
theorem isa_register_convR (args : List D) (rows : List Row) : convRs isa_register_rsig rows 0 = isa_register_rows (argI args 0) (argB args 1) := by kernel_rfl
set_option maxRecDepth 100000 in
theorem isa_register_ff (X : Bool) : (ffB (isa_register_enc X) && ffBR (isa_register_out X)) = true := by kernel_rfl
theorem isa_register_ok : ModelOK Tryz.prog isa_register_m := mkR_ok Tryz.call219 (fun args rows => by rw [isa_register_conv args rows, isa_register_convR args rows]; exact isa_register_calls (argI args 0) (argB args 1)) (fun _ X => isa_register_ff X)
def isa_Valid_t (i : ApiInst) : Tree Bool :=
.lv (isa_use i.Op) fun (x0 : IsaUsage × Bool) => .br x0.snd (.lv (isa_register i.A x0.fst.a) fun (x1 : Bool) => .br x1 (.lv (isa_register i.B x0.fst.b) fun (x2 : Bool) => .br x2 (.lv (isa_register i.C x0.fst.c) fun (x3 : Bool) => .br x3 (.br (decide (i.Imm ≥ x0.fst.low)) (.lf (decide (i.Imm ≤ x0.fst.high))) (.lf false)) (.lf false)) (.lf false)) (.lf false)) (.lf false)
def isa_Valid (i : ApiInst) : Bool := (isa_Valid_t i).m
theorem isa_Valid_tot (i : ApiInst) : (isa_Valid_t i).p := (wV fun _ => (wB (wV fun _ => (wB (wV fun _ => (wB (wV fun _ => (wB (wB wL wL) wL)) wL)) wL)) wL))
def isa_Valid_args (i : ApiInst) : List D := [.agg (ApiInst.cells i)]
def isa_Valid_rows (i : ApiInst) : List Row := []
def isa_Valid_enc (X : Bool) : D := .bool X
def isa_Valid_out (X : Bool) : List Row := []
def isa_Valid_dirs : List Dir := []
def isa_Valid_sig : List PT := [.agg ApiInst.sig]
def isa_Valid_rsig : List RT := []
def isa_Valid_val (args : List D) (rows : List Row) : Bool := isa_Valid (ApiInst.of (args.getD 0 .dead).cells)
def isa_Valid_m : Model := mkR 172 [] true isa_Valid_sig isa_Valid_rsig isa_Valid_val isa_Valid_enc isa_Valid_out
set_option maxRecDepth 100000 in
theorem isa_Valid_nf (i : ApiInst) (Q : D → List Row → Prop) : (fnVC tab [isa_use_m, isa_register_m] (LL tab [isa_use_m, isa_register_m] Tryz.f172.ntmps 0 [] 2) Tryz.f172 (isa_Valid_args i) (isa_Valid_rows i) fun d R => canonVC (isa_Valid_rows i).length isa_Valid_dirs d R Q) = (isa_Valid_t i).q (fun X => Q (isa_Valid_enc X) (isa_Valid_out X)) := by kernel_rfl
set_option maxRecDepth 100000 in
theorem isa_Valid_calls (i : ApiInst) : ACalls Tryz.prog 172 (isa_Valid_args i) (isa_Valid_rows i) (isa_Valid_enc (isa_Valid i)) (isa_Valid_out (isa_Valid i)) :=
  have hG : AllOK Tryz.prog [isa_use_m, isa_register_m] := .cons isa_use_ok (.cons isa_register_ok (.nil))
  FnOK.calls drawn tabOK hG Tryz.func172 (LL_ok drawn tabOK hG 2 (invs := [])) (FnOK.of (isa_Valid_nf i _) (Tree.main' (isa_Valid_tot i) ⟨rfl, rfl⟩))
set_option maxRecDepth 100000 in
theorem isa_Valid_conv (args : List D) (rows : List Row) : convA isa_Valid_sig args 0 = isa_Valid_args (ApiInst.of (args.getD 0 .dead).cells) := by kernel_rfl
set_option maxRecDepth 100000 in
theorem isa_Valid_convR (args : List D) (rows : List Row) : convRs isa_Valid_rsig rows 0 = isa_Valid_rows (ApiInst.of (args.getD 0 .dead).cells) := by kernel_rfl
set_option maxRecDepth 100000 in
theorem isa_Valid_ff (X : Bool) : (ffB (isa_Valid_enc X) && ffBR (isa_Valid_out X)) = true := by kernel_rfl
theorem isa_Valid_ok : ModelOK Tryz.prog isa_Valid_m := mkR_ok Tryz.call172 (fun args rows => by rw [isa_Valid_conv args rows, isa_Valid_convR args rows]; exact isa_Valid_calls (ApiInst.of (args.getD 0 .dead).cells)) (fun _ X => isa_Valid_ff X)
def isa_Decode_t (w : Int) : Tree (ApiInst × Bool) :=
.an (bits_Field_pre w (24 : Int) (8 : Int)) (.lv (bits_Field w (24 : Int) (8 : Int)) fun (x0 : Int) => .an (bits_Field_pre w (20 : Int) (4 : Int)) (.lv (bits_Field w (20 : Int) (4 : Int)) fun (x1 : Int) => .an (bits_Field_pre w (16 : Int) (4 : Int)) (.lv (bits_Field w (16 : Int) (4 : Int)) fun (x2 : Int) => .lv (isa_use (IntKind.wrap IntKind.i64 x0)) fun (x3 : IsaUsage × Bool) => .br (!x3.snd) (.lf ({ Op := (0 : Int), A := (0 : Int), B := (0 : Int), C := (0 : Int), Imm := (0 : Int) }, false)) (.an (bits_Field_pre w (0 : Int) (16 : Int)) (.lv (bits_Field w (0 : Int) (16 : Int)) fun (x4 : Int) => .br x3.fst.c (.lv (isa_Valid { Op := IntKind.wrap IntKind.i64 x0, A := IntKind.wrap IntKind.i64 x1, B := IntKind.wrap IntKind.i64 x2, C := IntKind.wrap IntKind.i64 x4, Imm := (0 : Int) }) fun (x5 : Bool) => .br (!x5) (.lf ({ Op := (0 : Int), A := (0 : Int), B := (0 : Int), C := (0 : Int), Imm := (0 : Int) }, false)) (.lf ({ Op := IntKind.wrap IntKind.i64 x0, A := IntKind.wrap IntKind.i64 x1, B := IntKind.wrap IntKind.i64 x2, C := IntKind.wrap IntKind.i64 x4, Imm := (0 : Int) }, true))) (.br (decide (x3.fst.low < (0 : Int))) (.an (bits_SignExtend_pre x4 (16 : Int)) (.lv (bits_SignExtend x4 (16 : Int)) fun (x6 : Int) => .lv (isa_Valid { Op := IntKind.wrap IntKind.i64 x0, A := IntKind.wrap IntKind.i64 x1, B := IntKind.wrap IntKind.i64 x2, C := (0 : Int), Imm := IntKind.wrap IntKind.i32 x6 }) fun (x7 : Bool) => .br (!x7) (.lf ({ Op := (0 : Int), A := (0 : Int), B := (0 : Int), C := (0 : Int), Imm := (0 : Int) }, false)) (.lf ({ Op := IntKind.wrap IntKind.i64 x0, A := IntKind.wrap IntKind.i64 x1, B := IntKind.wrap IntKind.i64 x2, C := (0 : Int), Imm := IntKind.wrap IntKind.i32 x6 }, true)))) (.lv (isa_Valid { Op := IntKind.wrap IntKind.i64 x0, A := IntKind.wrap IntKind.i64 x1, B := IntKind.wrap IntKind.i64 x2, C := (0 : Int), Imm := IntKind.wrap IntKind.i32 x4 }) fun (x8 : Bool) => .br (!x8) (.lf ({ Op := (0 : Int), A := (0 : Int), B := (0 : Int), C := (0 : Int), Imm := (0 : Int) }, false)) (.lf ({ Op := IntKind.wrap IntKind.i64 x0, A := IntKind.wrap IntKind.i64 x1, B := IntKind.wrap IntKind.i64 x2, C := (0 : Int), Imm := IntKind.wrap IntKind.i32 x4 }, true)))))))))
def isa_Decode (w : Int) : (ApiInst × Bool) := (isa_Decode_t w).m
abbrev isa_Decode_pre (w : Int) : Prop := (isa_Decode_t w).p
def isa_Decode_args (w : Int) : List D := [.int .u32 w]
def isa_Decode_rows (w : Int) : List Row := []
def isa_Decode_enc (X : (ApiInst × Bool)) : D := .tup [.agg (ApiInst.cells (X.1)), .bool (X.2)]
def isa_Decode_out (X : (ApiInst × Bool)) : List Row := []
def isa_Decode_dirs : List Dir := []
def isa_Decode_sig : List PT := [.one (.int .u32)]
def isa_Decode_rsig : List RT := []
def isa_Decode_val (args : List D) (rows : List Row) : (ApiInst × Bool) := isa_Decode (argI args 0)
def isa_Decode_prf (args : List D) (rows : List Row) : Prop := isa_Decode_pre (argI args 0)
def isa_Decode_m : Model := mkP 121 [] true isa_Decode_sig isa_Decode_rsig isa_Decode_prf isa_Decode_val isa_Decode_enc isa_Decode_out
set_option maxRecDepth 100000 in
theorem isa_Decode_nf (w : Int) (Q : D → List Row → Prop) : (fnVC tab [bits_Field_m, isa_use_m, bits_SignExtend_m, isa_Valid_m] (LL tab [bits_Field_m, isa_use_m, bits_SignExtend_m, isa_Valid_m] Tryz.f121.ntmps 0 [] 2) Tryz.f121 (isa_Decode_args w) (isa_Decode_rows w) fun d R => canonVC (isa_Decode_rows w).length isa_Decode_dirs d R Q) = (isa_Decode_t w).q (fun X => Q (isa_Decode_enc X) (isa_Decode_out X)) := by kernel_rfl
set_option maxRecDepth 100000 in
theorem isa_Decode_calls (w : Int) (hw : isa_Decode_pre w) : ACalls Tryz.prog 121 (isa_Decode_args w) (isa_Decode_rows w) (isa_Decode_enc (isa_Decode w)) (isa_Decode_out (isa_Decode w)) :=
  have hG : AllOK Tryz.prog [bits_Field_m, isa_use_m, bits_SignExtend_m, isa_Valid_m] := .cons bits_Field_ok (.cons isa_use_ok (.cons bits_SignExtend_ok (.cons isa_Valid_ok (.nil))))
  FnOK.calls drawn tabOK hG Tryz.func121 (LL_ok drawn tabOK hG 2 (invs := [])) (FnOK.of (isa_Decode_nf w _) (Tree.main' hw ⟨rfl, rfl⟩))
set_option maxRecDepth 100000 in
theorem isa_Decode_conv (args : List D) (rows : List Row) : convA isa_Decode_sig args 0 = isa_Decode_args (argI args 0) := by kernel_rfl
set_option maxRecDepth 100000 in
theorem isa_Decode_convR (args : List D) (rows : List Row) : convRs isa_Decode_rsig rows 0 = isa_Decode_rows (argI args 0) := by kernel_rfl
set_option maxRecDepth 100000 in
theorem isa_Decode_ff (X : (ApiInst × Bool)) : (ffB (isa_Decode_enc X) && ffBR (isa_Decode_out X)) = true := by kernel_rfl
theorem isa_Decode_ok : ModelOK Tryz.prog isa_Decode_m := mkP_ok Tryz.call121 (fun args rows hp => by rw [isa_Decode_conv args rows, isa_Decode_convR args rows]; exact isa_Decode_calls (argI args 0) hp) (fun _ X => isa_Decode_ff X)
def bits_Divide_t (a : Int) (b : Int) : Tree (Int × Int) :=
.br (b == (0 : Int)) (.lf ((4294967295 : Int), a)) (.br (a == (2147483648 : Int)) (.br (b == (4294967295 : Int)) (.lf (a, (0 : Int))) (.cn (decide (IntKind.wrap IntKind.i32 b ≠ (0 : Int))) (.cn (decide (IntKind.wrap IntKind.i32 b ≠ (0 : Int))) (.lf (IntKind.wrap IntKind.u32 (IntKind.wrap IntKind.i32 (Int.tdiv (IntKind.wrap IntKind.i32 a) (IntKind.wrap IntKind.i32 b))), IntKind.wrap IntKind.u32 (Int.tmod (IntKind.wrap IntKind.i32 a) (IntKind.wrap IntKind.i32 b))))))) (.cn (decide (IntKind.wrap IntKind.i32 b ≠ (0 : Int))) (.cn (decide (IntKind.wrap IntKind.i32 b ≠ (0 : Int))) (.lf (IntKind.wrap IntKind.u32 (IntKind.wrap IntKind.i32 (Int.tdiv (IntKind.wrap IntKind.i32 a) (IntKind.wrap IntKind.i32 b))), IntKind.wrap IntKind.u32 (Int.tmod (IntKind.wrap IntKind.i32 a) (IntKind.wrap IntKind.i32 b)))))))
def bits_Divide (a : Int) (b : Int) : (Int × Int) := (bits_Divide_t a b).m
abbrev bits_Divide_pre (a : Int) (b : Int) : Prop := (bits_Divide_t a b).p
def bits_Divide_args (a : Int) (b : Int) : List D := [.int .u32 a, .int .u32 b]
def bits_Divide_rows (a : Int) (b : Int) : List Row := []
def bits_Divide_enc (X : (Int × Int)) : D := .tup [.int .u32 (X.1), .int .u32 (X.2)]
def bits_Divide_out (X : (Int × Int)) : List Row := []
def bits_Divide_dirs : List Dir := []
def bits_Divide_sig : List PT := [.one (.int .u32), .one (.int .u32)]
def bits_Divide_rsig : List RT := []
def bits_Divide_val (args : List D) (rows : List Row) : (Int × Int) := bits_Divide (argI args 0) (argI args 1)
def bits_Divide_prf (args : List D) (rows : List Row) : Prop := bits_Divide_pre (argI args 0) (argI args 1)
def bits_Divide_m : Model := mkP 221 [] true bits_Divide_sig bits_Divide_rsig bits_Divide_prf bits_Divide_val bits_Divide_enc bits_Divide_out
set_option maxRecDepth 100000 in
theorem bits_Divide_nf (a : Int) (b : Int) (Q : D → List Row → Prop) : (fnVC tab [] (LL tab [] Tryz.f221.ntmps 0 [] 2) Tryz.f221 (bits_Divide_args a b) (bits_Divide_rows a b) fun d R => canonVC (bits_Divide_rows a b).length bits_Divide_dirs d R Q) = (bits_Divide_t a b).q (fun X => Q (bits_Divide_enc X) (bits_Divide_out X)) := by kernel_rfl
set_option maxRecDepth 100000 in
theorem bits_Divide_calls (a : Int) (b : Int) (hw : bits_Divide_pre a b) : ACalls Tryz.prog 221 (bits_Divide_args a b) (bits_Divide_rows a b) (bits_Divide_enc (bits_Divide a b)) (bits_Divide_out (bits_Divide a b)) :=
  have hG : AllOK Tryz.prog [] := .nil
  FnOK.calls drawn tabOK hG Tryz.func221 (LL_ok drawn tabOK hG 2 (invs := [])) (FnOK.of (bits_Divide_nf a b _) (Tree.main' hw ⟨rfl, rfl⟩))
set_option maxRecDepth 100000 in
theorem bits_Divide_conv (args : List D) (rows : List Row) : convA bits_Divide_sig args 0 = bits_Divide_args (argI args 0) (argI args 1) := by kernel_rfl
set_option maxRecDepth 100000 in
theorem bits_Divide_convR (args : List D) (rows : List Row) : convRs bits_Divide_rsig rows 0 = bits_Divide_rows (argI args 0) (argI args 1) := by kernel_rfl
set_option maxRecDepth 100000 in
theorem bits_Divide_ff (X : (Int × Int)) : (ffB (bits_Divide_enc X) && ffBR (bits_Divide_out X)) = true := by kernel_rfl
theorem bits_Divide_ok : ModelOK Tryz.prog bits_Divide_m := mkP_ok Tryz.call221 (fun args rows hp => by rw [bits_Divide_conv args rows, bits_Divide_convR args rows]; exact bits_Divide_calls (argI args 0) (argI args 1) hp) (fun _ X => bits_Divide_ff X)
def cpu_truth_t (b : Bool) : Tree Int :=
.br b (.lf (1 : Int)) (.lf (0 : Int))
def cpu_truth (b : Bool) : Int := (cpu_truth_t b).m
theorem cpu_truth_tot (b : Bool) : (cpu_truth_t b).p := (wB wL wL)
def cpu_truth_args (b : Bool) : List D := [.bool b]
def cpu_truth_rows (b : Bool) : List Row := []
def cpu_truth_enc (X : Int) : D := .int .u32 X
def cpu_truth_out (X : Int) : List Row := []
def cpu_truth_dirs : List Dir := []
def cpu_truth_sig : List PT := [.one (.bool)]
def cpu_truth_rsig : List RT := []
def cpu_truth_val (args : List D) (rows : List Row) : Int := cpu_truth (argB args 0)
def cpu_truth_m : Model := mkR 222 [] true cpu_truth_sig cpu_truth_rsig cpu_truth_val cpu_truth_enc cpu_truth_out
set_option maxRecDepth 100000 in
theorem cpu_truth_nf (b : Bool) (Q : D → List Row → Prop) : (fnVC tab [] (LL tab [] Tryz.f222.ntmps 0 [] 2) Tryz.f222 (cpu_truth_args b) (cpu_truth_rows b) fun d R => canonVC (cpu_truth_rows b).length cpu_truth_dirs d R Q) = (cpu_truth_t b).q (fun X => Q (cpu_truth_enc X) (cpu_truth_out X)) := by kernel_rfl
set_option maxRecDepth 100000 in
theorem cpu_truth_calls (b : Bool) : ACalls Tryz.prog 222 (cpu_truth_args b) (cpu_truth_rows b) (cpu_truth_enc (cpu_truth b)) (cpu_truth_out (cpu_truth b)) :=
  have hG : AllOK Tryz.prog [] := .nil
  FnOK.calls drawn tabOK hG Tryz.func222 (LL_ok drawn tabOK hG 2 (invs := [])) (FnOK.of (cpu_truth_nf b _) (Tree.main' (cpu_truth_tot b) ⟨rfl, rfl⟩))
set_option maxRecDepth 100000 in
theorem cpu_truth_conv (args : List D) (rows : List Row) : convA cpu_truth_sig args 0 = cpu_truth_args (argB args 0) := by kernel_rfl
set_option maxRecDepth 100000 in
theorem cpu_truth_convR (args : List D) (rows : List Row) : convRs cpu_truth_rsig rows 0 = cpu_truth_rows (argB args 0) := by kernel_rfl
set_option maxRecDepth 100000 in
theorem cpu_truth_ff (X : Int) : (ffB (cpu_truth_enc X) && ffBR (cpu_truth_out X)) = true := by kernel_rfl
theorem cpu_truth_ok : ModelOK Tryz.prog cpu_truth_m := mkR_ok Tryz.call222 (fun args rows => by rw [cpu_truth_conv args rows, cpu_truth_convR args rows]; exact cpu_truth_calls (argB args 0)) (fun _ X => cpu_truth_ff X)
def cpu_Alu_t (op : Int) (a : Int) (b : Int) : Tree (Int × Bool) :=
.br (op == (2 : Int)) (.lf (IntKind.wrap IntKind.u32 (a + IntKind.wrap IntKind.u32 ((0 : Int) - b)), true)) (.br (op == (1 : Int)) (.lf (IntKind.wrap IntKind.u32 (a + b), true)) (.br (op == (16 : Int)) (.lf (IntKind.wrap IntKind.u32 (a + b), true)) (.br (op == (3 : Int)) (.lf (iand IntKind.u32 a b, true)) (.br (op == (17 : Int)) (.lf (iand IntKind.u32 a b, true)) (.br (op == (4 : Int)) (.lf (ior IntKind.u32 a b, true)) (.br (op == (18 : Int)) (.lf (ior IntKind.u32 a b, true)) (.br (op == (5 : Int)) (.lf (ixor IntKind.u32 a b, true)) (.br (op == (19 : Int)) (.lf (ixor IntKind.u32 a b, true)) (.br (op == (6 : Int)) (.lf (ishl IntKind.u32 a (iand IntKind.u32 b (31 : Int)), true)) (.br (op == (20 : Int)) (.lf (ishl IntKind.u32 a (iand IntKind.u32 b (31 : Int)), true)) (.br (op == (7 : Int)) (.lf (ishr IntKind.u32 a (iand IntKind.u32 b (31 : Int)), true)) (.br (op == (21 : Int)) (.lf (ishr IntKind.u32 a (iand IntKind.u32 b (31 : Int)), true)) (.br (op == (8 : Int)) (.lf (IntKind.wrap IntKind.u32 (ishr IntKind.i32 (IntKind.wrap IntKind.i32 a) (iand IntKind.u32 b (31 : Int))), true)) (.br (op == (22 : Int)) (.lf (IntKind.wrap IntKind.u32 (ishr IntKind.i32 (IntKind.wrap IntKind.i32 a) (iand IntKind.u32 b (31 : Int))), true)) (.br (op == (9 : Int)) (.lf (IntKind.wrap IntKind.u32 (a * b), true)) (.br (op == (10 : Int)) (.an (bits_Divide_pre a b) (.lv (bits_Divide a b) fun (x0 : Int × Int) => .lf (x0.fst, true))) (.br (op == (11 : Int)) (.an (bits_Divide_pre a b) (.lv (bits_Divide a b) fun (x1 : Int × Int) => .lf (x1.snd, true))) (.br (op == (12 : Int)) (.lv (cpu_truth (decide (IntKind.wrap IntKind.i32 a < IntKind.wrap IntKind.i32 b))) fun (x2 : Int) => .lf (x2, true)) (.br (op == (23 : Int)) (.lv (cpu_truth (decide (IntKind.wrap IntKind.i32 a < IntKind.wrap IntKind.i32 b))) fun (x3 : Int) => .lf (x3, true)) (.br (op == (13 : Int)) (.lv (cpu_truth (decide (a < b))) fun (x4 : Int) => .lf (x4, true)) (.lf ((0 : Int), false))))))))))))))))))))))
def cpu_Alu (op : Int) (a : Int) (b : Int) : (Int × Bool) := (cpu_Alu_t op a b).m
abbrev cpu_Alu_pre (op : Int) (a : Int) (b : Int) : Prop := (cpu_Alu_t op a b).p
def cpu_Alu_args (op : Int) (a : Int) (b : Int) : List D := [.int .i64 op, .int .u32 a, .int .u32 b]
def cpu_Alu_rows (op : Int) (a : Int) (b : Int) : List Row := []
def cpu_Alu_enc (X : (Int × Bool)) : D := .tup [.int .u32 (X.1), .bool (X.2)]
def cpu_Alu_out (X : (Int × Bool)) : List Row := []
def cpu_Alu_dirs : List Dir := []
def cpu_Alu_sig : List PT := [.one (.int .i64), .one (.int .u32), .one (.int .u32)]
def cpu_Alu_rsig : List RT := []
def cpu_Alu_val (args : List D) (rows : List Row) : (Int × Bool) := cpu_Alu (argI args 0) (argI args 1) (argI args 2)
def cpu_Alu_prf (args : List D) (rows : List Row) : Prop := cpu_Alu_pre (argI args 0) (argI args 1) (argI args 2)
def cpu_Alu_m : Model := mkP 179 [] true cpu_Alu_sig cpu_Alu_rsig cpu_Alu_prf cpu_Alu_val cpu_Alu_enc cpu_Alu_out
set_option maxRecDepth 100000 in
theorem cpu_Alu_nf (op : Int) (a : Int) (b : Int) (Q : D → List Row → Prop) : (fnVC tab [bits_Divide_m, cpu_truth_m] (LL tab [bits_Divide_m, cpu_truth_m] Tryz.f179.ntmps 0 [] 2) Tryz.f179 (cpu_Alu_args op a b) (cpu_Alu_rows op a b) fun d R => canonVC (cpu_Alu_rows op a b).length cpu_Alu_dirs d R Q) = (cpu_Alu_t op a b).q (fun X => Q (cpu_Alu_enc X) (cpu_Alu_out X)) := by kernel_rfl
set_option maxRecDepth 100000 in
theorem cpu_Alu_calls (op : Int) (a : Int) (b : Int) (hw : cpu_Alu_pre op a b) : ACalls Tryz.prog 179 (cpu_Alu_args op a b) (cpu_Alu_rows op a b) (cpu_Alu_enc (cpu_Alu op a b)) (cpu_Alu_out (cpu_Alu op a b)) :=
  have hG : AllOK Tryz.prog [bits_Divide_m, cpu_truth_m] := .cons bits_Divide_ok (.cons cpu_truth_ok (.nil))
  FnOK.calls drawn tabOK hG Tryz.func179 (LL_ok drawn tabOK hG 2 (invs := [])) (FnOK.of (cpu_Alu_nf op a b _) (Tree.main' hw ⟨rfl, rfl⟩))
set_option maxRecDepth 100000 in
theorem cpu_Alu_conv (args : List D) (rows : List Row) : convA cpu_Alu_sig args 0 = cpu_Alu_args (argI args 0) (argI args 1) (argI args 2) := by kernel_rfl
set_option maxRecDepth 100000 in
theorem cpu_Alu_convR (args : List D) (rows : List Row) : convRs cpu_Alu_rsig rows 0 = cpu_Alu_rows (argI args 0) (argI args 1) (argI args 2) := by kernel_rfl
set_option maxRecDepth 100000 in
theorem cpu_Alu_ff (X : (Int × Bool)) : (ffB (cpu_Alu_enc X) && ffBR (cpu_Alu_out X)) = true := by kernel_rfl
theorem cpu_Alu_ok : ModelOK Tryz.prog cpu_Alu_m := mkP_ok Tryz.call179 (fun args rows hp => by rw [cpu_Alu_conv args rows, cpu_Alu_convR args rows]; exact cpu_Alu_calls (argI args 0) (argI args 1) (argI args 2) hp) (fun _ X => cpu_Alu_ff X)
end
end Go.Proofs.YtdkiadhigcfmkaaGreat

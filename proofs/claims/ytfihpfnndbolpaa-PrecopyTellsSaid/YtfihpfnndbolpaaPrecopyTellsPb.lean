/-
  Functions of the program: models, and that its calls come to them (by a program: gen3.py).
-/
import Derived.Test.YtfihpfnndbolpaaPrecopyTellsBase
import Derived.Test.YtfihpfnndbolpaaPrecopyTellsPa
namespace Go.Proofs.Ytfihpfnndbolpaa
open Go Go.GD Go.IntKind
set_option linter.unusedVariables false
set_option linter.unusedSimpArgs false
set_option maxRecDepth 100000
noncomputable section
instance sumInhPb {α β : Type} [Inhabited β] : Inhabited (α ⊕ β) := ⟨.inr default⟩
def memory_New_t (pages : Int) : Tree (List Int) :=
.br (decide (pages < 1)) (.lf ([])) (.br (decide (pages > 32)) (.lf ([])) (.cn (Nat.blt 0 1 && Nat.beq 1 1 && List.all [D.int u32 0] D.plain && decide (0 ≤ wrap i64 (pages * 32) ∧ wrap i64 (pages * 32) ≤ wrap i64 (pages * 32) ∧ wrap i64 (pages * 32) ≤ 9223372036854775807 ∧ (↑4 : Int) * wrap i64 (pages * 32) ≤ 140737488355328)) (.lf (List.replicate (Int.toNat (wrap i64 (pages * 32))) 0))))
def memory_New (pages : Int) : (List Int) := (memory_New_t pages).m
abbrev memory_New_pre (pages : Int) : Prop := (memory_New_t pages).p
def memory_New_m : Model := mkP 8 [] true [.one (.int .i64)] [] (fun args rows => memory_New_pre (argI args 0)) (fun args rows => memory_New (argI args 0)) (fun X => .all 0) (fun X => [⟨false, 61, 1, .ints .u32 X⟩])
theorem memory_New_ok : ModelOK Try.prog memory_New_m := mkP_of drawn tabOK (.nil) Try.func8 Try.call8 (fun args rows => memory_New_t (argI args 0)) [.row 61 1 (.ints .u32)] [] 2 (fun _ _ _ => by kernel_rfl) (fun _ _ => rfl) (fun _ _ h => h) (fun _ X => by kernel_rfl)
def slices_Clone_uint32_uint32 (s : (List Int)) : (List Int) :=
s
def slices_Clone_uint32_uint32_pre (s : (List Int)) : Prop :=
s.length ≤ 35184372088832
def slices_Clone_uint32_uint32_args (s : (List Int)) : List D := [.sl 1 (.ints .u32 s) false]
def slices_Clone_uint32_uint32_rows (s : (List Int)) : List Row := []
def slices_Clone_uint32_uint32_enc (X : (List Int)) : D := .all 0
def slices_Clone_uint32_uint32_out (X : (List Int)) : List Row := [⟨false, 61, 1, .ints .u32 X⟩]
def slices_Clone_uint32_uint32_dirs : List Dir := [.row 61 1 (.ints .u32)]
def slices_Clone_uint32_uint32_sig : List PT := [.one (.ints .u32)]
def slices_Clone_uint32_uint32_rsig : List RT := []
def slices_Clone_uint32_uint32_val (args : List D) (rows : List Row) : (List Int) := slices_Clone_uint32_uint32 (argL .u32 args 0)
def slices_Clone_uint32_uint32_prf (args : List D) (rows : List Row) : Prop := slices_Clone_uint32_uint32_pre (argL .u32 args 0)
def slices_Clone_uint32_uint32_m : Model := mkP 37 [] true slices_Clone_uint32_uint32_sig slices_Clone_uint32_uint32_rsig slices_Clone_uint32_uint32_prf slices_Clone_uint32_uint32_val slices_Clone_uint32_uint32_enc slices_Clone_uint32_uint32_out
def slices_Clone_uint32_uint32_q (s : (List Int)) (Leaf : (List Int) → Prop) : Prop :=
(s = [] → Leaf []) ∧ cand (decide ((4 : Nat) * ((0 : Nat) + List.length s) ≤ (140737488355328 : Nat))) (Leaf s)
set_option maxRecDepth 100000 in
theorem slices_Clone_uint32_uint32_nf (s : (List Int)) (Q : D → List Row → Prop) : (fnVC tab [] (LL tab [] Try.f37.ntmps 0 [] 2) Try.f37 (slices_Clone_uint32_uint32_args s) (slices_Clone_uint32_uint32_rows s) fun d R => canonVC (slices_Clone_uint32_uint32_rows s).length slices_Clone_uint32_uint32_dirs d R Q) = slices_Clone_uint32_uint32_q s (fun X => Q (slices_Clone_uint32_uint32_enc X) (slices_Clone_uint32_uint32_out X)) := by kernel_rfl
theorem slices_Clone_uint32_uint32_main (s : (List Int)) (Leaf : (List Int) → Prop) (hw : slices_Clone_uint32_uint32_pre s) (h : Leaf (slices_Clone_uint32_uint32 s)) :
slices_Clone_uint32_uint32_q s Leaf := by
  delta slices_Clone_uint32_uint32_q
  refine ⟨fun e => by rw [e] at h; exact h, ?_⟩
  rw [cand_iff]
  refine ⟨decide_eq_true ?_, h⟩
  have : s.length ≤ 35184372088832 := hw
  omega
set_option maxRecDepth 100000 in
theorem slices_Clone_uint32_uint32_calls (s : (List Int)) (hw : slices_Clone_uint32_uint32_pre s) : ACalls Try.prog 37 (slices_Clone_uint32_uint32_args s) (slices_Clone_uint32_uint32_rows s) (slices_Clone_uint32_uint32_enc (slices_Clone_uint32_uint32 s)) (slices_Clone_uint32_uint32_out (slices_Clone_uint32_uint32 s)) :=
  have hG : AllOK Try.prog [] := .nil
  FnOK.calls drawn tabOK hG Try.func37 (rf := none) (fun _ _ => trivial) (LL_ok drawn tabOK hG (.inl rfl) 2 (invs := [])) (FnOK.of (slices_Clone_uint32_uint32_nf s _) (slices_Clone_uint32_uint32_main s (fun X => slices_Clone_uint32_uint32_enc X = slices_Clone_uint32_uint32_enc (slices_Clone_uint32_uint32 s) ∧ slices_Clone_uint32_uint32_out X = slices_Clone_uint32_uint32_out (slices_Clone_uint32_uint32 s)) hw ⟨rfl, rfl⟩))
set_option maxRecDepth 100000 in
theorem slices_Clone_uint32_uint32_conv (args : List D) (rows : List Row) : convA slices_Clone_uint32_uint32_sig args 0 = slices_Clone_uint32_uint32_args (argL .u32 args 0) := by kernel_rfl
set_option maxRecDepth 100000 in
theorem slices_Clone_uint32_uint32_convR (args : List D) (rows : List Row) : convRs slices_Clone_uint32_uint32_rsig rows 0 = slices_Clone_uint32_uint32_rows (argL .u32 args 0) := by kernel_rfl
set_option maxRecDepth 100000 in
theorem slices_Clone_uint32_uint32_ff (X : (List Int)) : (ffB (slices_Clone_uint32_uint32_enc X) && ffBR (slices_Clone_uint32_uint32_out X)) = true := by kernel_rfl
theorem slices_Clone_uint32_uint32_ok : ModelOK Try.prog slices_Clone_uint32_uint32_m := mkP_ok Try.call37 (fun args rows hp => by rw [slices_Clone_uint32_uint32_conv args rows, slices_Clone_uint32_uint32_convR args rows]; exact slices_Clone_uint32_uint32_calls (argL .u32 args 0) hp) (fun _ X => slices_Clone_uint32_uint32_ff X)
def memory_Pages_t (m : (List Int)) : Tree Int :=
.br (Int.tmod (↑(List.length m) : Int) (32 : Int) != (0 : Int)) (.lf 0) (.br (decide ((↑(List.length m) : Int) > (1024 : Int))) (.lf 0) (.lf (wrap i64 (Int.tdiv (↑(List.length m) : Int) 32))))
def memory_Pages (m : (List Int)) : Int := (memory_Pages_t m).m
def memory_Pages_m : Model := mkR 31 [] true [.one (.ints .u32)] [] (fun args rows => memory_Pages (argL .u32 args 0)) (fun X => .int .i64 X) (fun X => [])
theorem memory_Pages_ok : ModelOK Try.prog memory_Pages_m := mkR_of drawn tabOK (.nil) Try.func31 Try.call31 (fun args rows => memory_Pages_t (argL .u32 args 0)) [] [] 2 (fun _ _ _ => by kernel_rfl) (fun _ _ => rfl) (fun _ _ => Tree.free_ok (by kernel_rfl)) (fun _ X => by kernel_rfl)
def memory_hasPage_t (m : (List Int)) (frame : Int) : Tree Bool :=
.br (decide (frame ≥ 0)) (.lv (memory_Pages m) fun (x0 : Int) => .lf (decide (frame < x0))) (.lf false)
def memory_hasPage (m : (List Int)) (frame : Int) : Bool := (memory_hasPage_t m frame).m
def memory_hasPage_m : Model := mkR 44 [] true [.one (.ints .u32), .one (.int .i64)] [] (fun args rows => memory_hasPage (argL .u32 args 0) (argI args 1)) (fun X => .bool X) (fun X => [])
theorem memory_hasPage_ok : ModelOK Try.prog memory_hasPage_m := mkR_of drawn tabOK (.cons memory_Pages_ok (.nil)) Try.func44 Try.call44 (fun args rows => memory_hasPage_t (argL .u32 args 0) (argI args 1)) [] [] 2 (fun _ _ _ => by kernel_rfl) (fun _ _ => rfl) (fun _ _ => Tree.free_ok (by kernel_rfl)) (fun _ X => by kernel_rfl)
def memory_text_inv0 (words : (List Int)) (z : (Int) × (List Int)) : Prop := 0 ≤ z.1 ∧ z.1 ≤ words.length ∧ (z.2.length : Int) = 4 * z.1
def memory_text_meas0 (words : (List Int)) (z : (Int) × (List Int)) : Nat := (words.length - z.1).toNat
def memory_text_t (words : (List Int)) : Tree (List UInt8) :=
.cn (Nat.blt 0 1 && Nat.beq 1 1 && List.all [D.int u8 0] D.plain && decide ((0 : Int) ≤ (0 : Int) ∧ 0 ≤ wrap i64 (4 * (↑(List.length words) : Int)) ∧ wrap i64 (4 * (↑(List.length words) : Int)) ≤ 9223372036854775807 ∧ (↑1 : Int) * wrap i64 (4 * (↑(List.length words) : Int)) ≤ 140737488355328)) (.lp inferInstance (memory_text_meas0 words (0, []) + 1) ((True ∧ ((Els.Nil (Els.ints u32 words) ∨ rE (1 : Nat)) ∧ rE (words : List Int)) ∧ rE ((↑(List.length words) : Int) : Int) ∧ rE (0 : Int) ∧ True) ∧ rE ([] : List Int) ∧ True) (0, []) fun (v0 : Int × List Int) => .br (decide (v0.fst < (↑(List.length words) : Int))) (.cn (Nat.beq (nat_lit 1) 1 && Nat.blt 0 1 && decide (0 ≤ v0.fst ∧ v0.fst < (↑(List.length words) : Int))) (.cn (decide (1 * (List.length v0.snd + 4) ≤ 140737488355328)) (let E1 := List.getD words (Int.toNat v0.fst) 0; .nx ((True ∧ ((Els.Nil (Els.ints u32 words) ∨ rE ((nat_lit 1) : Nat)) ∧ rE (words : List Int)) ∧ rE ((↑(List.length words) : Int) : Int) ∧ rE ((wrap i64 (v0.fst + 1)) : Int) ∧ True) ∧ rE ((v0.snd ++ [wrap u8 (List.getD words (Int.toNat v0.fst) 0), wrap u8 (ishr u32 (List.getD words (Int.toNat v0.fst) 0) 8), wrap u8 (ishr u32 (List.getD words (Int.toNat v0.fst) 0) 16), wrap u8 (ishr u32 (List.getD words (Int.toNat v0.fst) 0) 24)]) : List Int) ∧ True) (Sum.inl (wrap i64 (v0.fst + 1), v0.snd ++ [wrap u8 E1, wrap u8 (ishr u32 E1 8), wrap u8 (ishr u32 E1 16), wrap u8 (ishr u32 E1 24)]))))) (.lf (Sum.inr (bytesOf v0.snd))))
def memory_text (words : (List Int)) : (List UInt8) := (memory_text_t words).m
def memory_text_pre (words : (List Int)) : Prop :=
words.length ≤ 1000000000000
theorem memory_text_tot (words : (List Int)) (hw : memory_text_pre words) : (memory_text_t words).p := by
  simp only [memory_text_pre] at hw
  unfold Tree.p memory_text_t
  repeat' (first | refine w_lp (inv := memory_text_inv0 words) (μ := memory_text_meas0 words) ?_ (Nat.lt_succ_self _) (fun _ _ => ?_) | exact trivial | refine w_br (fun _ => ?_) (fun _ => ?_) | refine w_cn ?_ ?_ | refine w_an ?_ ?_ | refine w_lv (fun _ _ => ?_) | refine w_nx ?_ | refine w_lf ?_ | refine And.intro ?_ ?_)
  all_goals ((try simp only [memory_text_inv0, memory_text_meas0] at *); ((subst_vars; first | trivial | assumption | omega | ((simp (config := { decide := true, failIfUnchanged := false }) only [Bool.and_eq_true, Bool.or_eq_true, Bool.and_eq_false_iff, Bool.or_eq_false_iff, Bool.not_eq_true', Bool.not_eq_false', Bool.not_eq_true, Bool.not_eq_false, decide_eq_true_eq, decide_eq_false_iff_not, blt_iff, blt_niff, beq_iff, beq_niff, beq_iff_eq, beq_eq_false_iff_ne, bne_iff_ne, bne_eq_false_iff_eq, ne_eq, List.all_cons, List.all_nil, D.plain, List.length_cons, List.length_nil, List.length_append, List.length_set, List.length_replicate, IntKind.wrap_i64, IntKind.wrap_u64, IntKind.wrap_u32, IntKind.wrap_i32, IntKind.wrap_u8, true_and, and_true, or_false, false_or, or_true, true_or, not_true_eq_false, not_false_eq_true, Prod.fst, Prod.snd] at *); first | done | assumption | omega) | ((simp (config := { decide := true, failIfUnchanged := false }) only [Bool.and_eq_true, Bool.or_eq_true, Bool.and_eq_false_iff, Bool.or_eq_false_iff, Bool.not_eq_true', Bool.not_eq_false', Bool.not_eq_true, Bool.not_eq_false, decide_eq_true_eq, decide_eq_false_iff_not, blt_iff, blt_niff, beq_iff, beq_niff, beq_iff_eq, beq_eq_false_iff_ne, bne_iff_ne, bne_eq_false_iff_eq, ne_eq, List.all_cons, List.all_nil, D.plain, List.length_cons, List.length_nil, List.length_append, List.length_set, List.length_replicate, IntKind.wrap_i64, IntKind.wrap_u64, IntKind.wrap_u32, IntKind.wrap_i32, IntKind.wrap_u8, true_and, and_true, or_false, false_or, or_true, true_or, not_true_eq_false, not_false_eq_true, Prod.fst, Prod.snd] at *); simp only [← List.length_pos_iff] at *; omega) | (simp_all; done) | (have := @len_pos; simp_all; try omega))))
def memory_text_i0 : LInv := {
  α := (Int) × (List Int)
  F := fun st a => ([(3, .all 0), (10, (lk st 10)), (11, (lk st 11)), (12, .int i64 a.1)], [⟨false, 5, 1, .ints u8 a.2⟩])
  a0 := fun st => ((lk st 12).toInt, (intsOf st.rows (rN st 3)))
  ex0 := fun st => [] ++ [(rowNo (lk st 3) (st.rows.length + 0))]
  next := fun st => ((lk st 12).toInt, (intsOf st.rows (rN st 3)))
  ex := fun st => [] ++ [(rowNo (lk st 3) (st.rows.length + 0))] }
def memory_text_invs : List (Nat × LInv) := [(3, memory_text_i0)]
def memory_text_m : Model := mkP 45 [] true [.one (.ints .u32)] [] (fun args rows => memory_text_pre (argL .u32 args 0)) (fun args rows => memory_text (argL .u32 args 0)) (fun X => .str X) (fun X => [])
theorem memory_text_ok : ModelOK Try.prog memory_text_m := mkP_of drawn tabOK (.nil) Try.func45 Try.call45 (fun args rows => memory_text_t (argL .u32 args 0)) [] memory_text_invs 3 (fun _ _ _ => by kernel_rfl) (fun _ _ => rfl) (fun args rows h => memory_text_tot (argL .u32 args 0) h) (fun _ X => by kernel_rfl)
def memory_Page_t (m : (List Int)) (frame : Int) : Tree ((List UInt8) × Bool) :=
.lv (memory_hasPage m frame) fun (x0 : Bool) => .br (!x0) (.lf ([], false)) (.cn (Nat.beq 1 1 && Nat.blt 0 1 && decide (0 ≤ wrap i64 (frame * 32) ∧ wrap i64 (frame * 32) ≤ wrap i64 (wrap i64 (frame * 32) + 32) ∧ wrap i64 (wrap i64 (frame * 32) + 32) ≤ (↑(List.length m) : Int))) (let E1 := List.take (Int.toNat (wrap i64 (wrap i64 (frame * 32) + 32)) - Int.toNat (wrap i64 (frame * 32))) (List.drop (Int.toNat (wrap i64 (frame * 32))) m); .an (memory_text_pre E1) (.lv (memory_text E1) fun (x1 : List UInt8) => .lf (x1, true))))
def memory_Page (m : (List Int)) (frame : Int) : ((List UInt8) × Bool) := (memory_Page_t m frame).m
abbrev memory_Page_pre (m : (List Int)) (frame : Int) : Prop := (memory_Page_t m frame).p
def memory_Page_m : Model := mkP 33 [] true [.one (.ints .u32), .one (.int .i64)] [] (fun args rows => memory_Page_pre (argL .u32 args 0) (argI args 1)) (fun args rows => memory_Page (argL .u32 args 0) (argI args 1)) (fun X => .tup [.str (X.1), .bool (X.2)]) (fun X => [])
theorem memory_Page_ok : ModelOK Try.prog memory_Page_m := mkP_of drawn tabOK (.cons memory_hasPage_ok (.cons memory_text_ok (.nil))) Try.func33 Try.call33 (fun args rows => memory_Page_t (argL .u32 args 0) (argI args 1)) [] [] 2 (fun _ _ _ => by kernel_rfl) (fun _ _ => rfl) (fun _ _ h => h) (fun _ X => by kernel_rfl)
def memory_SetPage_meas0 (m : (List Int)) (frame : Int) (s : (List UInt8)) (z : (Int) × (List Int)) : Nat := (32 - z.1).toNat
def memory_SetPage_t (m : (List Int)) (frame : Int) (s : (List UInt8)) : Tree ((List Int) × Bool) :=
.an (slices_Clone_uint32_uint32_pre m) (.lv (slices_Clone_uint32_uint32 m) fun (x0 : List Int) => .lv (memory_hasPage m frame) fun (x1 : Bool) => .br (!x1) (.lf (x0, false)) (.br ((↑(List.length s) : Int) != (128 : Int)) (.lf (x0, false)) (.lp inferInstance (memory_SetPage_meas0 m frame s (0, x0) + 1) ((rE (s : List UInt8) ∧ True ∧ rE ((wrap i64 (frame * 32)) : Int) ∧ rE (0 : Int) ∧ True) ∧ rE (x0 : List Int) ∧ True) (0, x0) fun (v0 : Int × List Int) => .br (decide (v0.fst < 32)) (.cn (decide (0 ≤ wrap i64 (4 * v0.fst) ∧ wrap i64 (4 * v0.fst) ≤ wrap i64 (wrap i64 (4 * v0.fst) + 4) ∧ wrap i64 (wrap i64 (4 * v0.fst) + 4) ≤ (↑(List.length s) : Int))) (let E1 := List.take (Int.toNat (wrap i64 (wrap i64 (4 * v0.fst) + 4)) - Int.toNat (wrap i64 (4 * v0.fst))) (List.drop (Int.toNat (wrap i64 (4 * v0.fst))) s); .cn (decide ((0 : Int) ≤ (0 : Int) ∧ 0 < (↑(List.length E1) : Int))) (.cn (decide ((0 : Int) ≤ (1 : Int) ∧ 1 < (↑(List.length E1) : Int))) (.cn (decide ((0 : Int) ≤ (2 : Int) ∧ 2 < (↑(List.length E1) : Int))) (.cn (decide ((0 : Int) ≤ (3 : Int) ∧ 3 < (↑(List.length E1) : Int))) (.cn (Nat.beq (nat_lit 1) 1 && Nat.blt 0 1 && decide (0 ≤ wrap i64 (wrap i64 (frame * 32) + v0.fst) ∧ wrap i64 (wrap i64 (frame * 32) + v0.fst) < (↑(List.length v0.snd) : Int))) (.nx ((rE (s : List UInt8) ∧ True ∧ rE ((wrap i64 (frame * 32)) : Int) ∧ rE ((wrap i64 (v0.fst + 1)) : Int) ∧ True) ∧ rE ((List.set v0.snd (Int.toNat (wrap i64 (wrap i64 (frame * 32) + v0.fst))) (ior u32 (ior u32 (ior u32 (wrap u32 (↑(UInt8.toNat (List.getD (List.take (Int.toNat (wrap i64 (wrap i64 (4 * v0.fst) + 4)) - Int.toNat (wrap i64 (4 * v0.fst))) (List.drop (Int.toNat (wrap i64 (4 * v0.fst))) s)) (Int.toNat 0) (0 : UInt8))) : Int)) (ishl u32 (wrap u32 (↑(UInt8.toNat (List.getD (List.take (Int.toNat (wrap i64 (wrap i64 (4 * v0.fst) + 4)) - Int.toNat (wrap i64 (4 * v0.fst))) (List.drop (Int.toNat (wrap i64 (4 * v0.fst))) s)) (Int.toNat 1) (0 : UInt8))) : Int)) 8)) (ishl u32 (wrap u32 (↑(UInt8.toNat (List.getD (List.take (Int.toNat (wrap i64 (wrap i64 (4 * v0.fst) + 4)) - Int.toNat (wrap i64 (4 * v0.fst))) (List.drop (Int.toNat (wrap i64 (4 * v0.fst))) s)) (Int.toNat 2) (0 : UInt8))) : Int)) 16)) (ishl u32 (wrap u32 (↑(UInt8.toNat (List.getD (List.take (Int.toNat (wrap i64 (wrap i64 (4 * v0.fst) + 4)) - Int.toNat (wrap i64 (4 * v0.fst))) (List.drop (Int.toNat (wrap i64 (4 * v0.fst))) s)) (Int.toNat 3) (0 : UInt8))) : Int)) 24))) : List Int) ∧ True) (Sum.inl (wrap i64 (v0.fst + 1), List.set v0.snd (Int.toNat (wrap i64 (wrap i64 (frame * 32) + v0.fst))) (ior u32 (ior u32 (ior u32 (wrap u32 (↑(UInt8.toNat (List.getD E1 (Int.toNat 0) (0 : UInt8))) : Int)) (ishl u32 (wrap u32 (↑(UInt8.toNat (List.getD E1 (Int.toNat 1) (0 : UInt8))) : Int)) 8)) (ishl u32 (wrap u32 (↑(UInt8.toNat (List.getD E1 (Int.toNat 2) (0 : UInt8))) : Int)) 16)) (ishl u32 (wrap u32 (↑(UInt8.toNat (List.getD E1 (Int.toNat 3) (0 : UInt8))) : Int)) 24))))))))))) (.lf (Sum.inr (v0.snd, true))))))
def memory_SetPage (m : (List Int)) (frame : Int) (s : (List UInt8)) : ((List Int) × Bool) := (memory_SetPage_t m frame s).m
abbrev memory_SetPage_pre (m : (List Int)) (frame : Int) (s : (List UInt8)) : Prop := (memory_SetPage_t m frame s).p
def memory_SetPage_i0 : LInv := {
  α := (Int) × (List Int)
  F := fun st a => ([(2, (lk st 2)), (8, .all 0), (9, (lk st 9)), (26, .int i64 a.1)], [⟨false, 61, 1, .ints u32 a.2⟩])
  a0 := fun st => ((lk st 26).toInt, (intsOf st.rows (rN st 8)))
  ex0 := fun st => [] ++ [(rowNo (lk st 8) (st.rows.length + 0))]
  next := fun st => ((lk st 26).toInt, (intsOf st.rows (rN st 8)))
  ex := fun st => [] ++ [(rowNo (lk st 8) (st.rows.length + 0))] }
def memory_SetPage_invs : List (Nat × LInv) := [(6, memory_SetPage_i0)]
def memory_SetPage_m : Model := mkP 38 [] true [.one (.ints .u32), .one (.int .i64), .one (.str)] [] (fun args rows => memory_SetPage_pre (argL .u32 args 0) (argI args 1) (argS args 2)) (fun args rows => memory_SetPage (argL .u32 args 0) (argI args 1) (argS args 2)) (fun X => .tup [.all 0, .bool (X.2)]) (fun X => [⟨false, 61, 1, .ints .u32 (X.1)⟩])
theorem memory_SetPage_ok : ModelOK Try.prog memory_SetPage_m := mkP_of drawn tabOK (.cons slices_Clone_uint32_uint32_ok (.cons memory_hasPage_ok (.nil))) Try.func38 Try.call38 (fun args rows => memory_SetPage_t (argL .u32 args 0) (argI args 1) (argS args 2)) [.row 61 1 (.ints .u32)] memory_SetPage_invs 3 (fun _ _ _ => by kernel_rfl) (fun _ _ => rfl) (fun _ _ h => h) (fun _ X => by kernel_rfl)
def slices_Clone_bool_bool (s : (List Bool)) : (List Bool) :=
s
def slices_Clone_bool_bool_pre (s : (List Bool)) : Prop :=
s.length ≤ 140737488355328
def slices_Clone_bool_bool_args (s : (List Bool)) : List D := [.sl 1 (.bools s) false]
def slices_Clone_bool_bool_rows (s : (List Bool)) : List Row := []
def slices_Clone_bool_bool_enc (X : (List Bool)) : D := .all 0
def slices_Clone_bool_bool_out (X : (List Bool)) : List Row := [⟨false, 4, 1, .bools X⟩]
def slices_Clone_bool_bool_dirs : List Dir := [.row 4 1 (.bools)]
def slices_Clone_bool_bool_sig : List PT := [.one (.bools)]
def slices_Clone_bool_bool_rsig : List RT := []
def slices_Clone_bool_bool_val (args : List D) (rows : List Row) : (List Bool) := slices_Clone_bool_bool (argM args 0)
def slices_Clone_bool_bool_prf (args : List D) (rows : List Row) : Prop := slices_Clone_bool_bool_pre (argM args 0)
def slices_Clone_bool_bool_m : Model := mkP 42 [] true slices_Clone_bool_bool_sig slices_Clone_bool_bool_rsig slices_Clone_bool_bool_prf slices_Clone_bool_bool_val slices_Clone_bool_bool_enc slices_Clone_bool_bool_out
def slices_Clone_bool_bool_q (s : (List Bool)) (Leaf : (List Bool) → Prop) : Prop :=
(s = [] → Leaf []) ∧ cand (decide ((1 : Nat) * ((0 : Nat) + List.length s) ≤ (140737488355328 : Nat))) (Leaf s)
set_option maxRecDepth 100000 in
theorem slices_Clone_bool_bool_nf (s : (List Bool)) (Q : D → List Row → Prop) : (fnVC tab [] (LL tab [] Try.f42.ntmps 0 [] 2) Try.f42 (slices_Clone_bool_bool_args s) (slices_Clone_bool_bool_rows s) fun d R => canonVC (slices_Clone_bool_bool_rows s).length slices_Clone_bool_bool_dirs d R Q) = slices_Clone_bool_bool_q s (fun X => Q (slices_Clone_bool_bool_enc X) (slices_Clone_bool_bool_out X)) := by kernel_rfl
theorem slices_Clone_bool_bool_main (s : (List Bool)) (Leaf : (List Bool) → Prop) (hw : slices_Clone_bool_bool_pre s) (h : Leaf (slices_Clone_bool_bool s)) :
slices_Clone_bool_bool_q s Leaf := by
  delta slices_Clone_bool_bool_q
  refine ⟨fun e => by rw [e] at h; exact h, ?_⟩
  rw [cand_iff]
  refine ⟨decide_eq_true ?_, h⟩
  have : s.length ≤ 140737488355328 := hw
  omega
set_option maxRecDepth 100000 in
theorem slices_Clone_bool_bool_calls (s : (List Bool)) (hw : slices_Clone_bool_bool_pre s) : ACalls Try.prog 42 (slices_Clone_bool_bool_args s) (slices_Clone_bool_bool_rows s) (slices_Clone_bool_bool_enc (slices_Clone_bool_bool s)) (slices_Clone_bool_bool_out (slices_Clone_bool_bool s)) :=
  have hG : AllOK Try.prog [] := .nil
  FnOK.calls drawn tabOK hG Try.func42 (rf := none) (fun _ _ => trivial) (LL_ok drawn tabOK hG (.inl rfl) 2 (invs := [])) (FnOK.of (slices_Clone_bool_bool_nf s _) (slices_Clone_bool_bool_main s (fun X => slices_Clone_bool_bool_enc X = slices_Clone_bool_bool_enc (slices_Clone_bool_bool s) ∧ slices_Clone_bool_bool_out X = slices_Clone_bool_bool_out (slices_Clone_bool_bool s)) hw ⟨rfl, rfl⟩))
set_option maxRecDepth 100000 in
theorem slices_Clone_bool_bool_conv (args : List D) (rows : List Row) : convA slices_Clone_bool_bool_sig args 0 = slices_Clone_bool_bool_args (argM args 0) := by kernel_rfl
set_option maxRecDepth 100000 in
theorem slices_Clone_bool_bool_convR (args : List D) (rows : List Row) : convRs slices_Clone_bool_bool_rsig rows 0 = slices_Clone_bool_bool_rows (argM args 0) := by kernel_rfl
set_option maxRecDepth 100000 in
theorem slices_Clone_bool_bool_ff (X : (List Bool)) : (ffB (slices_Clone_bool_bool_enc X) && ffBR (slices_Clone_bool_bool_out X)) = true := by kernel_rfl
theorem slices_Clone_bool_bool_ok : ModelOK Try.prog slices_Clone_bool_bool_m := mkP_ok Try.call42 (fun args rows hp => by rw [slices_Clone_bool_bool_conv args rows, slices_Clone_bool_bool_convR args rows]; exact slices_Clone_bool_bool_calls (argM args 0) hp) (fun _ X => slices_Clone_bool_bool_ff X)
def precopy_clone_t (c : ApiPrecopy) : Tree ApiPrecopy :=
.an (slices_Clone_bool_bool_pre c.Dirty) (.lv (slices_Clone_bool_bool c.Dirty) fun (x0 : List Bool) => .lf ({ Dirty := x0, Round := c.Round, Sent := c.Sent }))
def precopy_clone (c : ApiPrecopy) : ApiPrecopy := (precopy_clone_t c).m
abbrev precopy_clone_pre (c : ApiPrecopy) : Prop := (precopy_clone_t c).p
def precopy_clone_m : Model := mkP 30 [] true [.agg ApiPrecopy.sig] [] (fun args rows => precopy_clone_pre (ApiPrecopy.of (args.getD 0 .dead).cells)) (fun args rows => precopy_clone (ApiPrecopy.of (args.getD 0 .dead).cells)) (fun X => .agg (ApiPrecopy.cellsW X (.all 0))) (fun X => [⟨false, 4, 1, .bools X.Dirty⟩])
theorem precopy_clone_ok : ModelOK Try.prog precopy_clone_m := mkP_of drawn tabOK (.cons slices_Clone_bool_bool_ok (.nil)) Try.func30 Try.call30 (fun args rows => precopy_clone_t (ApiPrecopy.of (args.getD 0 .dead).cells)) [.row 4 1 (.bools)] [] 2 (fun _ _ _ => by kernel_rfl) (fun _ _ => rfl) (fun _ _ h => h) (fun _ X => by kernel_rfl)
def precopy_Round_body_t (p0 : Int) (fr0 : (List Int)) (fr1 : (List ApiPageCopy)) : Tree (Bool × (List Int) × (List ApiPageCopy)) :=
.an (memory_Page_pre fr0 p0) (.lv (memory_Page fr0 p0) fun (x0 : List UInt8 × Bool) => .cn (decide (24 * (List.length fr1 + 1) ≤ 140737488355328)) (.lf (true, fr0, fr1 ++ [{ Frame := p0, Data := x0.fst }])))
def precopy_Round_body (p0 : Int) (fr0 : (List Int)) (fr1 : (List ApiPageCopy)) : (Bool × (List Int) × (List ApiPageCopy)) := (precopy_Round_body_t p0 fr0 fr1).m
abbrev precopy_Round_body_pre (p0 : Int) (fr0 : (List Int)) (fr1 : (List ApiPageCopy)) : Prop := (precopy_Round_body_t p0 fr0 fr1).p
def precopy_Round_body_m : Model := mkKP 2 1000000009 [false, true, true] [.one (.int .i64), .ptr 0, .ptr 1] [.box 29 1 [.ints .u32], .box 31 1 [.row 2], .arr 57 2 (.recs .apiPageCopy)] (fun args rows => precopy_Round_body_pre (argI args 0) (slI .u32 (rcell rows 0 0)) (rowR .apiPageCopy rows 2)) (fun args rows => precopy_Round_body (argI args 0) (slI .u32 (rcell rows 0 0)) (rowR .apiPageCopy rows 2)) (fun X => .bool (X.1)) (fun X => [⟨true, 29, 1, .gen [[.sl 1 (.ints .u32 X.2.1) false]]⟩, ⟨true, 31, 1, .gen [[.all 2]]⟩, ⟨false, 57, 2, .recs .apiPageCopy (X.2.2)⟩])
theorem precopy_Round_body_ok : ModelOK Try.prog precopy_Round_body_m := mkKP_ofF none (fun _ _ => trivial) drawn tabOK (.cons memory_Page_ok (.nil)) (Try.func1000000009 ⟨fun _ _ => by kernel_rfl, rfl⟩) (fun h => absurd h (by decide)) (fun args rows => precopy_Round_body_t (argI args 0) (slI .u32 (rcell rows 0 0)) (rowR .apiPageCopy rows 2)) [.sl (.ints .u32) false, .row 57 2 (.recs .apiPageCopy)] [] 2 (fun _ _ _ => by kernel_rfl) (fun _ _ => rfl) (fun _ _ h => h)
def set1_round_meas0 (m : (List Int)) (l : (List ApiPageCopy)) (fr0 : (List Bool)) (z : (Int) × (List Int) × (List ApiPageCopy)) : Nat := (fr0.length - z.1).toNat
def set1_round_t (m : (List Int)) (l : (List ApiPageCopy)) (fr0 : (List Bool)) : Tree ((List Int) × (List ApiPageCopy) × (List Bool)) :=
.lp inferInstance (set1_round_meas0 m l fr0 (0, m, l) + 1) ((True ∧ ((Els.Nil (Els.bools fr0) ∨ rE (1 : Nat)) ∧ rE (fr0 : List Bool)) ∧ rE ((↑(List.length fr0) : Int) : Int) ∧ rE (0 : Int) ∧ True) ∧ (((Els.Nil (Els.ints u32 m) ∨ rE (1 : Nat)) ∧ rE (m : List Int)) ∧ True) ∧ (True ∧ True) ∧ (((Els.Nil (Els.bools fr0) ∨ rE (1 : Nat)) ∧ rE (fr0 : List Bool)) ∧ True) ∧ rE (l : List (RK.T RK.apiPageCopy)) ∧ True) (0, m, l) fun (v0 : Int × List Int × List ApiPageCopy) => .br (decide (v0.fst < (↑(List.length fr0) : Int))) (.cn (Nat.beq (nat_lit 1) 1 && Nat.blt 0 1 && decide (0 ≤ v0.fst ∧ v0.fst < (↑(List.length fr0) : Int))) (.br (List.getD fr0 (Int.toNat v0.fst) false) (.an (precopy_Round_body_pre v0.fst v0.snd.fst v0.snd.snd) (.lv (precopy_Round_body v0.fst v0.snd.fst v0.snd.snd) fun (x0 : Bool × List Int × List ApiPageCopy) => .br (!x0.fst) (.lf (Sum.inr (x0.snd.fst, x0.snd.snd, fr0))) (.nx ((True ∧ ((Els.Nil (Els.bools fr0) ∨ rE ((nat_lit 1) : Nat)) ∧ rE (fr0 : List Bool)) ∧ rE ((↑(List.length fr0) : Int) : Int) ∧ rE ((wrap i64 (v0.fst + 1)) : Int) ∧ True) ∧ (((Els.Nil (Els.ints u32 x0.snd.fst) ∨ rE (1 : Nat)) ∧ rE x0.snd.fst) ∧ True) ∧ (True ∧ True) ∧ (((Els.Nil (Els.bools fr0) ∨ rE ((nat_lit 1) : Nat)) ∧ rE (fr0 : List Bool)) ∧ True) ∧ rE x0.snd.snd ∧ True) (Sum.inl (wrap i64 (v0.fst + 1), x0.snd.fst, x0.snd.snd))))) (.nx ((True ∧ ((Els.Nil (Els.bools fr0) ∨ rE ((nat_lit 1) : Nat)) ∧ rE (fr0 : List Bool)) ∧ rE ((↑(List.length fr0) : Int) : Int) ∧ rE ((wrap i64 (v0.fst + 1)) : Int) ∧ True) ∧ (((Els.Nil (Els.ints u32 v0.snd.fst) ∨ eqAt Nat (nat_lit 1) 1) ∧ rE v0.snd.fst) ∧ True) ∧ (True ∧ True) ∧ (((Els.Nil (Els.bools fr0) ∨ rE ((nat_lit 1) : Nat)) ∧ rE (fr0 : List Bool)) ∧ True) ∧ rE v0.snd.snd ∧ True) (Sum.inl (wrap i64 (v0.fst + 1), v0.snd.fst, v0.snd.snd))))) (.lf (Sum.inr (v0.snd.fst, v0.snd.snd, fr0)))
def set1_round (m : (List Int)) (l : (List ApiPageCopy)) (fr0 : (List Bool)) : ((List Int) × (List ApiPageCopy) × (List Bool)) := (set1_round_t m l fr0).m
abbrev set1_round_pre (m : (List Int)) (l : (List ApiPageCopy)) (fr0 : (List Bool)) : Prop := (set1_round_t m l fr0).p
def set1_round_i0 : LInv := {
  α := (Int) × (List Int) × (List ApiPageCopy)
  F := fun st a => ([(0, .clo 1000000009 [.ptr 0 0 0, .ptr 1 0 0]), (5, (lk st 5)), (6, (lk st 6)), (7, .int i64 a.1)], [⟨true, 29, 1, .gen [[.sl 1 (.ints u32 a.2.1) false]]⟩, ⟨true, 31, 1, .gen [[.all 3]]⟩, ⟨true, 24, 1, .gen [[(cellOf st.rows 2 0)]]⟩, ⟨false, 57, 2, .recs RK.apiPageCopy a.2.2⟩])
  a0 := fun st => ((lk st 7).toInt, (slI u32 (cellOf st.rows 0 0)), (recsOf RK.apiPageCopy st.rows (rowNo (cellOf st.rows 1 0) 1000000)))
  ex0 := fun st => [0, 1, 2] ++ [(rowNo (cellOf st.rows 1 0) (st.rows.length + 3))]
  next := fun st => ((lk st 7).toInt, (slI u32 (cellOf st.rows 0 0)), (recsOf RK.apiPageCopy st.rows (rowNo (cellOf st.rows 1 0) 1000000)))
  ex := fun st => [0, 1, 2] ++ [(rowNo (cellOf st.rows 1 0) (st.rows.length + 3))] }
def set1_round_invs : List (Nat × LInv) := [(1, set1_round_i0)]
def set1_round_m : Model := mkKP 3 43 [true, true] [.clo 1000000009 [.ptr 0 0 0, .ptr 1 0 0], .ptr 2] [.box 29 1 [.ints .u32], .box 31 1 [.row 3], .box 24 1 [.bools], .arr 57 2 (.recs .apiPageCopy)] (fun args rows => set1_round_pre (slI .u32 (rcell rows 0 0)) (rowR .apiPageCopy rows 3) (slB (rcell rows 2 0))) (fun args rows => set1_round (slI .u32 (rcell rows 0 0)) (rowR .apiPageCopy rows 3) (slB (rcell rows 2 0))) (fun X => .tup []) (fun X => [⟨true, 29, 1, .gen [[.sl 1 (.ints .u32 X.1) false]]⟩, ⟨true, 31, 1, .gen [[.all 3]]⟩, ⟨true, 24, 1, .gen [[.sl 1 (.bools X.2.2) false]]⟩, ⟨false, 57, 2, .recs .apiPageCopy (X.2.1)⟩])
theorem set1_round_ok : ModelOK Try.prog set1_round_m := mkKP_of drawn tabOK (.cons precopy_Round_body_ok (.nil)) Try.func43 Try.call43 (fun args rows => set1_round_t (slI .u32 (rcell rows 0 0)) (rowR .apiPageCopy rows 3) (slB (rcell rows 2 0))) [.sl (.ints .u32) false, .row 57 2 (.recs .apiPageCopy), .sl (.bools) false] set1_round_invs 3 (fun _ _ _ => by kernel_rfl) (fun _ _ => rfl) (fun _ _ h => h)
def precopy_Valid_t (c : ApiPrecopy) : Tree Bool :=
.br (decide ((↑(List.length c.Dirty) : Int) ≥ (1 : Int))) (.br (decide ((↑(List.length c.Dirty) : Int) ≤ (32 : Int))) (.br (decide (c.Round ≥ 0)) (.br (decide (c.Round ≤ 11)) (.br (decide (c.Sent ≥ 0)) (.lf (decide (c.Sent ≤ 352))) (.lf false)) (.lf false)) (.lf false)) (.lf false)) (.lf false)
def precopy_Valid (c : ApiPrecopy) : Bool := (precopy_Valid_t c).m
def precopy_Valid_m : Model := mkR 20 [] true [.agg ApiPrecopy.sig] [] (fun args rows => precopy_Valid (ApiPrecopy.of (args.getD 0 .dead).cells)) (fun X => .bool X) (fun X => [])
theorem precopy_Valid_ok : ModelOK Try.prog precopy_Valid_m := mkR_of drawn tabOK (.nil) Try.func20 Try.call20 (fun args rows => precopy_Valid_t (ApiPrecopy.of (args.getD 0 .dead).cells)) [] [] 2 (fun _ _ _ => by kernel_rfl) (fun _ _ => rfl) (fun _ _ => Tree.free_ok (by kernel_rfl)) (fun _ X => by kernel_rfl)
def precopy_Round_t (c : ApiPrecopy) (m : (List Int)) : Tree (ApiPrecopy × (List ApiPageCopy)) :=
.an (precopy_clone_pre c) (.lv (precopy_clone c) fun (x0 : ApiPrecopy) => .lv (precopy_Valid x0) fun (x1 : Bool) => .br (!x1) (.lf (x0, [])) (.br (decide (x0.Round > 10)) (.lf (x0, [])) (.lv (memory_Pages m) fun (x2 : Int) => .br (x2 != (↑(List.length x0.Dirty) : Int)) (.lf (x0, [])) (.lv () fun (x3 : Unit) => .an (set1_round_pre m [] x0.Dirty) (.lv (set1_round m [] x0.Dirty) fun (x4 : List Int × List ApiPageCopy × List Bool) => .cn (Nat.blt 0 1 && Nat.beq 1 1 && List.all [D.bool false] D.plain && decide (0 ≤ (↑(List.length x0.Dirty) : Int) ∧ (↑(List.length x0.Dirty) : Int) ≤ (↑(List.length x0.Dirty) : Int) ∧ (↑(List.length x0.Dirty) : Int) ≤ (9223372036854775807 : Int) ∧ (↑1 : Int) * (↑(List.length x0.Dirty) : Int) ≤ (140737488355328 : Int))) (.lf ({ Dirty := List.replicate (Int.toNat (↑(List.length x0.Dirty) : Int)) false, Round := wrap i64 (x0.Round + 1), Sent := wrap i64 (x0.Sent + (↑(List.length x4.snd.fst) : Int)) }, x4.snd.fst)))))))
def precopy_Round (c : ApiPrecopy) (m : (List Int)) : (ApiPrecopy × (List ApiPageCopy)) := (precopy_Round_t c m).m
abbrev precopy_Round_pre (c : ApiPrecopy) (m : (List Int)) : Prop := (precopy_Round_t c m).p
def precopy_Round_m : Model := mkP 9 [] true [.agg ApiPrecopy.sig, .one (.ints .u32)] [] (fun args rows => precopy_Round_pre (ApiPrecopy.of (args.getD 0 .dead).cells) (argL .u32 args 1)) (fun args rows => precopy_Round (ApiPrecopy.of (args.getD 0 .dead).cells) (argL .u32 args 1)) (fun X => .tup [.agg (ApiPrecopy.cellsW (X.1) (.all 0)), .all 1]) (fun X => [⟨false, 4, 1, .bools (X.1).Dirty⟩, ⟨false, 57, 2, .recs .apiPageCopy (X.2)⟩])
theorem precopy_Round_ok : ModelOK Try.prog precopy_Round_m := mkP_ofF (some 1000000009) (rf_of (by kernel_rfl) rfl) drawn tabOK (.cons precopy_clone_ok (.cons precopy_Valid_ok (.cons memory_Pages_ok (.cons precopy_set_ok (.cons memory_Page_ok (.cons set1_round_ok (.nil))))))) Try.func9 Try.call9 (fun args rows => precopy_Round_t (ApiPrecopy.of (args.getD 0 .dead).cells) (argL .u32 args 1)) [.row 4 1 (.bools), .row 57 2 (.recs .apiPageCopy)] [] 2 (fun _ _ _ => by kernel_rfl) (fun _ _ => rfl) (fun _ _ h => h) (fun _ X => by kernel_rfl)
def precopy_Begin_meas0 (pages : Int) (z : (Int) × (List Bool)) : Nat := (pages - z.1).toNat
def precopy_Begin_t (pages : Int) : Tree (ApiPrecopy × Bool) :=
.br (decide (pages < (1 : Int))) (.lf ({ Dirty := [], Round := (0 : Int), Sent := (0 : Int) }, false)) (.br (decide (pages > (32 : Int))) (.lf ({ Dirty := [], Round := (0 : Int), Sent := (0 : Int) }, false)) (.cn (Nat.blt (0 : Nat) (1 : Nat) && Nat.beq (1 : Nat) (1 : Nat) && List.all [D.bool false] D.plain && decide ((0 : Int) ≤ pages ∧ pages ≤ pages ∧ pages ≤ (9223372036854775807 : Int) ∧ (↑(1 : Nat) : Int) * pages ≤ (140737488355328 : Int))) (.lp inferInstance (precopy_Begin_meas0 pages ((0 : Int), List.replicate (Int.toNat pages) false) + 1) (((rE ((nat_lit 0) : Nat) ∧ rE ((nat_lit 0) : Nat)) ∧ (rE ((nat_lit 0) : Nat) ∧ rE ((nat_lit 0) : Nat)) ∧ rE ((↑(List.length (List.replicate (Int.toNat pages) false)) : Int) : Int) ∧ rE ((0 : Int) : Int) ∧ True) ∧ (True ∧ rE ((0 : Int) : Int) ∧ rE ((0 : Int) : Int) ∧ True) ∧ (True ∧ rE ((0 : Int) : Int) ∧ rE ((0 : Int) : Int) ∧ True) ∧ rE ((List.replicate (Int.toNat pages) false) : List Bool) ∧ True) ((0 : Int), List.replicate (Int.toNat pages) false) fun (v0 : Int × List Bool) => .br (decide (v0.fst < (↑(List.length (List.replicate (Int.toNat pages) false)) : Int))) (.cn (Nat.beq (nat_lit 1) (1 : Nat) && Nat.blt (0 : Nat) (1 : Nat) && decide ((0 : Int) ≤ v0.fst ∧ v0.fst < (↑(List.length v0.snd) : Int))) (.nx (((rE ((nat_lit 0) : Nat) ∧ rE ((nat_lit 0) : Nat)) ∧ (rE ((nat_lit 0) : Nat) ∧ rE ((nat_lit 0) : Nat)) ∧ rE ((↑(List.length (List.replicate (Int.toNat pages) false)) : Int) : Int) ∧ rE ((wrap i64 (v0.fst + (1 : Int))) : Int) ∧ True) ∧ (True ∧ rE ((0 : Int) : Int) ∧ rE ((0 : Int) : Int) ∧ True) ∧ (True ∧ rE ((0 : Int) : Int) ∧ rE ((0 : Int) : Int) ∧ True) ∧ rE ((List.set v0.snd (Int.toNat v0.fst) true) : List Bool) ∧ True) (Sum.inl (wrap i64 (v0.fst + (1 : Int)), List.set v0.snd (Int.toNat v0.fst) true)))) (.lf (Sum.inr ({ Dirty := v0.snd, Round := (0 : Int), Sent := (0 : Int) }, true))))))
def precopy_Begin (pages : Int) : (ApiPrecopy × Bool) := (precopy_Begin_t pages).m
abbrev precopy_Begin_pre (pages : Int) : Prop := (precopy_Begin_t pages).p
def precopy_Begin_i0 : LInv := {
  α := (Int) × (List Bool)
  F := fun st a => ([(2, .ptr 0 0 0), (4, .ptr 1 0 0), (18, (lk st 18)), (19, .int i64 a.1)], [⟨true, 26, 3, .gen [[(cT st 2 0), (cT st 2 1), (cT st 2 2)]]⟩, ⟨true, 26, 3, .gen [[.all 2, (cT st 4 1), (cT st 4 2)]]⟩, ⟨false, 4, 1, .bools a.2⟩])
  a0 := fun st => ((lk st 19).toInt, (boolsOf st.rows (rowNo (cT st 4 0) 1000000)))
  ex0 := fun st => [] ++ [(rowNo (lk st 2) (st.rows.length + 0)), (rowNo (lk st 4) (st.rows.length + 1)), (rowNo (cT st 4 0) (st.rows.length + 2))]
  next := fun st => ((lk st 19).toInt, (boolsOf st.rows (rowNo (cT st 4 0) 1000000)))
  ex := fun st => [] ++ [(rowNo (lk st 2) (st.rows.length + 0)), (rowNo (lk st 4) (st.rows.length + 1)), (rowNo (cT st 4 0) (st.rows.length + 2))] }
def precopy_Begin_invs : List (Nat × LInv) := [(5, precopy_Begin_i0)]
def precopy_Begin_m : Model := mkP 7 [] true [.one (.int .i64)] [] (fun args rows => precopy_Begin_pre (argI args 0)) (fun args rows => precopy_Begin (argI args 0)) (fun X => .tup [.agg (ApiPrecopy.cellsW (X.1) (.all 0)), .bool (X.2)]) (fun X => [⟨false, 4, 1, .bools (X.1).Dirty⟩])
theorem precopy_Begin_ok : ModelOK Try.prog precopy_Begin_m := mkP_of drawn tabOK (.nil) Try.func7 Try.call7 (fun args rows => precopy_Begin_t (argI args 0)) [.row 4 1 (.bools)] precopy_Begin_invs 3 (fun _ _ _ => by kernel_rfl) (fun _ _ => rfl) (fun _ _ h => h) (fun _ X => by kernel_rfl)
def precopy_Note_meas0 (c : ApiPrecopy) (frames : (List Int)) (z : (Int) × (List Bool)) : Nat := (frames.length - z.1).toNat
def precopy_Note_t (c : ApiPrecopy) (frames : (List Int)) : Tree ApiPrecopy :=
.an (precopy_clone_pre c) (.lv (precopy_clone c) fun (x0 : ApiPrecopy) => .lp inferInstance (precopy_Note_meas0 c frames (0, x0.Dirty) + 1) (((rE ((nat_lit 0) : Nat) ∧ rE ((nat_lit 0) : Nat)) ∧ (rE ((nat_lit 0) : Nat) ∧ rE ((nat_lit 0) : Nat)) ∧ ((Els.Nil (Els.ints i64 frames) ∨ rE (1 : Nat)) ∧ rE (frames : List Int)) ∧ rE ((↑(List.length frames) : Int) : Int) ∧ rE (0 : Int) ∧ True) ∧ (True ∧ rE x0.Round ∧ rE x0.Sent ∧ True) ∧ rE x0.Dirty ∧ (True ∧ rE (0 : Int) ∧ rE (0 : Int) ∧ True) ∧ True) (0, x0.Dirty) fun (v0 : Int × List Bool) => .br (decide (v0.fst < (↑(List.length frames) : Int))) (.cn (Nat.beq (nat_lit 1) 1 && Nat.blt 0 1 && decide (0 ≤ v0.fst ∧ v0.fst < (↑(List.length frames) : Int))) (let T1 : Tree ((Int × List Bool) ⊕ (ApiPrecopy)) := .nx (((rE ((nat_lit 0) : Nat) ∧ rE ((nat_lit 0) : Nat)) ∧ (rE ((nat_lit 0) : Nat) ∧ rE ((nat_lit 0) : Nat)) ∧ ((Els.Nil (Els.ints i64 frames) ∨ rE ((nat_lit 1) : Nat)) ∧ rE (frames : List Int)) ∧ rE ((↑(List.length frames) : Int) : Int) ∧ rE ((wrap i64 (v0.fst + 1)) : Int) ∧ True) ∧ (True ∧ rE x0.Round ∧ rE x0.Sent ∧ True) ∧ rE v0.snd ∧ (True ∧ rE (0 : Int) ∧ rE (0 : Int) ∧ True) ∧ True) (Sum.inl (wrap i64 (v0.fst + 1), v0.snd)); .br (decide (List.getD frames (Int.toNat v0.fst) (0 : Int) ≥ (0 : Int))) (.br (decide (List.getD frames (Int.toNat v0.fst) 0 < (↑(List.length v0.snd) : Int))) (.cn (Nat.beq (nat_lit 1) 1 && Nat.blt 0 1 && decide (0 ≤ List.getD frames (Int.toNat v0.fst) 0 ∧ List.getD frames (Int.toNat v0.fst) 0 < (↑(List.length v0.snd) : Int))) (.nx (((rE ((nat_lit 0) : Nat) ∧ rE ((nat_lit 0) : Nat)) ∧ (rE ((nat_lit 0) : Nat) ∧ rE ((nat_lit 0) : Nat)) ∧ ((Els.Nil (Els.ints i64 frames) ∨ rE ((nat_lit 1) : Nat)) ∧ rE (frames : List Int)) ∧ rE ((↑(List.length frames) : Int) : Int) ∧ rE ((wrap i64 (v0.fst + 1)) : Int) ∧ True) ∧ (True ∧ rE x0.Round ∧ rE x0.Sent ∧ True) ∧ rE ((List.set v0.snd (Int.toNat (List.getD frames (Int.toNat v0.fst) 0)) true) : List Bool) ∧ (True ∧ rE (0 : Int) ∧ rE (0 : Int) ∧ True) ∧ True) (Sum.inl (wrap i64 (v0.fst + 1), List.set v0.snd (Int.toNat (List.getD frames (Int.toNat v0.fst) 0)) true)))) T1) T1)) (.lf (Sum.inr { Dirty := v0.snd, Round := x0.Round, Sent := x0.Sent })))
def precopy_Note (c : ApiPrecopy) (frames : (List Int)) : ApiPrecopy := (precopy_Note_t c frames).m
abbrev precopy_Note_pre (c : ApiPrecopy) (frames : (List Int)) : Prop := (precopy_Note_t c frames).p
def precopy_Note_i0 : LInv := {
  α := (Int) × (List Bool)
  F := fun st a => ([(2, .ptr 0 0 0), (4, .ptr 2 0 0), (9, (lk st 9)), (10, (lk st 10)), (11, .int i64 a.1)], [⟨true, 26, 3, .gen [[.all 1, (cT st 2 1), (cT st 2 2)]]⟩, ⟨false, 4, 1, .bools a.2⟩, ⟨true, 26, 3, .gen [[(cT st 4 0), (cT st 4 1), (cT st 4 2)]]⟩])
  a0 := fun st => ((lk st 11).toInt, (boolsOf st.rows (rowNo (cT st 2 0) 1000000)))
  ex0 := fun st => [] ++ [(rowNo (lk st 2) (st.rows.length + 0)), (rowNo (cT st 2 0) (st.rows.length + 1)), (rowNo (lk st 4) (st.rows.length + 2))]
  next := fun st => ((lk st 11).toInt, (boolsOf st.rows (rowNo (cT st 2 0) 1000000)))
  ex := fun st => [] ++ [(rowNo (lk st 2) (st.rows.length + 0)), (rowNo (cT st 2 0) (st.rows.length + 1)), (rowNo (lk st 4) (st.rows.length + 2))] }
def precopy_Note_invs : List (Nat × LInv) := [(3, precopy_Note_i0)]
def precopy_Note_m : Model := mkP 10 [] true [.agg ApiPrecopy.sig, .one (.ints .i64)] [] (fun args rows => precopy_Note_pre (ApiPrecopy.of (args.getD 0 .dead).cells) (argL .i64 args 1)) (fun args rows => precopy_Note (ApiPrecopy.of (args.getD 0 .dead).cells) (argL .i64 args 1)) (fun X => .agg (ApiPrecopy.cellsW X (.all 0))) (fun X => [⟨false, 4, 1, .bools X.Dirty⟩])
theorem precopy_Note_ok : ModelOK Try.prog precopy_Note_m := mkP_of drawn tabOK (.cons precopy_clone_ok (.nil)) Try.func10 Try.call10 (fun args rows => precopy_Note_t (ApiPrecopy.of (args.getD 0 .dead).cells) (argL .i64 args 1)) [.row 4 1 (.bools)] precopy_Note_invs 3 (fun _ _ _ => by kernel_rfl) (fun _ _ => rfl) (fun _ _ h => h) (fun _ X => by kernel_rfl)
def precopy_Stop_t (c : ApiPrecopy) (limit : Int) : Tree Bool :=
.lv (precopy_Valid c) fun (x0 : Bool) => .br x0 (.an (precopy_count_pre c) (.lv (precopy_count c) fun (x1 : Int) => .br (decide (x1 ≤ limit)) (.lf true) (.lf (decide (c.Round ≥ 10))))) (.lf false)
def precopy_Stop (c : ApiPrecopy) (limit : Int) : Bool := (precopy_Stop_t c limit).m
abbrev precopy_Stop_pre (c : ApiPrecopy) (limit : Int) : Prop := (precopy_Stop_t c limit).p
def precopy_Stop_m : Model := mkP 13 [] true [.agg ApiPrecopy.sig, .one (.int .i64)] [] (fun args rows => precopy_Stop_pre (ApiPrecopy.of (args.getD 0 .dead).cells) (argI args 1)) (fun args rows => precopy_Stop (ApiPrecopy.of (args.getD 0 .dead).cells) (argI args 1)) (fun X => .bool X) (fun X => [])
theorem precopy_Stop_ok : ModelOK Try.prog precopy_Stop_m := mkP_of drawn tabOK (.cons precopy_Valid_ok (.cons precopy_count_ok (.nil))) Try.func13 Try.call13 (fun args rows => precopy_Stop_t (ApiPrecopy.of (args.getD 0 .dead).cells) (argI args 1)) [] [] 2 (fun _ _ _ => by kernel_rfl) (fun _ _ => rfl) (fun _ _ h => h) (fun _ X => by kernel_rfl)
def precopy_Downtime_t (c : ApiPrecopy) (rate : Int) : Tree Int :=
.br (decide (rate < 1)) (.lf 0) (.an (precopy_count_pre c) (.lv (precopy_count c) fun (x0 : Int) => .cn (decide (rate ≠ 0)) (.cn (decide (rate ≠ 0)) (.br (decide (Int.tmod x0 rate > 0)) (.lf (wrap i64 (wrap i64 (Int.tdiv x0 rate) + 1))) (.lf (wrap i64 (Int.tdiv x0 rate)))))))
def precopy_Downtime (c : ApiPrecopy) (rate : Int) : Int := (precopy_Downtime_t c rate).m
abbrev precopy_Downtime_pre (c : ApiPrecopy) (rate : Int) : Prop := (precopy_Downtime_t c rate).p
def precopy_Downtime_m : Model := mkP 12 [] true [.agg ApiPrecopy.sig, .one (.int .i64)] [] (fun args rows => precopy_Downtime_pre (ApiPrecopy.of (args.getD 0 .dead).cells) (argI args 1)) (fun args rows => precopy_Downtime (ApiPrecopy.of (args.getD 0 .dead).cells) (argI args 1)) (fun X => .int .i64 X) (fun X => [])
theorem precopy_Downtime_ok : ModelOK Try.prog precopy_Downtime_m := mkP_of drawn tabOK (.cons precopy_count_ok (.nil)) Try.func12 Try.call12 (fun args rows => precopy_Downtime_t (ApiPrecopy.of (args.getD 0 .dead).cells) (argI args 1)) [] [] 2 (fun _ _ _ => by kernel_rfl) (fun _ _ => rfl) (fun _ _ h => h) (fun _ X => by kernel_rfl)
def precopy_Apply_meas0 (m : (List Int)) (l : (List ApiPageCopy)) (z : (Int)) : Nat := (l.length - z).toNat
def precopy_Apply_meas1 (m : (List Int)) (l : (List ApiPageCopy)) (z : (Int) × (List Int)) : Nat := (l.length - z.1).toNat
def precopy_Apply_t (m : (List Int)) (l : (List ApiPageCopy)) : Tree ((List Int) × Bool) :=
.lv (memory_Pages m) fun (x0 : Int) => .an (slices_Clone_uint32_uint32_pre m) (.lv (slices_Clone_uint32_uint32 m) fun (x1 : List Int) => .br (x0 == 0) (.lf (x1, false)) (.lp inferInstance (precopy_Apply_meas0 m l 0 + 1) ((((Els.Nil (Els.recs RK.apiPageCopy l) ∨ rE (2 : Nat)) ∧ rE (l : List (RK.T RK.apiPageCopy))) ∧ rE (x0 : Int) ∧ True ∧ ((Els.Nil (Els.recs RK.apiPageCopy l) ∨ rE (2 : Nat)) ∧ rE (l : List (RK.T RK.apiPageCopy))) ∧ rE ((↑(List.length l) : Int) : Int) ∧ rE (0 : Int) ∧ True) ∧ rE (x1 : List Int) ∧ True) 0 fun (v0 : Int) => .br (decide (v0 < (↑(List.length l) : Int))) (.cn (Nat.beq (nat_lit 2) 2 && Nat.blt 0 2 && decide (0 ≤ v0 ∧ v0 < (↑(List.length l) : Int))) (let E2 := List.getD l (Int.toNat v0) (RK.dflt RK.apiPageCopy); .br (decide (E2.Frame < 0)) (.lf (Sum.inr (x1, false))) (.br (decide (E2.Frame ≥ x0)) (.lf (Sum.inr (x1, false))) (.br ((↑(List.length E2.Data) : Int) != (128 : Int)) (.lf (Sum.inr (x1, false))) (.nx ((((Els.Nil (Els.recs RK.apiPageCopy l) ∨ rE ((nat_lit 2) : Nat)) ∧ rE (l : List (RK.T RK.apiPageCopy))) ∧ rE (x0 : Int) ∧ True ∧ ((Els.Nil (Els.recs RK.apiPageCopy l) ∨ rE ((nat_lit 2) : Nat)) ∧ rE (l : List (RK.T RK.apiPageCopy))) ∧ rE ((↑(List.length l) : Int) : Int) ∧ rE ((wrap i64 (v0 + 1)) : Int) ∧ True) ∧ rE (x1 : List Int) ∧ True) (Sum.inl (wrap i64 (v0 + 1)))))))) (.lp inferInstance (precopy_Apply_meas1 m l (0, x1) + 1) ((True ∧ ((Els.Nil (Els.recs RK.apiPageCopy l) ∨ rE ((nat_lit 2) : Nat)) ∧ rE (l : List (RK.T RK.apiPageCopy))) ∧ rE ((↑(List.length l) : Int) : Int) ∧ rE (0 : Int) ∧ True) ∧ rE (x1 : List Int) ∧ True) (0, x1) fun (v1 : Int × List Int) => .br (decide (v1.fst < (↑(List.length l) : Int))) (.cn (Nat.beq (nat_lit 2) 2 && Nat.blt 0 2 && decide (0 ≤ v1.fst ∧ v1.fst < (↑(List.length l) : Int))) (let E1 := List.getD l (Int.toNat v1.fst) (RK.dflt RK.apiPageCopy); .an (memory_SetPage_pre v1.snd E1.Frame E1.Data) (.lv (memory_SetPage v1.snd E1.Frame E1.Data) fun (x2 : List Int × Bool) => .nx ((True ∧ ((Els.Nil (Els.recs RK.apiPageCopy l) ∨ rE ((nat_lit 2) : Nat)) ∧ rE (l : List (RK.T RK.apiPageCopy))) ∧ rE ((↑(List.length l) : Int) : Int) ∧ rE ((wrap i64 (v1.fst + 1)) : Int) ∧ True) ∧ rE x2.fst ∧ True) (Sum.inl (wrap i64 (v1.fst + 1), x2.fst))))) (.lf (Sum.inr (Sum.inr (v1.snd, true)))))))
def precopy_Apply (m : (List Int)) (l : (List ApiPageCopy)) : ((List Int) × Bool) := (precopy_Apply_t m l).m
abbrev precopy_Apply_pre (m : (List Int)) (l : (List ApiPageCopy)) : Prop := (precopy_Apply_t m l).p
def precopy_Apply_i0 : LInv := {
  α := (Int)
  F := fun st a => ([(1, (lk st 1)), (6, (lk st 6)), (7, .all 0), (19, (lk st 19)), (20, (lk st 20)), (21, .int i64 a)], [⟨false, 61, 1, esOf st.rows (rN st 7)⟩])
  a0 := fun st => (lk st 21).toInt
  ex0 := fun st => [] ++ [(rowNo (lk st 7) (st.rows.length + 0))]
  next := fun st => (lk st 21).toInt
  ex := fun st => [] ++ [(rowNo (lk st 7) (st.rows.length + 0))] }
def precopy_Apply_i1 : LInv := {
  α := (Int) × (List Int)
  F := fun st a => ([(7, .all 0), (42, (lk st 42)), (43, (lk st 43)), (44, .int i64 a.1)], [⟨false, 61, 1, .ints u32 a.2⟩])
  a0 := fun st => ((lk st 44).toInt, (intsOf st.rows (rN st 7)))
  ex0 := fun st => [] ++ [(rowNo (lk st 7) (st.rows.length + 0))]
  next := fun st => ((lk st 44).toInt, (intsOf st.rows (rN st 7)))
  ex := fun st => [] ++ [(rowNo (lk st 7) (st.rows.length + 0))] }
def precopy_Apply_invs : List (Nat × LInv) := [(6, precopy_Apply_i0), (12, precopy_Apply_i1)]
def precopy_Apply_m : Model := mkP 17 [] true [.one (.ints .u32), .one (.recs .apiPageCopy)] [] (fun args rows => precopy_Apply_pre (argL .u32 args 0) (argR .apiPageCopy args 1)) (fun args rows => precopy_Apply (argL .u32 args 0) (argR .apiPageCopy args 1)) (fun X => .tup [.all 0, .bool (X.2)]) (fun X => [⟨false, 61, 1, .ints .u32 (X.1)⟩])
theorem precopy_Apply_ok : ModelOK Try.prog precopy_Apply_m := mkP_of drawn tabOK (.cons memory_Pages_ok (.cons slices_Clone_uint32_uint32_ok (.cons memory_SetPage_ok (.nil)))) Try.func17 Try.call17 (fun args rows => precopy_Apply_t (argL .u32 args 0) (argR .apiPageCopy args 1)) [.row 61 1 (.ints .u32)] precopy_Apply_invs 3 (fun _ _ _ => by kernel_rfl) (fun _ _ => rfl) (fun _ _ h => h) (fun _ X => by kernel_rfl)
end
end Go.Proofs.Ytfihpfnndbolpaa

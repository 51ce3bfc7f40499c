/-
  Functions of the program: models, and that its calls come to them (by a program: gen3.py).
-/
import Derived.Test.YtfihpfnndbolpaaPrecopyTellsBase
namespace Go.Proofs.Ytfihpfnndbolpaa
open Go Go.GD Go.IntKind
set_option linter.unusedVariables false
set_option linter.unusedSimpArgs false
set_option maxRecDepth 100000
noncomputable section
instance sumInhPc {α β : Type} [Inhabited β] : Inhabited (α ⊕ β) := ⟨.inr default⟩
def ref1_SameWords_inv0 (a : (List Int)) (b : (List Int)) (z : (Int)) : Prop := 0 ≤ z ∧ z ≤ a.length ∧ a.length = b.length
def ref1_SameWords_meas0 (a : (List Int)) (b : (List Int)) (z : (Int)) : Nat := (a.length - z).toNat
def ref1_SameWords_t (a : (List Int)) (b : (List Int)) : Tree Bool :=
.br ((↑(List.length a) : Int) != (↑(List.length b) : Int)) (.lf false) (.lp inferInstance (ref1_SameWords_meas0 a b 0 + 1) ((((Els.Nil (Els.ints u32 a) ∨ rE (1 : Nat)) ∧ rE (a : List Int)) ∧ ((Els.Nil (Els.ints u32 b) ∨ rE (1 : Nat)) ∧ rE (b : List Int)) ∧ rE (0 : Int) ∧ True) ∧ True) 0 fun (v0 : Int) => .br (decide (v0 < (↑(List.length a) : Int))) (.cn (Nat.beq (nat_lit 1) 1 && Nat.blt 0 1 && decide (0 ≤ v0 ∧ v0 < (↑(List.length a) : Int))) (.cn (Nat.beq (nat_lit 1) 1 && Nat.blt 0 1 && decide (0 ≤ v0 ∧ v0 < (↑(List.length b) : Int))) (.br (List.getD a (Int.toNat v0) 0 != List.getD b (Int.toNat v0) 0) (.lf (Sum.inr false)) (.nx ((((Els.Nil (Els.ints u32 a) ∨ rE ((nat_lit 1) : Nat)) ∧ rE (a : List Int)) ∧ ((Els.Nil (Els.ints u32 b) ∨ rE ((nat_lit 1) : Nat)) ∧ rE (b : List Int)) ∧ rE ((wrap i64 (v0 + 1)) : Int) ∧ True) ∧ True) (Sum.inl (wrap i64 (v0 + 1))))))) (.lf (Sum.inr true)))
def ref1_SameWords (a : (List Int)) (b : (List Int)) : Bool := (ref1_SameWords_t a b).m
def ref1_SameWords_pre (a : (List Int)) (b : (List Int)) : Prop :=
a.length ≤ 1000000000000
theorem ref1_SameWords_tot (a : (List Int)) (b : (List Int)) (hw : ref1_SameWords_pre a b) : (ref1_SameWords_t a b).p := by
  simp only [ref1_SameWords_pre] at hw
  unfold Tree.p ref1_SameWords_t
  repeat' (first | refine w_lp (inv := ref1_SameWords_inv0 a b) (μ := ref1_SameWords_meas0 a b) ?_ (Nat.lt_succ_self _) (fun _ _ => ?_) | exact trivial | refine w_br (fun _ => ?_) (fun _ => ?_) | refine w_cn ?_ ?_ | refine w_an ?_ ?_ | refine w_lv (fun _ _ => ?_) | refine w_nx ?_ | refine w_lf ?_ | refine And.intro ?_ ?_)
  all_goals ((try simp only [ref1_SameWords_inv0, ref1_SameWords_meas0] at *); ((subst_vars; first | trivial | assumption | omega | ((simp (config := { decide := true, failIfUnchanged := false }) only [Bool.and_eq_true, Bool.or_eq_true, Bool.and_eq_false_iff, Bool.or_eq_false_iff, Bool.not_eq_true', Bool.not_eq_false', Bool.not_eq_true, Bool.not_eq_false, decide_eq_true_eq, decide_eq_false_iff_not, blt_iff, blt_niff, beq_iff, beq_niff, beq_iff_eq, beq_eq_false_iff_ne, bne_iff_ne, bne_eq_false_iff_eq, ne_eq, List.all_cons, List.all_nil, D.plain, List.length_cons, List.length_nil, List.length_append, List.length_set, List.length_replicate, IntKind.wrap_i64, IntKind.wrap_u64, IntKind.wrap_u32, IntKind.wrap_i32, IntKind.wrap_u8, true_and, and_true, or_false, false_or, or_true, true_or, not_true_eq_false, not_false_eq_true, Prod.fst, Prod.snd] at *); first | done | assumption | omega) | ((simp (config := { decide := true, failIfUnchanged := false }) only [Bool.and_eq_true, Bool.or_eq_true, Bool.and_eq_false_iff, Bool.or_eq_false_iff, Bool.not_eq_true', Bool.not_eq_false', Bool.not_eq_true, Bool.not_eq_false, decide_eq_true_eq, decide_eq_false_iff_not, blt_iff, blt_niff, beq_iff, beq_niff, beq_iff_eq, beq_eq_false_iff_ne, bne_iff_ne, bne_eq_false_iff_eq, ne_eq, List.all_cons, List.all_nil, D.plain, List.length_cons, List.length_nil, List.length_append, List.length_set, List.length_replicate, IntKind.wrap_i64, IntKind.wrap_u64, IntKind.wrap_u32, IntKind.wrap_i32, IntKind.wrap_u8, true_and, and_true, or_false, false_or, or_true, true_or, not_true_eq_false, not_false_eq_true, Prod.fst, Prod.snd] at *); simp only [← List.length_pos_iff] at *; omega) | (simp_all; done) | (have := @len_pos; simp_all; try omega))))
def ref1_SameWords_i0 : LInv := {
  α := (Int)
  F := fun st a => ([(0, (lk st 0)), (1, (lk st 1)), (5, .int i64 a)], [])
  a0 := fun st => (lk st 5).toInt
  ex0 := fun st => [] ++ []
  next := fun st => (lk st 5).toInt
  ex := fun st => [] ++ [] }
def ref1_SameWords_invs : List (Nat × LInv) := [(4, ref1_SameWords_i0)]
def ref1_SameWords_m : Model := mkP 24 [] true [.one (.ints .u32), .one (.ints .u32)] [] (fun args rows => ref1_SameWords_pre (argL .u32 args 0) (argL .u32 args 1)) (fun args rows => ref1_SameWords (argL .u32 args 0) (argL .u32 args 1)) (fun X => .bool X) (fun X => [])
theorem ref1_SameWords_ok : ModelOK Try.prog ref1_SameWords_m := mkP_of drawn tabOK (.nil) Try.func24 Try.call24 (fun args rows => ref1_SameWords_t (argL .u32 args 0) (argL .u32 args 1)) [] ref1_SameWords_invs 3 (fun _ _ _ => by kernel_rfl) (fun _ _ => rfl) (fun args rows h => ref1_SameWords_tot (argL .u32 args 0) (argL .u32 args 1) h) (fun _ X => by kernel_rfl)
def ref1_Copy_t (m : (List Int)) : Tree (List Int) :=
.cn (Nat.blt (0 : Nat) (1 : Nat) && Nat.beq (1 : Nat) (1 : Nat) && List.all [D.int u32 (0 : Int)] D.plain && decide ((0 : Int) ≤ (↑(List.length m) : Int) ∧ (↑(List.length m) : Int) ≤ (↑(List.length m) : Int) ∧ (↑(List.length m) : Int) ≤ (9223372036854775807 : Int) ∧ (↑(4 : Nat) : Int) * (↑(List.length m) : Int) ≤ (140737488355328 : Int))) (let E1 := List.length (List.replicate (Int.toNat (↑(List.length m) : Int)) (0 : Int)); .lf (List.take (Min.min (List.length m) E1) m ++ List.drop (Min.min (List.length m) E1) (List.replicate (Int.toNat (↑(List.length m) : Int)) (0 : Int))))
def ref1_Copy (m : (List Int)) : (List Int) := (ref1_Copy_t m).m
abbrev ref1_Copy_pre (m : (List Int)) : Prop := (ref1_Copy_t m).p
def ref1_Copy_m : Model := mkP 39 [] true [.one (.ints .u32)] [] (fun args rows => ref1_Copy_pre (argL .u32 args 0)) (fun args rows => ref1_Copy (argL .u32 args 0)) (fun X => .all 0) (fun X => [⟨false, 61, 1, .ints .u32 X⟩])
theorem ref1_Copy_ok : ModelOK Try.prog ref1_Copy_m := mkP_of drawn tabOK (.nil) Try.func39 Try.call39 (fun args rows => ref1_Copy_t (argL .u32 args 0)) [.row 61 1 (.ints .u32)] [] 2 (fun _ _ _ => by kernel_rfl) (fun _ _ => rfl) (fun _ _ h => h) (fun _ X => by kernel_rfl)
def ref1_Pages_t (m : (List Int)) : Tree Int :=
.br (Int.tmod (↑(List.length m) : Int) (32 : Int) != (0 : Int)) (.lf 0) (.br (decide ((↑(List.length m) : Int) > (1024 : Int))) (.lf 0) (.lf (wrap i64 (Int.tdiv (↑(List.length m) : Int) 32))))
def ref1_Pages (m : (List Int)) : Int := (ref1_Pages_t m).m
def ref1_Pages_m : Model := mkR 19 [] true [.one (.ints .u32)] [] (fun args rows => ref1_Pages (argL .u32 args 0)) (fun X => .int .i64 X) (fun X => [])
theorem ref1_Pages_ok : ModelOK Try.prog ref1_Pages_m := mkR_of drawn tabOK (.nil) Try.func19 Try.call19 (fun args rows => ref1_Pages_t (argL .u32 args 0)) [] [] 2 (fun _ _ _ => by kernel_rfl) (fun _ _ => rfl) (fun _ _ => Tree.free_ok (by kernel_rfl)) (fun _ X => by kernel_rfl)
def ref1_Put_t (m : (List Int)) (addr : Int) (size : Int) (v : Int) : Tree (List Int) :=
let E1 := Nat.beq 1 1 && Nat.blt 0 1 && decide (0 ≤ wrap u32 (Int.tdiv addr 4) ∧ wrap u32 (Int.tdiv addr 4) < (↑(List.length m) : Int)); let E2 := Int.toNat (wrap u32 (Int.tdiv addr 4)); .br (size == 4) (.cn E1 (.lf (List.set m E2 v))) (.cn E1 (let E3 := decide (0 ≤ wrap u32 (8 * Int.tmod addr 4)); .cn E3 (.cn E3 (.cn E1 (.lf (List.set m E2 (ior u32 (iandn u32 (List.getD m E2 0) (ishl u32 255 (wrap u32 (8 * Int.tmod addr 4)))) (ishl u32 (iand u32 v 255) (wrap u32 (8 * Int.tmod addr 4))))))))))
def ref1_Put (m : (List Int)) (addr : Int) (size : Int) (v : Int) : (List Int) := (ref1_Put_t m addr size v).m
abbrev ref1_Put_pre (m : (List Int)) (addr : Int) (size : Int) (v : Int) : Prop := (ref1_Put_t m addr size v).p
def ref1_Put_m : Model := mkP 49 [true, false, false, false] true [.one (.row 0), .one (.int .u32), .one (.int .i64), .one (.int .u32)] [.arr 61 1 (.ints .u32)] (fun args rows => ref1_Put_pre (rowL .u32 rows 0) (argI args 1) (argI args 2) (argI args 3)) (fun args rows => ref1_Put (rowL .u32 rows 0) (argI args 1) (argI args 2) (argI args 3)) (fun X => .tup []) (fun X => [⟨false, 61, 1, .ints .u32 X⟩])
theorem ref1_Put_ok : ModelOK Try.prog ref1_Put_m := mkP_of drawn tabOK (.nil) Try.func49 Try.call49 (fun args rows => ref1_Put_t (rowL .u32 rows 0) (argI args 1) (argI args 2) (argI args 3)) [] [] 2 (fun _ _ _ => by kernel_rfl) (fun _ _ => rfl) (fun _ _ h => h) (fun _ X => by kernel_rfl)
def ref1_Fill_meas0 (m : (List Int)) (frame : Int) (s : (List UInt8)) (z : (Int) × (List Int)) : Nat := (128 - z.1).toNat
def ref1_Fill_t (m : (List Int)) (frame : Int) (s : (List UInt8)) : Tree (List Int) :=
.lp inferInstance (ref1_Fill_meas0 m frame s (0, m) + 1) ((True ∧ rE (frame : Int) ∧ rE (s : List UInt8) ∧ rE (0 : Int) ∧ True) ∧ rE (m : List Int) ∧ True) (0, m) fun (v0 : Int × List Int) => .br (decide (v0.fst < (↑(List.length s) : Int))) (.br (decide (v0.fst < 128)) (.cn (decide (0 ≤ v0.fst ∧ v0.fst < (↑(List.length s) : Int))) (let E1 := wrap u32 (↑(UInt8.toNat (List.getD s (Int.toNat v0.fst) (0 : UInt8))) : Int); let E2 := wrap u32 (wrap i64 (wrap i64 (frame * 128) + v0.fst)); .an (ref1_Put_pre v0.snd E2 1 E1) (.lv (ref1_Put v0.snd E2 1 E1) fun (x0 : List Int) => .nx ((True ∧ rE (frame : Int) ∧ rE (s : List UInt8) ∧ rE ((wrap i64 (v0.fst + 1)) : Int) ∧ True) ∧ rE (x0 : List Int) ∧ True) (Sum.inl (wrap i64 (v0.fst + 1), x0))))) (.lf (Sum.inr v0.snd))) (.lf (Sum.inr v0.snd))
def ref1_Fill (m : (List Int)) (frame : Int) (s : (List UInt8)) : (List Int) := (ref1_Fill_t m frame s).m
abbrev ref1_Fill_pre (m : (List Int)) (frame : Int) (s : (List UInt8)) : Prop := (ref1_Fill_t m frame s).p
def ref1_Fill_i0 : LInv := {
  α := (Int) × (List Int)
  F := fun st a => ([(0, .all 0), (1, (lk st 1)), (2, (lk st 2)), (6, .int i64 a.1)], [⟨false, 61, 1, .ints u32 a.2⟩])
  a0 := fun st => ((lk st 6).toInt, (intsOf st.rows 0))
  ex0 := fun st => [0] ++ []
  next := fun st => ((lk st 6).toInt, (intsOf st.rows 0))
  ex := fun st => [0] ++ [] }
def ref1_Fill_invs : List (Nat × LInv) := [(1, ref1_Fill_i0)]
def ref1_Fill_m : Model := mkP 48 [true, false, false] true [.one (.row 0), .one (.int .i64), .one (.str)] [.arr 61 1 (.ints .u32)] (fun args rows => ref1_Fill_pre (rowL .u32 rows 0) (argI args 1) (argS args 2)) (fun args rows => ref1_Fill (rowL .u32 rows 0) (argI args 1) (argS args 2)) (fun X => .tup []) (fun X => [⟨false, 61, 1, .ints .u32 X⟩])
theorem ref1_Fill_ok : ModelOK Try.prog ref1_Fill_m := mkP_of drawn tabOK (.cons ref1_Put_ok (.nil)) Try.func48 Try.call48 (fun args rows => ref1_Fill_t (rowL .u32 rows 0) (argI args 1) (argS args 2)) [] ref1_Fill_invs 3 (fun _ _ _ => by kernel_rfl) (fun _ _ => rfl) (fun _ _ h => h) (fun _ X => by kernel_rfl)
def ref1_Low_inv0 (x : Int) (n : Int) (z : (Int) × (List Int)) : Prop := 0 ≤ z.1 ∧ (z.2.length : Int) = z.1 ∧ (z.1 ≤ n ∨ z.1 = 0)
def ref1_Low_meas0 (x : Int) (n : Int) (z : (Int) × (List Int)) : Nat := (n - z.1).toNat
def ref1_Low_t (x : Int) (n : Int) : Tree (List UInt8) :=
.lp inferInstance (ref1_Low_meas0 x n (0, []) + 1) ((rE (x : Int) ∧ rE (n : Int) ∧ True ∧ rE (0 : Int) ∧ True) ∧ rE ([] : List Int) ∧ True) (0, []) fun (v0 : Int × List Int) => .br (decide (v0.fst < n)) (.cn (decide (0 ≤ wrap u64 (wrap i64 (8 * v0.fst)))) (.cn (decide (1 * (List.length v0.snd + 1) ≤ 140737488355328)) (.nx ((rE (x : Int) ∧ rE (n : Int) ∧ True ∧ rE ((wrap i64 (v0.fst + 1)) : Int) ∧ True) ∧ rE ((v0.snd ++ [wrap u8 (ishr u32 x (wrap u64 (wrap i64 (8 * v0.fst))))]) : List Int) ∧ True) (Sum.inl (wrap i64 (v0.fst + 1), v0.snd ++ [wrap u8 (ishr u32 x (wrap u64 (wrap i64 (8 * v0.fst))))]))))) (.lf (Sum.inr (bytesOf v0.snd)))
def ref1_Low (x : Int) (n : Int) : (List UInt8) := (ref1_Low_t x n).m
def ref1_Low_pre (x : Int) (n : Int) : Prop :=
n ≤ 1000000000000
theorem ref1_Low_tot (x : Int) (n : Int) (hw : ref1_Low_pre x n) : (ref1_Low_t x n).p := by
  simp only [ref1_Low_pre] at hw
  unfold Tree.p ref1_Low_t
  repeat' (first | refine w_lp (inv := ref1_Low_inv0 x n) (μ := ref1_Low_meas0 x n) ?_ (Nat.lt_succ_self _) (fun _ _ => ?_) | exact trivial | refine w_br (fun _ => ?_) (fun _ => ?_) | refine w_cn ?_ ?_ | refine w_an ?_ ?_ | refine w_lv (fun _ _ => ?_) | refine w_nx ?_ | refine w_lf ?_ | refine And.intro ?_ ?_)
  all_goals ((try simp only [ref1_Low_inv0, ref1_Low_meas0] at *); ((subst_vars; first | trivial | assumption | omega | ((simp (config := { decide := true, failIfUnchanged := false }) only [Bool.and_eq_true, Bool.or_eq_true, Bool.and_eq_false_iff, Bool.or_eq_false_iff, Bool.not_eq_true', Bool.not_eq_false', Bool.not_eq_true, Bool.not_eq_false, decide_eq_true_eq, decide_eq_false_iff_not, blt_iff, blt_niff, beq_iff, beq_niff, beq_iff_eq, beq_eq_false_iff_ne, bne_iff_ne, bne_eq_false_iff_eq, ne_eq, List.all_cons, List.all_nil, D.plain, List.length_cons, List.length_nil, List.length_append, List.length_set, List.length_replicate, IntKind.wrap_i64, IntKind.wrap_u64, IntKind.wrap_u32, IntKind.wrap_i32, IntKind.wrap_u8, true_and, and_true, or_false, false_or, or_true, true_or, not_true_eq_false, not_false_eq_true, Prod.fst, Prod.snd] at *); first | done | assumption | omega) | ((simp (config := { decide := true, failIfUnchanged := false }) only [Bool.and_eq_true, Bool.or_eq_true, Bool.and_eq_false_iff, Bool.or_eq_false_iff, Bool.not_eq_true', Bool.not_eq_false', Bool.not_eq_true, Bool.not_eq_false, decide_eq_true_eq, decide_eq_false_iff_not, blt_iff, blt_niff, beq_iff, beq_niff, beq_iff_eq, beq_eq_false_iff_ne, bne_iff_ne, bne_eq_false_iff_eq, ne_eq, List.all_cons, List.all_nil, D.plain, List.length_cons, List.length_nil, List.length_append, List.length_set, List.length_replicate, IntKind.wrap_i64, IntKind.wrap_u64, IntKind.wrap_u32, IntKind.wrap_i32, IntKind.wrap_u8, true_and, and_true, or_false, false_or, or_true, true_or, not_true_eq_false, not_false_eq_true, Prod.fst, Prod.snd] at *); simp only [← List.length_pos_iff] at *; omega) | (simp_all; done) | (have := @len_pos; simp_all; try omega))))
def ref1_Low_i0 : LInv := {
  α := (Int) × (List Int)
  F := fun st a => ([(0, (lk st 0)), (1, (lk st 1)), (5, .all 0), (6, .int i64 a.1)], [⟨false, 5, 1, .ints u8 a.2⟩])
  a0 := fun st => ((lk st 6).toInt, (intsOf st.rows (rN st 5)))
  ex0 := fun st => [] ++ [(rowNo (lk st 5) (st.rows.length + 0))]
  next := fun st => ((lk st 6).toInt, (intsOf st.rows (rN st 5)))
  ex := fun st => [] ++ [(rowNo (lk st 5) (st.rows.length + 0))] }
def ref1_Low_invs : List (Nat × LInv) := [(3, ref1_Low_i0)]
def ref1_Low_m : Model := mkP 47 [] true [.one (.int .u32), .one (.int .i64)] [] (fun args rows => ref1_Low_pre (argI args 0) (argI args 1)) (fun args rows => ref1_Low (argI args 0) (argI args 1)) (fun X => .str X) (fun X => [])
theorem ref1_Low_ok : ModelOK Try.prog ref1_Low_m := mkP_of drawn tabOK (.nil) Try.func47 Try.call47 (fun args rows => ref1_Low_t (argI args 0) (argI args 1)) [] ref1_Low_invs 3 (fun _ _ _ => by kernel_rfl) (fun _ _ => rfl) (fun args rows h => ref1_Low_tot (argI args 0) (argI args 1) h) (fun _ X => by kernel_rfl)
def ref1_Page_meas0 (m : (List Int)) (frame : Int) (z : (Int) × (List Int)) : Nat := (32 - z.1).toNat
def ref1_Page_t (m : (List Int)) (frame : Int) : Tree ((List UInt8) × Bool) :=
.br (decide (frame < 0)) (.lf ([], false)) (.lv (ref1_Pages m) fun (x0 : Int) => .br (decide (frame ≥ x0)) (.lf ([], false)) (.lp inferInstance (ref1_Page_meas0 m frame (0, []) + 1) ((((Els.Nil (Els.ints u32 m) ∨ rE (1 : Nat)) ∧ rE (m : List Int)) ∧ rE (frame : Int) ∧ True ∧ rE (0 : Int) ∧ True) ∧ rE ([] : List Int) ∧ True) (0, []) fun (v0 : Int × List Int) => .br (decide (v0.fst < 32)) (.cn (Nat.beq (nat_lit 1) 1 && Nat.blt 0 1 && decide (0 ≤ wrap i64 (wrap i64 (frame * 32) + v0.fst) ∧ wrap i64 (wrap i64 (frame * 32) + v0.fst) < (↑(List.length m) : Int))) (let E1 := List.getD m (Int.toNat (wrap i64 (wrap i64 (frame * 32) + v0.fst))) 0; .an (ref1_Low_pre E1 4) (.lv (ref1_Low E1 4) fun (x1 : List UInt8) => .cn (decide (1 * (List.length v0.snd + List.length (bytesI x1)) ≤ 140737488355328)) (.nx ((((Els.Nil (Els.ints u32 m) ∨ rE ((nat_lit 1) : Nat)) ∧ rE (m : List Int)) ∧ rE (frame : Int) ∧ True ∧ rE ((wrap i64 (v0.fst + 1)) : Int) ∧ True) ∧ rE ((v0.snd ++ bytesI x1) : List Int) ∧ True) (Sum.inl (wrap i64 (v0.fst + 1), v0.snd ++ bytesI x1)))))) (.lf (Sum.inr (bytesOf v0.snd, true)))))
def ref1_Page (m : (List Int)) (frame : Int) : ((List UInt8) × Bool) := (ref1_Page_t m frame).m
abbrev ref1_Page_pre (m : (List Int)) (frame : Int) : Prop := (ref1_Page_t m frame).p
def ref1_Page_i0 : LInv := {
  α := (Int) × (List Int)
  F := fun st a => ([(0, (lk st 0)), (1, (lk st 1)), (6, .all 0), (7, .int i64 a.1)], [⟨false, 5, 1, .ints u8 a.2⟩])
  a0 := fun st => ((lk st 7).toInt, (intsOf st.rows (rN st 6)))
  ex0 := fun st => [] ++ [(rowNo (lk st 6) (st.rows.length + 0))]
  next := fun st => ((lk st 7).toInt, (intsOf st.rows (rN st 6)))
  ex := fun st => [] ++ [(rowNo (lk st 6) (st.rows.length + 0))] }
def ref1_Page_invs : List (Nat × LInv) := [(5, ref1_Page_i0)]
def ref1_Page_m : Model := mkP 36 [] true [.one (.ints .u32), .one (.int .i64)] [] (fun args rows => ref1_Page_pre (argL .u32 args 0) (argI args 1)) (fun args rows => ref1_Page (argL .u32 args 0) (argI args 1)) (fun X => .tup [.str (X.1), .bool (X.2)]) (fun X => [])
theorem ref1_Page_ok : ModelOK Try.prog ref1_Page_m := mkP_of drawn tabOK (.cons ref1_Pages_ok (.cons ref1_Low_ok (.nil))) Try.func36 Try.call36 (fun args rows => ref1_Page_t (argL .u32 args 0) (argI args 1)) [] ref1_Page_invs 3 (fun _ _ _ => by kernel_rfl) (fun _ _ => rfl) (fun _ _ h => h) (fun _ X => by kernel_rfl)
def ref30_ValidCopy_t (c : ApiPrecopy) : Tree Bool :=
.br (decide ((↑(List.length c.Dirty) : Int) ≥ (1 : Int))) (.br (decide ((↑(List.length c.Dirty) : Int) ≤ (32 : Int))) (.br (decide (c.Round ≥ 0)) (.br (decide (c.Round ≤ 11)) (.br (decide (c.Sent ≥ 0)) (.lf (decide (c.Sent ≤ 352))) (.lf false)) (.lf false)) (.lf false)) (.lf false)) (.lf false)
def ref30_ValidCopy (c : ApiPrecopy) : Bool := (ref30_ValidCopy_t c).m
def ref30_ValidCopy_m : Model := mkR 21 [] true [.agg ApiPrecopy.sig] [] (fun args rows => ref30_ValidCopy (ApiPrecopy.of (args.getD 0 .dead).cells)) (fun X => .bool X) (fun X => [])
theorem ref30_ValidCopy_ok : ModelOK Try.prog ref30_ValidCopy_m := mkR_of drawn tabOK (.nil) Try.func21 Try.call21 (fun args rows => ref30_ValidCopy_t (ApiPrecopy.of (args.getD 0 .dead).cells)) [] [] 2 (fun _ _ _ => by kernel_rfl) (fun _ _ => rfl) (fun _ _ => Tree.free_ok (by kernel_rfl)) (fun _ X => by kernel_rfl)
def ref30_Begin_meas0 (pages : Int) (z : (Int) × (List Bool)) : Nat := (pages - z.1).toNat
def ref30_Begin_t (pages : Int) : Tree (ApiPrecopy × Bool) :=
.br (decide (pages < 1)) (.lf ({ Dirty := [], Round := 0, Sent := 0 }, false)) (.br (decide (pages > 32)) (.lf ({ Dirty := [], Round := 0, Sent := 0 }, false)) (.cn (Nat.blt 0 1 && Nat.beq 1 1 && List.all [D.bool false] D.plain && decide (0 ≤ pages ∧ pages ≤ pages ∧ pages ≤ 9223372036854775807 ∧ (↑1 : Int) * pages ≤ 140737488355328)) (.lp inferInstance (ref30_Begin_meas0 pages (0, List.replicate (Int.toNat pages) false) + 1) ((rE (pages : Int) ∧ (rE ((nat_lit 0) : Nat) ∧ rE ((nat_lit 0) : Nat)) ∧ (rE ((nat_lit 0) : Nat) ∧ rE ((nat_lit 0) : Nat)) ∧ rE (0 : Int) ∧ True) ∧ (True ∧ rE (0 : Int) ∧ rE (0 : Int) ∧ True) ∧ (True ∧ rE (0 : Int) ∧ rE (0 : Int) ∧ True) ∧ rE ((List.replicate (Int.toNat pages) false) : List Bool) ∧ True) (0, List.replicate (Int.toNat pages) false) fun (v0 : Int × List Bool) => .br (decide (v0.fst < pages)) (.cn (Nat.beq (nat_lit 1) 1 && Nat.blt 0 1 && decide (0 ≤ v0.fst ∧ v0.fst < (↑(List.length v0.snd) : Int))) (.nx ((rE (pages : Int) ∧ (rE ((nat_lit 0) : Nat) ∧ rE ((nat_lit 0) : Nat)) ∧ (rE ((nat_lit 0) : Nat) ∧ rE ((nat_lit 0) : Nat)) ∧ rE ((wrap i64 (v0.fst + 1)) : Int) ∧ True) ∧ (True ∧ rE (0 : Int) ∧ rE (0 : Int) ∧ True) ∧ (True ∧ rE (0 : Int) ∧ rE (0 : Int) ∧ True) ∧ rE ((List.set v0.snd (Int.toNat v0.fst) true) : List Bool) ∧ True) (Sum.inl (wrap i64 (v0.fst + 1), List.set v0.snd (Int.toNat v0.fst) true)))) (.lf (Sum.inr ({ Dirty := v0.snd, Round := 0, Sent := 0 }, true))))))
def ref30_Begin (pages : Int) : (ApiPrecopy × Bool) := (ref30_Begin_t pages).m
abbrev ref30_Begin_pre (pages : Int) : Prop := (ref30_Begin_t pages).p
def ref30_Begin_i0 : LInv := {
  α := (Int) × (List Bool)
  F := fun st a => ([(0, (lk st 0)), (2, .ptr 0 0 0), (4, .ptr 1 0 0), (5, .int i64 a.1)], [⟨true, 26, 3, .gen [[(cT st 2 0), (cT st 2 1), (cT st 2 2)]]⟩, ⟨true, 26, 3, .gen [[.all 2, (cT st 4 1), (cT st 4 2)]]⟩, ⟨false, 4, 1, .bools a.2⟩])
  a0 := fun st => ((lk st 5).toInt, (boolsOf st.rows (rowNo (cT st 4 0) 1000000)))
  ex0 := fun st => [] ++ [(rowNo (lk st 2) (st.rows.length + 0)), (rowNo (lk st 4) (st.rows.length + 1)), (rowNo (cT st 4 0) (st.rows.length + 2))]
  next := fun st => ((lk st 5).toInt, (boolsOf st.rows (rowNo (cT st 4 0) 1000000)))
  ex := fun st => [] ++ [(rowNo (lk st 2) (st.rows.length + 0)), (rowNo (lk st 4) (st.rows.length + 1)), (rowNo (cT st 4 0) (st.rows.length + 2))] }
def ref30_Begin_invs : List (Nat × LInv) := [(5, ref30_Begin_i0)]
def ref30_Begin_m : Model := mkP 16 [] true [.one (.int .i64)] [] (fun args rows => ref30_Begin_pre (argI args 0)) (fun args rows => ref30_Begin (argI args 0)) (fun X => .tup [.agg (ApiPrecopy.cellsW (X.1) (.all 0)), .bool (X.2)]) (fun X => [⟨false, 4, 1, .bools (X.1).Dirty⟩])
theorem ref30_Begin_ok : ModelOK Try.prog ref30_Begin_m := mkP_of drawn tabOK (.nil) Try.func16 Try.call16 (fun args rows => ref30_Begin_t (argI args 0)) [.row 4 1 (.bools)] ref30_Begin_invs 3 (fun _ _ _ => by kernel_rfl) (fun _ _ => rfl) (fun _ _ h => h) (fun _ X => by kernel_rfl)
def ref30_Note_meas0 (c : ApiPrecopy) (frames : (List Int)) (z : (Int) × (List Bool)) : Nat := (frames.length - z.1).toNat
def ref30_Note_t (c : ApiPrecopy) (frames : (List Int)) : Tree ApiPrecopy :=
.cn (decide (1 * (0 + List.length c.Dirty) ≤ 140737488355328)) (.lp inferInstance (ref30_Note_meas0 c frames (0, c.Dirty) + 1) ((((Els.Nil (Els.ints i64 frames) ∨ rE (1 : Nat)) ∧ rE (frames : List Int)) ∧ (rE ((nat_lit 0) : Nat) ∧ rE ((nat_lit 0) : Nat)) ∧ (rE ((nat_lit 0) : Nat) ∧ rE ((nat_lit 0) : Nat)) ∧ rE (0 : Int) ∧ True) ∧ (True ∧ rE c.Round ∧ rE c.Sent ∧ True) ∧ rE c.Dirty ∧ (True ∧ rE (0 : Int) ∧ rE (0 : Int) ∧ True) ∧ True) (0, c.Dirty) fun (v0 : Int × List Bool) => .br (decide (v0.fst < (↑(List.length frames) : Int))) (let E2 := Nat.beq (nat_lit 1) 1 && Nat.blt 0 1 && decide (0 ≤ v0.fst ∧ v0.fst < (↑(List.length frames) : Int)); .cn E2 (let T1 : Tree ((Int × List Bool) ⊕ (ApiPrecopy)) := .nx ((((Els.Nil (Els.ints i64 frames) ∨ rE ((nat_lit 1) : Nat)) ∧ rE (frames : List Int)) ∧ (rE ((nat_lit 0) : Nat) ∧ rE ((nat_lit 0) : Nat)) ∧ (rE ((nat_lit 0) : Nat) ∧ rE ((nat_lit 0) : Nat)) ∧ rE ((wrap i64 (v0.fst + 1)) : Int) ∧ True) ∧ (True ∧ rE c.Round ∧ rE c.Sent ∧ True) ∧ rE v0.snd ∧ (True ∧ rE (0 : Int) ∧ rE (0 : Int) ∧ True) ∧ True) (Sum.inl (wrap i64 (v0.fst + 1), v0.snd)); .br (decide (List.getD frames (Int.toNat v0.fst) (0 : Int) ≥ (0 : Int))) (.cn E2 (.br (decide (List.getD frames (Int.toNat v0.fst) 0 < (↑(List.length v0.snd) : Int))) (.cn E2 (.cn (Nat.beq (nat_lit 1) 1 && Nat.blt 0 1 && decide (0 ≤ List.getD frames (Int.toNat v0.fst) 0 ∧ List.getD frames (Int.toNat v0.fst) 0 < (↑(List.length v0.snd) : Int))) (.nx ((((Els.Nil (Els.ints i64 frames) ∨ rE ((nat_lit 1) : Nat)) ∧ rE (frames : List Int)) ∧ (rE ((nat_lit 0) : Nat) ∧ rE ((nat_lit 0) : Nat)) ∧ (rE ((nat_lit 0) : Nat) ∧ rE ((nat_lit 0) : Nat)) ∧ rE ((wrap i64 (v0.fst + 1)) : Int) ∧ True) ∧ (True ∧ rE c.Round ∧ rE c.Sent ∧ True) ∧ rE ((List.set v0.snd (Int.toNat (List.getD frames (Int.toNat v0.fst) 0)) true) : List Bool) ∧ (True ∧ rE (0 : Int) ∧ rE (0 : Int) ∧ True) ∧ True) (Sum.inl (wrap i64 (v0.fst + 1), List.set v0.snd (Int.toNat (List.getD frames (Int.toNat v0.fst) 0)) true))))) T1)) T1)) (.lf (Sum.inr { Dirty := v0.snd, Round := c.Round, Sent := c.Sent })))
def ref30_Note (c : ApiPrecopy) (frames : (List Int)) : ApiPrecopy := (ref30_Note_t c frames).m
abbrev ref30_Note_pre (c : ApiPrecopy) (frames : (List Int)) : Prop := (ref30_Note_t c frames).p
def ref30_Note_i0 : LInv := {
  α := (Int) × (List Bool)
  F := fun st a => ([(1, (lk st 1)), (2, .ptr 0 0 0), (4, .ptr 2 0 0), (5, .int i64 a.1)], [⟨true, 26, 3, .gen [[.all 1, (cT st 2 1), (cT st 2 2)]]⟩, ⟨false, 4, 1, .bools a.2⟩, ⟨true, 26, 3, .gen [[(cT st 4 0), (cT st 4 1), (cT st 4 2)]]⟩])
  a0 := fun st => ((lk st 5).toInt, (boolsOf st.rows (rowNo (cT st 2 0) 1000000)))
  ex0 := fun st => [] ++ [(rowNo (lk st 2) (st.rows.length + 0)), (rowNo (cT st 2 0) (st.rows.length + 1)), (rowNo (lk st 4) (st.rows.length + 2))]
  next := fun st => ((lk st 5).toInt, (boolsOf st.rows (rowNo (cT st 2 0) 1000000)))
  ex := fun st => [] ++ [(rowNo (lk st 2) (st.rows.length + 0)), (rowNo (cT st 2 0) (st.rows.length + 1)), (rowNo (lk st 4) (st.rows.length + 2))] }
def ref30_Note_invs : List (Nat × LInv) := [(3, ref30_Note_i0)]
def ref30_Note_m : Model := mkP 25 [] true [.agg ApiPrecopy.sig, .one (.ints .i64)] [] (fun args rows => ref30_Note_pre (ApiPrecopy.of (args.getD 0 .dead).cells) (argL .i64 args 1)) (fun args rows => ref30_Note (ApiPrecopy.of (args.getD 0 .dead).cells) (argL .i64 args 1)) (fun X => .agg (ApiPrecopy.cellsW X (.all 0))) (fun X => [⟨false, 4, 1, .bools X.Dirty⟩])
theorem ref30_Note_ok : ModelOK Try.prog ref30_Note_m := mkP_of drawn tabOK (.nil) Try.func25 Try.call25 (fun args rows => ref30_Note_t (ApiPrecopy.of (args.getD 0 .dead).cells) (argL .i64 args 1)) [.row 4 1 (.bools)] ref30_Note_invs 3 (fun _ _ _ => by kernel_rfl) (fun _ _ => rfl) (fun _ _ h => h) (fun _ X => by kernel_rfl)
def ref30_Pending_meas0 (c : ApiPrecopy) (z : (Int) × (List Int)) : Nat := (c.Dirty.length - z.1).toNat
def ref30_Pending_t (c : ApiPrecopy) : Tree (List Int) :=
.lp inferInstance (ref30_Pending_meas0 c (0, []) + 1) (((rE ((nat_lit 0) : Nat) ∧ rE ((nat_lit 0) : Nat)) ∧ True ∧ rE (0 : Int) ∧ True) ∧ (((Els.Nil (Els.bools c.Dirty) ∨ rE (1 : Nat)) ∧ rE c.Dirty) ∧ rE c.Round ∧ rE c.Sent ∧ True) ∧ rE ([] : List Int) ∧ True) (0, []) fun (v0 : Int × List Int) => .br (decide (v0.fst < (↑(List.length c.Dirty) : Int))) (.cn (Nat.beq (nat_lit 1) 1 && Nat.blt 0 1 && decide (0 ≤ v0.fst ∧ v0.fst < (↑(List.length c.Dirty) : Int))) (.br (List.getD c.Dirty (Int.toNat v0.fst) false) (.cn (decide (8 * (List.length v0.snd + 1) ≤ 140737488355328)) (.nx (((rE ((nat_lit 0) : Nat) ∧ rE ((nat_lit 0) : Nat)) ∧ True ∧ rE ((wrap i64 (v0.fst + 1)) : Int) ∧ True) ∧ (((Els.Nil (Els.bools c.Dirty) ∨ rE ((nat_lit 1) : Nat)) ∧ rE c.Dirty) ∧ rE c.Round ∧ rE c.Sent ∧ True) ∧ rE ((v0.snd ++ [v0.fst]) : List Int) ∧ True) (Sum.inl (wrap i64 (v0.fst + 1), v0.snd ++ [v0.fst])))) (.nx (((rE ((nat_lit 0) : Nat) ∧ rE ((nat_lit 0) : Nat)) ∧ True ∧ rE ((wrap i64 (v0.fst + 1)) : Int) ∧ True) ∧ (((Els.Nil (Els.bools c.Dirty) ∨ rE ((nat_lit 1) : Nat)) ∧ rE c.Dirty) ∧ rE c.Round ∧ rE c.Sent ∧ True) ∧ rE v0.snd ∧ True) (Sum.inl (wrap i64 (v0.fst + 1), v0.snd))))) (.lf (Sum.inr v0.snd))
def ref30_Pending (c : ApiPrecopy) : (List Int) := (ref30_Pending_t c).m
abbrev ref30_Pending_pre (c : ApiPrecopy) : Prop := (ref30_Pending_t c).p
def ref30_Pending_i0 : LInv := {
  α := (Int) × (List Int)
  F := fun st a => ([(1, .ptr 0 0 0), (3, .all 1), (4, .int i64 a.1)], [⟨true, 26, 3, .gen [[(cT st 1 0), (cT st 1 1), (cT st 1 2)]]⟩, ⟨false, 3, 1, .ints i64 a.2⟩])
  a0 := fun st => ((lk st 4).toInt, (intsOf st.rows (rN st 3)))
  ex0 := fun st => [] ++ [(rowNo (lk st 1) (st.rows.length + 0)), (rowNo (lk st 3) (st.rows.length + 1))]
  next := fun st => ((lk st 4).toInt, (intsOf st.rows (rN st 3)))
  ex := fun st => [] ++ [(rowNo (lk st 1) (st.rows.length + 0)), (rowNo (lk st 3) (st.rows.length + 1))] }
def ref30_Pending_invs : List (Nat × LInv) := [(3, ref30_Pending_i0)]
def ref30_Pending_m : Model := mkP 27 [] true [.agg ApiPrecopy.sig] [] (fun args rows => ref30_Pending_pre (ApiPrecopy.of (args.getD 0 .dead).cells)) (fun args rows => ref30_Pending (ApiPrecopy.of (args.getD 0 .dead).cells)) (fun X => .all 0) (fun X => [⟨false, 3, 1, .ints .i64 X⟩])
theorem ref30_Pending_ok : ModelOK Try.prog ref30_Pending_m := mkP_of drawn tabOK (.nil) Try.func27 Try.call27 (fun args rows => ref30_Pending_t (ApiPrecopy.of (args.getD 0 .dead).cells)) [.row 3 1 (.ints .i64)] ref30_Pending_invs 3 (fun _ _ _ => by kernel_rfl) (fun _ _ => rfl) (fun _ _ h => h) (fun _ X => by kernel_rfl)
def ref30_Round_meas0 (c : ApiPrecopy) (m : (List Int)) (z : (Int) × (List ApiPageCopy)) : Nat := (c.Dirty.length - z.1).toNat
def ref30_Round_t (c : ApiPrecopy) (m : (List Int)) : Tree (ApiPrecopy × (List ApiPageCopy)) :=
.lv (ref30_ValidCopy c) fun (x0 : Bool) => .br (!x0) (.lf (c, [])) (.br (decide (c.Round > 10)) (.lf (c, [])) (.lv (ref1_Pages m) fun (x1 : Int) => .br (x1 != (↑(List.length c.Dirty) : Int)) (.lf (c, [])) (.an (ref30_Pending_pre c) (.lv (ref30_Pending c) fun (x2 : List Int) => .lp inferInstance (ref30_Round_meas0 c m (0, []) + 1) ((((Els.Nil (Els.ints u32 m) ∨ rE (1 : Nat)) ∧ rE (m : List Int)) ∧ (rE ((nat_lit 0) : Nat) ∧ rE ((nat_lit 0) : Nat)) ∧ (rE ((nat_lit 0) : Nat) ∧ rE ((nat_lit 0) : Nat)) ∧ True ∧ True ∧ rE (0 : Int) ∧ True) ∧ (((Els.Nil (Els.bools c.Dirty) ∨ rE (1 : Nat)) ∧ rE c.Dirty) ∧ rE c.Round ∧ rE c.Sent ∧ True) ∧ (True ∧ rE (0 : Int) ∧ rE (0 : Int) ∧ True) ∧ rE (x2 : List Int) ∧ rE ([] : List (RK.T RK.apiPageCopy)) ∧ True) (0, []) fun (v0 : Int × List ApiPageCopy) => .br (decide (v0.fst < (↑(List.length x2) : Int))) (let E1 := Nat.beq (nat_lit 1) 1 && Nat.blt 0 1 && decide (0 ≤ v0.fst ∧ v0.fst < (↑(List.length x2) : Int)); .cn E1 (.an (ref1_Page_pre m (List.getD x2 (Int.toNat v0.fst) 0)) (.lv (ref1_Page m (List.getD x2 (Int.toNat v0.fst) 0)) fun (x3 : List UInt8 × Bool) => .cn E1 (.cn (decide (24 * (List.length v0.snd + 1) ≤ 140737488355328)) (.nx ((((Els.Nil (Els.ints u32 m) ∨ rE ((nat_lit 1) : Nat)) ∧ rE (m : List Int)) ∧ (rE ((nat_lit 0) : Nat) ∧ rE ((nat_lit 0) : Nat)) ∧ (rE ((nat_lit 0) : Nat) ∧ rE ((nat_lit 0) : Nat)) ∧ True ∧ True ∧ rE ((wrap i64 (v0.fst + 1)) : Int) ∧ True) ∧ (((Els.Nil (Els.bools c.Dirty) ∨ rE ((nat_lit 1) : Nat)) ∧ rE c.Dirty) ∧ rE c.Round ∧ rE c.Sent ∧ True) ∧ (True ∧ rE (0 : Int) ∧ rE (0 : Int) ∧ True) ∧ rE (x2 : List Int) ∧ rE ((v0.snd ++ [{ Frame := List.getD x2 (Int.toNat v0.fst) 0, Data := x3.fst }]) : List (RK.T RK.apiPageCopy)) ∧ True) (Sum.inl (wrap i64 (v0.fst + 1), v0.snd ++ [{ Frame := List.getD x2 (Int.toNat v0.fst) 0, Data := x3.fst }]))))))) (.cn (Nat.blt 0 1 && Nat.beq 1 1 && List.all [D.bool false] D.plain && decide (0 ≤ (↑(List.length c.Dirty) : Int) ∧ (↑(List.length c.Dirty) : Int) ≤ (↑(List.length c.Dirty) : Int) ∧ (↑(List.length c.Dirty) : Int) ≤ (9223372036854775807 : Int) ∧ (↑1 : Int) * (↑(List.length c.Dirty) : Int) ≤ (140737488355328 : Int))) (.lf (Sum.inr ({ Dirty := List.replicate (Int.toNat (↑(List.length c.Dirty) : Int)) false, Round := wrap i64 (c.Round + 1), Sent := wrap i64 (c.Sent + (↑(List.length v0.snd) : Int)) }, v0.snd))))))))
def ref30_Round (c : ApiPrecopy) (m : (List Int)) : (ApiPrecopy × (List ApiPageCopy)) := (ref30_Round_t c m).m
abbrev ref30_Round_pre (c : ApiPrecopy) (m : (List Int)) : Prop := (ref30_Round_t c m).p
def ref30_Round_i0 : LInv := {
  α := (Int) × (List ApiPageCopy)
  F := fun st a => ([(1, (lk st 1)), (2, .ptr 0 0 0), (4, .ptr 1 0 0), (6, .all 3), (7, .all 2), (8, .int i64 a.1)], [⟨true, 26, 3, .gen [[(cT st 2 0), (cT st 2 1), (cT st 2 2)]]⟩, ⟨true, 26, 3, .gen [[(cT st 4 0), (cT st 4 1), (cT st 4 2)]]⟩, ⟨false, 3, 1, esOf st.rows (rN st 7)⟩, ⟨false, 57, 2, .recs RK.apiPageCopy a.2⟩])
  a0 := fun st => ((lk st 8).toInt, (recsOf RK.apiPageCopy st.rows (rN st 6)))
  ex0 := fun st => [] ++ [(rowNo (lk st 2) (st.rows.length + 0)), (rowNo (lk st 4) (st.rows.length + 1)), (rowNo (lk st 7) (st.rows.length + 2)), (rowNo (lk st 6) (st.rows.length + 3))]
  next := fun st => ((lk st 8).toInt, (recsOf RK.apiPageCopy st.rows (rN st 6)))
  ex := fun st => [] ++ [(rowNo (lk st 2) (st.rows.length + 0)), (rowNo (lk st 4) (st.rows.length + 1)), (rowNo (lk st 7) (st.rows.length + 2)), (rowNo (lk st 6) (st.rows.length + 3))] }
def ref30_Round_invs : List (Nat × LInv) := [(6, ref30_Round_i0)]
def ref30_Round_m : Model := mkP 15 [] false [.agg ApiPrecopy.sig, .one (.ints .u32)] [] (fun args rows => ref30_Round_pre (ApiPrecopy.of (args.getD 0 .dead).cells) (argL .u32 args 1)) (fun args rows => ref30_Round (ApiPrecopy.of (args.getD 0 .dead).cells) (argL .u32 args 1)) (fun X => .tup [.agg (ApiPrecopy.cells (X.1)), .all 0]) (fun X => [⟨false, 57, 2, .recs .apiPageCopy (X.2)⟩])
theorem ref30_Round_ok : ModelOK Try.prog ref30_Round_m := mkP_of drawn tabOK (.cons ref30_ValidCopy_ok (.cons ref1_Pages_ok (.cons ref30_Pending_ok (.cons ref1_Page_ok (.nil))))) Try.func15 Try.call15 (fun args rows => ref30_Round_t (ApiPrecopy.of (args.getD 0 .dead).cells) (argL .u32 args 1)) [.sl (.bools) false, .row 57 2 (.recs .apiPageCopy)] ref30_Round_invs 3 (fun _ _ _ => by kernel_rfl) (fun _ _ => rfl) (fun _ _ h => h) (fun h => by cases h)
def ref30_Stop_t (c : ApiPrecopy) (limit : Int) : Tree Bool :=
.lv (ref30_ValidCopy c) fun (x0 : Bool) => .br x0 (.an (ref30_Pending_pre c) (.lv (ref30_Pending c) fun (x1 : List Int) => .br (decide ((↑(List.length x1) : Int) ≤ limit)) (.lf true) (.lf (decide (c.Round ≥ 10))))) (.lf false)
def ref30_Stop (c : ApiPrecopy) (limit : Int) : Bool := (ref30_Stop_t c limit).m
abbrev ref30_Stop_pre (c : ApiPrecopy) (limit : Int) : Prop := (ref30_Stop_t c limit).p
def ref30_Stop_m : Model := mkP 28 [] true [.agg ApiPrecopy.sig, .one (.int .i64)] [] (fun args rows => ref30_Stop_pre (ApiPrecopy.of (args.getD 0 .dead).cells) (argI args 1)) (fun args rows => ref30_Stop (ApiPrecopy.of (args.getD 0 .dead).cells) (argI args 1)) (fun X => .bool X) (fun X => [])
theorem ref30_Stop_ok : ModelOK Try.prog ref30_Stop_m := mkP_of drawn tabOK (.cons ref30_ValidCopy_ok (.cons ref30_Pending_ok (.nil))) Try.func28 Try.call28 (fun args rows => ref30_Stop_t (ApiPrecopy.of (args.getD 0 .dead).cells) (argI args 1)) [] [] 2 (fun _ _ _ => by kernel_rfl) (fun _ _ => rfl) (fun _ _ h => h) (fun _ X => by kernel_rfl)
def ref30_Downtime_meas0 (c : ApiPrecopy) (rate : Int) (z : (Int) × (Int)) : Nat := z.1.toNat
def ref30_Downtime_t (c : ApiPrecopy) (rate : Int) : Tree Int :=
.br (decide (rate < 1)) (.lf 0) (.an (ref30_Pending_pre c) (.lv (ref30_Pending c) fun (x0 : List Int) => .lp inferInstance (ref30_Downtime_meas0 c rate ((↑(List.length x0) : Int), 0) + 1) ((rE (rate : Int) ∧ rE ((↑(List.length x0) : Int) : Int) ∧ rE (0 : Int) ∧ True) ∧ True) ((↑(List.length x0) : Int), 0) fun (v0 : Int × Int) => .br (decide (v0.fst > 0)) (.nx ((rE (rate : Int) ∧ rE ((wrap i64 (v0.fst - if rate < v0.fst then rate else v0.fst)) : Int) ∧ rE ((wrap i64 (v0.snd + 1)) : Int) ∧ True) ∧ True) (Sum.inl (wrap i64 (v0.fst - if rate < v0.fst then rate else v0.fst), wrap i64 (v0.snd + 1)))) (.lf (Sum.inr v0.snd))))
def ref30_Downtime (c : ApiPrecopy) (rate : Int) : Int := (ref30_Downtime_t c rate).m
abbrev ref30_Downtime_pre (c : ApiPrecopy) (rate : Int) : Prop := (ref30_Downtime_t c rate).p
def ref30_Downtime_i0 : LInv := {
  α := (Int) × (Int)
  F := fun st a => ([(1, (lk st 1)), (5, .int i64 a.1), (6, .int i64 a.2)], [])
  a0 := fun st => ((lk st 5).toInt, (lk st 6).toInt)
  ex0 := fun st => [] ++ []
  next := fun st => ((lk st 5).toInt, (lk st 6).toInt)
  ex := fun st => [] ++ [] }
def ref30_Downtime_invs : List (Nat × LInv) := [(5, ref30_Downtime_i0)]
def ref30_Downtime_m : Model := mkP 29 [] true [.agg ApiPrecopy.sig, .one (.int .i64)] [] (fun args rows => ref30_Downtime_pre (ApiPrecopy.of (args.getD 0 .dead).cells) (argI args 1)) (fun args rows => ref30_Downtime (ApiPrecopy.of (args.getD 0 .dead).cells) (argI args 1)) (fun X => .int .i64 X) (fun X => [])
theorem ref30_Downtime_ok : ModelOK Try.prog ref30_Downtime_m := mkP_of drawn tabOK (.cons ref30_Pending_ok (.nil)) Try.func29 Try.call29 (fun args rows => ref30_Downtime_t (ApiPrecopy.of (args.getD 0 .dead).cells) (argI args 1)) [] ref30_Downtime_invs 3 (fun _ _ _ => by kernel_rfl) (fun _ _ => rfl) (fun _ _ h => h) (fun _ X => by kernel_rfl)
def ref1_SetPage_t (m : (List Int)) (frame : Int) (s : (List UInt8)) : Tree ((List Int) × Bool) :=
.an (ref1_Copy_pre m) (.lv (ref1_Copy m) fun (x0 : List Int) => .br (decide (frame < 0)) (.lf (x0, false)) (.lv (ref1_Pages m) fun (x1 : Int) => .br (decide (frame ≥ x1)) (.lf (x0, false)) (.br ((↑(List.length s) : Int) != (128 : Int)) (.lf (x0, false)) (.an (ref1_Fill_pre x0 frame s) (.lv (ref1_Fill x0 frame s) fun (x2 : List Int) => .lf (x2, true))))))
def ref1_SetPage (m : (List Int)) (frame : Int) (s : (List UInt8)) : ((List Int) × Bool) := (ref1_SetPage_t m frame s).m
abbrev ref1_SetPage_pre (m : (List Int)) (frame : Int) (s : (List UInt8)) : Prop := (ref1_SetPage_t m frame s).p
def ref1_SetPage_m : Model := mkP 40 [] true [.one (.ints .u32), .one (.int .i64), .one (.str)] [] (fun args rows => ref1_SetPage_pre (argL .u32 args 0) (argI args 1) (argS args 2)) (fun args rows => ref1_SetPage (argL .u32 args 0) (argI args 1) (argS args 2)) (fun X => .tup [.all 0, .bool (X.2)]) (fun X => [⟨false, 61, 1, .ints .u32 (X.1)⟩])
theorem ref1_SetPage_ok : ModelOK Try.prog ref1_SetPage_m := mkP_of drawn tabOK (.cons ref1_Copy_ok (.cons ref1_Pages_ok (.cons ref1_Fill_ok (.nil)))) Try.func40 Try.call40 (fun args rows => ref1_SetPage_t (argL .u32 args 0) (argI args 1) (argS args 2)) [.row 61 1 (.ints .u32)] [] 2 (fun _ _ _ => by kernel_rfl) (fun _ _ => rfl) (fun _ _ h => h) (fun _ X => by kernel_rfl)
def ref30_ApplyCopies_meas0 (m : (List Int)) (l : (List ApiPageCopy)) (z : (Int) × (List Int)) : Nat := (l.length - z.1).toNat
def ref30_ApplyCopies_t (m : (List Int)) (l : (List ApiPageCopy)) : Tree ((List Int) × Bool) :=
.an (ref1_Copy_pre m) (.lv (ref1_Copy m) fun (x0 : List Int) => .lp inferInstance (ref30_ApplyCopies_meas0 m l (0, x0) + 1) ((((Els.Nil (Els.ints u32 m) ∨ rE (1 : Nat)) ∧ rE (m : List Int)) ∧ ((Els.Nil (Els.recs RK.apiPageCopy l) ∨ rE (2 : Nat)) ∧ rE (l : List (RK.T RK.apiPageCopy))) ∧ True ∧ rE (0 : Int) ∧ True) ∧ rE (x0 : List Int) ∧ True) (0, x0) fun (v0 : Int × List Int) => .br (decide (v0.fst < (↑(List.length l) : Int))) (let E2 := Nat.beq (nat_lit 2) 2 && Nat.blt 0 2 && decide (0 ≤ v0.fst ∧ v0.fst < (↑(List.length l) : Int)); .cn E2 (.cn E2 (let E1 := List.getD l (Int.toNat v0.fst) (RK.dflt RK.apiPageCopy); .an (ref1_SetPage_pre v0.snd E1.Frame E1.Data) (.lv (ref1_SetPage v0.snd E1.Frame E1.Data) fun (x1 : List Int × Bool) => .br (!x1.snd) (.lf (Sum.inr (m, false))) (.nx ((((Els.Nil (Els.ints u32 m) ∨ rE ((nat_lit 1) : Nat)) ∧ rE (m : List Int)) ∧ ((Els.Nil (Els.recs RK.apiPageCopy l) ∨ rE ((nat_lit 2) : Nat)) ∧ rE (l : List (RK.T RK.apiPageCopy))) ∧ True ∧ rE ((wrap i64 (v0.fst + 1)) : Int) ∧ True) ∧ rE x1.fst ∧ True) (Sum.inl (wrap i64 (v0.fst + 1), x1.fst))))))) (.lv (ref1_Pages m) fun (x2 : Int) => .lf (Sum.inr (v0.snd, decide (x2 > 0)))))
def ref30_ApplyCopies (m : (List Int)) (l : (List ApiPageCopy)) : ((List Int) × Bool) := (ref30_ApplyCopies_t m l).m
abbrev ref30_ApplyCopies_pre (m : (List Int)) (l : (List ApiPageCopy)) : Prop := (ref30_ApplyCopies_t m l).p
def ref30_ApplyCopies_i0 : LInv := {
  α := (Int) × (List Int)
  F := fun st a => ([(0, (lk st 0)), (1, (lk st 1)), (6, .all 0), (7, .int i64 a.1)], [⟨false, 61, 1, .ints u32 a.2⟩])
  a0 := fun st => ((lk st 7).toInt, (intsOf st.rows (rN st 6)))
  ex0 := fun st => [] ++ [(rowNo (lk st 6) (st.rows.length + 0))]
  next := fun st => ((lk st 7).toInt, (intsOf st.rows (rN st 6)))
  ex := fun st => [] ++ [(rowNo (lk st 6) (st.rows.length + 0))] }
def ref30_ApplyCopies_invs : List (Nat × LInv) := [(3, ref30_ApplyCopies_i0)]
def ref30_ApplyCopies_m : Model := mkP 18 [] false [.one (.ints .u32), .one (.recs .apiPageCopy)] [] (fun args rows => ref30_ApplyCopies_pre (argL .u32 args 0) (argR .apiPageCopy args 1)) (fun args rows => ref30_ApplyCopies (argL .u32 args 0) (argR .apiPageCopy args 1)) (fun X => .tup [.sl 1 (.ints .u32 (X.1)) false, .bool (X.2)]) (fun X => [])
theorem ref30_ApplyCopies_ok : ModelOK Try.prog ref30_ApplyCopies_m := mkP_of drawn tabOK (.cons ref1_Copy_ok (.cons ref1_SetPage_ok (.cons ref1_Pages_ok (.nil)))) Try.func18 Try.call18 (fun args rows => ref30_ApplyCopies_t (argL .u32 args 0) (argR .apiPageCopy args 1)) [.sl (.ints .u32) false] ref30_ApplyCopies_invs 3 (fun _ _ _ => by kernel_rfl) (fun _ _ => rfl) (fun _ _ h => h) (fun h => by cases h)
def ref30_SameBools_inv0 (a : (List Bool)) (b : (List Bool)) (z : (Int)) : Prop := 0 ≤ z ∧ z ≤ a.length ∧ a.length = b.length
def ref30_SameBools_meas0 (a : (List Bool)) (b : (List Bool)) (z : (Int)) : Nat := (a.length - z).toNat
def ref30_SameBools_t (a : (List Bool)) (b : (List Bool)) : Tree Bool :=
.br ((↑(List.length a) : Int) != (↑(List.length b) : Int)) (.lf false) (.lp inferInstance (ref30_SameBools_meas0 a b 0 + 1) ((((Els.Nil (Els.bools a) ∨ rE (1 : Nat)) ∧ rE (a : List Bool)) ∧ ((Els.Nil (Els.bools b) ∨ rE (1 : Nat)) ∧ rE (b : List Bool)) ∧ rE (0 : Int) ∧ True) ∧ True) 0 fun (v0 : Int) => .br (decide (v0 < (↑(List.length a) : Int))) (.cn (Nat.beq (nat_lit 1) 1 && Nat.blt 0 1 && decide (0 ≤ v0 ∧ v0 < (↑(List.length a) : Int))) (.cn (Nat.beq (nat_lit 1) 1 && Nat.blt 0 1 && decide (0 ≤ v0 ∧ v0 < (↑(List.length b) : Int))) (.br (!List.getD a (Int.toNat v0) false == List.getD b (Int.toNat v0) false) (.lf (Sum.inr false)) (.nx ((((Els.Nil (Els.bools a) ∨ rE ((nat_lit 1) : Nat)) ∧ rE (a : List Bool)) ∧ ((Els.Nil (Els.bools b) ∨ rE ((nat_lit 1) : Nat)) ∧ rE (b : List Bool)) ∧ rE ((wrap i64 (v0 + 1)) : Int) ∧ True) ∧ True) (Sum.inl (wrap i64 (v0 + 1))))))) (.lf (Sum.inr true)))
def ref30_SameBools (a : (List Bool)) (b : (List Bool)) : Bool := (ref30_SameBools_t a b).m
def ref30_SameBools_pre (a : (List Bool)) (b : (List Bool)) : Prop :=
a.length ≤ 1000000000000
theorem ref30_SameBools_tot (a : (List Bool)) (b : (List Bool)) (hw : ref30_SameBools_pre a b) : (ref30_SameBools_t a b).p := by
  simp only [ref30_SameBools_pre] at hw
  unfold Tree.p ref30_SameBools_t
  repeat' (first | refine w_lp (inv := ref30_SameBools_inv0 a b) (μ := ref30_SameBools_meas0 a b) ?_ (Nat.lt_succ_self _) (fun _ _ => ?_) | exact trivial | refine w_br (fun _ => ?_) (fun _ => ?_) | refine w_cn ?_ ?_ | refine w_an ?_ ?_ | refine w_lv (fun _ _ => ?_) | refine w_nx ?_ | refine w_lf ?_ | refine And.intro ?_ ?_)
  all_goals ((try simp only [ref30_SameBools_inv0, ref30_SameBools_meas0] at *); ((subst_vars; first | trivial | assumption | omega | ((simp (config := { decide := true, failIfUnchanged := false }) only [Bool.and_eq_true, Bool.or_eq_true, Bool.and_eq_false_iff, Bool.or_eq_false_iff, Bool.not_eq_true', Bool.not_eq_false', Bool.not_eq_true, Bool.not_eq_false, decide_eq_true_eq, decide_eq_false_iff_not, blt_iff, blt_niff, beq_iff, beq_niff, beq_iff_eq, beq_eq_false_iff_ne, bne_iff_ne, bne_eq_false_iff_eq, ne_eq, List.all_cons, List.all_nil, D.plain, List.length_cons, List.length_nil, List.length_append, List.length_set, List.length_replicate, IntKind.wrap_i64, IntKind.wrap_u64, IntKind.wrap_u32, IntKind.wrap_i32, IntKind.wrap_u8, true_and, and_true, or_false, false_or, or_true, true_or, not_true_eq_false, not_false_eq_true, Prod.fst, Prod.snd] at *); first | done | assumption | omega) | ((simp (config := { decide := true, failIfUnchanged := false }) only [Bool.and_eq_true, Bool.or_eq_true, Bool.and_eq_false_iff, Bool.or_eq_false_iff, Bool.not_eq_true', Bool.not_eq_false', Bool.not_eq_true, Bool.not_eq_false, decide_eq_true_eq, decide_eq_false_iff_not, blt_iff, blt_niff, beq_iff, beq_niff, beq_iff_eq, beq_eq_false_iff_ne, bne_iff_ne, bne_eq_false_iff_eq, ne_eq, List.all_cons, List.all_nil, D.plain, List.length_cons, List.length_nil, List.length_append, List.length_set, List.length_replicate, IntKind.wrap_i64, IntKind.wrap_u64, IntKind.wrap_u32, IntKind.wrap_i32, IntKind.wrap_u8, true_and, and_true, or_false, false_or, or_true, true_or, not_true_eq_false, not_false_eq_true, Prod.fst, Prod.snd] at *); simp only [← List.length_pos_iff] at *; omega) | (simp_all; done) | (have := @len_pos; simp_all; try omega))))
def ref30_SameBools_i0 : LInv := {
  α := (Int)
  F := fun st a => ([(0, (lk st 0)), (1, (lk st 1)), (5, .int i64 a)], [])
  a0 := fun st => (lk st 5).toInt
  ex0 := fun st => [] ++ []
  next := fun st => (lk st 5).toInt
  ex := fun st => [] ++ [] }
def ref30_SameBools_invs : List (Nat × LInv) := [(4, ref30_SameBools_i0)]
def ref30_SameBools_m : Model := mkP 41 [] true [.one (.bools), .one (.bools)] [] (fun args rows => ref30_SameBools_pre (argM args 0) (argM args 1)) (fun args rows => ref30_SameBools (argM args 0) (argM args 1)) (fun X => .bool X) (fun X => [])
theorem ref30_SameBools_ok : ModelOK Try.prog ref30_SameBools_m := mkP_of drawn tabOK (.nil) Try.func41 Try.call41 (fun args rows => ref30_SameBools_t (argM args 0) (argM args 1)) [] ref30_SameBools_invs 3 (fun _ _ _ => by kernel_rfl) (fun _ _ => rfl) (fun args rows h => ref30_SameBools_tot (argM args 0) (argM args 1) h) (fun _ X => by kernel_rfl)
def ref30_SameCopy_t (a : ApiPrecopy) (b : ApiPrecopy) : Tree Bool :=
.br (a.Round == b.Round) (.br (a.Sent == b.Sent) (.an (ref30_SameBools_pre a.Dirty b.Dirty) (.lv (ref30_SameBools a.Dirty b.Dirty) fun (x0 : Bool) => .lf x0)) (.lf false)) (.lf false)
def ref30_SameCopy (a : ApiPrecopy) (b : ApiPrecopy) : Bool := (ref30_SameCopy_t a b).m
abbrev ref30_SameCopy_pre (a : ApiPrecopy) (b : ApiPrecopy) : Prop := (ref30_SameCopy_t a b).p
def ref30_SameCopy_m : Model := mkP 22 [] true [.agg ApiPrecopy.sig, .agg ApiPrecopy.sig] [] (fun args rows => ref30_SameCopy_pre (ApiPrecopy.of (args.getD 0 .dead).cells) (ApiPrecopy.of (args.getD 1 .dead).cells)) (fun args rows => ref30_SameCopy (ApiPrecopy.of (args.getD 0 .dead).cells) (ApiPrecopy.of (args.getD 1 .dead).cells)) (fun X => .bool X) (fun X => [])
theorem ref30_SameCopy_ok : ModelOK Try.prog ref30_SameCopy_m := mkP_of drawn tabOK (.cons ref30_SameBools_ok (.nil)) Try.func22 Try.call22 (fun args rows => ref30_SameCopy_t (ApiPrecopy.of (args.getD 0 .dead).cells) (ApiPrecopy.of (args.getD 1 .dead).cells)) [] [] 2 (fun _ _ _ => by kernel_rfl) (fun _ _ => rfl) (fun _ _ h => h) (fun _ X => by kernel_rfl)
def ref30_SameCopies_inv0 (a : (List ApiPageCopy)) (b : (List ApiPageCopy)) (z : (Int)) : Prop := 0 ≤ z ∧ z ≤ a.length ∧ a.length = b.length
def ref30_SameCopies_meas0 (a : (List ApiPageCopy)) (b : (List ApiPageCopy)) (z : (Int)) : Nat := (a.length - z).toNat
def ref30_SameCopies_t (a : (List ApiPageCopy)) (b : (List ApiPageCopy)) : Tree Bool :=
.br ((↑(List.length a) : Int) != (↑(List.length b) : Int)) (.lf false) (.lp inferInstance (ref30_SameCopies_meas0 a b 0 + 1) ((((Els.Nil (Els.recs RK.apiPageCopy a) ∨ rE (2 : Nat)) ∧ rE (a : List (RK.T RK.apiPageCopy))) ∧ ((Els.Nil (Els.recs RK.apiPageCopy b) ∨ rE (2 : Nat)) ∧ rE (b : List (RK.T RK.apiPageCopy))) ∧ rE (0 : Int) ∧ True) ∧ True) 0 fun (v0 : Int) => .br (decide (v0 < (↑(List.length a) : Int))) (.cn (Nat.beq (nat_lit 2) 2 && Nat.blt 0 2 && decide (0 ≤ v0 ∧ v0 < (↑(List.length a) : Int))) (.cn (Nat.beq (nat_lit 2) 2 && Nat.blt 0 2 && decide (0 ≤ v0 ∧ v0 < (↑(List.length b) : Int))) (let E1 := List.getD a (Int.toNat v0) (RK.dflt RK.apiPageCopy); let E2 := List.getD b (Int.toNat v0) (RK.dflt RK.apiPageCopy); .br (!eqs [D.int i64 E1.Frame, D.str E1.Data] [D.int i64 E2.Frame, D.str E2.Data]) (.lf (Sum.inr false)) (.nx ((((Els.Nil (Els.recs RK.apiPageCopy a) ∨ rE ((nat_lit 2) : Nat)) ∧ rE (a : List (RK.T RK.apiPageCopy))) ∧ ((Els.Nil (Els.recs RK.apiPageCopy b) ∨ rE ((nat_lit 2) : Nat)) ∧ rE (b : List (RK.T RK.apiPageCopy))) ∧ rE ((wrap i64 (v0 + 1)) : Int) ∧ True) ∧ True) (Sum.inl (wrap i64 (v0 + 1))))))) (.lf (Sum.inr true)))
def ref30_SameCopies (a : (List ApiPageCopy)) (b : (List ApiPageCopy)) : Bool := (ref30_SameCopies_t a b).m
def ref30_SameCopies_pre (a : (List ApiPageCopy)) (b : (List ApiPageCopy)) : Prop :=
a.length ≤ 1000000000000
theorem ref30_SameCopies_tot (a : (List ApiPageCopy)) (b : (List ApiPageCopy)) (hw : ref30_SameCopies_pre a b) : (ref30_SameCopies_t a b).p := by
  simp only [ref30_SameCopies_pre] at hw
  unfold Tree.p ref30_SameCopies_t
  repeat' (first | refine w_lp (inv := ref30_SameCopies_inv0 a b) (μ := ref30_SameCopies_meas0 a b) ?_ (Nat.lt_succ_self _) (fun _ _ => ?_) | exact trivial | refine w_br (fun _ => ?_) (fun _ => ?_) | refine w_cn ?_ ?_ | refine w_an ?_ ?_ | refine w_lv (fun _ _ => ?_) | refine w_nx ?_ | refine w_lf ?_ | refine And.intro ?_ ?_)
  all_goals ((try simp only [ref30_SameCopies_inv0, ref30_SameCopies_meas0] at *); ((subst_vars; first | trivial | assumption | omega | ((simp (config := { decide := true, failIfUnchanged := false }) only [Bool.and_eq_true, Bool.or_eq_true, Bool.and_eq_false_iff, Bool.or_eq_false_iff, Bool.not_eq_true', Bool.not_eq_false', Bool.not_eq_true, Bool.not_eq_false, decide_eq_true_eq, decide_eq_false_iff_not, blt_iff, blt_niff, beq_iff, beq_niff, beq_iff_eq, beq_eq_false_iff_ne, bne_iff_ne, bne_eq_false_iff_eq, ne_eq, List.all_cons, List.all_nil, D.plain, List.length_cons, List.length_nil, List.length_append, List.length_set, List.length_replicate, IntKind.wrap_i64, IntKind.wrap_u64, IntKind.wrap_u32, IntKind.wrap_i32, IntKind.wrap_u8, true_and, and_true, or_false, false_or, or_true, true_or, not_true_eq_false, not_false_eq_true, Prod.fst, Prod.snd] at *); first | done | assumption | omega) | ((simp (config := { decide := true, failIfUnchanged := false }) only [Bool.and_eq_true, Bool.or_eq_true, Bool.and_eq_false_iff, Bool.or_eq_false_iff, Bool.not_eq_true', Bool.not_eq_false', Bool.not_eq_true, Bool.not_eq_false, decide_eq_true_eq, decide_eq_false_iff_not, blt_iff, blt_niff, beq_iff, beq_niff, beq_iff_eq, beq_eq_false_iff_ne, bne_iff_ne, bne_eq_false_iff_eq, ne_eq, List.all_cons, List.all_nil, D.plain, List.length_cons, List.length_nil, List.length_append, List.length_set, List.length_replicate, IntKind.wrap_i64, IntKind.wrap_u64, IntKind.wrap_u32, IntKind.wrap_i32, IntKind.wrap_u8, true_and, and_true, or_false, false_or, or_true, true_or, not_true_eq_false, not_false_eq_true, Prod.fst, Prod.snd] at *); simp only [← List.length_pos_iff] at *; omega) | (simp_all; done) | (have := @len_pos; simp_all; try omega))))
def ref30_SameCopies_i0 : LInv := {
  α := (Int)
  F := fun st a => ([(0, (lk st 0)), (1, (lk st 1)), (5, .int i64 a)], [])
  a0 := fun st => (lk st 5).toInt
  ex0 := fun st => [] ++ []
  next := fun st => (lk st 5).toInt
  ex := fun st => [] ++ [] }
def ref30_SameCopies_invs : List (Nat × LInv) := [(4, ref30_SameCopies_i0)]
def ref30_SameCopies_m : Model := mkP 23 [] true [.one (.recs .apiPageCopy), .one (.recs .apiPageCopy)] [] (fun args rows => ref30_SameCopies_pre (argR .apiPageCopy args 0) (argR .apiPageCopy args 1)) (fun args rows => ref30_SameCopies (argR .apiPageCopy args 0) (argR .apiPageCopy args 1)) (fun X => .bool X) (fun X => [])
theorem ref30_SameCopies_ok : ModelOK Try.prog ref30_SameCopies_m := mkP_of drawn tabOK (.nil) Try.func23 Try.call23 (fun args rows => ref30_SameCopies_t (argR .apiPageCopy args 0) (argR .apiPageCopy args 1)) [] ref30_SameCopies_invs 3 (fun _ _ _ => by kernel_rfl) (fun _ _ => rfl) (fun args rows h => ref30_SameCopies_tot (argR .apiPageCopy args 0) (argR .apiPageCopy args 1) h) (fun _ X => by kernel_rfl)
def ref1_SameInts_inv0 (a : (List Int)) (b : (List Int)) (z : (Int)) : Prop := 0 ≤ z ∧ z ≤ a.length ∧ a.length = b.length
def ref1_SameInts_meas0 (a : (List Int)) (b : (List Int)) (z : (Int)) : Nat := (a.length - z).toNat
def ref1_SameInts_t (a : (List Int)) (b : (List Int)) : Tree Bool :=
.br ((↑(List.length a) : Int) != (↑(List.length b) : Int)) (.lf false) (.lp inferInstance (ref1_SameInts_meas0 a b 0 + 1) ((((Els.Nil (Els.ints i64 a) ∨ rE (1 : Nat)) ∧ rE (a : List Int)) ∧ ((Els.Nil (Els.ints i64 b) ∨ rE (1 : Nat)) ∧ rE (b : List Int)) ∧ rE (0 : Int) ∧ True) ∧ True) 0 fun (v0 : Int) => .br (decide (v0 < (↑(List.length a) : Int))) (.cn (Nat.beq (nat_lit 1) 1 && Nat.blt 0 1 && decide (0 ≤ v0 ∧ v0 < (↑(List.length a) : Int))) (.cn (Nat.beq (nat_lit 1) 1 && Nat.blt 0 1 && decide (0 ≤ v0 ∧ v0 < (↑(List.length b) : Int))) (.br (List.getD a (Int.toNat v0) 0 != List.getD b (Int.toNat v0) 0) (.lf (Sum.inr false)) (.nx ((((Els.Nil (Els.ints i64 a) ∨ rE ((nat_lit 1) : Nat)) ∧ rE (a : List Int)) ∧ ((Els.Nil (Els.ints i64 b) ∨ rE ((nat_lit 1) : Nat)) ∧ rE (b : List Int)) ∧ rE ((wrap i64 (v0 + 1)) : Int) ∧ True) ∧ True) (Sum.inl (wrap i64 (v0 + 1))))))) (.lf (Sum.inr true)))
def ref1_SameInts (a : (List Int)) (b : (List Int)) : Bool := (ref1_SameInts_t a b).m
def ref1_SameInts_pre (a : (List Int)) (b : (List Int)) : Prop :=
a.length ≤ 1000000000000
theorem ref1_SameInts_tot (a : (List Int)) (b : (List Int)) (hw : ref1_SameInts_pre a b) : (ref1_SameInts_t a b).p := by
  simp only [ref1_SameInts_pre] at hw
  unfold Tree.p ref1_SameInts_t
  repeat' (first | refine w_lp (inv := ref1_SameInts_inv0 a b) (μ := ref1_SameInts_meas0 a b) ?_ (Nat.lt_succ_self _) (fun _ _ => ?_) | exact trivial | refine w_br (fun _ => ?_) (fun _ => ?_) | refine w_cn ?_ ?_ | refine w_an ?_ ?_ | refine w_lv (fun _ _ => ?_) | refine w_nx ?_ | refine w_lf ?_ | refine And.intro ?_ ?_)
  all_goals ((try simp only [ref1_SameInts_inv0, ref1_SameInts_meas0] at *); ((subst_vars; first | trivial | assumption | omega | ((simp (config := { decide := true, failIfUnchanged := false }) only [Bool.and_eq_true, Bool.or_eq_true, Bool.and_eq_false_iff, Bool.or_eq_false_iff, Bool.not_eq_true', Bool.not_eq_false', Bool.not_eq_true, Bool.not_eq_false, decide_eq_true_eq, decide_eq_false_iff_not, blt_iff, blt_niff, beq_iff, beq_niff, beq_iff_eq, beq_eq_false_iff_ne, bne_iff_ne, bne_eq_false_iff_eq, ne_eq, List.all_cons, List.all_nil, D.plain, List.length_cons, List.length_nil, List.length_append, List.length_set, List.length_replicate, IntKind.wrap_i64, IntKind.wrap_u64, IntKind.wrap_u32, IntKind.wrap_i32, IntKind.wrap_u8, true_and, and_true, or_false, false_or, or_true, true_or, not_true_eq_false, not_false_eq_true, Prod.fst, Prod.snd] at *); first | done | assumption | omega) | ((simp (config := { decide := true, failIfUnchanged := false }) only [Bool.and_eq_true, Bool.or_eq_true, Bool.and_eq_false_iff, Bool.or_eq_false_iff, Bool.not_eq_true', Bool.not_eq_false', Bool.not_eq_true, Bool.not_eq_false, decide_eq_true_eq, decide_eq_false_iff_not, blt_iff, blt_niff, beq_iff, beq_niff, beq_iff_eq, beq_eq_false_iff_ne, bne_iff_ne, bne_eq_false_iff_eq, ne_eq, List.all_cons, List.all_nil, D.plain, List.length_cons, List.length_nil, List.length_append, List.length_set, List.length_replicate, IntKind.wrap_i64, IntKind.wrap_u64, IntKind.wrap_u32, IntKind.wrap_i32, IntKind.wrap_u8, true_and, and_true, or_false, false_or, or_true, true_or, not_true_eq_false, not_false_eq_true, Prod.fst, Prod.snd] at *); simp only [← List.length_pos_iff] at *; omega) | (simp_all; done) | (have := @len_pos; simp_all; try omega))))
def ref1_SameInts_i0 : LInv := {
  α := (Int)
  F := fun st a => ([(0, (lk st 0)), (1, (lk st 1)), (5, .int i64 a)], [])
  a0 := fun st => (lk st 5).toInt
  ex0 := fun st => [] ++ []
  next := fun st => (lk st 5).toInt
  ex := fun st => [] ++ [] }
def ref1_SameInts_invs : List (Nat × LInv) := [(4, ref1_SameInts_i0)]
def ref1_SameInts_m : Model := mkP 26 [] true [.one (.ints .i64), .one (.ints .i64)] [] (fun args rows => ref1_SameInts_pre (argL .i64 args 0) (argL .i64 args 1)) (fun args rows => ref1_SameInts (argL .i64 args 0) (argL .i64 args 1)) (fun X => .bool X) (fun X => [])
theorem ref1_SameInts_ok : ModelOK Try.prog ref1_SameInts_m := mkP_of drawn tabOK (.nil) Try.func26 Try.call26 (fun args rows => ref1_SameInts_t (argL .i64 args 0) (argL .i64 args 1)) [] ref1_SameInts_invs 3 (fun _ _ _ => by kernel_rfl) (fun _ _ => rfl) (fun args rows h => ref1_SameInts_tot (argL .i64 args 0) (argL .i64 args 1) h) (fun _ X => by kernel_rfl)
end
end Go.Proofs.Ytfihpfnndbolpaa

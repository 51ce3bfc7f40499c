/-
  Functions of the program: models, and that its calls come to them (by a program: gen3.py).
-/
import Derived.Test.YtfihpfnndbolpaaPrecopyTellsBase
namespace Go.Proofs.Ytfihpfnndbolpaa
open Go Go.GD Go.IntKind
set_option linter.unusedVariables false
set_option linter.unusedSimpArgs false
set_option maxRecDepth 100000
noncomputable section
instance sumInhPa {α β : Type} [Inhabited β] : Inhabited (α ⊕ β) := ⟨.inr default⟩
def precopy_set_m : Model := ⟨32, [], false, fun args rows => match args, rows with | [.sl 1 (.bools l) _], [] => .abs Unit () (fun _ => .clo 43 [.ptr 0 0 0]) (fun _ => [⟨true, 24, 1, .gen [[.sl 1 (.bools l) false]]⟩]) | _, _ => .no, none, true⟩
theorem precopy_set_ok : ModelOK Try.prog precopy_set_m := by
  refine ⟨fun _ => Try.call32, fun _ => by decide, fun _ args rows r r' hm => ?_, fun _ args rows p r r' hm => ?_, fun _ args rows α v res rows' hm => ?_, fun _ args rows p α v res rows' hm => ?_, fun k hk => (by cases hk), fun k hk => (by cases hk)⟩
  · simp only [precopy_set_m] at hm; split at hm <;> cases hm
  · simp only [precopy_set_m] at hm; split at hm <;> cases hm
  · simp only [precopy_set_m] at hm
    split at hm
    · rename_i l fr
      cases hm
      refine ⟨?_, fun h => by cases h⟩
      have e : (fnVC tab [] (fun _ _ _ => False) Try.f32 [.sl 1 (.bools l) fr] [] fun d R => retD [0] 0 R d (.clo 43 [.ptr 0 0 0]) ∧ retRows [0] 0 R [0] [⟨true, 24, 1, .gen [[.sl 1 (.bools l) false]]⟩]) = (True ∧ ((((l = [] ∨ 1 = 1) ∧ l = l) ∧ True) ∧ True)) := by kernel_rfl
      exact fn_okQ drawn tabOK AllOK.nil Try.func32 (rf := none) (L := fun _ _ _ => False) (fun _ _ => trivial) (fun _ _ _ _ h => h.elim) (fun d R h => ⟨[0], rfl, h⟩) (e.symm ▸ ⟨trivial, ⟨⟨.inr rfl, rfl⟩, trivial⟩, trivial⟩)
    · cases hm
  · simp only [precopy_set_m] at hm; split at hm <;> cases hm
def precopy_count_body_t (p0 : Int) (fr0 : Int) : Tree (Bool × Int) :=
.lf (true, wrap i64 (fr0 + 1))
def precopy_count_body (p0 : Int) (fr0 : Int) : (Bool × Int) := (precopy_count_body_t p0 fr0).m
def precopy_count_body_m : Model := mkK 1 1000000035 [false, true] [.one (.int .i64), .ptr 0] [.box 3 1 [.int .i64]] (fun args rows => precopy_count_body (argI args 0) (rcell rows 0 0).toInt) (fun X => .bool (X.1)) (fun X => [⟨true, 3, 1, .gen [[.int .i64 X.2]]⟩])
theorem precopy_count_body_ok : ModelOK Try.prog precopy_count_body_m := mkK_ofF none (fun _ _ => trivial) drawn tabOK (.nil) (Try.func1000000035 ⟨fun _ _ => by kernel_rfl, rfl⟩) (fun h => absurd h (by decide)) (fun args rows => precopy_count_body_t (argI args 0) (rcell rows 0 0).toInt) [] [] 2 (fun _ _ _ => by kernel_rfl) (fun _ _ => rfl) (fun _ _ => Tree.free_ok (by kernel_rfl))
def set1_count_meas0 (n : Int) (fr0 : (List Bool)) (z : (Int) × (Int)) : Nat := (fr0.length - z.1).toNat
def set1_count_t (n : Int) (fr0 : (List Bool)) : Tree (Int × (List Bool)) :=
.lp inferInstance (set1_count_meas0 n fr0 (0, n) + 1) ((True ∧ ((Els.Nil (Els.bools fr0) ∨ rE (1 : Nat)) ∧ rE (fr0 : List Bool)) ∧ rE ((↑(List.length fr0) : Int) : Int) ∧ rE (0 : Int) ∧ True) ∧ (rE (n : Int) ∧ True) ∧ (((Els.Nil (Els.bools fr0) ∨ rE (1 : Nat)) ∧ rE (fr0 : List Bool)) ∧ True) ∧ True) (0, n) fun (v0 : Int × Int) => .br (decide (v0.fst < (↑(List.length fr0) : Int))) (.cn (Nat.beq (nat_lit 1) 1 && Nat.blt 0 1 && decide (0 ≤ v0.fst ∧ v0.fst < (↑(List.length fr0) : Int))) (.br (List.getD fr0 (Int.toNat v0.fst) false) (.lv (precopy_count_body v0.fst v0.snd) fun (x0 : Bool × Int) => .br (!x0.fst) (.lf (Sum.inr (x0.snd, fr0))) (.nx ((True ∧ ((Els.Nil (Els.bools fr0) ∨ rE ((nat_lit 1) : Nat)) ∧ rE (fr0 : List Bool)) ∧ rE ((↑(List.length fr0) : Int) : Int) ∧ rE ((wrap i64 (v0.fst + 1)) : Int) ∧ True) ∧ (rE x0.snd ∧ True) ∧ (((Els.Nil (Els.bools fr0) ∨ rE ((nat_lit 1) : Nat)) ∧ rE (fr0 : List Bool)) ∧ True) ∧ True) (Sum.inl (wrap i64 (v0.fst + 1), x0.snd)))) (.nx ((True ∧ ((Els.Nil (Els.bools fr0) ∨ rE ((nat_lit 1) : Nat)) ∧ rE (fr0 : List Bool)) ∧ rE ((↑(List.length fr0) : Int) : Int) ∧ rE ((wrap i64 (v0.fst + 1)) : Int) ∧ True) ∧ (rE v0.snd ∧ True) ∧ (((Els.Nil (Els.bools fr0) ∨ rE ((nat_lit 1) : Nat)) ∧ rE (fr0 : List Bool)) ∧ True) ∧ True) (Sum.inl (wrap i64 (v0.fst + 1), v0.snd))))) (.lf (Sum.inr (v0.snd, fr0)))
def set1_count (n : Int) (fr0 : (List Bool)) : (Int × (List Bool)) := (set1_count_t n fr0).m
abbrev set1_count_pre (n : Int) (fr0 : (List Bool)) : Prop := (set1_count_t n fr0).p
def set1_count_i0 : LInv := {
  α := (Int) × (Int)
  F := fun st a => ([(0, .clo 1000000035 [.ptr 0 0 0]), (5, (lk st 5)), (6, (lk st 6)), (7, .int i64 a.1)], [⟨true, 3, 1, .gen [[.int i64 a.2]]⟩, ⟨true, 24, 1, .gen [[(cellOf st.rows 1 0)]]⟩])
  a0 := fun st => ((lk st 7).toInt, (cellOf st.rows 0 0).toInt)
  ex0 := fun st => [0, 1] ++ []
  next := fun st => ((lk st 7).toInt, (cellOf st.rows 0 0).toInt)
  ex := fun st => [0, 1] ++ [] }
def set1_count_invs : List (Nat × LInv) := [(1, set1_count_i0)]
def set1_count_m : Model := mkKP 2 43 [true, true] [.clo 1000000035 [.ptr 0 0 0], .ptr 1] [.box 3 1 [.int .i64], .box 24 1 [.bools]] (fun args rows => set1_count_pre (rcell rows 0 0).toInt (slB (rcell rows 1 0))) (fun args rows => set1_count (rcell rows 0 0).toInt (slB (rcell rows 1 0))) (fun X => .tup []) (fun X => [⟨true, 3, 1, .gen [[.int .i64 X.1]]⟩, ⟨true, 24, 1, .gen [[.sl 1 (.bools X.2) false]]⟩])
theorem set1_count_ok : ModelOK Try.prog set1_count_m := mkKP_of drawn tabOK (.cons precopy_count_body_ok (.nil)) Try.func43 Try.call43 (fun args rows => set1_count_t (rcell rows 0 0).toInt (slB (rcell rows 1 0))) [.sl (.bools) false] set1_count_invs 3 (fun _ _ _ => by kernel_rfl) (fun _ _ => rfl) (fun _ _ h => h)
def precopy_count_t (c : ApiPrecopy) : Tree Int :=
.lv () fun (x0 : Unit) => .an (set1_count_pre 0 c.Dirty) (.lv (set1_count 0 c.Dirty) fun (x1 : Int × List Bool) => .lf x1.fst)
def precopy_count (c : ApiPrecopy) : Int := (precopy_count_t c).m
abbrev precopy_count_pre (c : ApiPrecopy) : Prop := (precopy_count_t c).p
def precopy_count_m : Model := mkP 35 [] true [.agg ApiPrecopy.sig] [] (fun args rows => precopy_count_pre (ApiPrecopy.of (args.getD 0 .dead).cells)) (fun args rows => precopy_count (ApiPrecopy.of (args.getD 0 .dead).cells)) (fun X => .int .i64 X) (fun X => [])
theorem precopy_count_ok : ModelOK Try.prog precopy_count_m := mkP_ofF (some 1000000035) (rf_of (by kernel_rfl) rfl) drawn tabOK (.cons precopy_set_ok (.cons set1_count_ok (.nil))) Try.func35 Try.call35 (fun args rows => precopy_count_t (ApiPrecopy.of (args.getD 0 .dead).cells)) [] [] 2 (fun _ _ _ => by kernel_rfl) (fun _ _ => rfl) (fun _ _ h => h) (fun _ X => by kernel_rfl)
def slices_AppendSeq_int_int_body_t (p0 : Int) (fr0 : (List Int)) : Tree (Bool × (List Int)) :=
.cn (decide (8 * (List.length fr0 + 1) ≤ 140737488355328)) (.lf (true, fr0 ++ [p0]))
def slices_AppendSeq_int_int_body (p0 : Int) (fr0 : (List Int)) : (Bool × (List Int)) := (slices_AppendSeq_int_int_body_t p0 fr0).m
abbrev slices_AppendSeq_int_int_body_pre (p0 : Int) (fr0 : (List Int)) : Prop := (slices_AppendSeq_int_int_body_t p0 fr0).p
def slices_AppendSeq_int_int_body_m : Model := mkKP 1 1000000046 [false, true] [.one (.int .i64), .ptr 0] [.box 22 1 [.row 1], .arr 3 1 (.ints .i64)] (fun args rows => slices_AppendSeq_int_int_body_pre (argI args 0) (rowL .i64 rows 1)) (fun args rows => slices_AppendSeq_int_int_body (argI args 0) (rowL .i64 rows 1)) (fun X => .bool (X.1)) (fun X => [⟨true, 22, 1, .gen [[.all 1]]⟩, ⟨false, 3, 1, .ints .i64 (X.2)⟩])
theorem slices_AppendSeq_int_int_body_ok : ModelOK Try.prog slices_AppendSeq_int_int_body_m := mkKP_ofF none (fun _ _ => trivial) drawn tabOK (.nil) (Try.func1000000046 ⟨fun _ _ => by kernel_rfl, rfl⟩) (fun h => absurd h (by decide)) (fun args rows => slices_AppendSeq_int_int_body_t (argI args 0) (rowL .i64 rows 1)) [.row 3 1 (.ints .i64)] [] 2 (fun _ _ _ => by kernel_rfl) (fun _ _ => rfl) (fun _ _ h => h)
def set1_app_meas0 (s : (List Int)) (fr0 : (List Bool)) (z : (Int) × (List Int)) : Nat := (fr0.length - z.1).toNat
def set1_app_t (s : (List Int)) (fr0 : (List Bool)) : Tree ((List Int) × (List Bool)) :=
.lp inferInstance (set1_app_meas0 s fr0 (0, s) + 1) ((True ∧ ((Els.Nil (Els.bools fr0) ∨ rE (1 : Nat)) ∧ rE (fr0 : List Bool)) ∧ rE ((↑(List.length fr0) : Int) : Int) ∧ rE (0 : Int) ∧ True) ∧ (True ∧ True) ∧ (((Els.Nil (Els.bools fr0) ∨ rE (1 : Nat)) ∧ rE (fr0 : List Bool)) ∧ True) ∧ rE (s : List Int) ∧ True) (0, s) fun (v0 : Int × List Int) => .br (decide (v0.fst < (↑(List.length fr0) : Int))) (.cn (Nat.beq (nat_lit 1) 1 && Nat.blt 0 1 && decide (0 ≤ v0.fst ∧ v0.fst < (↑(List.length fr0) : Int))) (.br (List.getD fr0 (Int.toNat v0.fst) false) (.an (slices_AppendSeq_int_int_body_pre v0.fst v0.snd) (.lv (slices_AppendSeq_int_int_body v0.fst v0.snd) fun (x0 : Bool × List Int) => .br (!x0.fst) (.lf (Sum.inr (x0.snd, fr0))) (.nx ((True ∧ ((Els.Nil (Els.bools fr0) ∨ rE ((nat_lit 1) : Nat)) ∧ rE (fr0 : List Bool)) ∧ rE ((↑(List.length fr0) : Int) : Int) ∧ rE ((wrap i64 (v0.fst + 1)) : Int) ∧ True) ∧ (True ∧ True) ∧ (((Els.Nil (Els.bools fr0) ∨ rE ((nat_lit 1) : Nat)) ∧ rE (fr0 : List Bool)) ∧ True) ∧ rE x0.snd ∧ True) (Sum.inl (wrap i64 (v0.fst + 1), x0.snd))))) (.nx ((True ∧ ((Els.Nil (Els.bools fr0) ∨ rE ((nat_lit 1) : Nat)) ∧ rE (fr0 : List Bool)) ∧ rE ((↑(List.length fr0) : Int) : Int) ∧ rE ((wrap i64 (v0.fst + 1)) : Int) ∧ True) ∧ (True ∧ True) ∧ (((Els.Nil (Els.bools fr0) ∨ rE ((nat_lit 1) : Nat)) ∧ rE (fr0 : List Bool)) ∧ True) ∧ rE v0.snd ∧ True) (Sum.inl (wrap i64 (v0.fst + 1), v0.snd))))) (.lf (Sum.inr (v0.snd, fr0)))
def set1_app (s : (List Int)) (fr0 : (List Bool)) : ((List Int) × (List Bool)) := (set1_app_t s fr0).m
abbrev set1_app_pre (s : (List Int)) (fr0 : (List Bool)) : Prop := (set1_app_t s fr0).p
def set1_app_i0 : LInv := {
  α := (Int) × (List Int)
  F := fun st a => ([(0, .clo 1000000046 [.ptr 0 0 0]), (5, (lk st 5)), (6, (lk st 6)), (7, .int i64 a.1)], [⟨true, 22, 1, .gen [[.all 2]]⟩, ⟨true, 24, 1, .gen [[(cellOf st.rows 1 0)]]⟩, ⟨false, 3, 1, .ints i64 a.2⟩])
  a0 := fun st => ((lk st 7).toInt, (intsOf st.rows (rowNo (cellOf st.rows 0 0) 1000000)))
  ex0 := fun st => [0, 1] ++ [(rowNo (cellOf st.rows 0 0) (st.rows.length + 2))]
  next := fun st => ((lk st 7).toInt, (intsOf st.rows (rowNo (cellOf st.rows 0 0) 1000000)))
  ex := fun st => [0, 1] ++ [(rowNo (cellOf st.rows 0 0) (st.rows.length + 2))] }
def set1_app_invs : List (Nat × LInv) := [(1, set1_app_i0)]
def set1_app_m : Model := mkKP 2 43 [true, true] [.clo 1000000046 [.ptr 0 0 0], .ptr 1] [.box 22 1 [.row 2], .box 24 1 [.bools], .arr 3 1 (.ints .i64)] (fun args rows => set1_app_pre (rowL .i64 rows 2) (slB (rcell rows 1 0))) (fun args rows => set1_app (rowL .i64 rows 2) (slB (rcell rows 1 0))) (fun X => .tup []) (fun X => [⟨true, 22, 1, .gen [[.all 2]]⟩, ⟨true, 24, 1, .gen [[.sl 1 (.bools X.2) false]]⟩, ⟨false, 3, 1, .ints .i64 (X.1)⟩])
theorem set1_app_ok : ModelOK Try.prog set1_app_m := mkKP_of drawn tabOK (.cons slices_AppendSeq_int_int_body_ok (.nil)) Try.func43 Try.call43 (fun args rows => set1_app_t (rowL .i64 rows 2) (slB (rcell rows 1 0))) [.row 3 1 (.ints .i64), .sl (.bools) false] set1_app_invs 3 (fun _ _ _ => by kernel_rfl) (fun _ _ => rfl) (fun _ _ h => h)
def slices_AppendSeq_int_int_t (s : (List Int)) (fr0 : (List Bool)) : Tree ((List Int) × (List Bool)) :=
.an (set1_app_pre [] fr0) (.lv (set1_app [] fr0) fun (x0 : List Int × List Bool) => .lf (x0.fst, x0.snd))
def slices_AppendSeq_int_int (s : (List Int)) (fr0 : (List Bool)) : ((List Int) × (List Bool)) := (slices_AppendSeq_int_int_t s fr0).m
abbrev slices_AppendSeq_int_int_pre (s : (List Int)) (fr0 : (List Bool)) : Prop := (slices_AppendSeq_int_int_t s fr0).p
def slices_AppendSeq_int_int_m : Model := mkKP 1 46 [true, true] [.one .nil0, .clo 43 [.ptr 0 0 0]] [.box 24 1 [.bools]] (fun args rows => slices_AppendSeq_int_int_pre (argL .i64 args 0) (slB (rcell rows 0 0))) (fun args rows => slices_AppendSeq_int_int (argL .i64 args 0) (slB (rcell rows 0 0))) (fun X => .all 1) (fun X => [⟨true, 24, 1, .gen [[.sl 1 (.bools X.2) false]]⟩, ⟨false, 3, 1, .ints .i64 (X.1)⟩])
theorem slices_AppendSeq_int_int_ok : ModelOK Try.prog slices_AppendSeq_int_int_m := mkKP_ofF (some 1000000046) (rf_of (by kernel_rfl) rfl) drawn tabOK (.cons set1_app_ok (.nil)) (.real (by decide) Try.func46 rfl) (fun _ => Try.call46) (fun args rows => slices_AppendSeq_int_int_t (argL .i64 args 0) (slB (rcell rows 0 0))) [.row 3 1 (.ints .i64), .sl (.bools) false] [] 2 (fun _ _ _ => by kernel_rfl) (fun _ _ => rfl) (fun _ _ h => h)
def slices_Collect_int_t (fr0 : (List Bool)) : Tree ((List Int) × (List Bool)) :=
.an (slices_AppendSeq_int_int_pre [] fr0) (.lv (slices_AppendSeq_int_int [] fr0) fun (x0 : List Int × List Bool) => .lf (x0.fst, x0.snd))
def slices_Collect_int (fr0 : (List Bool)) : ((List Int) × (List Bool)) := (slices_Collect_int_t fr0).m
abbrev slices_Collect_int_pre (fr0 : (List Bool)) : Prop := (slices_Collect_int_t fr0).p
def slices_Collect_int_m : Model := mkKP 1 34 [true] [.clo 43 [.ptr 0 0 0]] [.box 24 1 [.bools]] (fun args rows => slices_Collect_int_pre (slB (rcell rows 0 0))) (fun args rows => slices_Collect_int (slB (rcell rows 0 0))) (fun X => .all 1) (fun X => [⟨true, 24, 1, .gen [[.sl 1 (.bools X.2) false]]⟩, ⟨false, 3, 1, .ints .i64 (X.1)⟩])
theorem slices_Collect_int_ok : ModelOK Try.prog slices_Collect_int_m := mkKP_of drawn tabOK (.cons slices_AppendSeq_int_int_ok (.nil)) Try.func34 Try.call34 (fun args rows => slices_Collect_int_t (slB (rcell rows 0 0))) [.row 3 1 (.ints .i64), .sl (.bools) false] [] 2 (fun _ _ _ => by kernel_rfl) (fun _ _ => rfl) (fun _ _ h => h)
def precopy_Pending_t (c : ApiPrecopy) : Tree (List Int) :=
.lv () fun (x0 : Unit) => .an (slices_Collect_int_pre c.Dirty) (.lv (slices_Collect_int c.Dirty) fun (x1 : List Int × List Bool) => .lf x1.fst)
def precopy_Pending (c : ApiPrecopy) : (List Int) := (precopy_Pending_t c).m
abbrev precopy_Pending_pre (c : ApiPrecopy) : Prop := (precopy_Pending_t c).p
def precopy_Pending_m : Model := mkP 11 [] true [.agg ApiPrecopy.sig] [] (fun args rows => precopy_Pending_pre (ApiPrecopy.of (args.getD 0 .dead).cells)) (fun args rows => precopy_Pending (ApiPrecopy.of (args.getD 0 .dead).cells)) (fun X => .all 0) (fun X => [⟨false, 3, 1, .ints .i64 X⟩])
theorem precopy_Pending_ok : ModelOK Try.prog precopy_Pending_m := mkP_of drawn tabOK (.cons slices_Collect_int_ok (.cons precopy_set_ok (.nil))) Try.func11 Try.call11 (fun args rows => precopy_Pending_t (ApiPrecopy.of (args.getD 0 .dead).cells)) [.row 3 1 (.ints .i64)] [] 2 (fun _ _ _ => by kernel_rfl) (fun _ _ => rfl) (fun _ _ h => h) (fun _ X => by kernel_rfl)
end
end Go.Proofs.Ytfihpfnndbolpaa

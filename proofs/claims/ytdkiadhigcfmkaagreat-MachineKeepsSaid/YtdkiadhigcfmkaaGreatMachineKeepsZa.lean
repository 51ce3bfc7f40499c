/-
  Functions of the program: models, and that its calls come to them (by a program: gen3.py).
-/
import Derived.Test.YtdkiadhigcfmkaaGreatMachineKeepsBase
import Derived.Test.YtdkiadhigcfmkaaGreatMachineKeepsYe
namespace Go.Proofs.YtdkiadhigcfmkaaGreat
open Go Go.GD Go.IntKind
set_option linter.unusedVariables false
set_option linter.unusedSimpArgs false
set_option maxRecDepth 100000
noncomputable section
def Qd4 (m : (List Int)) : Tree (List Int) :=
.cn (Nat.blt (0 : Nat) (1 : Nat) && Nat.beq ((1 : Nat)) (1 : Nat) && List.all [D.int u32 (0 : Int)] D.plain && decide ((0 : Int) ≤ (↑(List.length m) : Int) ∧ (↑(List.length m) : Int) ≤ (↑(List.length m) : Int) ∧ (↑(List.length m) : Int) ≤ (9223372036854775807 : Int) ∧ (↑(4 : Nat) : Int) * (↑(List.length m) : Int) ≤ (140737488355328 : Int))) (let E1 := List.length (List.replicate (Int.toNat (↑(List.length m) : Int)) (0 : Int)); .lf (List.take (min (List.length m) E1) m ++ List.drop (min (List.length m) E1) (List.replicate (Int.toNat (↑(List.length m) : Int)) (0 : Int))))
def Z6x (m : (List Int)) : (List Int) := (Qd4 m).m
abbrev Qp8 (m : (List Int)) : Prop := (Qd4 m).p
def Za2 : Q0a := mkP 104 [] true [.one (.ints .u32)] [] (fun args rows => Qp8 (argL .u32 args 0)) (fun args rows => Z6x (argL .u32 args 0)) (fun X => .all 0) (fun X => [⟨false, 27, 1, .ints .u32 X⟩])
theorem Z8 : Q02 Tryz.prog Za2 := Q0k Q0f Q0g (.nil) Tryz.func104 Tryz.call104 (fun args rows => Qd4 (argL .u32 args 0)) [.row 27 1 (.ints .u32)] [] 2 (fun _ _ _ => by kernel_rfl) (fun _ _ => rfl) (fun _ _ h => h) (fun _ X => by kernel_rfl)
def Q9c (m : Q00) : Tree Q00 :=
.an (Qp8 m.Mem) (.lv (Z6x m.Mem) fun (x0 : List Int) => .lf ({ Cpu := m.Cpu, Mem := x0, Console := m.Console, Timer := m.Timer, Disk := m.Disk, Nic := m.Nic, Balloon := m.Balloon, Count := m.Count, Waiting := m.Waiting, Halted := m.Halted }))
def Qo9 (m : Q00) : Q00 := (Q9c m).m
abbrev Qaw (m : Q00) : Prop := (Q9c m).p
def Zeh : Q0a := mkP 46 [] true [.agg Q00.sig] [] (fun args rows => Qaw (Q00.of (args.getD 0 .dead).cells)) (fun args rows => Qo9 (Q00.of (args.getD 0 .dead).cells)) (fun X => .agg (Q00.cellsW X (.all 0))) (fun X => [⟨false, 27, 1, .ints .u32 X.Mem⟩])
theorem Qgo : Q02 Tryz.prog Zeh := Q0k Q0f Q0g (.cons Z8 (.nil)) Tryz.func46 Tryz.call46 (fun args rows => Q9c (Q00.of (args.getD 0 .dead).cells)) [.row 27 1 (.ints .u32)] [] 2 (fun _ _ _ => by kernel_rfl) (fun _ _ => rfl) (fun _ _ h => h) (fun _ X => by kernel_rfl)
def Qlm (n : Int) (k : Int) (z : (Int) × (List Int)) : Prop := 0 ≤ z.1 ∧ (z.2.length : Int) = z.1 ∧ (z.1 ≤ k ∨ z.1 = 0)
def Qdk (n : Int) (k : Int) (z : (Int) × (List Int)) : Nat := (k - z.1).toNat
def Qgu (n : Int) (k : Int) : Tree (List UInt8) :=
.lp inferInstance (Qdk n k (0, []) + 1) ((rE (n : Int) ∧ rE (k : Int) ∧ rE ([] : List UInt8) ∧ True ∧ rE (0 : Int) ∧ True) ∧ rE ([] : List Int) ∧ True) (0, []) fun (v0 : Int × List Int) => .br (decide (v0.fst < k)) (.lv (Qnz n (wrap i64 (Int.tdiv v0.fst 9))) fun (x0 : Int) => .cn (decide (1 * (List.length v0.snd + 1) ≤ 140737488355328)) (.nx ((rE (n : Int) ∧ rE (k : Int) ∧ rE ([] : List UInt8) ∧ True ∧ rE ((wrap i64 (v0.fst + 1)) : Int) ∧ True) ∧ rE ((v0.snd ++ [wrap u8 x0]) : List Int) ∧ True) (Sum.inl (wrap i64 (v0.fst + 1), v0.snd ++ [wrap u8 x0])))) (.lf (Sum.inr (bytesOf v0.snd)))
def Qjj (n : Int) (k : Int) : (List UInt8) := (Qgu n k).m
def Q2y (n : Int) (k : Int) : Prop :=
k ≤ 1000000000000
theorem Z2d (n : Int) (k : Int) (hw : Q2y n k) : (Qgu n k).p := by
  simp only [Q2y] at hw
  unfold Tree.p Qgu
  repeat' (first | refine w_lp (inv := Qlm n k) (μ := Qdk n k) ?_ (Nat.lt_succ_self _) (fun _ _ => ?_) | exact trivial | refine w_br (fun _ => ?_) (fun _ => ?_) | refine w_cn ?_ ?_ | refine w_an ?_ ?_ | refine w_lv (fun _ _ => ?_) | refine w_nx ?_ | refine w_lf ?_ | refine And.intro ?_ ?_)
  all_goals ((try simp only [Qlm, Qdk] at *); ((subst_vars; first | trivial | assumption | omega | ((simp (config := { decide := true, failIfUnchanged := false }) only [Bool.and_eq_true, Bool.or_eq_true, Bool.and_eq_false_iff, Bool.or_eq_false_iff, Bool.not_eq_true', Bool.not_eq_false', Bool.not_eq_true, Bool.not_eq_false, decide_eq_true_eq, decide_eq_false_iff_not, Q38, Q25, Q3b, Q24, beq_iff_eq, beq_eq_false_iff_ne, bne_iff_ne, bne_eq_false_iff_eq, ne_eq, List.all_cons, List.all_nil, D.plain, List.length_cons, List.length_nil, List.length_append, List.length_set, List.length_replicate, IntKind.wrap_i64, IntKind.wrap_u64, IntKind.wrap_u32, IntKind.wrap_i32, IntKind.wrap_u8, true_and, and_true, or_false, false_or, or_true, true_or, not_true_eq_false, not_false_eq_true, Prod.fst, Prod.snd] at *); first | done | assumption | omega) | ((simp (config := { decide := true, failIfUnchanged := false }) only [Bool.and_eq_true, Bool.or_eq_true, Bool.and_eq_false_iff, Bool.or_eq_false_iff, Bool.not_eq_true', Bool.not_eq_false', Bool.not_eq_true, Bool.not_eq_false, decide_eq_true_eq, decide_eq_false_iff_not, Q38, Q25, Q3b, Q24, beq_iff_eq, beq_eq_false_iff_ne, bne_iff_ne, bne_eq_false_iff_eq, ne_eq, List.all_cons, List.all_nil, D.plain, List.length_cons, List.length_nil, List.length_append, List.length_set, List.length_replicate, IntKind.wrap_i64, IntKind.wrap_u64, IntKind.wrap_u32, IntKind.wrap_i32, IntKind.wrap_u8, true_and, and_true, or_false, false_or, or_true, true_or, not_true_eq_false, not_false_eq_true, Prod.fst, Prod.snd] at *); simp only [← List.length_pos_iff] at *; omega) | (simp_all; done) | (have := @Qd1; simp_all; try omega))))
def Z7m : LInv := {
  α := (Int) × (List Int)
  F := fun st a => ([(0, (lk st 0)), (1, (lk st 1)), (4, (lk st 4)), (5, .all 0), (6, .int IntKind.i64 a.1)], [⟨false, 5, 1, .ints IntKind.u8 a.2⟩])
  a0 := fun st => ((lk st 6).toInt, (Q3p st.rows (rN st 5)))
  ex0 := fun st => [] ++ [(Q0p (lk st 5) (st.rows.length + 0))]
  next := fun st => ((lk st 6).toInt, (Q3p st.rows (rN st 5)))
  ex := fun st => [] ++ [(Q0p (lk st 5) (st.rows.length + 0))] }
def Qz6 : List (Nat × LInv) := [(3, Z7m)]
def Z8w : Q0a := mkP 71 [] true [.one (.int .i64), .one (.int .i64)] [] (fun args rows => Q2y (argI args 0) (argI args 1)) (fun args rows => Qjj (argI args 0) (argI args 1)) (fun X => .str X) (fun X => [])
theorem Qsh : Q02 Tryz.prog Z8w := Q0k Q0f Q0g (.cons Qhc (.nil)) Tryz.func71 Tryz.call71 (fun args rows => Qgu (argI args 0) (argI args 1)) [] Qz6 3 (fun _ _ _ => by kernel_rfl) (fun _ _ => rfl) (fun args rows h => Z2d (argI args 0) (argI args 1) h) (fun _ X => by kernel_rfl)
def Qe6 (r : Q01) : Tree Q01 :=
.an (Qaw r.Machine) (.lv (Qo9 r.Machine) fun (x0 : Q00) => .cn (decide (40 * (0 + List.length r.Log) ≤ 140737488355328)) (.cn (decide (32 * (0 + List.length r.Queue) ≤ 140737488355328)) (.lf ({ Machine := x0, Clock := r.Clock, Log := r.Log, Queue := r.Queue }))))
def Qwh (r : Q01) : Q01 := (Qe6 r).m
abbrev Qh (r : Q01) : Prop := (Qe6 r).p
def Zac : Q0a := mkP 243 [] true [.agg Q01.sig] [] (fun args rows => Qh (Q01.of (args.getD 0 .dead).cells)) (fun args rows => Qwh (Q01.of (args.getD 0 .dead).cells)) (fun X => .agg (Q01.cellsW X (.all 0) (.all 1) (.all 2))) (fun X => [⟨false, 27, 1, .ints .u32 X.Machine.Mem⟩, ⟨false, 253, 4, .recs .apiEntry X.Log⟩, ⟨false, 63, 3, .recs .apiEvent X.Queue⟩])
theorem Qs0 : Q02 Tryz.prog Zac := Q0k Q0f Q0g (.cons Qgo (.nil)) Tryz.func243 Tryz.call243 (fun args rows => Qe6 (Q01.of (args.getD 0 .dead).cells)) [.row 27 1 (.ints .u32), .row 253 4 (.recs .apiEntry), .row 63 3 (.recs .apiEvent)] [] 2 (fun _ _ _ => by kernel_rfl) (fun _ _ => rfl) (fun _ _ h => h) (fun _ X => by kernel_rfl)
def Qod (e : Q0i) : Tree Bool :=
.br (e.Kind == 1) (.lf (decide (e.Data = []))) (.br (e.Kind == 6) (.lf (decide (e.Data = []))) (.br (e.Kind == 2) (.br (e.N == 0) (.lf (decide (e.Data = []))) (.lf false)) (.br (e.Kind == 3) (.br (decide (e.N ≤ 255)) (.lf (decide (e.Data = []))) (.lf false)) (.br (e.Kind == 4) (.br (decide (e.N ≤ 1)) (.br (decide (e.Data = [])) (.lf true) (.br (e.N == 1) (.lf ((↑(List.length e.Data) : Int) == (128 : Int))) (.lf false))) (.lf false)) (.br (e.Kind == 5) (.br (e.N == 0) (.br (decide ((↑(List.length e.Data) : Int) ≥ (1 : Int))) (.lf (decide ((↑(List.length e.Data) : Int) ≤ (128 : Int)))) (.lf false)) (.lf false)) (.lf false))))))
def Qxb (e : Q0i) : Bool := (Qod e).m
def Z4k : Q0a := mkR 244 [] true [.agg Q0i.sig] [] (fun args rows => Qxb (Q0i.of (args.getD 0 .dead).cells)) (fun X => .bool X) (fun X => [])
theorem Qzb : Q02 Tryz.prog Z4k := Q0t Q0f Q0g (.nil) Tryz.func244 Tryz.call244 (fun args rows => Qod (Q0i.of (args.getD 0 .dead).cells)) [] [] 2 (fun _ _ _ => by kernel_rfl) (fun _ _ => rfl) (fun _ _ => Tree.free_ok (by kernel_rfl)) (fun _ X => by kernel_rfl)
def Q7d (r : Q01) (e : Q0i) : Tree (Q01 × Bool) :=
.an (Qh r) (.lv (Qwh r) fun (x0 : Q01) => .lv (Qxb e) fun (x1 : Bool) => .br (!x1) (.lf (x0, false)) (.br (e.Kind == 1) (.lf (x0, false)) (.br (decide ((↑(List.length x0.Queue) : Int) ≥ (16 : Int))) (.lf (x0, false)) (.cn (decide (32 * (List.length x0.Queue + 1) ≤ 140737488355328)) (.lf ({ Machine := x0.Machine, Clock := x0.Clock, Log := x0.Log, Queue := x0.Queue ++ [e] }, true))))))
def Qrb (r : Q01) (e : Q0i) : (Q01 × Bool) := (Q7d r e).m
abbrev Qhq (r : Q01) (e : Q0i) : Prop := (Q7d r e).p
def Qzk : Q0a := mkP 199 [] true [.agg Q01.sig, .agg Q0i.sig] [] (fun args rows => Qhq (Q01.of (args.getD 0 .dead).cells) (Q0i.of (args.getD 1 .dead).cells)) (fun args rows => Qrb (Q01.of (args.getD 0 .dead).cells) (Q0i.of (args.getD 1 .dead).cells)) (fun X => .tup [.agg (Q01.cellsW (X.1) (.all 0) (.all 1) (.all 2)), .bool (X.2)]) (fun X => [⟨false, 27, 1, .ints .u32 (X.1).Machine.Mem⟩, ⟨false, 253, 4, .recs .apiEntry (X.1).Log⟩, ⟨false, 63, 3, .recs .apiEvent (X.1).Queue⟩])
theorem Qwa : Q02 Tryz.prog Qzk := Q0k Q0f Q0g (.cons Qs0 (.cons Qzb (.nil))) Tryz.func199 Tryz.call199 (fun args rows => Q7d (Q01.of (args.getD 0 .dead).cells) (Q0i.of (args.getD 1 .dead).cells)) [.row 27 1 (.ints .u32), .row 253 4 (.recs .apiEntry), .row 63 3 (.recs .apiEvent)] [] 2 (fun _ _ _ => by kernel_rfl) (fun _ _ => rfl) (fun _ _ h => h) (fun _ X => by kernel_rfl)
def Qb4 (n : Int) : Tree Q0i :=
.lv (Qnz n 2) fun (x0 : Int) => .br (Int.tmod x0 (7 : Int) == (0 : Int)) (.lf ({ Kind := 2, N := 0, Data := [] })) (.br (Int.tmod x0 (7 : Int) == (1 : Int)) (.lf ({ Kind := 3, N := wrap u32 (iand i64 (ishr i64 x0 8) 255), Data := [] })) (.br (Int.tmod x0 (7 : Int) == (2 : Int)) (.lf ({ Kind := 3, N := wrap u32 (iand i64 (ishr i64 x0 8) 255), Data := [] })) (.br (Int.tmod x0 (7 : Int) == (3 : Int)) (.lf ({ Kind := 4, N := 1, Data := [] })) (.br (Int.tmod x0 (7 : Int) == (4 : Int)) (.an (Q2y x0 128) (.lv (Qjj x0 128) fun (x1 : List UInt8) => .lf ({ Kind := 4, N := 1, Data := x1 }))) (.br (Int.tmod x0 (7 : Int) == (5 : Int)) (let E1 := wrap i64 (1 + Int.tmod (ishr i64 x0 8) 40); .an (Q2y x0 E1) (.lv (Qjj x0 E1) fun (x2 : List UInt8) => .lf ({ Kind := 5, N := 0, Data := x2 }))) (.br (Int.tmod (ishr i64 x0 8) (4 : Int) == (0 : Int)) (.lf ({ Kind := 4, N := 0, Data := [] })) (.lf ({ Kind := 6, N := wrap u32 (Int.tmod (ishr i64 x0 8) 3), Data := [] }))))))))
def Qpu (n : Int) : Q0i := (Qb4 n).m
abbrev Qfb (n : Int) : Prop := (Qb4 n).p
def Z5g : Q0a := mkP 30 [] true [.one (.int .i64)] [] (fun args rows => Qfb (argI args 0)) (fun args rows => Qpu (argI args 0)) (fun X => .agg (Q0i.cells X)) (fun X => [])
theorem Qnp : Q02 Tryz.prog Z5g := Q0k Q0f Q0g (.cons Qhc (.cons Qsh (.nil))) Tryz.func30 Tryz.call30 (fun args rows => Qb4 (argI args 0)) [] [] 2 (fun _ _ _ => by kernel_rfl) (fun _ _ => rfl) (fun _ _ h => h) (fun _ X => by kernel_rfl)
def Qij (m : (List Int)) : Tree Int :=
.br (Int.tmod (↑(List.length m) : Int) (32 : Int) != (0 : Int)) (.lf 0) (.br (decide ((↑(List.length m) : Int) > (1024 : Int))) (.lf 0) (.lf (wrap i64 (Int.tdiv (↑(List.length m) : Int) 32))))
def Q6v (m : (List Int)) : Int := (Qij m).m
def Z7i : Q0a := mkR 79 [] true [.one (.ints .u32)] [] (fun args rows => Q6v (argL .u32 args 0)) (fun X => .int .i64 X) (fun X => [])
theorem Q8e : Q02 Tryz.prog Z7i := Q0t Q0f Q0g (.nil) Tryz.func79 Tryz.call79 (fun args rows => Qij (argL .u32 args 0)) [] [] 2 (fun _ _ _ => by kernel_rfl) (fun _ _ => rfl) (fun _ _ => Tree.free_ok (by kernel_rfl)) (fun _ X => by kernel_rfl)
def Qfm (c : Q0b) : Tree Bool :=
.lf (decide ((↑(List.length c.Keys) : Int) ≤ (16 : Int)))
def Qig (c : Q0b) : Bool := (Qfm c).m
def Qq4 : Q0a := mkR 86 [] true [.agg Q0b.sig] [] (fun args rows => Qig (Q0b.of (args.getD 0 .dead).cells)) (fun X => .bool X) (fun X => [])
theorem Qo6 : Q02 Tryz.prog Qq4 := Q0t Q0f Q0g (.nil) Tryz.func86 Tryz.call86 (fun args rows => Qfm (Q0b.of (args.getD 0 .dead).cells)) [] [] 2 (fun _ _ _ => by kernel_rfl) (fun _ _ => rfl) (fun _ _ => Tree.free_ok (by kernel_rfl)) (fun _ X => by kernel_rfl)
def Qix (t : Q0h) : Tree Bool :=
.br t.Armed (.br t.Fired (.lf false) (.br t.Armed (.lf (t.Deadline != 0)) (.br t.Fired (.lf true) (.lf (t.Deadline == 0))))) (.br t.Armed (.lf (t.Deadline != 0)) (.br t.Fired (.lf true) (.lf (t.Deadline == 0))))
def Qn1 (t : Q0h) : Bool := (Qix t).m
def Qva : Q0a := mkR 87 [] true [.agg Q0h.sig] [] (fun args rows => Qn1 (Q0h.of (args.getD 0 .dead).cells)) (fun X => .bool X) (fun X => [])
theorem Qt7 : Q02 Tryz.prog Qva := Q0t Q0f Q0g (.nil) Tryz.func87 Tryz.call87 (fun args rows => Qix (Q0h.of (args.getD 0 .dead).cells)) [] [] 2 (fun _ _ _ => by kernel_rfl) (fun _ _ => rfl) (fun _ _ => Tree.free_ok (by kernel_rfl)) (fun _ X => by kernel_rfl)
def Ql9 (d0 : Q0d) (pages : Int) : Tree Bool :=
.br (decide (d0.Blocks > 64)) (.lf false) (.br (decide (d0.State < 0)) (.lf false) (.br (decide (d0.State > 3)) (.lf false) (.br (d0.State != 1) (.br (d0.Cmd == 0) (.br (d0.OpBlock == 0) (.br (d0.OpFrame == 0) (.lf (decide (d0.OpData = []))) (.lf false)) (.lf false)) (.lf false)) (.br (decide (d0.OpBlock ≥ d0.Blocks)) (.lf false) (.br (decide (wrap i64 d0.OpFrame ≥ pages)) (.lf false) (.br (d0.Cmd == 1) (.br (decide (d0.OpData = [])) (.lf true) (.br (d0.Cmd == 2) (.lf ((↑(List.length d0.OpData) : Int) == (128 : Int))) (.lf false))) (.br (d0.Cmd == 2) (.lf ((↑(List.length d0.OpData) : Int) == (128 : Int))) (.lf false))))))))
def Qrc (d0 : Q0d) (pages : Int) : Bool := (Ql9 d0 pages).m
def Qy : Q0a := mkR 88 [] true [.agg Q0d.sig, .one (.int .i64)] [] (fun args rows => Qrc (Q0d.of (args.getD 0 .dead).cells) (argI args 1)) (fun X => .bool X) (fun X => [])
theorem Qug : Q02 Tryz.prog Qy := Q0t Q0f Q0g (.nil) Tryz.func88 Tryz.call88 (fun args rows => Ql9 (Q0d.of (args.getD 0 .dead).cells) (argI args 1)) [] [] 2 (fun _ _ _ => by kernel_rfl) (fun _ _ => rfl) (fun _ _ => Tree.free_ok (by kernel_rfl)) (fun _ X => by kernel_rfl)
def Qn2 (n : Q0l) (pages : Int) : Tree Bool :=
let T1 : Tree (Bool) := .br n.Received (.br (decide (n.Got ≥ 1)) (.lf (decide (n.Got ≤ 128))) (.lf false)) (.lf (n.Got == 0)); .br n.Posted (.br n.Received (.lf false) (.br (decide (wrap i64 n.Buffer ≥ pages)) (.lf false) (.br (!n.Posted) (.br (n.Buffer != 0) (.lf false) T1) T1))) (.br (!n.Posted) (.br (n.Buffer != 0) (.lf false) T1) T1)
def Qwz (n : Q0l) (pages : Int) : Bool := (Qn2 n pages).m
def Z2k : Q0a := mkR 89 [] true [.agg Q0l.sig, .one (.int .i64)] [] (fun args rows => Qwz (Q0l.of (args.getD 0 .dead).cells) (argI args 1)) (fun X => .bool X) (fun X => [])
theorem Qy5 : Q02 Tryz.prog Z2k := Q0t Q0f Q0g (.nil) Tryz.func89 Tryz.call89 (fun args rows => Qn2 (Q0l.of (args.getD 0 .dead).cells) (argI args 1)) [] [] 2 (fun _ _ _ => by kernel_rfl) (fun _ _ => rfl) (fun _ _ => Tree.free_ok (by kernel_rfl)) (fun _ X => by kernel_rfl)
def Qbs (b : Q06) (pages : Int) (z : (Int)) : Prop := 0 ≤ z ∧ z ≤ 32
def Q6a (b : Q06) (pages : Int) (z : (Int)) : Nat := (32 - z).toNat
def Q6s (b : Q06) (pages : Int) : Tree Bool :=
.lp inferInstance (Q6a b pages 0 + 1) (((rE b.Target ∧ rE b.Given ∧ True) ∧ rE (pages : Int) ∧ (rE ((nat_lit 0) : Nat) ∧ rE ((nat_lit 0) : Nat)) ∧ rE (false : Bool) ∧ rE (0 : Int) ∧ True) ∧ (rE b.Target ∧ rE b.Given ∧ True) ∧ True) 0 fun (v0 : Int) => .br (decide (v0 < 32)) (.cn (decide (0 ≤ wrap u64 v0)) (let T1 : Tree ((Int) ⊕ (Bool)) := .nx (((rE b.Target ∧ rE b.Given ∧ True) ∧ rE (pages : Int) ∧ (rE ((nat_lit 0) : Nat) ∧ rE ((nat_lit 0) : Nat)) ∧ rE (false : Bool) ∧ rE ((wrap i64 (v0 + 1)) : Int) ∧ True) ∧ (rE b.Target ∧ rE b.Given ∧ True) ∧ True) (Sum.inl (wrap i64 (v0 + 1))); .br (iand u32 (ishr u32 b.Given (wrap u64 v0)) (1 : Int) == (1 : Int)) (.br (decide (v0 ≥ pages)) (.lf (Sum.inr false)) T1) T1)) (.lf (Sum.inr true))
def Qiy (b : Q06) (pages : Int) : Bool := (Q6s b pages).m
theorem Qmq (b : Q06) (pages : Int) : (Q6s b pages).p := by
  unfold Tree.p Q6s
  repeat' (first | refine w_lp (inv := Qbs b pages) (μ := Q6a b pages) ?_ (Nat.lt_succ_self _) (fun _ _ => ?_) | exact trivial | refine w_br (fun _ => ?_) (fun _ => ?_) | refine w_cn ?_ ?_ | refine w_an ?_ ?_ | refine w_lv (fun _ _ => ?_) | refine w_nx ?_ | refine w_lf ?_ | refine And.intro ?_ ?_)
  all_goals ((try simp only [Qbs, Q6a] at *); ((subst_vars; first | trivial | assumption | omega | ((simp (config := { decide := true, failIfUnchanged := false }) only [Bool.and_eq_true, Bool.or_eq_true, Bool.and_eq_false_iff, Bool.or_eq_false_iff, Bool.not_eq_true', Bool.not_eq_false', Bool.not_eq_true, Bool.not_eq_false, decide_eq_true_eq, decide_eq_false_iff_not, Q38, Q25, Q3b, Q24, beq_iff_eq, beq_eq_false_iff_ne, bne_iff_ne, bne_eq_false_iff_eq, ne_eq, List.all_cons, List.all_nil, D.plain, List.length_cons, List.length_nil, List.length_append, List.length_set, List.length_replicate, IntKind.wrap_i64, IntKind.wrap_u64, IntKind.wrap_u32, IntKind.wrap_i32, IntKind.wrap_u8, true_and, and_true, or_false, false_or, or_true, true_or, not_true_eq_false, not_false_eq_true, Prod.fst, Prod.snd] at *); first | done | assumption | omega) | ((simp (config := { decide := true, failIfUnchanged := false }) only [Bool.and_eq_true, Bool.or_eq_true, Bool.and_eq_false_iff, Bool.or_eq_false_iff, Bool.not_eq_true', Bool.not_eq_false', Bool.not_eq_true, Bool.not_eq_false, decide_eq_true_eq, decide_eq_false_iff_not, Q38, Q25, Q3b, Q24, beq_iff_eq, beq_eq_false_iff_ne, bne_iff_ne, bne_eq_false_iff_eq, ne_eq, List.all_cons, List.all_nil, D.plain, List.length_cons, List.length_nil, List.length_append, List.length_set, List.length_replicate, IntKind.wrap_i64, IntKind.wrap_u64, IntKind.wrap_u32, IntKind.wrap_i32, IntKind.wrap_u8, true_and, and_true, or_false, false_or, or_true, true_or, not_true_eq_false, not_false_eq_true, Prod.fst, Prod.snd] at *); simp only [← List.length_pos_iff] at *; omega) | (simp_all; done) | (have := @Qd1; simp_all; try omega))))
def Qon : LInv := {
  α := (Int)
  F := fun st a => ([(0, (lk st 0)), (1, (lk st 1)), (2, .ptr 0 0 0), (4, (lk st 4)), (5, .int IntKind.i64 a)], [⟨true, 41, 2, .gen [[(cT st 2 0), (cT st 2 1)]]⟩])
  a0 := fun st => (lk st 5).toInt
  ex0 := fun st => [] ++ [(Q0p (lk st 2) (st.rows.length + 0))]
  next := fun st => (lk st 5).toInt
  ex := fun st => [] ++ [(Q0p (lk st 2) (st.rows.length + 0))] }
def Qkv : List (Nat × LInv) := [(2, Qon)]
def Qq9 : Q0a := mkR 90 [] true [.agg Q06.sig, .one (.int .i64)] [] (fun args rows => Qiy (Q06.of (args.getD 0 .dead).cells) (argI args 1)) (fun X => .bool X) (fun X => [])
theorem Qnq : Q02 Tryz.prog Qq9 := Q0t Q0f Q0g (.nil) Tryz.func90 Tryz.call90 (fun args rows => Q6s (Q06.of (args.getD 0 .dead).cells) (argI args 1)) [] Qkv 3 (fun _ _ _ => by kernel_rfl) (fun _ _ => rfl) (fun args rows => Qmq (Q06.of (args.getD 0 .dead).cells) (argI args 1)) (fun _ X => by kernel_rfl)
def Qzz (m : Q00) : Tree Bool :=
.lv (Q6v m.Mem) fun (x0 : Int) => .br (decide (x0 < 1)) (.lf false) (.br (m.Cpu.X.a0 != 0) (.lf false) (.br (decide (m.Cpu.Csr.a0 > 31)) (.lf false) (.br (decide (m.Cpu.Csr.a7 > 31)) (.lf false) (.br (decide (m.Cpu.Csr.a6 > 255)) (.lf false) (.br (Int.tmod m.Cpu.Csr.a1 (4 : Int) != (0 : Int)) (.lf false) (.lv (Qig m.Console) fun (x1 : Bool) => .br (!x1) (.lf false) (.lv (Qn1 m.Timer) fun (x2 : Bool) => .br (!x2) (.lf false) (.lv (Qrc m.Disk x0) fun (x3 : Bool) => .br (!x3) (.lf false) (.lv (Qwz m.Nic x0) fun (x4 : Bool) => .br (!x4) (.lf false) (.lv (Qiy m.Balloon x0) fun (x5 : Bool) => .br (!x5) (.lf false) (.br (decide (m.Count ≤ 1152921504606846976)) (.br m.Waiting (.lf (!m.Halted)) (.lf true)) (.lf false))))))))))))
def Qu1 (m : Q00) : Bool := (Qzz m).m
def Zdw : Q0a := mkR 39 [] true [.agg Q00.sig] [] (fun args rows => Qu1 (Q00.of (args.getD 0 .dead).cells)) (fun X => .bool X) (fun X => [])
theorem Qlx : Q02 Tryz.prog Zdw := Q0t Q0f Q0g (.cons Q8e (.cons Qo6 (.cons Qt7 (.cons Qug (.cons Qy5 (.cons Qnq (.nil))))))) Tryz.func39 Tryz.call39 (fun args rows => Qzz (Q00.of (args.getD 0 .dead).cells)) [] [] 2 (fun _ _ _ => by kernel_rfl) (fun _ _ => rfl) (fun _ _ => Tree.free_ok (by kernel_rfl)) (fun _ X => by kernel_rfl)
def Qvg (t : Q0h) : Tree (Q0h × Bool) :=
.br (!t.Armed) (.lf (t, false)) (.lf ({ Armed := false, Deadline := t.Deadline, Fired := true }, true))
def Qvk (t : Q0h) : (Q0h × Bool) := (Qvg t).m
def Z9 : Q0a := mkR 144 [] true [.agg Q0h.sig] [] (fun args rows => Qvk (Q0h.of (args.getD 0 .dead).cells)) (fun X => .tup [.agg (Q0h.cells (X.1)), .bool (X.2)]) (fun X => [])
theorem Qr6 : Q02 Tryz.prog Z9 := Q0t Q0f Q0g (.nil) Tryz.func144 Tryz.call144 (fun args rows => Qvg (Q0h.of (args.getD 0 .dead).cells)) [] [] 2 (fun _ _ _ => by kernel_rfl) (fun _ _ => rfl) (fun _ _ => Tree.free_ok (by kernel_rfl)) (fun _ X => by kernel_rfl)
def Qcr (c : Q0b) (b : Int) : Tree (Q0b × Bool) :=
.br (decide ((↑(List.length c.Keys) : Int) ≥ (16 : Int))) (.lf (c, false)) (.cn (decide (List.length c.Keys + 1 ≤ maxLen)) (.lf ({ Keys := c.Keys ++ [(fun (n : Int) => UInt8.ofNat (Int.toNat n)) b] }, true)))
def Qw4 (c : Q0b) (b : Int) : (Q0b × Bool) := (Qcr c b).m
abbrev Qgt (c : Q0b) (b : Int) : Prop := (Qcr c b).p
def Zaf : Q0a := mkP 145 [] true [.agg Q0b.sig, .one (.int .u8)] [] (fun args rows => Qgt (Q0b.of (args.getD 0 .dead).cells) (argI args 1)) (fun args rows => Qw4 (Q0b.of (args.getD 0 .dead).cells) (argI args 1)) (fun X => .tup [.agg (Q0b.cells (X.1)), .bool (X.2)]) (fun X => [])
theorem Qs2 : Q02 Tryz.prog Zaf := Q0k Q0f Q0g (.nil) Tryz.func145 Tryz.call145 (fun args rows => Qcr (Q0b.of (args.getD 0 .dead).cells) (argI args 1)) [] [] 2 (fun _ _ _ => by kernel_rfl) (fun _ _ => rfl) (fun _ _ h => h) (fun _ X => by kernel_rfl)
def Qmk (m : (List Int)) (frame : Int) : Tree Bool :=
.lv (Q6v m) fun (x0 : Int) => .lf (decide (wrap u64 frame < wrap u64 x0))
def Q40 (m : (List Int)) (frame : Int) : Bool := (Qmk m frame).m
def Zas : Q0a := mkR 202 [] true [.one (.ints .u32), .one (.int .u32)] [] (fun args rows => Q40 (argL .u32 args 0) (argI args 1)) (fun X => .bool X) (fun X => [])
theorem Qbc : Q02 Tryz.prog Zas := Q0t Q0f Q0g (.cons Q8e (.nil)) Tryz.func202 Tryz.call202 (fun args rows => Qmk (argL .u32 args 0) (argI args 1)) [] [] 2 (fun _ _ _ => by kernel_rfl) (fun _ _ => rfl) (fun _ _ => Tree.free_ok (by kernel_rfl)) (fun _ X => by kernel_rfl)
def Qg2 (m : (List Int)) (addr : Int) (size : Int) (v : Int) : Tree (List Int) :=
let E1 := Nat.beq 1 1 && Nat.blt 0 1 && decide (0 ≤ wrap u32 (Int.tdiv addr 4) ∧ wrap u32 (Int.tdiv addr 4) < (↑(List.length m) : Int)); let E2 := Int.toNat (wrap u32 (Int.tdiv addr 4)); .br (size == 4) (.cn E1 (.lf (List.set m E2 v))) (.cn E1 (let E3 := decide (0 ≤ wrap u32 (8 * Int.tmod addr 4)); .cn E3 (.cn E3 (.cn E1 (.lf (List.set m E2 (ior u32 (Qky u32 (List.getD m E2 0) (ishl u32 255 (wrap u32 (8 * Int.tmod addr 4)))) (ishl u32 (iand u32 v 255) (wrap u32 (8 * Int.tmod addr 4))))))))))
def Qu3 (m : (List Int)) (addr : Int) (size : Int) (v : Int) : (List Int) := (Qg2 m addr size v).m
abbrev Qep (m : (List Int)) (addr : Int) (size : Int) (v : Int) : Prop := (Qg2 m addr size v).p
def Zcs : Q0a := mkP 237 [true, false, false, false] true [.one (.row 0), .one (.int .u32), .one (.int .i64), .one (.int .u32)] [.arr 27 1 (.ints .u32)] (fun args rows => Qep (rowL .u32 rows 0) (argI args 1) (argI args 2) (argI args 3)) (fun args rows => Qu3 (rowL .u32 rows 0) (argI args 1) (argI args 2) (argI args 3)) (fun X => .tup []) (fun X => [⟨false, 27, 1, .ints .u32 X⟩])
theorem Qwf : Q02 Tryz.prog Zcs := Q0k Q0f Q0g (.nil) Tryz.func237 Tryz.call237 (fun args rows => Qg2 (rowL .u32 rows 0) (argI args 1) (argI args 2) (argI args 3)) [] [] 2 (fun _ _ _ => by kernel_rfl) (fun _ _ => rfl) (fun _ _ h => h) (fun _ X => by kernel_rfl)
def Qj0 (m : (List Int)) (frame : Int) (s : (List UInt8)) (z : (Int) × (List Int)) : Nat := (128 - z.1).toNat
def Q9d (m : (List Int)) (frame : Int) (s : (List UInt8)) : Tree (List Int) :=
.lp inferInstance (Qj0 m frame s (0, m) + 1) ((True ∧ rE (frame : Int) ∧ rE (s : List UInt8) ∧ rE (0 : Int) ∧ True) ∧ rE (m : List Int) ∧ True) (0, m) fun (v0 : Int × List Int) => .br (decide (v0.fst < (↑(List.length s) : Int))) (.br (decide (v0.fst < 128)) (.cn (decide (0 ≤ v0.fst ∧ v0.fst < (↑(List.length s) : Int))) (let E1 := wrap u32 (↑(UInt8.toNat (List.getD s (Int.toNat v0.fst) (0 : UInt8))) : Int); let E2 := wrap u32 (wrap i64 (wrap i64 (frame * 128) + v0.fst)); .an (Qep v0.snd E2 1 E1) (.lv (Qu3 v0.snd E2 1 E1) fun (x0 : List Int) => .nx ((True ∧ rE (frame : Int) ∧ rE (s : List UInt8) ∧ rE ((wrap i64 (v0.fst + 1)) : Int) ∧ True) ∧ rE (x0 : List Int) ∧ True) (Sum.inl (wrap i64 (v0.fst + 1), x0))))) (.lf (Sum.inr v0.snd))) (.lf (Sum.inr v0.snd))
def Qvm (m : (List Int)) (frame : Int) (s : (List UInt8)) : (List Int) := (Q9d m frame s).m
abbrev Qgx (m : (List Int)) (frame : Int) (s : (List UInt8)) : Prop := (Q9d m frame s).p
def Z7s : LInv := {
  α := (Int) × (List Int)
  F := fun st a => ([(0, .all 0), (1, (lk st 1)), (2, (lk st 2)), (6, .int IntKind.i64 a.1)], [⟨false, 27, 1, .ints IntKind.u32 a.2⟩])
  a0 := fun st => ((lk st 6).toInt, (Q3p st.rows 0))
  ex0 := fun st => [0] ++ []
  next := fun st => ((lk st 6).toInt, (Q3p st.rows 0))
  ex := fun st => [0] ++ [] }
def Qxq : List (Nat × LInv) := [(1, Z7s)]
def Za4 : Q0a := mkP 203 [true, false, false] true [.one (.row 0), .one (.int .i64), .one (.str)] [.arr 27 1 (.ints .u32)] (fun args rows => Qgx (rowL .u32 rows 0) (argI args 1) (argS args 2)) (fun args rows => Qvm (rowL .u32 rows 0) (argI args 1) (argS args 2)) (fun X => .tup []) (fun X => [⟨false, 27, 1, .ints .u32 X⟩])
theorem Qsf : Q02 Tryz.prog Za4 := Q0k Q0f Q0g (.cons Qwf (.nil)) Tryz.func203 Tryz.call203 (fun args rows => Q9d (rowL .u32 rows 0) (argI args 1) (argS args 2)) [] Qxq 3 (fun _ _ _ => by kernel_rfl) (fun _ _ => rfl) (fun _ _ h => h) (fun _ X => by kernel_rfl)
def Q8o (d0 : Q0d) (m : (List Int)) (e : Q0i) : Tree (Q0d × Bool × (List Int)) :=
.br (d0.State != 1) (.lf (d0, false, m)) (.br (e.Kind != 4) (.lf (d0, false, m)) (.br (decide (e.N > 1)) (.lf (d0, false, m)) (let E4 := ({ Blocks := d0.Blocks, Block := d0.Block, Frame := d0.Frame, State := 2, Cmd := 0, OpBlock := 0, OpFrame := 0, OpData := [] } : Q0d); let E5 := ({ Blocks := d0.Blocks, Block := d0.Block, Frame := d0.Frame, State := 3, Cmd := 0, OpBlock := 0, OpFrame := 0, OpData := [] } : Q0d); let T2 : Tree ((Q0d × Bool × (List Int))) := .br (e.N == 1) (.lf (E4, true, m)) (.lf (E5, true, m)); let E6 := decide ((↑(List.length e.Data) : Int) > (0 : Int)); .br (e.N == 1) (let T1 : Tree ((Q0d × Bool × (List Int))) := .br (d0.Cmd == 1) (.an (Qgx m (wrap i64 d0.OpFrame) e.Data) (.lv (Qvm m (wrap i64 d0.OpFrame) e.Data) fun (x1 : List Int) => .br (e.N == 1) (.lf (E4, true, x1)) (.lf (E5, true, x1)))) T2; let T3 : Tree ((Q0d × Bool × (List Int))) := .br (!d0.Cmd == 1) (.br E6 (.lf (d0, false, m)) T1) T1; .br (d0.Cmd == 1) (.br ((↑(List.length e.Data) : Int) != (128 : Int)) (.lf (d0, false, m)) (.lv (Q40 m d0.OpFrame) fun (x0 : Bool) => .br (!x0) (.lf (d0, false, m)) T3)) T3) (.br E6 (.lf (d0, false, m)) T2))))
def Qm5 (d0 : Q0d) (m : (List Int)) (e : Q0i) : (Q0d × Bool × (List Int)) := (Q8o d0 m e).m
abbrev Qd9 (d0 : Q0d) (m : (List Int)) (e : Q0i) : Prop := (Q8o d0 m e).p
def Z4a : Q0a := mkP 146 [false, true, false] true [.agg Q0d.sig, .one (.row 0), .agg Q0i.sig] [.arr 27 1 (.ints .u32)] (fun args rows => Qd9 (Q0d.of (args.getD 0 .dead).cells) (rowL .u32 rows 0) (Q0i.of (args.getD 2 .dead).cells)) (fun args rows => Qm5 (Q0d.of (args.getD 0 .dead).cells) (rowL .u32 rows 0) (Q0i.of (args.getD 2 .dead).cells)) (fun X => .tup [.agg (Q0d.cells (X.1)), .bool (X.2.1)]) (fun X => [⟨false, 27, 1, .ints .u32 (X.2.2)⟩])
theorem Qle : Q02 Tryz.prog Z4a := Q0k Q0f Q0g (.cons Qbc (.cons Qsf (.nil))) Tryz.func146 Tryz.call146 (fun args rows => Q8o (Q0d.of (args.getD 0 .dead).cells) (rowL .u32 rows 0) (Q0i.of (args.getD 2 .dead).cells)) [] [] 2 (fun _ _ _ => by kernel_rfl) (fun _ _ => rfl) (fun _ _ h => h) (fun _ X => by kernel_rfl)
def Q9 (n : Q0l) (m : (List Int)) (frame : (List UInt8)) : Tree (Q0l × Bool × (List Int)) :=
.br (!n.Posted) (.lf (n, false, m)) (.br (decide ((↑(List.length frame) : Int) < (1 : Int))) (.lf (n, false, m)) (.br (decide ((↑(List.length frame) : Int) > (128 : Int))) (.lf (n, false, m)) (.lv (Q40 m n.Buffer) fun (x0 : Bool) => .br (!x0) (.lf (n, false, m)) (.an (Qgx m (wrap i64 n.Buffer) frame) (.lv (Qvm m (wrap i64 n.Buffer) frame) fun (x1 : List Int) => .lf ({ Frame := n.Frame, Len := n.Len, Posted := false, Buffer := 0, Received := true, Got := wrap u32 (↑(List.length frame) : Int) }, true, x1))))))
def Qm8 (n : Q0l) (m : (List Int)) (frame : (List UInt8)) : (Q0l × Bool × (List Int)) := (Q9 n m frame).m
abbrev Qdz (n : Q0l) (m : (List Int)) (frame : (List UInt8)) : Prop := (Q9 n m frame).p
def Z3p : Q0a := mkP 147 [false, true, false] true [.agg Q0l.sig, .one (.row 0), .one (.str)] [.arr 27 1 (.ints .u32)] (fun args rows => Qdz (Q0l.of (args.getD 0 .dead).cells) (rowL .u32 rows 0) (argS args 2)) (fun args rows => Qm8 (Q0l.of (args.getD 0 .dead).cells) (rowL .u32 rows 0) (argS args 2)) (fun X => .tup [.agg (Q0l.cells (X.1)), .bool (X.2.1)]) (fun X => [⟨false, 27, 1, .ints .u32 (X.2.2)⟩])
theorem Qlb : Q02 Tryz.prog Z3p := Q0k Q0f Q0g (.cons Qbc (.cons Qsf (.nil))) Tryz.func147 Tryz.call147 (fun args rows => Q9 (Q0l.of (args.getD 0 .dead).cells) (rowL .u32 rows 0) (argS args 2)) [] [] 2 (fun _ _ _ => by kernel_rfl) (fun _ _ => rfl) (fun _ _ h => h) (fun _ X => by kernel_rfl)
def Qjf (m : Q00) (e : Q0i) : Tree (Bool × Q00) :=
.br m.Halted (.lf (false, m)) (let T1 : Tree ((Bool × Q00)) := .br (e.Kind == 4) (.an (Qd9 m.Disk m.Mem e) (.lv (Qm5 m.Disk m.Mem e) fun (x2 : Q0d × Bool × List Int) => .lf (x2.snd.fst, { Cpu := m.Cpu, Mem := x2.snd.snd, Console := m.Console, Timer := m.Timer, Disk := x2.fst, Nic := m.Nic, Balloon := m.Balloon, Count := m.Count, Waiting := m.Waiting, Halted := m.Halted }))) (let T3 : Tree ((Bool × Q00)) := .br (e.Kind == 6) (.br (decide (e.Data = [])) (.lf (true, { Cpu := m.Cpu, Mem := m.Mem, Console := m.Console, Timer := m.Timer, Disk := m.Disk, Nic := m.Nic, Balloon := { Target := e.N, Given := m.Balloon.Given }, Count := m.Count, Waiting := m.Waiting, Halted := m.Halted })) (.lf (false, m))) (.lf (false, m)); .br (e.Kind == 5) (.br (e.N == 0) (.an (Qdz m.Nic m.Mem e.Data) (.lv (Qm8 m.Nic m.Mem e.Data) fun (x3 : Q0l × Bool × List Int) => .lf (x3.snd.fst, { Cpu := m.Cpu, Mem := x3.snd.snd, Console := m.Console, Timer := m.Timer, Disk := m.Disk, Nic := x3.fst, Balloon := m.Balloon, Count := m.Count, Waiting := m.Waiting, Halted := m.Halted }))) T3) T3); let T2 : Tree ((Bool × Q00)) := .br (e.Kind == 3) (.br (decide (e.N ≤ 255)) (.br (decide (e.Data = [])) (.an (Qgt m.Console (wrap u8 e.N)) (.lv (Qw4 m.Console (wrap u8 e.N)) fun (x1 : Q0b × Bool) => .lf (x1.snd, { Cpu := m.Cpu, Mem := m.Mem, Console := x1.fst, Timer := m.Timer, Disk := m.Disk, Nic := m.Nic, Balloon := m.Balloon, Count := m.Count, Waiting := m.Waiting, Halted := m.Halted }))) T1) T1) T1; .br (e.Kind == 2) (.br (e.N == 0) (.br (decide (e.Data = [])) (.lv (Qvk m.Timer) fun (x0 : Q0h × Bool) => .lf (x0.snd, { Cpu := m.Cpu, Mem := m.Mem, Console := m.Console, Timer := x0.fst, Disk := m.Disk, Nic := m.Nic, Balloon := m.Balloon, Count := m.Count, Waiting := m.Waiting, Halted := m.Halted })) T2) T2) T2)
def Zdy (m : Q00) (e : Q0i) : (Bool × Q00) := (Qjf m e).m
abbrev Qy9 (m : Q00) (e : Q0i) : Prop := (Qjf m e).p
def Z4t : Q0a := mkP 69 [true, false] true [.ptr 0, .agg Q0i.sig] [.box 44 49 (Q00.sigW (.row 1)), .arr 27 1 (.ints .u32)] (fun args rows => Qy9 (Q00.ofW (rows.getD 0 default).cs (rowL .u32 rows 1)) (Q0i.of (args.getD 1 .dead).cells)) (fun args rows => Zdy (Q00.ofW (rows.getD 0 default).cs (rowL .u32 rows 1)) (Q0i.of (args.getD 1 .dead).cells)) (fun X => .bool (X.1)) (fun X => [⟨true, 44, 49, .gen [(Q00.cellsW (X.2) (.all 1))]⟩, ⟨false, 27, 1, .ints .u32 (X.2).Mem⟩])
theorem Z2t : Q02 Tryz.prog Z4t := Q0k Q0f Q0g (.cons Qr6 (.cons Qs2 (.cons Qle (.cons Qlb (.nil))))) Tryz.func69 Tryz.call69 (fun args rows => Qjf (Q00.ofW (rows.getD 0 default).cs (rowL .u32 rows 1)) (Q0i.of (args.getD 1 .dead).cells)) [.row 27 1 (.ints .u32)] [] 2 (fun _ _ _ => by kernel_rfl) (fun _ _ => rfl) (fun _ _ h => h) (fun _ X => by kernel_rfl)
def Q7i (m : Q01) (e : Q0i) : Tree (Bool × Q01) :=
.br m.Machine.Halted (.lf (false, m)) (let T1 : Tree ((Bool × Q01)) := .br (e.Kind == 4) (.an (Qd9 m.Machine.Disk m.Machine.Mem e) (.lv (Qm5 m.Machine.Disk m.Machine.Mem e) fun (x2 : Q0d × Bool × List Int) => .lf (x2.snd.fst, { Machine := { Cpu := m.Machine.Cpu, Mem := x2.snd.snd, Console := m.Machine.Console, Timer := m.Machine.Timer, Disk := x2.fst, Nic := m.Machine.Nic, Balloon := m.Machine.Balloon, Count := m.Machine.Count, Waiting := m.Machine.Waiting, Halted := m.Machine.Halted }, Clock := m.Clock, Log := m.Log, Queue := m.Queue }))) (let T3 : Tree ((Bool × Q01)) := .br (e.Kind == 6) (.br (decide (e.Data = [])) (.lf (true, { Machine := { Cpu := m.Machine.Cpu, Mem := m.Machine.Mem, Console := m.Machine.Console, Timer := m.Machine.Timer, Disk := m.Machine.Disk, Nic := m.Machine.Nic, Balloon := { Target := e.N, Given := m.Machine.Balloon.Given }, Count := m.Machine.Count, Waiting := m.Machine.Waiting, Halted := m.Machine.Halted }, Clock := m.Clock, Log := m.Log, Queue := m.Queue })) (.lf (false, m))) (.lf (false, m)); .br (e.Kind == 5) (.br (e.N == 0) (.an (Qdz m.Machine.Nic m.Machine.Mem e.Data) (.lv (Qm8 m.Machine.Nic m.Machine.Mem e.Data) fun (x3 : Q0l × Bool × List Int) => .lf (x3.snd.fst, { Machine := { Cpu := m.Machine.Cpu, Mem := x3.snd.snd, Console := m.Machine.Console, Timer := m.Machine.Timer, Disk := m.Machine.Disk, Nic := x3.fst, Balloon := m.Machine.Balloon, Count := m.Machine.Count, Waiting := m.Machine.Waiting, Halted := m.Machine.Halted }, Clock := m.Clock, Log := m.Log, Queue := m.Queue }))) T3) T3); let T2 : Tree ((Bool × Q01)) := .br (e.Kind == 3) (.br (decide (e.N ≤ 255)) (.br (decide (e.Data = [])) (.an (Qgt m.Machine.Console (wrap u8 e.N)) (.lv (Qw4 m.Machine.Console (wrap u8 e.N)) fun (x1 : Q0b × Bool) => .lf (x1.snd, { Machine := { Cpu := m.Machine.Cpu, Mem := m.Machine.Mem, Console := x1.fst, Timer := m.Machine.Timer, Disk := m.Machine.Disk, Nic := m.Machine.Nic, Balloon := m.Machine.Balloon, Count := m.Machine.Count, Waiting := m.Machine.Waiting, Halted := m.Machine.Halted }, Clock := m.Clock, Log := m.Log, Queue := m.Queue }))) T1) T1) T1; .br (e.Kind == 2) (.br (e.N == 0) (.br (decide (e.Data = [])) (.lv (Qvk m.Machine.Timer) fun (x0 : Q0h × Bool) => .lf (x0.snd, { Machine := { Cpu := m.Machine.Cpu, Mem := m.Machine.Mem, Console := m.Machine.Console, Timer := x0.fst, Disk := m.Machine.Disk, Nic := m.Machine.Nic, Balloon := m.Machine.Balloon, Count := m.Machine.Count, Waiting := m.Machine.Waiting, Halted := m.Machine.Halted }, Clock := m.Clock, Log := m.Log, Queue := m.Queue })) T2) T2) T2)
def Qs8 (m : Q01) (e : Q0i) : (Bool × Q01) := (Q7i m e).m
abbrev Qhu (m : Q01) (e : Q0i) : Prop := (Q7i m e).p
def Qz7 : Q0a := mkP 69 [true, false] true [.ptr 0, .agg Q0i.sig] [.box 114 52 (Q01.sigW (.row 1) (.row 2) (.row 3)), .arr 27 1 (.ints .u32), .arr 253 4 (.recs .apiEntry), .arr 63 3 (.recs .apiEvent)] (fun args rows => Qhu (Q01.ofW (rows.getD 0 default).cs (rowL .u32 rows 1) (rowR .apiEntry rows 2) (rowR .apiEvent rows 3)) (Q0i.of (args.getD 1 .dead).cells)) (fun args rows => Qs8 (Q01.ofW (rows.getD 0 default).cs (rowL .u32 rows 1) (rowR .apiEntry rows 2) (rowR .apiEvent rows 3)) (Q0i.of (args.getD 1 .dead).cells)) (fun X => .bool (X.1)) (fun X => [⟨true, 114, 52, .gen [(Q01.cellsW (X.2) (.all 1) (.all 2) (.all 3))]⟩, ⟨false, 27, 1, .ints .u32 (X.2).Machine.Mem⟩, ⟨false, 253, 4, .recs .apiEntry (X.2).Log⟩, ⟨false, 63, 3, .recs .apiEvent (X.2).Queue⟩])
theorem Quv : Q02 Tryz.prog Qz7 := Q0k Q0f Q0g (.cons Qr6 (.cons Qs2 (.cons Qle (.cons Qlb (.nil))))) Tryz.func69 Tryz.call69 (fun args rows => Q7i (Q01.ofW (rows.getD 0 default).cs (rowL .u32 rows 1) (rowR .apiEntry rows 2) (rowR .apiEvent rows 3)) (Q0i.of (args.getD 1 .dead).cells)) [.row 27 1 (.ints .u32), .row 253 4 (.recs .apiEntry), .row 63 3 (.recs .apiEvent)] [] 2 (fun _ _ _ => by kernel_rfl) (fun _ _ => rfl) (fun _ _ h => h) (fun _ X => by kernel_rfl)
def Q6b (m : Q01) (e : Q0i) : Tree (Bool × Q01) :=
.an (Qhu m e) (.lv (Qs8 m e) fun (x0 : Bool × Q01) => .lf (x0.fst, x0.snd))
def Qnf (m : Q01) (e : Q0i) : (Bool × Q01) := (Q6b m e).m
abbrev Qgb (m : Q01) (e : Q0i) : Prop := (Q6b m e).p
def Qui : Q0a := mkP 263 [true, false] true [.ptr 0, .agg Q0i.sig] [.box 114 52 (Q01.sigW (.row 1) (.row 2) (.row 3)), .arr 27 1 (.ints .u32), .arr 253 4 (.recs .apiEntry), .arr 63 3 (.recs .apiEvent)] (fun args rows => Qgb (Q01.ofW (rows.getD 0 default).cs (rowL .u32 rows 1) (rowR .apiEntry rows 2) (rowR .apiEvent rows 3)) (Q0i.of (args.getD 1 .dead).cells)) (fun args rows => Qnf (Q01.ofW (rows.getD 0 default).cs (rowL .u32 rows 1) (rowR .apiEntry rows 2) (rowR .apiEvent rows 3)) (Q0i.of (args.getD 1 .dead).cells)) (fun X => .bool (X.1)) (fun X => [⟨true, 114, 52, .gen [(Q01.cellsW (X.2) (.all 1) (.all 2) (.all 3))]⟩, ⟨false, 27, 1, .ints .u32 (X.2).Machine.Mem⟩, ⟨false, 253, 4, .recs .apiEntry (X.2).Log⟩, ⟨false, 63, 3, .recs .apiEvent (X.2).Queue⟩])
theorem Qsv : Q02 Tryz.prog Qui := Q0k Q0f Q0g (.cons Quv (.nil)) Tryz.func263 Tryz.call263 (fun args rows => Q6b (Q01.ofW (rows.getD 0 default).cs (rowL .u32 rows 1) (rowR .apiEntry rows 2) (rowR .apiEvent rows 3)) (Q0i.of (args.getD 1 .dead).cells)) [.row 27 1 (.ints .u32), .row 253 4 (.recs .apiEntry), .row 63 3 (.recs .apiEvent)] [] 2 (fun _ _ _ => by kernel_rfl) (fun _ _ => rfl) (fun _ _ h => h) (fun _ X => by kernel_rfl)
def Q8m (r : Q01) (e : Q0i) : Tree Q01 :=
.an (Qgb r e) (.lv (Qnf r e) fun (x0 : Bool × Q01) => .br x0.fst (.cn (decide (40 * (List.length x0.snd.Log + 1) ≤ 140737488355328)) (.lf ({ Machine := x0.snd.Machine, Clock := x0.snd.Clock, Log := x0.snd.Log ++ [{ At := x0.snd.Machine.Count, Event := e }], Queue := x0.snd.Queue }))) (.lf x0.snd))
def Qm7 (r : Q01) (e : Q0i) : Q01 := (Q8m r e).m
abbrev Qcq (r : Q01) (e : Q0i) : Prop := (Q8m r e).p
def Z32 : Q0a := mkKP 1 245 [true, false] [.ptr 0, .agg Q0i.sig] [.box 114 52 (Q01.sigW (.row 1) (.row 2) (.row 3)), .arr 27 1 (.ints .u32), .arr 253 4 (.recs .apiEntry), .arr 63 3 (.recs .apiEvent)] (fun args rows => Qcq (Q01.ofW (rows.getD 0 default).cs (rowL .u32 rows 1) (rowR .apiEntry rows 2) (rowR .apiEvent rows 3)) (Q0i.of (args.getD 1 .dead).cells)) (fun args rows => Qm7 (Q01.ofW (rows.getD 0 default).cs (rowL .u32 rows 1) (rowR .apiEntry rows 2) (rowR .apiEvent rows 3)) (Q0i.of (args.getD 1 .dead).cells)) (fun X => .tup []) (fun X => [⟨true, 114, 52, .gen [(Q01.cellsW X (.all 1) (.all 2) (.all 3))]⟩, ⟨false, 27, 1, .ints .u32 X.Machine.Mem⟩, ⟨false, 253, 4, .recs .apiEntry X.Log⟩, ⟨false, 63, 3, .recs .apiEvent X.Queue⟩])
theorem Qyc : Q02 Tryz.prog Z32 := mkKP_of Q0f Q0g (.cons Qsv (.nil)) Tryz.func245 Tryz.call245 (fun args rows => Q8m (Q01.ofW (rows.getD 0 default).cs (rowL .u32 rows 1) (rowR .apiEntry rows 2) (rowR .apiEvent rows 3)) (Q0i.of (args.getD 1 .dead).cells)) [.row 27 1 (.ints .u32), .row 253 4 (.recs .apiEntry), .row 63 3 (.recs .apiEvent)] [] 2 (fun _ _ _ => by kernel_rfl) (fun _ _ => rfl) (fun _ _ h => h)
def Qdr (is : Bool) (n : Int) : Tree Int :=
.br is (.cn (decide (0 ≤ wrap u64 n)) (.lf (ishl u32 1 (wrap u64 n)))) (.lf 0)
def Qft (is : Bool) (n : Int) : Int := (Qdr is n).m
abbrev Q6t (is : Bool) (n : Int) : Prop := (Qdr is n).p
def Z97 : Q0a := mkP 91 [] true [.one (.bool), .one (.int .i64)] [] (fun args rows => Q6t (argB args 0) (argI args 1)) (fun args rows => Qft (argB args 0) (argI args 1)) (fun X => .int .u32 X) (fun X => [])
theorem Z6e : Q02 Tryz.prog Z97 := Q0k Q0f Q0g (.nil) Tryz.func91 Tryz.call91 (fun args rows => Qdr (argB args 0) (argI args 1)) [] [] 2 (fun _ _ _ => by kernel_rfl) (fun _ _ => rfl) (fun _ _ h => h) (fun _ X => by kernel_rfl)
def Qdl (t : Q0h) : Tree Bool :=
.lf t.Fired
def Qg3 (t : Q0h) : Bool := (Qdl t).m
def Qmc : Q0a := mkR 92 [] true [.agg Q0h.sig] [] (fun args rows => Qg3 (Q0h.of (args.getD 0 .dead).cells)) (fun X => .bool X) (fun X => [])
theorem Qku : Q02 Tryz.prog Qmc := Q0t Q0f Q0g (.nil) Tryz.func92 Tryz.call92 (fun args rows => Qdl (Q0h.of (args.getD 0 .dead).cells)) [] [] 2 (fun _ _ _ => by kernel_rfl) (fun _ _ => rfl) (fun _ _ => Tree.free_ok (by kernel_rfl)) (fun _ X => by kernel_rfl)
def Qb1 (c : Q0b) : Tree Bool :=
.lf (decide ((↑(List.length c.Keys) : Int) > (0 : Int)))
def Qcx (c : Q0b) : Bool := (Qb1 c).m
def Qj3 : Q0a := mkR 93 [] true [.agg Q0b.sig] [] (fun args rows => Qcx (Q0b.of (args.getD 0 .dead).cells)) (fun X => .bool X) (fun X => [])
theorem Qi3 : Q02 Tryz.prog Qj3 := Q0t Q0f Q0g (.nil) Tryz.func93 Tryz.call93 (fun args rows => Qb1 (Q0b.of (args.getD 0 .dead).cells)) [] [] 2 (fun _ _ _ => by kernel_rfl) (fun _ _ => rfl) (fun _ _ => Tree.free_ok (by kernel_rfl)) (fun _ X => by kernel_rfl)
def Qey (d0 : Q0d) : Tree Bool :=
.br (d0.State == 2) (.lf true) (.lf (d0.State == 3))
def Qhk (d0 : Q0d) : Bool := (Qey d0).m
def Qoc : Q0a := mkR 94 [] true [.agg Q0d.sig] [] (fun args rows => Qhk (Q0d.of (args.getD 0 .dead).cells)) (fun X => .bool X) (fun X => [])
theorem Qmb : Q02 Tryz.prog Qoc := Q0t Q0f Q0g (.nil) Tryz.func94 Tryz.call94 (fun args rows => Qey (Q0d.of (args.getD 0 .dead).cells)) [] [] 2 (fun _ _ _ => by kernel_rfl) (fun _ _ => rfl) (fun _ _ => Tree.free_ok (by kernel_rfl)) (fun _ X => by kernel_rfl)
def Qfv (n : Q0l) : Tree Bool :=
.lf n.Received
def Qic (n : Q0l) : Bool := (Qfv n).m
def Qpp : Q0a := mkR 95 [] true [.agg Q0l.sig] [] (fun args rows => Qic (Q0l.of (args.getD 0 .dead).cells)) (fun X => .bool X) (fun X => [])
theorem Qn : Q02 Tryz.prog Qpp := Q0t Q0f Q0g (.nil) Tryz.func95 Tryz.call95 (fun args rows => Qfv (Q0l.of (args.getD 0 .dead).cells)) [] [] 2 (fun _ _ _ => by kernel_rfl) (fun _ _ => rfl) (fun _ _ => Tree.free_ok (by kernel_rfl)) (fun _ X => by kernel_rfl)
def Qi6 (b : Q06) (z : (Int) × (Int)) : Prop := 0 ≤ z.2 ∧ z.2 ≤ 32
def Qbm (b : Q06) (z : (Int) × (Int)) : Nat := (32 - z.2).toNat
def Qed (b : Q06) : Tree Int :=
.lp inferInstance (Qbm b (0, 0) + 1) (((rE b.Target ∧ rE b.Given ∧ True) ∧ (rE ((nat_lit 0) : Nat) ∧ rE ((nat_lit 0) : Nat)) ∧ rE (0 : Int) ∧ rE (0 : Int) ∧ rE (0 : Int) ∧ True) ∧ (rE b.Target ∧ rE b.Given ∧ True) ∧ True) (0, 0) fun (v0 : Int × Int) => .br (decide (v0.snd < 32)) (.cn (decide (0 ≤ wrap u64 v0.snd)) (.nx (((rE b.Target ∧ rE b.Given ∧ True) ∧ (rE ((nat_lit 0) : Nat) ∧ rE ((nat_lit 0) : Nat)) ∧ rE (0 : Int) ∧ rE ((wrap i64 (v0.fst + wrap i64 (iand u32 (ishr u32 b.Given (wrap u64 v0.snd)) 1))) : Int) ∧ rE ((wrap i64 (v0.snd + 1)) : Int) ∧ True) ∧ (rE b.Target ∧ rE b.Given ∧ True) ∧ True) (Sum.inl (wrap i64 (v0.fst + wrap i64 (iand u32 (ishr u32 b.Given (wrap u64 v0.snd)) 1)), wrap i64 (v0.snd + 1))))) (.lf (Sum.inr v0.fst))
def Qq3 (b : Q06) : Int := (Qed b).m
theorem Qyh (b : Q06) : (Qed b).p := by
  unfold Tree.p Qed
  repeat' (first | refine w_lp (inv := Qi6 b) (μ := Qbm b) ?_ (Nat.lt_succ_self _) (fun _ _ => ?_) | exact trivial | refine w_br (fun _ => ?_) (fun _ => ?_) | refine w_cn ?_ ?_ | refine w_an ?_ ?_ | refine w_lv (fun _ _ => ?_) | refine w_nx ?_ | refine w_lf ?_ | refine And.intro ?_ ?_)
  all_goals ((try simp only [Qi6, Qbm] at *); ((subst_vars; first | trivial | assumption | omega | ((simp (config := { decide := true, failIfUnchanged := false }) only [Bool.and_eq_true, Bool.or_eq_true, Bool.and_eq_false_iff, Bool.or_eq_false_iff, Bool.not_eq_true', Bool.not_eq_false', Bool.not_eq_true, Bool.not_eq_false, decide_eq_true_eq, decide_eq_false_iff_not, Q38, Q25, Q3b, Q24, beq_iff_eq, beq_eq_false_iff_ne, bne_iff_ne, bne_eq_false_iff_eq, ne_eq, List.all_cons, List.all_nil, D.plain, List.length_cons, List.length_nil, List.length_append, List.length_set, List.length_replicate, IntKind.wrap_i64, IntKind.wrap_u64, IntKind.wrap_u32, IntKind.wrap_i32, IntKind.wrap_u8, true_and, and_true, or_false, false_or, or_true, true_or, not_true_eq_false, not_false_eq_true, Prod.fst, Prod.snd] at *); first | done | assumption | omega) | ((simp (config := { decide := true, failIfUnchanged := false }) only [Bool.and_eq_true, Bool.or_eq_true, Bool.and_eq_false_iff, Bool.or_eq_false_iff, Bool.not_eq_true', Bool.not_eq_false', Bool.not_eq_true, Bool.not_eq_false, decide_eq_true_eq, decide_eq_false_iff_not, Q38, Q25, Q3b, Q24, beq_iff_eq, beq_eq_false_iff_ne, bne_iff_ne, bne_eq_false_iff_eq, ne_eq, List.all_cons, List.all_nil, D.plain, List.length_cons, List.length_nil, List.length_append, List.length_set, List.length_replicate, IntKind.wrap_i64, IntKind.wrap_u64, IntKind.wrap_u32, IntKind.wrap_i32, IntKind.wrap_u8, true_and, and_true, or_false, false_or, or_true, true_or, not_true_eq_false, not_false_eq_true, Prod.fst, Prod.snd] at *); simp only [← List.length_pos_iff] at *; omega) | (simp_all; done) | (have := @Qd1; simp_all; try omega))))
def Z47 : LInv := {
  α := (Int) × (Int)
  F := fun st a => ([(0, (lk st 0)), (1, .ptr 0 0 0), (2, (lk st 2)), (3, .int IntKind.i64 a.1), (4, .int IntKind.i64 a.2)], [⟨true, 41, 2, .gen [[(cT st 1 0), (cT st 1 1)]]⟩])
  a0 := fun st => ((lk st 3).toInt, (lk st 4).toInt)
  ex0 := fun st => [] ++ [(Q0p (lk st 1) (st.rows.length + 0))]
  next := fun st => ((lk st 3).toInt, (lk st 4).toInt)
  ex := fun st => [] ++ [(Q0p (lk st 1) (st.rows.length + 0))] }
def Qxl : List (Nat × LInv) := [(3, Z47)]
def Z85 : Q0a := mkR 155 [] true [.agg Q06.sig] [] (fun args rows => Qq3 (Q06.of (args.getD 0 .dead).cells)) (fun X => .int .i64 X) (fun X => [])
theorem Qny : Q02 Tryz.prog Z85 := Q0t Q0f Q0g (.nil) Tryz.func155 Tryz.call155 (fun args rows => Qed (Q06.of (args.getD 0 .dead).cells)) [] Qxl 3 (fun _ _ _ => by kernel_rfl) (fun _ _ => rfl) (fun args rows => Qyh (Q06.of (args.getD 0 .dead).cells)) (fun _ X => by kernel_rfl)
def Qb8 (b : Q06) : Tree Bool :=
.lv (Qq3 b) fun (x0 : Int) => .lf (wrap u64 x0 != wrap u64 b.Target)
def Qdn (b : Q06) : Bool := (Qb8 b).m
def Qj5 : Q0a := mkR 96 [] true [.agg Q06.sig] [] (fun args rows => Qdn (Q06.of (args.getD 0 .dead).cells)) (fun X => .bool X) (fun X => [])
theorem Qi2 : Q02 Tryz.prog Qj5 := Q0t Q0f Q0g (.cons Qny (.nil)) Tryz.func96 Tryz.call96 (fun args rows => Qb8 (Q06.of (args.getD 0 .dead).cells)) [] [] 2 (fun _ _ _ => by kernel_rfl) (fun _ _ => rfl) (fun _ _ => Tree.free_ok (by kernel_rfl)) (fun _ X => by kernel_rfl)
def Qb6 (m : Q00) : Tree Int :=
.lv (Qg3 m.Timer) fun (x0 : Bool) => .an (Q6t x0 0) (.lv (Qft x0 0) fun (x1 : Int) => .lv (Qcx m.Console) fun (x2 : Bool) => .an (Q6t x2 1) (.lv (Qft x2 1) fun (x3 : Int) => .lv (Qhk m.Disk) fun (x4 : Bool) => .an (Q6t x4 2) (.lv (Qft x4 2) fun (x5 : Int) => .lv (Qic m.Nic) fun (x6 : Bool) => .an (Q6t x6 3) (.lv (Qft x6 3) fun (x7 : Int) => .lv (Qdn m.Balloon) fun (x8 : Bool) => .an (Q6t x8 4) (.lv (Qft x8 4) fun (x9 : Int) => .lf (ior u32 (ior u32 (ior u32 (ior u32 x1 x3) x5) x7) x9))))))
def Z0g (m : Q00) : Int := (Qb6 m).m
abbrev Ql8 (m : Q00) : Prop := (Qb6 m).p
def Z6i : Q0a := mkP 40 [] true [.agg Q00.sig] [] (fun args rows => Ql8 (Q00.of (args.getD 0 .dead).cells)) (fun args rows => Z0g (Q00.of (args.getD 0 .dead).cells)) (fun X => .int .u32 X) (fun X => [])
theorem Z42 : Q02 Tryz.prog Z6i := Q0k Q0f Q0g (.cons Z6e (.cons Qku (.cons Qi3 (.cons Qmb (.cons Qn (.cons Qi2 (.nil))))))) Tryz.func40 Tryz.call40 (fun args rows => Qb6 (Q00.of (args.getD 0 .dead).cells)) [] [] 2 (fun _ _ _ => by kernel_rfl) (fun _ _ => rfl) (fun _ _ h => h) (fun _ X => by kernel_rfl)
def Q7g (m : Q00) : Tree Int :=
.an (Ql8 m) (.lv (Z0g m) fun (x0 : Int) => .lf (iand u32 x0 m.Cpu.Csr.a7))
def Qi7 (m : Q00) : Int := (Q7g m).m
abbrev Qbl (m : Q00) : Prop := (Q7g m).p
def Qzg : Q0a := mkP 97 [] true [.agg Q00.sig] [] (fun args rows => Qbl (Q00.of (args.getD 0 .dead).cells)) (fun args rows => Qi7 (Q00.of (args.getD 0 .dead).cells)) (fun X => .int .u32 X) (fun X => [])
theorem Qib : Q02 Tryz.prog Qzg := Q0k Q0f Q0g (.cons Z42 (.nil)) Tryz.func97 Tryz.call97 (fun args rows => Q7g (Q00.of (args.getD 0 .dead).cells)) [] [] 2 (fun _ _ _ => by kernel_rfl) (fun _ _ => rfl) (fun _ _ h => h) (fun _ X => by kernel_rfl)
def Qe9 (m : Q00) : Tree Bool :=
.br m.Waiting (.an (Qbl m) (.lv (Qi7 m) fun (x0 : Int) => .lf (x0 == 0))) (.lf false)
def Qw3 (m : Q00) : Bool := (Qe9 m).m
abbrev Qh2 (m : Q00) : Prop := (Qe9 m).p
def Zal : Q0a := mkP 41 [] true [.agg Q00.sig] [] (fun args rows => Qh2 (Q00.of (args.getD 0 .dead).cells)) (fun args rows => Qw3 (Q00.of (args.getD 0 .dead).cells)) (fun X => .bool X) (fun X => [])
theorem Qrq : Q02 Tryz.prog Zal := Q0k Q0f Q0g (.cons Qib (.nil)) Tryz.func41 Tryz.call41 (fun args rows => Qe9 (Q00.of (args.getD 0 .dead).cells)) [] [] 2 (fun _ _ _ => by kernel_rfl) (fun _ _ => rfl) (fun _ _ h => h) (fun _ X => by kernel_rfl)
def Qaj (m : Q00) : Tree Bool :=
.lv (Qu1 m) fun (x0 : Bool) => .br (!x0) (.lf true) (.br m.Halted (.lf true) (.an (Qh2 m) (.lv (Qw3 m) fun (x1 : Bool) => .br x1 (.lf true) (.lf (decide (m.Count ≥ 1152921504606846976))))))
def Qka (m : Q00) : Bool := (Qaj m).m
abbrev Qa0 (m : Q00) : Prop := (Qaj m).p
def Z5o : Q0a := mkP 65 [] true [.agg Q00.sig] [] (fun args rows => Qa0 (Q00.of (args.getD 0 .dead).cells)) (fun args rows => Qka (Q00.of (args.getD 0 .dead).cells)) (fun X => .bool X) (fun X => [])
theorem Qp6 : Q02 Tryz.prog Z5o := Q0k Q0f Q0g (.cons Qlx (.cons Qrq (.nil))) Tryz.func65 Tryz.call65 (fun args rows => Qaj (Q00.of (args.getD 0 .dead).cells)) [] [] 2 (fun _ _ _ => by kernel_rfl) (fun _ _ => rfl) (fun _ _ h => h) (fun _ X => by kernel_rfl)
end
end Go.Proofs.YtdkiadhigcfmkaaGreat

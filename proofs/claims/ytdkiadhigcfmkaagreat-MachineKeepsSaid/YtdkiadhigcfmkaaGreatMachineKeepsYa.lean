/-
  Functions of the program: models, and that its calls come to them (by a program: gen3.py).
-/
import Derived.Test.YtdkiadhigcfmkaaGreatMachineKeepsBase
namespace Go.Proofs.YtdkiadhigcfmkaaGreat
open Go Go.GD Go.IntKind
set_option linter.unusedVariables false
set_option linter.unusedSimpArgs false
set_option maxRecDepth 100000
noncomputable section
def Q04 (s : (List Int)) : (List Int) :=
s
def Q05 (s : (List Int)) : Prop :=
s.length ≤ 35184372088832
def Q28 (s : (List Int)) : List D := [.sl 1 (.ints .u32 s) false]
def Q1p (s : (List Int)) : List Row := []
def Q15 (X : (List Int)) : D := .all 0
def Q13 (X : (List Int)) : List Row := [⟨false, 27, 1, .ints .u32 X⟩]
def Q9h : List Dir := [.row 27 1 (.ints .u32)]
def Q51 : List PT := [.one (.ints .u32)]
def Q4l : List RT := []
def Qaz (args : List D) (rows : List Row) : (List Int) := Q04 (argL .u32 args 0)
def Qam (args : List D) (rows : List Row) : Prop := Q05 (argL .u32 args 0)
def Qc2 : Q0a := mkP 59 [] true Q51 Q4l Qam Qaz Q15 Q13
def Q2w (s : (List Int)) (Leaf : (List Int) → Prop) : Prop :=
(s = [] → Leaf []) ∧ cand (decide ((4 : Nat) * ((0 : Nat) + List.length s) ≤ (140737488355328 : Nat))) (Leaf s)
set_option maxRecDepth 100000 in
theorem Qbq (s : (List Int)) (Q : D → List Row → Prop) : (fnVC tab [] (LL tab [] Tryz.f59.ntmps 0 [] 2) Tryz.f59 (Q28 s) (Q1p s) fun d R => Qbg (Q1p s).length Q9h d R Q) = Q2w s (fun X => Q (Q15 X) (Q13 X)) := by kernel_rfl
theorem Q9y (s : (List Int)) (Leaf : (List Int) → Prop) (hw : Q05 s) (h : Leaf (Q04 s)) :
Q2w s Leaf := by
  delta Q2w
  refine ⟨fun e => by rw [e] at h; exact h, ?_⟩
  rw [Q08]
  refine ⟨decide_eq_true ?_, h⟩
  have : s.length ≤ 35184372088832 := hw
  omega
set_option maxRecDepth 100000 in
theorem Q97 (s : (List Int)) (hw : Q05 s) : Q3g Tryz.prog 59 (Q28 s) (Q1p s) (Q15 (Q04 s)) (Q13 (Q04 s)) :=
  have hG : Q77 Tryz.prog [] := .nil
  FnOK.calls Q0f Q0g hG Tryz.func59 (LL_ok Q0f Q0g hG 2 (invs := [])) (FnOK.of (Qbq s _) (Q9y s (fun X => Q15 X = Q15 (Q04 s) ∧ Q13 X = Q13 (Q04 s)) hw ⟨rfl, rfl⟩))
set_option maxRecDepth 100000 in
theorem Q9q (args : List D) (rows : List Row) : Qi4 Q51 args 0 = Q28 (argL .u32 args 0) := by kernel_rfl
set_option maxRecDepth 100000 in
theorem Q98 (args : List D) (rows : List Row) : Q70 Q4l rows 0 = Q1p (argL .u32 args 0) := by kernel_rfl
set_option maxRecDepth 100000 in
theorem Qbk (X : (List Int)) : (ffB (Q15 X) && ffBR (Q13 X)) = true := by kernel_rfl
theorem Q0q : Q02 Tryz.prog Qc2 := Z6m Tryz.call59 (fun args rows hp => by rw [Q9q args rows, Q98 args rows]; exact Q97 (argL .u32 args 0) hp) (fun _ X => Qbk X)
def Q5g (m : (List Int)) : Tree Int :=
.br (Int.tmod (↑(List.length m) : Int) (32 : Int) != (0 : Int)) (.lf 0) (.br (decide ((↑(List.length m) : Int) > (1024 : Int))) (.lf 0) (.lf (wrap i64 (Int.tdiv (↑(List.length m) : Int) 32))))
def Q0r (m : (List Int)) : Int := (Q5g m).m
def Qzm : Q0a := mkR 56 [] true [.one (.ints .u32)] [] (fun args rows => Q0r (argL .u32 args 0)) (fun X => .int .i64 X) (fun X => [])
theorem Q2i : Q02 Tryz.prog Qzm := Q0t Q0f Q0g (.nil) Tryz.func56 Tryz.call56 (fun args rows => Q5g (argL .u32 args 0)) [] [] 2 (fun _ _ _ => by kernel_rfl) (fun _ _ => rfl) (fun _ _ => Tree.free_ok (by kernel_rfl)) (fun _ X => by kernel_rfl)
def Q50 (m : (List Int)) (addr : Int) (size : Int) : Tree Bool :=
let T1 : Tree (Bool) := .cn (decide (wrap u32 size ≠ 0)) (.br (Int.tmod addr (wrap u32 size) != 0) (.lf false) (.lv (Q0r m) fun (x0 : Int) => .lf (decide (wrap u64 (wrap u64 addr + wrap u64 size) ≤ wrap u64 (wrap u64 x0 * 128))))); .br (size != 1) (.br (size != 4) (.lf false) T1) T1
def Qgk (m : (List Int)) (addr : Int) (size : Int) : Bool := (Q50 m addr size).m
abbrev Q4t (m : (List Int)) (addr : Int) (size : Int) : Prop := (Q50 m addr size).p
def Qxd : Q0a := mkP 217 [] true [.one (.ints .u32), .one (.int .u32), .one (.int .i64)] [] (fun args rows => Q4t (argL .u32 args 0) (argI args 1) (argI args 2)) (fun args rows => Qgk (argL .u32 args 0) (argI args 1) (argI args 2)) (fun X => .bool X) (fun X => [])
theorem Qhg : Q02 Tryz.prog Qxd := Q0k Q0f Q0g (.cons Q2i (.nil)) Tryz.func217 Tryz.call217 (fun args rows => Q50 (argL .u32 args 0) (argI args 1) (argI args 2)) [] [] 2 (fun _ _ _ => by kernel_rfl) (fun _ _ => rfl) (fun _ _ h => h) (fun _ X => by kernel_rfl)
def Q9w (n : Int) : Tree Int :=
.br (decide (n ≥ 32)) (.lf 4294967295) (.cn (decide (0 ≤ wrap u64 n)) (.lf (wrap u32 (ishl u32 1 (wrap u64 n) - 1))))
def Qx3 (n : Int) : Int := (Q9w n).m
abbrev Q8s (n : Int) : Prop := (Q9w n).p
def Z9h : Q0a := mkP 218 [] true [.one (.int .i64)] [] (fun args rows => Q8s (argI args 0)) (fun args rows => Qx3 (argI args 0)) (fun X => .int .u32 X) (fun X => [])
theorem Qs6 : Q02 Tryz.prog Z9h := Q0k Q0f Q0g (.nil) Tryz.func218 Tryz.call218 (fun args rows => Q9w (argI args 0)) [] [] 2 (fun _ _ _ => by kernel_rfl) (fun _ _ => rfl) (fun _ _ h => h) (fun _ X => by kernel_rfl)
def Q86 (w : Int) (low : Int) (n : Int) : Tree Int :=
.br (decide (low < 0)) (.lf 0) (.br (decide (low > 31)) (.lf 0) (.br (decide (n < 1)) (.lf 0) (.cn (decide (0 ≤ wrap u64 low)) (.an (Q8s n) (.lv (Qx3 n) fun (x0 : Int) => .lf (iand u32 (ishr u32 w (wrap u64 low)) x0))))))
def Q9k (w : Int) (low : Int) (n : Int) : Int := (Q86 w low n).m
abbrev Q2c (w : Int) (low : Int) (n : Int) : Prop := (Q86 w low n).p
def Z6b : Q0a := mkP 169 [] true [.one (.int .u32), .one (.int .i64), .one (.int .i64)] [] (fun args rows => Q2c (argI args 0) (argI args 1) (argI args 2)) (fun args rows => Q9k (argI args 0) (argI args 1) (argI args 2)) (fun X => .int .u32 X) (fun X => [])
theorem Qh7 : Q02 Tryz.prog Z6b := Q0k Q0f Q0g (.cons Qs6 (.nil)) Tryz.func169 Tryz.call169 (fun args rows => Q86 (argI args 0) (argI args 1) (argI args 2)) [] [] 2 (fun _ _ _ => by kernel_rfl) (fun _ _ => rfl) (fun _ _ h => h) (fun _ X => by kernel_rfl)
def Q4q (w : Int) (low : Int) (n : Int) (v : Int) : Tree Int :=
.br (decide (low < 0)) (.lf w) (.br (decide (low > 31)) (.lf w) (.br (decide (n < 1)) (.lf w) (.an (Q8s n) (.lv (Qx3 n) fun (x0 : Int) => .cn (decide (0 ≤ wrap u64 low)) (.cn (decide (0 ≤ wrap u64 low)) (.lf (ior u32 (Qky u32 w (ishl u32 x0 (wrap u64 low))) (ishl u32 (iand u32 v x0) (wrap u64 low)))))))))
def Qn9 (w : Int) (low : Int) (n : Int) (v : Int) : Int := (Q4q w low n v).m
abbrev Q7 (w : Int) (low : Int) (n : Int) (v : Int) : Prop := (Q4q w low n v).p
def Qxc : Q0a := mkP 220 [] true [.one (.int .u32), .one (.int .i64), .one (.int .i64), .one (.int .u32)] [] (fun args rows => Q7 (argI args 0) (argI args 1) (argI args 2) (argI args 3)) (fun args rows => Qn9 (argI args 0) (argI args 1) (argI args 2) (argI args 3)) (fun X => .int .u32 X) (fun X => [])
theorem Qsn : Q02 Tryz.prog Qxc := Q0k Q0f Q0g (.cons Qs6 (.nil)) Tryz.func220 Tryz.call220 (fun args rows => Q4q (argI args 0) (argI args 1) (argI args 2) (argI args 3)) [] [] 2 (fun _ _ _ => by kernel_rfl) (fun _ _ => rfl) (fun _ _ h => h) (fun _ X => by kernel_rfl)
def Q5m (m : (List Int)) (addr : Int) (size : Int) (v : Int) : Tree ((List Int) × Bool) :=
.an (Q05 m) (.lv (Q04 m) fun (x0 : List Int) => .an (Q4t m addr size) (.lv (Qgk m addr size) fun (x1 : Bool) => .br (!x1) (.lf (x0, false)) (let E1 := Nat.beq 1 1 && Nat.blt 0 1 && decide (0 ≤ wrap u32 (Int.tdiv addr 4) ∧ wrap u32 (Int.tdiv addr 4) < (↑(List.length x0) : Int)); let E2 := Int.toNat (wrap u32 (Int.tdiv addr 4)); .br (size == 1) (.cn E1 (let E3 := wrap i64 (wrap i64 (Int.tmod addr 4) * 8); .an (Q7 (List.getD x0 E2 0) E3 8 v) (.lv (Qn9 (List.getD x0 E2 0) E3 8 v) fun (x2 : Int) => .cn E1 (.lf (List.set x0 E2 x2, true))))) (.cn E1 (.lf (List.set x0 E2 v, true))))))
def Qeu (m : (List Int)) (addr : Int) (size : Int) (v : Int) : ((List Int) × Bool) := (Q5m m addr size v).m
abbrev Q3t (m : (List Int)) (addr : Int) (size : Int) (v : Int) : Prop := (Q5m m addr size v).p
def Qxs : Q0a := mkP 175 [] true [.one (.ints .u32), .one (.int .u32), .one (.int .i64), .one (.int .u32)] [] (fun args rows => Q3t (argL .u32 args 0) (argI args 1) (argI args 2) (argI args 3)) (fun args rows => Qeu (argL .u32 args 0) (argI args 1) (argI args 2) (argI args 3)) (fun X => .tup [.all 0, .bool (X.2)]) (fun X => [⟨false, 27, 1, .ints .u32 (X.1)⟩])
theorem Qjt : Q02 Tryz.prog Qxs := Q0k Q0f Q0g (.cons Q0q (.cons Qhg (.cons Qsn (.nil)))) Tryz.func175 Tryz.call175 (fun args rows => Q5m (argL .u32 args 0) (argI args 1) (argI args 2) (argI args 3)) [.row 27 1 (.ints .u32)] [] 2 (fun _ _ _ => by kernel_rfl) (fun _ _ => rfl) (fun _ _ h => h) (fun _ X => by kernel_rfl)
def Z6f (op : Int) : Tree (Q8r × Bool) :=
.br (op == 1) (.lf ({ a := true, b := true, c := true, low := 0, high := 0 }, true)) (.br (op == 2) (.lf ({ a := true, b := true, c := true, low := 0, high := 0 }, true)) (.br (op == 3) (.lf ({ a := true, b := true, c := true, low := 0, high := 0 }, true)) (.br (op == 4) (.lf ({ a := true, b := true, c := true, low := 0, high := 0 }, true)) (.br (op == 5) (.lf ({ a := true, b := true, c := true, low := 0, high := 0 }, true)) (.br (op == 6) (.lf ({ a := true, b := true, c := true, low := 0, high := 0 }, true)) (.br (op == 7) (.lf ({ a := true, b := true, c := true, low := 0, high := 0 }, true)) (.br (op == 8) (.lf ({ a := true, b := true, c := true, low := 0, high := 0 }, true)) (.br (op == 9) (.lf ({ a := true, b := true, c := true, low := 0, high := 0 }, true)) (.br (op == 10) (.lf ({ a := true, b := true, c := true, low := 0, high := 0 }, true)) (.br (op == 11) (.lf ({ a := true, b := true, c := true, low := 0, high := 0 }, true)) (.br (op == 12) (.lf ({ a := true, b := true, c := true, low := 0, high := 0 }, true)) (.br (op == 13) (.lf ({ a := true, b := true, c := true, low := 0, high := 0 }, true)) (.br (op == 16) (.lf ({ a := true, b := true, c := false, low := (-32768), high := 32767 }, true)) (.br (op == 23) (.lf ({ a := true, b := true, c := false, low := (-32768), high := 32767 }, true)) (.br (op == 32) (.lf ({ a := true, b := true, c := false, low := (-32768), high := 32767 }, true)) (.br (op == 33) (.lf ({ a := true, b := true, c := false, low := (-32768), high := 32767 }, true)) (.br (op == 34) (.lf ({ a := true, b := true, c := false, low := (-32768), high := 32767 }, true)) (.br (op == 35) (.lf ({ a := true, b := true, c := false, low := (-32768), high := 32767 }, true)) (.br (op == 36) (.lf ({ a := true, b := true, c := false, low := (-32768), high := 32767 }, true)) (.br (op == 40) (.lf ({ a := true, b := true, c := false, low := (-32768), high := 32767 }, true)) (.br (op == 41) (.lf ({ a := true, b := true, c := false, low := (-32768), high := 32767 }, true)) (.br (op == 42) (.lf ({ a := true, b := true, c := false, low := (-32768), high := 32767 }, true)) (.br (op == 43) (.lf ({ a := true, b := true, c := false, low := (-32768), high := 32767 }, true)) (.br (op == 44) (.lf ({ a := true, b := true, c := false, low := (-32768), high := 32767 }, true)) (.br (op == 45) (.lf ({ a := true, b := true, c := false, low := (-32768), high := 32767 }, true)) (.br (op == 49) (.lf ({ a := true, b := true, c := false, low := (-32768), high := 32767 }, true)) (.br (op == 17) (.lf ({ a := true, b := true, c := false, low := 0, high := 65535 }, true)) (.br (op == 18) (.lf ({ a := true, b := true, c := false, low := 0, high := 65535 }, true)) (.br (op == 19) (.lf ({ a := true, b := true, c := false, low := 0, high := 65535 }, true)) (.br (op == 20) (.lf ({ a := true, b := true, c := false, low := 0, high := 31 }, true)) (.br (op == 21) (.lf ({ a := true, b := true, c := false, low := 0, high := 31 }, true)) (.br (op == 22) (.lf ({ a := true, b := true, c := false, low := 0, high := 31 }, true)) (.br (op == 24) (.lf ({ a := true, b := false, c := false, low := 0, high := 65535 }, true)) (.br (op == 48) (.lf ({ a := true, b := false, c := false, low := (-32768), high := 32767 }, true)) (.br (op == 58) (.lf ({ a := true, b := false, c := false, low := 0, high := 7 }, true)) (.br (op == 59) (.lf ({ a := true, b := false, c := false, low := 0, high := 7 }, true)) (.br (op == 60) (.lf ({ a := true, b := false, c := false, low := 0, high := 11 }, true)) (.br (op == 61) (.lf ({ a := true, b := false, c := false, low := 0, high := 11 }, true)) (.br (op == 56) (.lf ({ a := false, b := false, c := false, low := 0, high := 0 }, true)) (.br (op == 57) (.lf ({ a := false, b := false, c := false, low := 0, high := 0 }, true)) (.br (op == 62) (.lf ({ a := false, b := false, c := false, low := 0, high := 0 }, true)) (.br (op == 63) (.lf ({ a := false, b := false, c := false, low := 0, high := 0 }, true)) (.br (op == 64) (.lf ({ a := false, b := false, c := false, low := 0, high := 0 }, true)) (.lf ({ a := false, b := false, c := false, low := 0, high := 0 }, false)))))))))))))))))))))))))))))))))))))))))))))
def Z90 (op : Int) : (Q8r × Bool) := (Z6f op).m
def isa_use_m : Q0a := mkR 170 [] true [.one (.int .i64)] [] (fun args rows => Z90 (argI args 0)) (fun X => .tup [.agg (Q8r.cells (X.1)), .bool (X.2)]) (fun X => [])
theorem Z03 : Q02 Tryz.prog isa_use_m := Q0t Q0f Q0g (.nil) Tryz.func170 Tryz.call170 (fun args rows => Z6f (argI args 0)) [] [] 2 (fun _ _ _ => by kernel_rfl) (fun _ _ => rfl) (fun _ _ => Tree.free_ok (by kernel_rfl)) (fun _ X => by kernel_rfl)
def Q32 (x : Int) (n : Int) : Tree Int :=
.br (decide (n < 1)) (.lf 0) (.br (decide (n ≥ 32)) (.lf x) (let E1 := decide (0 ≤ wrap u64 (wrap i64 (32 - n))); .cn E1 (.cn E1 (.lf (wrap u32 (ishr i32 (wrap i32 (ishl u32 x (wrap u64 (wrap i64 (32 - n))))) (wrap u64 (wrap i64 (32 - n)))))))))
def Qdw (x : Int) (n : Int) : Int := (Q32 x n).m
abbrev Q3i (x : Int) (n : Int) : Prop := (Q32 x n).p
def Qq0 : Q0a := mkP 171 [] true [.one (.int .u32), .one (.int .i64)] [] (fun args rows => Q3i (argI args 0) (argI args 1)) (fun args rows => Qdw (argI args 0) (argI args 1)) (fun X => .int .u32 X) (fun X => [])
theorem Qf3 : Q02 Tryz.prog Qq0 := Q0k Q0f Q0g (.nil) Tryz.func171 Tryz.call171 (fun args rows => Q32 (argI args 0) (argI args 1)) [] [] 2 (fun _ _ _ => by kernel_rfl) (fun _ _ => rfl) (fun _ _ h => h) (fun _ X => by kernel_rfl)
def Qfg (r : Int) (used : Bool) : Tree Bool :=
.br used (.br (decide (r ≥ 0)) (.lf (decide (r ≤ 15))) (.lf false)) (.lf (r == 0))
def Q7z (r : Int) (used : Bool) : Bool := (Qfg r used).m
def Qya : Q0a := mkR 219 [] true [.one (.int .i64), .one (.bool)] [] (fun args rows => Q7z (argI args 0) (argB args 1)) (fun X => .bool X) (fun X => [])
theorem Qxe : Q02 Tryz.prog Qya := Q0t Q0f Q0g (.nil) Tryz.func219 Tryz.call219 (fun args rows => Qfg (argI args 0) (argB args 1)) [] [] 2 (fun _ _ _ => by kernel_rfl) (fun _ _ => rfl) (fun _ _ => Tree.free_ok (by kernel_rfl)) (fun _ X => by kernel_rfl)
def Qgs (i : Q0j) : Tree Bool :=
.lv (Z90 i.Op) fun (x0 : Q8r × Bool) => .br x0.snd (.lv (Q7z i.A x0.fst.a) fun (x1 : Bool) => .br x1 (.lv (Q7z i.B x0.fst.b) fun (x2 : Bool) => .br x2 (.lv (Q7z i.C x0.fst.c) fun (x3 : Bool) => .br x3 (.br (decide (i.Imm ≥ x0.fst.low)) (.lf (decide (i.Imm ≤ x0.fst.high))) (.lf false)) (.lf false)) (.lf false)) (.lf false)) (.lf false)
def Qg8 (i : Q0j) : Bool := (Qgs i).m
def Zaa : Q0a := mkR 172 [] true [.agg Q0j.sig] [] (fun args rows => Qg8 (Q0j.of (args.getD 0 .dead).cells)) (fun X => .bool X) (fun X => [])
theorem Z8e : Q02 Tryz.prog Zaa := Q0t Q0f Q0g (.cons Z03 (.cons Qxe (.nil))) Tryz.func172 Tryz.call172 (fun args rows => Qgs (Q0j.of (args.getD 0 .dead).cells)) [] [] 2 (fun _ _ _ => by kernel_rfl) (fun _ _ => rfl) (fun _ _ => Tree.free_ok (by kernel_rfl)) (fun _ X => by kernel_rfl)
def Q7y (w : Int) : Tree (Q0j × Bool) :=
.an (Q2c w 24 8) (.lv (Q9k w 24 8) fun (x0 : Int) => .an (Q2c w 20 4) (.lv (Q9k w 20 4) fun (x1 : Int) => .an (Q2c w 16 4) (.lv (Q9k w 16 4) fun (x2 : Int) => .lv (Z90 (wrap i64 x0)) fun (x3 : Q8r × Bool) => let E1 := ({ Op := 0, A := 0, B := 0, C := 0, Imm := 0 } : Q0j); .br (!x3.snd) (.lf (E1, false)) (.an (Q2c w 0 16) (.lv (Q9k w 0 16) fun (x4 : Int) => .br x3.fst.c (let E2 := ({ Op := wrap i64 x0, A := wrap i64 x1, B := wrap i64 x2, C := wrap i64 x4, Imm := 0 } : Q0j); .lv (Qg8 E2) fun (x5 : Bool) => .br (!x5) (.lf (E1, false)) (.lf (E2, true))) (.br (decide (x3.fst.low < 0)) (.an (Q3i x4 16) (.lv (Qdw x4 16) fun (x6 : Int) => let E3 := ({ Op := wrap i64 x0, A := wrap i64 x1, B := wrap i64 x2, C := 0, Imm := wrap i32 x6 } : Q0j); .lv (Qg8 E3) fun (x7 : Bool) => .br (!x7) (.lf (E1, false)) (.lf (E3, true)))) (let E4 := ({ Op := wrap i64 x0, A := wrap i64 x1, B := wrap i64 x2, C := 0, Imm := wrap i32 x4 } : Q0j); .lv (Qg8 E4) fun (x8 : Bool) => .br (!x8) (.lf (E1, false)) (.lf (E4, true)))))))))
def Z0y (w : Int) : (Q0j × Bool) := (Q7y w).m
abbrev Qab (w : Int) : Prop := (Q7y w).p
def Z8h : Q0a := mkP 121 [] true [.one (.int .u32)] [] (fun args rows => Qab (argI args 0)) (fun args rows => Z0y (argI args 0)) (fun X => .tup [.agg (Q0j.cells (X.1)), .bool (X.2)]) (fun X => [])
theorem Z20 : Q02 Tryz.prog Z8h := Q0k Q0f Q0g (.cons Qh7 (.cons Z03 (.cons Qf3 (.cons Z8e (.nil))))) Tryz.func121 Tryz.call121 (fun args rows => Q7y (argI args 0)) [] [] 2 (fun _ _ _ => by kernel_rfl) (fun _ _ => rfl) (fun _ _ h => h) (fun _ X => by kernel_rfl)
def Q6q (a : Int) (b : Int) : Tree (Int × Int) :=
.br (b == 0) (.lf (4294967295, a)) (let T1 : Tree ((Int × Int)) := .cn (decide (wrap i32 b ≠ 0)) (.cn (decide (wrap i32 b ≠ 0)) (.lf (wrap u32 (wrap i32 (Int.tdiv (wrap i32 a) (wrap i32 b))), wrap u32 (Int.tmod (wrap i32 a) (wrap i32 b))))); .br (a == 2147483648) (.br (b == 4294967295) (.lf (a, 0)) T1) T1)
def Qm1 (a : Int) (b : Int) : (Int × Int) := (Q6q a b).m
abbrev Q5z (a : Int) (b : Int) : Prop := (Q6q a b).p
def Z41 : Q0a := mkP 221 [] true [.one (.int .u32), .one (.int .u32)] [] (fun args rows => Q5z (argI args 0) (argI args 1)) (fun args rows => Qm1 (argI args 0) (argI args 1)) (fun X => .tup [.int .u32 (X.1), .int .u32 (X.2)]) (fun X => [])
theorem Qz3 : Q02 Tryz.prog Z41 := Q0k Q0f Q0g (.nil) Tryz.func221 Tryz.call221 (fun args rows => Q6q (argI args 0) (argI args 1)) [] [] 2 (fun _ _ _ => by kernel_rfl) (fun _ _ => rfl) (fun _ _ h => h) (fun _ X => by kernel_rfl)
def Qv3 (b : Bool) : Tree Int :=
.br b (.lf 1) (.lf 0)
def Qis (b : Bool) : Int := (Qv3 b).m
def Z8o : Q0a := mkR 222 [] true [.one (.bool)] [] (fun args rows => Qis (argB args 0)) (fun X => .int .u32 X) (fun X => [])
theorem Z69 : Q02 Tryz.prog Z8o := Q0t Q0f Q0g (.nil) Tryz.func222 Tryz.call222 (fun args rows => Qv3 (argB args 0)) [] [] 2 (fun _ _ _ => by kernel_rfl) (fun _ _ => rfl) (fun _ _ => Tree.free_ok (by kernel_rfl)) (fun _ X => by kernel_rfl)
def Qgc (op : Int) (a : Int) (b : Int) : Tree (Int × Bool) :=
.br (op == 2) (.lf (wrap u32 (a + wrap u32 (0 - b)), true)) (.br (op == 1) (.lf (wrap u32 (a + b), true)) (.br (op == 16) (.lf (wrap u32 (a + b), true)) (.br (op == 3) (.lf (iand u32 a b, true)) (.br (op == 17) (.lf (iand u32 a b, true)) (.br (op == 4) (.lf (ior u32 a b, true)) (.br (op == 18) (.lf (ior u32 a b, true)) (.br (op == 5) (.lf (ixor u32 a b, true)) (.br (op == 19) (.lf (ixor u32 a b, true)) (.br (op == 6) (.lf (ishl u32 a (iand u32 b 31), true)) (.br (op == 20) (.lf (ishl u32 a (iand u32 b 31), true)) (.br (op == 7) (.lf (ishr u32 a (iand u32 b 31), true)) (.br (op == 21) (.lf (ishr u32 a (iand u32 b 31), true)) (let E1 := (wrap u32 (ishr i32 (wrap i32 a) (iand u32 b 31)), true); .br (op == 8) (.lf E1) (.br (op == 22) (.lf E1) (.br (op == 9) (.lf (wrap u32 (a * b), true)) (.br (op == 10) (.an (Q5z a b) (.lv (Qm1 a b) fun (x0 : Int × Int) => .lf (x0.fst, true))) (.br (op == 11) (.an (Q5z a b) (.lv (Qm1 a b) fun (x1 : Int × Int) => .lf (x1.snd, true))) (.br (op == 12) (.lv (Qis (decide (wrap i32 a < wrap i32 b))) fun (x2 : Int) => .lf (x2, true)) (.br (op == 23) (.lv (Qis (decide (wrap i32 a < wrap i32 b))) fun (x3 : Int) => .lf (x3, true)) (.br (op == 13) (.lv (Qis (decide (a < b))) fun (x4 : Int) => .lf (x4, true)) (.lf (0, false))))))))))))))))))))))
def Za3 (op : Int) (a : Int) (b : Int) : (Int × Bool) := (Qgc op a b).m
abbrev Qds (op : Int) (a : Int) (b : Int) : Prop := (Qgc op a b).p
def cpu_Alu_m : Q0a := mkP 179 [] true [.one (.int .i64), .one (.int .u32), .one (.int .u32)] [] (fun args rows => Qds (argI args 0) (argI args 1) (argI args 2)) (fun args rows => Za3 (argI args 0) (argI args 1) (argI args 2)) (fun X => .tup [.int .u32 (X.1), .bool (X.2)]) (fun X => [])
theorem Zd6 : Q02 Tryz.prog cpu_Alu_m := Q0k Q0f Q0g (.cons Qz3 (.cons Z69 (.nil))) Tryz.func179 Tryz.call179 (fun args rows => Qgc (argI args 0) (argI args 1) (argI args 2)) [] [] 2 (fun _ _ _ => by kernel_rfl) (fun _ _ => rfl) (fun _ _ h => h) (fun _ X => by kernel_rfl)
end
end Go.Proofs.YtdkiadhigcfmkaaGreat

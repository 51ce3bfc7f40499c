/-
  Functions of the program: models, and that its calls come to them (by a program: gen3.py).
-/
import Derived.Test.YtfihpfnndbolpaaPrecopyEndsBase
import Derived.Test.YtfihpfnndbolpaaPrecopyEndsPb
import Derived.Test.YtfihpfnndbolpaaPrecopyEndsPa
import Derived.Test.YtfihpfnndbolpaaPrecopyEndsPc
namespace Go.Proofs.Ytfihpfnndbolpaa
open Go Go.GD Go.IntKind
set_option linter.unusedVariables false
set_option linter.unusedSimpArgs false
set_option maxRecDepth 100000
noncomputable section
instance sumInhPd {α β : Type} [Inhabited β] : Inhabited (α ⊕ β) := ⟨.inr default⟩
def law30_awake_t  : Tree Bool :=
.an (precopy_Begin_pre 3) (.lv (precopy_Begin 3) fun (x0 : ApiPrecopy × Bool) => .an (memory_New_pre 3) (.lv (memory_New 3) fun (x1 : List Int) => .an (precopy_Round_pre x0.fst x1) (.lv (precopy_Round x0.fst x1) fun (x2 : ApiPrecopy × List ApiPageCopy) => .an (precopy_Note_pre x2.fst [1]) (.lv (precopy_Note x2.fst [1]) fun (x3 : ApiPrecopy) => .an (precopy_Pending_pre x3) (.lv (precopy_Pending x3) fun (x4 : List Int) => .br x0.snd (.br ((↑(List.length x2.snd) : Int) == (3 : Int)) (.br ((↑(List.length x4) : Int) == (1 : Int)) (.cn (Nat.beq 1 1 && Nat.blt 0 1 && decide ((0 : Int) ≤ (0 : Int) ∧ 0 < (↑(List.length x4) : Int))) (.br (List.getD x4 (Int.toNat 0) (0 : Int) == (1 : Int)) (.br (x3.Round == 1) (.br (x3.Sent == 3) (.an (precopy_Stop_pre x3 1) (.lv (precopy_Stop x3 1) fun (x5 : Bool) => .br x5 (.an (precopy_Stop_pre x3 0) (.lv (precopy_Stop x3 0) fun (x6 : Bool) => .br (!x6) (.an (precopy_Downtime_pre x3 5) (.lv (precopy_Downtime x3 5) fun (x7 : Int) => .lf (x7 == 1))) (.lf false))) (.lf false))) (.lf false)) (.lf false)) (.lf false))) (.lf false)) (.lf false)) (.lf false))))))
def law30_awake  : Bool := (law30_awake_t).m
abbrev law30_awake_pre  : Prop := (law30_awake_t).p
def law30_awake_m : Model := mkP 6 [] true [] [] (fun args rows => law30_awake_pre) (fun args rows => law30_awake) (fun X => .bool X) (fun X => [])
theorem law30_awake_ok : ModelOK Try.prog law30_awake_m := mkP_of drawn tabOK (.cons precopy_Begin_ok (.cons memory_New_ok (.cons precopy_Round_ok (.cons precopy_Note_ok (.cons precopy_Pending_ok (.cons precopy_Stop_ok (.cons precopy_Downtime_ok (.nil)))))))) Try.func6 Try.call6 (fun args rows => law30_awake_t) [] [] 2 (fun _ _ _ => by kernel_rfl) (fun _ _ => rfl) (fun _ _ h => h) (fun _ X => by kernel_rfl)
def law30_PrecopyEnds_meas0 (pages : Int) (extra : Int) (z : (Int) × (Int) × ApiPrecopy) : Nat := (33 + extra - z.1).toNat
def law30_PrecopyEnds_t (pages : Int) (extra : Int) : Tree Bool :=
.br (decide (pages < 1)) (.an law30_awake_pre (.lv law30_awake fun (x0 : Bool) => .lf x0)) (.br (decide (pages > 32)) (.an law30_awake_pre (.lv law30_awake fun (x1 : Bool) => .lf x1)) (.br (decide (extra < 0)) (.an law30_awake_pre (.lv law30_awake fun (x2 : Bool) => .lf x2)) (.br (decide (extra > 5)) (.an law30_awake_pre (.lv law30_awake fun (x3 : Bool) => .lf x3)) (.an (precopy_Begin_pre pages) (.lv (precopy_Begin pages) fun (x4 : ApiPrecopy × Bool) => .an (memory_New_pre pages) (.lv (memory_New pages) fun (x5 : List Int) => .lp inferInstance (law30_PrecopyEnds_meas0 pages extra (0, 0, x4.fst) + 1) ((rE (pages : Int) ∧ rE (extra : Int) ∧ (rE ((nat_lit 0) : Nat) ∧ rE ((nat_lit 0) : Nat)) ∧ True ∧ rE (0 : Int) ∧ rE (0 : Int) ∧ True) ∧ (True ∧ rE x4.fst.Round ∧ rE x4.fst.Sent ∧ True) ∧ rE x4.fst.Dirty ∧ rE (x5 : List Int) ∧ True) (0, 0, x4.fst) fun (v0 : Int × Int × ApiPrecopy) => .br (decide (v0.snd.fst < wrap i64 (11 + extra))) (.an (precopy_Note_pre v0.snd.snd [0]) (.lv (precopy_Note v0.snd.snd [0]) fun (x6 : ApiPrecopy) => .an (precopy_Round_pre x6 x5) (.lv (precopy_Round x6 x5) fun (x7 : ApiPrecopy × List ApiPageCopy) => .nx ((rE (pages : Int) ∧ rE (extra : Int) ∧ (rE ((nat_lit 0) : Nat) ∧ rE ((nat_lit 0) : Nat)) ∧ True ∧ rE ((wrap i64 (v0.fst + (↑(List.length x7.snd) : Int))) : Int) ∧ rE ((wrap i64 (v0.snd.fst + 1)) : Int) ∧ True) ∧ (True ∧ rE x7.fst.Round ∧ rE x7.fst.Sent ∧ True) ∧ rE x7.fst.Dirty ∧ rE (x5 : List Int) ∧ True) (Sum.inl (wrap i64 (v0.fst + (↑(List.length x7.snd) : Int)), wrap i64 (v0.snd.fst + 1), x7.fst))))) (.br (v0.fst == wrap i64 (pages + 10)) (.br (v0.snd.snd.Sent == v0.fst) (.br (v0.snd.snd.Round == 11) (.an law30_awake_pre (.lv law30_awake fun (x8 : Bool) => .lf (Sum.inr x8))) (.lf (Sum.inr false))) (.lf (Sum.inr false))) (.lf (Sum.inr false)))))))))
def law30_PrecopyEnds (pages : Int) (extra : Int) : Bool := (law30_PrecopyEnds_t pages extra).m
abbrev law30_PrecopyEnds_pre (pages : Int) (extra : Int) : Prop := (law30_PrecopyEnds_t pages extra).p
def law30_PrecopyEnds_i0 : LInv := {
  α := (Int) × (Int) × ApiPrecopy
  F := fun st a => ([(0, (lk st 0)), (1, (lk st 1)), (5, .ptr 0 0 0), (7, .all 2), (8, .int i64 a.1), (9, .int i64 a.2.1)], [⟨true, 26, 3, .gen [[.all 1, .int i64 a.2.2.Round, .int i64 a.2.2.Sent]]⟩, ⟨false, 4, 1, .bools a.2.2.Dirty⟩, ⟨false, 61, 1, esOf st.rows (rN st 7)⟩])
  a0 := fun st => ((lk st 8).toInt, (lk st 9).toInt, (⟨(boolsOf st.rows (rowNo (cT st 5 0) 1000000)), (cT st 5 1).toInt, (cT st 5 2).toInt⟩ : ApiPrecopy))
  ex0 := fun st => [] ++ [(rowNo (lk st 5) (st.rows.length + 0)), (rowNo (cT st 5 0) (st.rows.length + 1)), (rowNo (lk st 7) (st.rows.length + 2))]
  next := fun st => ((lk st 8).toInt, (lk st 9).toInt, (⟨(boolsOf st.rows (rowNo (cT st 5 0) 1000000)), (cT st 5 1).toInt, (cT st 5 2).toInt⟩ : ApiPrecopy))
  ex := fun st => [] ++ [(rowNo (lk st 5) (st.rows.length + 0)), (rowNo (cT st 5 0) (st.rows.length + 1)), (rowNo (lk st 7) (st.rows.length + 2))] }
def law30_PrecopyEnds_invs : List (Nat × LInv) := [(7, law30_PrecopyEnds_i0)]
def law30_PrecopyEnds_m : Model := mkP 4 [] true [.one (.int .i64), .one (.int .i64)] [] (fun args rows => law30_PrecopyEnds_pre (argI args 0) (argI args 1)) (fun args rows => law30_PrecopyEnds (argI args 0) (argI args 1)) (fun X => .bool X) (fun X => [])
theorem law30_PrecopyEnds_ok : ModelOK Try.prog law30_PrecopyEnds_m := mkP_of drawn tabOK (.cons law30_awake_ok (.cons precopy_Begin_ok (.cons memory_New_ok (.cons precopy_Round_ok (.cons precopy_Note_ok (.nil)))))) Try.func4 Try.call4 (fun args rows => law30_PrecopyEnds_t (argI args 0) (argI args 1)) [] law30_PrecopyEnds_invs 3 (fun _ _ _ => by kernel_rfl) (fun _ _ => rfl) (fun _ _ h => h) (fun _ X => by kernel_rfl)
end
end Go.Proofs.Ytfihpfnndbolpaa

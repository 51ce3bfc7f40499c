/-
  GD: from a law's call to the frame of its statement.
-/
import Derived.Test.YtdkiadhigcfmkaaGreatMachineConfinedList
import Derived.Below
import Derived.DataReads
namespace Go.GD
open Go
set_option linter.unusedVariables false
set_option linter.unusedSimpArgs false
def Ctx.all (w : World) : Ctx := { ρ := fun r => r, R := fun _ => none, V := fun _ => False, I := fun b => b < w.heap.size, base := w.heap.size, X := fun _ => False }
theorem all_mem (w : World) : Mem (Ctx.all w) w := ⟨fun r row h => by simp [Ctx.all] at h, fun r s x y h => by simp [Ctx.all] at h, fun b hb => ⟨hb, fun r x h => by simp [Ctx.all] at h⟩⟩
theorem law_walk {P : Program} {f : FuncId} {args : List D} {vs : List Value} {w : World} (h : ACalls P f args [] (.bool true) []) (ha : VReps (Ctx.all w) w args vs) :
    Calls P f vs.toArray w fun e w' => e = .returned (.bool true) ∧ RowKit.Below w.heap.size w w' := by
  refine (h (Ctx.all w) w vs (all_mem w) rfl (fun r => by simp [Ctx.all]) ha).mono fun e w' hq => ?_
  obtain ⟨v, c', he, hn, _, hr⟩ := hq
  have hv : v = .bool true := hr
  subst hv
  exact ⟨he, hn.fr.os, hn.fr.tape, hn.fr.output, hn.fr.size, fun k hk => hn.fr.heap k hk fun ⟨r, x, hr, _⟩ => by simp [Ctx.all] at hr⟩
theorem heap_lt {w : World} {b : Nat} {o : Obj} (h : w.heap[b]? = some o) : b < w.heap.size := by
  by_cases hlt : b < w.heap.size
  · exact hlt
  · rw [Array.getElem?_eq_none (by omega)] at h; cases h
end Go.GD

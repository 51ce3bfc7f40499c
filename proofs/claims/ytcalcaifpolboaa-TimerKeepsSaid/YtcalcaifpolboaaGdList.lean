/-
  GD: lists as cells.
-/
import Derived.Test.YtcalcaifpolboaaGdInv
import Derived.IntWalk
namespace Go.GD
open Go
set_option linter.unusedVariables false

theorem ask_iff {p : Prop} : Ask p ↔ p := ⟨fun h => h.ok, fun h => ⟨h⟩⟩
/-- A cell of a variable's row. -/
def cellOf (R : Rows) (r j : Nat) : D := match R.getD r none with | some row => (row.es.getD 0 []).getD j .dead | none => .dead
/-- A row's elements. -/
def esOf (R : Rows) (r : Nat) : List (List D) := match R.getD r none with | some row => row.es | none => []

def intsD (k : IntKind) (l : List Int) : List (List D) := l.map fun n => [.int k n]
def boolsD (l : List Bool) : List (List D) := l.map fun b => [.bool b]
def cell0 (e : List D) : D := e.getD 0 .dead
def intsOf (es : List (List D)) : List Int := es.map fun e => (cell0 e).toInt
def boolsOf (es : List (List D)) : List Bool := es.map fun e => (cell0 e).toBool
def isInts (k : IntKind) (es : List (List D)) : Bool := es.all fun e => match e with | [.int j _] => decide (j = k) | _ => false
def isBools (es : List (List D)) : Bool := es.all fun e => match e with | [.bool _] => true | _ => false

@[simp] theorem intsD_length (k : IntKind) (l : List Int) : (intsD k l).length = l.length := by simp [intsD]
@[simp] theorem boolsD_length (l : List Bool) : (boolsD l).length = l.length := by simp [boolsD]
theorem intsD_getD {k : IntKind} {l : List Int} {i : Nat} (h : i < l.length) : (intsD k l).getD i [] = [.int k (l.getD i 0)] := by
  simp [intsD, List.getD, h]
theorem boolsD_getD {l : List Bool} {i : Nat} (h : i < l.length) : (boolsD l).getD i [] = [.bool (l.getD i false)] := by
  simp [boolsD, List.getD, h]
theorem isInts_intsD (k : IntKind) (l : List Int) : isInts k (intsD k l) = true := by simp [isInts, intsD]
theorem isBools_boolsD (l : List Bool) : isBools (boolsD l) = true := by simp [isBools, boolsD]
theorem intsOf_intsD (k : IntKind) (l : List Int) : intsOf (intsD k l) = l := by 
  simp only [intsOf, intsD, List.map_map]
  exact (List.map_congr_left fun _ _ => rfl).trans (List.map_id l)
theorem boolsOf_boolsD (l : List Bool) : boolsOf (boolsD l) = l := by 
  simp only [boolsOf, boolsD, List.map_map]
  exact (List.map_congr_left fun _ _ => rfl).trans (List.map_id l)
theorem isInts_spec : ∀ {k : IntKind} {es : List (List D)}, isInts k es = true → es = intsD k (intsOf es)
  | k, [], _ => rfl
  | k, e :: es, h => by
    simp only [isInts, List.all_cons, Bool.and_eq_true] at h
    have ih := isInts_spec (k := k) (es := es) h.2
    obtain ⟨h1, _⟩ := h
    split at h1
    · simp only [decide_eq_true_eq] at h1
      subst h1
      exact congrArg (_ :: ·) ih
    · cases h1
theorem isBools_spec : ∀ {es : List (List D)}, isBools es = true → es = boolsD (boolsOf es)
  | [], _ => rfl
  | e :: es, h => by
    simp only [isBools, List.all_cons, Bool.and_eq_true] at h
    have ih := isBools_spec (es := es) h.2
    obtain ⟨h1, _⟩ := h
    split at h1
    · exact congrArg (_ :: ·) ih
    · cases h1
theorem w64 {n : Int} (h1 : -9223372036854775808 ≤ n) (h2 : n ≤ 9223372036854775807) : IntKind.wrap .i64 n = n := by rw [IntKind.wrap_i64]; omega
end Go.GD

/-
  GD: lists as cells.
-/
import Derived.Test.YtdkiadhigcfmkaaGreatMachineConfinedInv
import Derived.IntWalk
namespace Go.GD
open Go
set_option linter.unusedVariables false
set_option linter.unusedSimpArgs false
def cellOf (R : Rows) (r j : Nat) : D := match R.getD r none with | some row => (row.es.get 0).getD j .dead | none => .dead
def esOf (R : Rows) (r : Nat) : Els := match R.getD r none with | some row => row.es | none => .gen []
def intsOf (R : Rows) (r : Nat) : List Int := match R.getD r none with | some ⟨_, _, _, .ints _ l⟩ => l | _ => []
def rowNo (d : D) (n : Nat) : Nat := match d with | .all r => r | .own r _ _ => r | .ptr r _ _ => r | .pa r _ _ _ _ _ => r | _ => n
theorem w64 {n : Int} (h1 : -9223372036854775808 ≤ n) (h2 : n ≤ 9223372036854775807) : IntKind.wrap .i64 n = n := by rw [IntKind.wrap_i64]; omega
end Go.GD

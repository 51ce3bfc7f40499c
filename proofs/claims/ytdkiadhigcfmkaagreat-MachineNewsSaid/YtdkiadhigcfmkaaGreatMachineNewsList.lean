/-
  GD: lists as cells.
-/
import Derived.Test.YtdkiadhigcfmkaaGreatMachineNewsInv
import Derived.IntWalk
namespace Go.GD
open Go
set_option linter.unusedVariables false
set_option linter.unusedSimpArgs false
def cellOf (R : Rows) (r j : Nat) : D := match R.getD r none with | some row => (row.es.get 0).getD j .dead | none => .dead
def intsOf (R : Rows) (r : Nat) : List Int := match R.getD r none with | some ⟨_, _, _, .ints _ l⟩ => l | _ => []
def rowNo (d : D) (n : Nat) : Nat := match d with | .all r => r | .own r _ _ => r | .ptr r _ _ => r | .pa r _ _ _ _ _ => r | _ => n
end Go.GD

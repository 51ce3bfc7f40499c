/-
  GD: conditions, decided at given data.
-/
import Derived.Test.YtdkiadhigcfmkaaGreatMachineNewsMod
namespace Go.GD
set_option linter.unusedVariables false
instance candDec (b : Bool) (p : Prop) [h : Decidable p] : Decidable (cand b p) := match b with | true => h | false => .isFalse id
instance bcaseDec (b : Bool) (p q : Prop) [h : Decidable p] [g : Decidable q] : Decidable (bcase b p q) := match b with | true => h | false => g
instance namedDec {α : Type} (v : α) (p : α → Prop) [h : ∀ x, Decidable (p x)] : Decidable (∀ x, x = v → p x) := match h v with
  | .isTrue g => .isTrue fun x e => e ▸ g
  | .isFalse g => .isFalse fun k => g (k v rfl)
noncomputable instance (priority := low) notDec (p : Prop) : Decidable p := Classical.propDecidable p
end Go.GD

/-
  GD: conditions, decided at given data.
-/
import Derived.Test.YtdkiadhigcfmkaaGreatMachineConfinedMod
namespace Go.GD
set_option linter.unusedVariables false
instance candDec (b : Bool) (p : Prop) [h : Decidable p] : Decidable (cand b p) := match b with | true => h | false => .isFalse id
instance bcaseDec (b : Bool) (p q : Prop) [h : Decidable p] [g : Decidable q] : Decidable (bcase b p q) := match b with | true => h | false => g
instance namedDec {α : Type} (v : α) (p : α → Prop) [h : ∀ x, Decidable (p x)] : Decidable (∀ x, x = v → p x) := match h v with
  | .isTrue g => .isTrue fun x e => e ▸ g
  | .isFalse g => .isFalse fun k => g (k v rfl)
noncomputable instance (priority := low) notDec (p : Prop) : Decidable p := Classical.propDecidable p
def sumDec {α β : Type} {p : α → Prop} {q : β → Prop} (h : ∀ x, Decidable (p x)) (g : ∀ x, Decidable (q x)) : ∀ z, Decidable (Sum.elim p q z)
  | .inl x => h x
  | .inr x => g x
@[instance_reducible] noncomputable def runWDec0 {α β : Type} (B : α → (α ⊕ β → Prop) → Prop) (W : β → Prop) (hW : ∀ b, Decidable (W b)) (hB : ∀ (y : α) (V : α ⊕ β → Prop), (∀ z, Decidable (V z)) → Decidable (B y V)) : ∀ n x, Decidable (runW B W n x) :=
  fun n => Nat.rec (motive := fun n => ∀ x, Decidable (runW B W n x)) (fun _ => .isFalse (by rw [runW_zero]; exact id)) (fun k ih y => match hB y _ (sumDec ih hW) with | .isTrue h => .isTrue (by rw [runW_succ]; exact h) | .isFalse h => .isFalse (by rw [runW_succ]; exact h)) n
noncomputable instance runWDec {α β : Type} (B : α → (α ⊕ β → Prop) → Prop) (W : β → Prop) (n : Nat) (x : α) [hW : ∀ b, Decidable (W b)] [hB : ∀ (y : α) (V : α ⊕ β → Prop) [∀ z, Decidable (V z)], Decidable (B y V)] : Decidable (runW B W n x) := runWDec0 B W hW (fun y V h => @hB y V h) n x
end Go.GD

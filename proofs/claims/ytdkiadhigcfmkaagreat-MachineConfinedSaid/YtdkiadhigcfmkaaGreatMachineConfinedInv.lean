/-
  GD: a function's condition with its loops' invariants laid in.
-/
import Derived.Test.YtdkiadhigcfmkaaGreatMachineConfinedLoop
namespace Go.GD
open Go
set_option linter.unusedVariables false
set_option linter.unusedSimpArgs false
structure LInv where
  α : Type
  F : St → α → List (Nat × D) × List Row
  a0 : St → α
  ex0 : St → List Nat
  next : St → α
  ex : St → List Nat
structure Ask (p : Prop) : Prop where
  ok : p
def keyOf : Code → Nat
  | .region id _ _ => id
  | .block id _ => id
  | .seq a _ => keyOf a
  | .loop a => keyOf a
  | _ => 0
def findI : List (Nat × LInv) → Nat → Option LInv
  | [], _ => none
  | (k, i) :: l, n => match Nat.beq k n with | true => some i | false => findI l n
def LL (T : Tab) (G : List Model) (N M : Nat) (invs : List (Nat × LInv)) : Nat → Code → St → (Ex → St → Prop) → Prop
  | 0, _, _, _ => False
  | d + 1, code, st, Q => match code with
    | .loop c => match findI invs (keyOf c) with
      | some i => ∃ (Pre : i.α → Prop) (μ : i.α → Nat), Pre (i.a0 st) ∧ fold M (i.ex0 st) st (i.F st (i.a0 st)).1 (i.F st (i.a0 st)).2 ∧ ∀ a : i.α, Pre a → codeVC T G N M (LL T G N M invs d) c ⟨(i.F st a).1, (i.F st a).2.map some⟩ fun e st' => match e with
        | .normal => (Pre (i.next st') ∧ μ (i.next st') < μ a) ∧ fold M (i.ex st') st' (i.F st (i.next st')).1 (i.F st (i.next st')).2
        | .exit j => Q (.exit j) st'
        | .ret => Q .ret st'
      | none => False
    | _ => False
theorem LL_ok {P : Program} (hD : DrawOK P) {T : Tab} (hT : TabOK P T) {G : List Model} (hG : AllOK P G) {N M : Nat} {invs : List (Nat × LInv)} : ∀ (d : Nat) (code : Code) (st : St) (Q : Ex → St → Prop), LL T G N M invs d code st Q → Tr P N M code st Q
  | 0, _, _, _, h => h.elim
  | d + 1, code, st, Q, h => by
    unfold LL at h
    split at h
    · rename_i c
      split at h
      · rename_i i hi
        obtain ⟨Pre, μ, h1, h2, h3⟩ := h
        refine loop_ok (i.F st) Pre μ (i.a0 st) (i.ex0 st) h1 h2 fun a ha => (codeVC_ok hD hT hG (LL_ok hD hT hG d) c _ _ (h3 a ha)).mono fun e st' hq => ?_
        cases e with
        | normal => exact ⟨_, _, hq.1.1, hq.1.2, hq.2⟩
        | exit j => exact hq
        | ret => exact hq
      · exact h.elim
    · exact h.elim
end Go.GD

/-
  GD: a data machine. Abstract values.
-/
import Derived.Test.YtdkiadhigcfmkaaGreatMachineConfinedRecs
namespace Go.GD
open Go
set_option linter.unusedVariables false
set_option linter.unusedSimpArgs false
instance (k : RK) : Inhabited (RK.T k) := ⟨RK.dflt k⟩
mutual
inductive D where
  | bool (b : Bool)
  | int (k : IntKind) (n : Int)
  | str (s : List UInt8)
  | sl (sz : Nat) (es : Els) (fr : Bool)
  | all (r : Nat)
  | own (r o n : Nat)
  | ptr (r i off : Nat)
  | pa (r i off len : Nat) (k : Option IntKind) (n : Nat)
  | iptr (sz : Nat) (es : Els) (i off : Nat)
  | nilp
  | nils
  | emp
  | nilq (es : Els)
  | dead
  | agg (cs : List D)
  | tup (ds : List D)
inductive Els where
  | gen (es : List (List D))
  | ints (k : IntKind) (l : List Int)
  | bools (l : List Bool)
  | recs (k : RK) (l : List (RK.T k))
end
instance : Inhabited D := ⟨.dead⟩
instance : Inhabited Els := ⟨.gen []⟩
def D.isInt (k : IntKind) : D → Bool | .int j _ => decide (j = k) | _ => false
def D.toInt : D → Int | .int _ n => n | _ => 0
def D.isBool : D → Bool | .bool _ => true | _ => false
def D.toBool : D → Bool | .bool b => b | _ => false
def D.isStr : D → Bool | .str _ => true | _ => false
def D.toStr : D → List UInt8 | .str s => s | _ => []
def castR (k k' : RK) (l : List (RK.T k)) : Option (List (RK.T k')) := if h : k = k' then some (h ▸ l) else none
theorem castR_self (k : RK) (l : List (RK.T k)) : castR k k l = some l := by simp [castR]
theorem castR_spec {k k' : RK} {l : List (RK.T k)} {m : List (RK.T k')} (h : castR k k' l = some m) : ∃ e : k = k', e ▸ l = m := by
  unfold castR at h
  split at h
  · rename_i e; cases h; exact ⟨e, rfl⟩
  · cases h
def Els.toI (k : IntKind) : Els → Option (List Int)
  | .ints k' l => match decide (k' = k) with | true => some l | false => none
  | .gen [] => some []
  | _ => none
def Els.toB : Els → Option (List Bool)
  | .bools l => some l
  | .gen [] => some []
  | _ => none
def Els.toR (k : RK) : Els → Option (List (RK.T k))
  | .recs k' l => castR k' k l
  | .gen [] => some []
  | _ => none
inductive CT where | int (k : IntKind) | bool | str | ints (k : IntKind) | bools | recs (k : RK) | row (i : Nat)
def slI (k : IntKind) : D → List Int | .sl _ E _ => (match E.toI k with | some l => l | none => []) | _ => []
def slB : D → List Bool | .sl _ E _ => (match E.toB with | some l => l | none => []) | _ => []
def slR (k : RK) : D → List (RK.T k) | .sl _ E _ => (match E.toR k with | some l => l | none => []) | _ => []
end Go.GD

/-
  A part of the proof.
-/
import Derived.WalkKit
import Derived.KernelRfl
namespace Go.GD
set_option linter.unusedVariables false
structure ApiPrecopy where
  Dirty : (List Bool)
  Round : Int
  Sent : Int
  deriving DecidableEq, Inhabited
structure ApiPageCopy where
  Frame : Int
  Data : (List UInt8)
  deriving DecidableEq, Inhabited
inductive RK where
  | apiPageCopy
  deriving DecidableEq
@[reducible] def RK.T : RK → Type
  | .apiPageCopy => ApiPageCopy
def RK.dflt : (k : RK) → RK.T k
  | .apiPageCopy => (default : ApiPageCopy)
def RK.ofTy : Nat → Option RK
  | 57 => some .apiPageCopy
  | _ => none
end Go.GD
namespace Go.GD
open Go
set_option linter.unusedVariables false
set_option linter.unusedSimpArgs false
instance (k : RK) : Inhabited (RK.T k) := ⟨RK.dflt k⟩
mutual
inductive D where
  | bool (b : Bool)
  | int (k : IntKind) (n : Int)
  | str (s : List UInt8)
  | sl (sz : Nat) (es : Els) (fr : Bool)
  | all (r : Nat)
  | own (r o n : Nat)
  | ptr (r i off : Nat)
  | pa (r i off len : Nat) (k : Option IntKind) (n : Nat)
  | iptr (sz : Nat) (es : Els) (i off : Nat)
  | nilp
  | nils
  | emp
  | nilq (es : Els)
  | dead
  | clo (f : Nat) (cs : List Cap)
  | selfp (r : Nat)
  | nilif
  | agg (cs : List D)
  | tup (ds : List D)
inductive Els where
  | gen (es : List (List D))
  | ints (k : IntKind) (l : List Int)
  | bools (l : List Bool)
  | recs (k : RK) (l : List (RK.T k))
inductive Cap where
  | ptr (r i off : Nat)
  | int (k : IntKind) (n : Int)
  | arr (r : Nat)
  | sl (sz : Nat) (es : Els) (fr : Bool)
  | fn (f : Nat) (ps : List (Nat × Nat × Nat))
end
instance : Inhabited D := ⟨.dead⟩
instance : Inhabited Els := ⟨.gen []⟩
def ptrC (p : Nat × Nat × Nat) : Cap := .ptr p.1 p.2.1 p.2.2
def Cap.d : Cap → D | .ptr r i off => .ptr r i off | .int k n => .int k n | .arr r => .all r | .sl a b c => .sl a b c | .fn f ps => .clo f (ps.map ptrC)
def D.isInt (k : IntKind) : D → Bool | .int j _ => decide (j = k) | _ => false
def D.toInt : D → Int | .int _ n => n | _ => 0
def D.isBool : D → Bool | .bool _ => true | _ => false
def D.toBool : D → Bool | .bool b => b | _ => false
def D.isStr : D → Bool | .str _ => true | _ => false
def D.toStr : D → List UInt8 | .str s => s | _ => []
def castR (k k' : RK) (l : List (RK.T k)) : Option (List (RK.T k')) := if h : k = k' then some (h ▸ l) else none
theorem castR_self (k : RK) (l : List (RK.T k)) : castR k k l = some l := by simp [castR]
theorem castR_spec {k k' : RK} {l : List (RK.T k)} {m : List (RK.T k')} (h : castR k k' l = some m) : ∃ e : k = k', e ▸ l = m := by
  unfold castR at h
  split at h
  · rename_i e; cases h; exact ⟨e, rfl⟩
  · cases h
def Els.toI (k : IntKind) : Els → Option (List Int)
  | .ints k' l => match decide (k' = k) with | true => some l | false => none
  | .gen [] => some []
  | _ => none
def Els.toB : Els → Option (List Bool)
  | .bools l => some l
  | .gen [] => some []
  | _ => none
def Els.toR (k : RK) : Els → Option (List (RK.T k))
  | .recs k' l => castR k' k l
  | .gen [] => some []
  | _ => none
inductive CT where | int (k : IntKind) | bool | str | ints (k : IntKind) | bools | recs (k : RK) | row (i : Nat) | nil | nil0 | self (i : Nat) | clo (f : Nat) (cs : List Cap)
def slI (k : IntKind) : D → List Int | .sl _ E _ => (match E.toI k with | some l => l | none => []) | _ => []
def slB : D → List Bool | .sl _ E _ => (match E.toB with | some l => l | none => []) | _ => []
def slR (k : RK) : D → List (RK.T k) | .sl _ E _ => (match E.toR k with | some l => l | none => []) | _ => []
end Go.GD
namespace Go.GD
open Go
set_option linter.unusedVariables false
def ApiPrecopy.cellsW (x : ApiPrecopy) (s0 : D) : List D := [s0, .int .i64 x.Round, .int .i64 x.Sent]
def ApiPrecopy.cells (x : ApiPrecopy) : List D := ApiPrecopy.cellsW x (.sl 1 (.bools x.Dirty) false)
def ApiPrecopy.ofW (cs : List D) (s0 : List Bool) : ApiPrecopy := (⟨s0, (cs.getD 1 .dead).toInt, (cs.getD 2 .dead).toInt⟩ : ApiPrecopy)
def ApiPrecopy.of (cs : List D) : ApiPrecopy := ApiPrecopy.ofW cs (slB (cs.getD 0 .dead))
def ApiPageCopy.cells (x : ApiPageCopy) : List D := [.int .i64 x.Frame, .str x.Data]
def ApiPageCopy.of (cs : List D) : ApiPageCopy := (⟨(cs.getD 0 .dead).toInt, (cs.getD 1 .dead).toStr⟩ : ApiPageCopy)
def RK.size : RK → Nat
  | .apiPageCopy => 2
def conv1T : CT → D → D
  | .int k, d => .int k d.toInt
  | .bool, d => .bool d.toBool
  | .str, d => .str d.toStr
  | .ints k, d => .sl 1 (.ints k (slI k d)) false
  | .bools, d => .sl 1 (.bools (slB d)) false
  | .recs k, d => .sl k.size (.recs k (slR k d)) false
  | .row i, _ => .all i
  | .nil, _ => .sl 0 (.gen []) false
  | .nil0, _ => .nils
  | .self i, _ => .selfp i
  | .clo f cs, _ => .clo f cs
def convC : List CT → List D → Nat → List D
  | [], _, _ => []
  | t :: ts, cs, j => conv1T t (cs.getD j .dead) :: convC ts cs (j + 1)
def ApiPrecopy.sigW (s0 : CT) : List CT := [s0, .int .i64, .int .i64]
def ApiPrecopy.sig : List CT := ApiPrecopy.sigW (.bools)
def ApiPageCopy.sig : List CT := [.int .i64, .str]
def RK.sig : RK → List CT
  | .apiPageCopy => ApiPageCopy.sig
def RK.cells : (k : RK) → RK.T k → List D
  | .apiPageCopy, x => ApiPageCopy.cells x
def RK.of : (k : RK) → List D → RK.T k
  | .apiPageCopy, cs => ApiPageCopy.of cs
theorem RK.cells_of (k : RK) (cs : List D) : k.cells (k.of cs) = convC k.sig cs 0 := by cases k <;> kernel_rfl
theorem RK.conv_cells (k : RK) (x : RK.T k) : convC k.sig (k.cells x) 0 = k.cells x := by cases k <;> kernel_rfl
theorem RK.sig_length (k : RK) : k.sig.length = k.size := by cases k <;> rfl
end Go.GD

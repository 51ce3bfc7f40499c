/-
  GD: a data machine. Abstract values, rows and states; what it means that memory holds them.
-/
import Derived.WalkKit
namespace Go.GD
open Go
set_option linter.unusedVariables false

/-- An abstract value. 'sl': a slice that is only read, its elements written out cell by cell. 'own': a slice into one of the call's own rows. 'ptr': a place in one of the call's own rows. 'iptr': a place in a slice that is only read. -/
inductive D where
  | bool (b : Bool)
  | int (k : IntKind) (n : Int)
  | str (s : List UInt8)
  | sl (sz : Nat) (es : List (List D)) (fr : Bool)
  | all (r : Nat)
  | own (r o n : Nat)
  | ptr (r i off : Nat)
  | pa (r i off len : Nat) (k : Option IntKind) (n : Nat)
  | iptr (sz : Nat) (es : List (List D)) (i off : Nat)
  | nilp
  | nils
  | dead
  | agg (cs : List D)
  | tup (ds : List D)
  deriving Inhabited

/-- A row of the call's own: 'box': a variable (one element; its cells may be anything); else the array of a slice, whose cells are plain. -/
structure Row where
  box : Bool
  ty : TypeId
  sz : Nat
  es : List (List D)
  deriving Inhabited

/-- The blocks that nobody writes any more. -/
abbrev Blocks := Nat → Prop

mutual
/-- 'v' is the plain one-cell datum. -/
def PRep (I : Blocks) (w : World) : D → Value → Prop
  | .bool b, v => v = .bool b
  | .int k n, v => v = .int k n
  | .str s, v => v = .string ⟨s.toArray⟩
  | .nilp, v => v = .pointer none
  | .nils, v => v = .slice none 0 0
  | .sl sz es _, v => ∃ a cap, v = .slice a es.length cap ∧ es.length ≤ cap ∧
      (es = [] ∨ ∃ b off arr ty fz, a = some ⟨b, off, none⟩ ∧ I b ∧ w.heap[b]? = some (.cells arr ty fz) ∧ PElems I w es arr off sz)
  | _, _ => False
def PCells (I : Blocks) (w : World) : List D → Array Value → Nat → Prop
  | [], _, _ => True
  | c :: cs, arr, off => (∃ v, arr[off]? = some v ∧ PRep I w c v) ∧ PCells I w cs arr (off + 1)
def PElems (I : Blocks) (w : World) : List (List D) → Array Value → Nat → Nat → Prop
  | [], _, _, _ => True
  | e :: es, arr, off, sz => e.length = sz ∧ PCells I w e arr off ∧ PElems I w es arr (off + sz) sz
end

/-- How the abstract rows lie in memory. -/
structure Ctx where
  ρ : Nat → Nat
  R : Nat → Option Row
  I : Blocks
  base : Nat

/-- 'v' is the one-cell value. -/
def CRep (c : Ctx) (w : World) : D → Value → Prop
  | .sl sz es fr, v => ∃ a cap, v = .slice a es.length cap ∧ es.length ≤ cap ∧
      (es = [] ∨ ∃ b off arr ty fz, a = some ⟨b, off, none⟩ ∧ c.I b ∧ (fr = true → c.base ≤ b) ∧ w.heap[b]? = some (.cells arr ty fz) ∧ PElems c.I w es arr off sz)
  | .all r, v => ∃ row cap arr, c.R r = some row ∧ row.box = false ∧ v = .slice (some ⟨c.ρ r, 0, none⟩) row.es.length cap ∧ row.es.length ≤ cap ∧ cap ≤ maxLen ∧
      w.heap[c.ρ r]? = some (.cells arr row.ty (0, 0)) ∧ cap * row.sz = arr.size
  | .own r o n, v => ∃ row cap arr, c.R r = some row ∧ row.box = false ∧ n ≤ cap ∧ cap ≤ maxLen ∧ o + n ≤ row.es.length ∧
      w.heap[c.ρ r]? = some (.cells arr row.ty (0, 0)) ∧ ((v = .slice (some ⟨c.ρ r, o * row.sz, none⟩) n cap ∧ (o + cap) * row.sz = arr.size) ∨ (cap = 0 ∧ ∃ a, v = .slice a n cap))
  | .ptr r i off, v => ∃ row, c.R r = some row ∧ i < row.es.length ∧ v = .pointer (some ⟨c.ρ r, i * row.sz + off, none⟩)
  | .pa r i off len _ n, v => n < len ∧ ∃ row, c.R r = some row ∧ i < row.es.length ∧ v = .pointer (some ⟨c.ρ r, i * row.sz + (off + n), none⟩)
  | .iptr sz es i off, v => ∃ b o arr ty fz, v = .pointer (some ⟨b, o + i * sz + off, none⟩) ∧ c.I b ∧ i < es.length ∧ w.heap[b]? = some (.cells arr ty fz) ∧ PElems c.I w es arr o sz
  | .dead, v => v.oneCell' = true
  | .bool b, v => v = .bool b
  | .int k n, v => v = .int k n
  | .str s, v => v = .string ⟨s.toArray⟩
  | .nilp, v => v = .pointer none
  | .nils, v => v = .slice none 0 0
  | .agg _, _ => False
  | .tup _, _ => False

def CReps (c : Ctx) (w : World) : List D → List Value → Prop
  | [], [] => True
  | d :: ds, v :: vs => CRep c w d v ∧ CReps c w ds vs
  | _, _ => False

/-- A value that is no tuple. -/
def VRep (c : Ctx) (w : World) : D → Value → Prop
  | .agg cs, v => ∃ vs, v = .agg vs.toArray ∧ CReps c w cs vs
  | d, v => CRep c w d v

def VReps (c : Ctx) (w : World) : List D → List Value → Prop
  | [], [] => True
  | d :: ds, v :: vs => VRep c w d v ∧ VReps c w ds vs
  | _, _ => False

def Rep (c : Ctx) (w : World) : D → Value → Prop
  | .tup ds, v => ∃ vs, v = .tuple vs.toArray ∧ VReps c w ds vs
  | .dead, _ => True
  | d, v => VRep c w d v

/-- The cells of an element of a row, from a place on. -/
def CCells (c : Ctx) (w : World) : List D → Array Value → Nat → Prop
  | [], _, _ => True
  | d :: ds, arr, off => (∃ v, arr[off]? = some v ∧ CRep c w d v) ∧ CCells c w ds arr (off + 1)

/-- A row lies in its block. -/
def RowRep (c : Ctx) (w : World) (r : Nat) (row : Row) : Prop :=
  ∃ arr, w.heap[c.ρ r]? = some (.cells arr row.ty (0, 0)) ∧ 0 < row.sz ∧
    if row.box then ∃ e, row.es = [e] ∧ e.length = row.sz ∧ arr.size = row.sz ∧ CCells c w e arr 0
    else PElems c.I w row.es arr 0 row.sz

end Go.GD

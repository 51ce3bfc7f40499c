/-
  GD: what an operation, a piece of code and a call come to, on abstract values.
-/
import Derived.Test.YtcalcaifpolboaaGdCore
namespace Go.GD
open Go
set_option linter.unusedVariables false

/-- A test that must be met. -/
def cand (b : Bool) (p : Prop) : Prop := match b with | true => p | false => False
/-- The two ways behind a test. -/
def bcase (b : Bool) (p q : Prop) : Prop := match b with | true => p | false => q
theorem cand_iff {b : Bool} {p : Prop} : cand b p ↔ b = true ∧ p := by cases b <;> simp [cand]
theorem bcase_iff {b : Bool} {p q : Prop} : bcase b p q ↔ (b = true → p) ∧ (b = false → q) := by cases b <;> simp [bcase]

abbrev Rows := List (Option Row)

namespace D
def isInt (k : IntKind) : D → Bool | .int j _ => decide (j = k) | _ => false
def toInt : D → Int | .int _ n => n | _ => 0
def isBool : D → Bool | .bool _ => true | _ => false
def toBool : D → Bool | .bool b => b | _ => false
def isStr : D → Bool | .str _ => true | _ => false
def toStr : D → List UInt8 | .str s => s | _ => []
def isSl (n : Nat) : D → Bool | .sl m _ _ => Nat.beq m n | _ => false
def toEs : D → List (List D) | .sl _ es _ => es | _ => []
/-- A cell that is known. -/
def isCell : D → Bool | .agg _ => false | .tup _ => false | .dead => false | _ => true
/-- A value that is known and no tuple. -/
def isVal : D → Bool | .tup _ => false | .dead => false | _ => true
/-- No aggregate. -/
def isOne : D → Bool | .agg _ => false | .tup _ => false | _ => true
def plain : D → Bool | .bool _ => true | .int _ _ => true | .str _ => true | .nilp => true | .nils => true | .sl _ _ _ => true | _ => false
/-- The cells of a value. -/
def cells : D → List D | .agg cs => cs | d => [d]
/-- The value, written out. -/
def force : D → (D → Prop) → Prop
  | .bool b, K => K (.bool b)
  | .int k n, K => K (.int k n)
  | .str s, K => K (.str s)
  | .sl a b c, K => K (.sl a b c)
  | .all a, K => K (.all a)
  | .own a b c, K => K (.own a b c)
  | .ptr a b c, K => K (.ptr a b c)
  | .pa a b c d e f, K => K (.pa a b c d e f)
  | .iptr a b c d, K => K (.iptr a b c d)
  | .nilp, K => K .nilp
  | .nils, K => K .nils
  | .dead, K => K .dead
  | .agg a, K => K (.agg a)
  | .tup a, K => K (.tup a)
end D

def D.forceL : List D → (List D → Prop) → Prop
  | [], K => K []
  | d :: l, K => d.force fun d => forceL l fun l => K (d :: l)
def forceR : Rows → (Rows → Prop) → Prop
  | [], K => K []
  | d :: l, K => forceR l fun l => K (d :: l)

inductive CTy where
  | int (k : IntKind) | bool | str | sl (n : Nat) | other

/-- What a type is. -/
inductive TK where
  | int (k : IntKind) | bool | string
  | slice (e : TypeId) (n : Nat)
  | struct (fs : List (Nat × TypeId × Nat))
  | array (len : Nat) (e : TypeId) (n : Nat)
  | other

/-- What is known of a type: its form, its number of cells, its bytes, its cells, its zero value's cells; whether '==' compares cell by cell. -/
structure TI where
  kind : TK
  size : Nat
  bytes : Nat
  ctys : List CTy
  zero : Option (List D)
  eq : Bool

abbrev Tab := List (TypeId × TI)
def Tab.get : Tab → TypeId → Option TI
  | [], _ => none
  | (u, i) :: l, t => match Nat.beq u t with | true => some i | false => Tab.get l t

def TK.isAgg : TK → Bool | .struct _ => true | .array _ _ _ => true | _ => false

/-- A cell that is read, by its type. -/
def coerce (pl : Bool) : CTy → D → (D → Prop) → Prop
  | .int k, c, K => cand (c.isInt k) (K (.int k c.toInt))
  | .bool, c, K => cand c.isBool (K (.bool c.toBool))
  | .str, c, K => cand c.isStr (K (.str c.toStr))
  | .sl n, c, K => match pl with
    | true => cand (c.isSl n) (K (.sl n c.toEs false))
    | false => cand c.isCell (c.force K)
  | .other, c, K => match pl with
    | true => match c with | .nilp => K .nilp | _ => False
    | false => cand c.isCell (c.force K)

def coerces (pl : Bool) (e : List D) : List CTy → Nat → (List D → Prop) → Prop
  | [], _, K => K []
  | t :: ts, off, K => coerce pl t (e.getD off .dead) fun d => coerces pl e ts (off + 1) fun ds => K (d :: ds)

/-- A variable of type t that is read out of an element, from a place on. -/
def readAt (pl : Bool) (t : TI) (e : List D) (off : Nat) (K : D → Prop) : Prop :=
  match t.kind.isAgg with
  | true => coerces pl e t.ctys off fun ds => K (.agg ds)
  | false => match t.ctys with
    | [y] => coerce pl y (e.getD off .dead) K
    | _ => False

def overlay : List D → Nat → List D → List D
  | e, _, [] => e
  | e, off, v :: vs => overlay (e.set off v) (off + 1) vs

/-- The constants. -/
def ofVal1 : Value → Option D
  | .bool b => some (.bool b)
  | .int k n => some (.int k n)
  | .string s => some (.str s.data.toList)
  | .slice none 0 0 => some .nils
  | .pointer none => some .nilp
  | _ => none
def ofVals : List Value → Option (List D)
  | [] => some []
  | v :: vs => match ofVal1 v, ofVals vs with | some d, some ds => some (d :: ds) | _, _ => none
def ofVal : Value → Option D
  | .agg cs => (ofVals cs.toList).map .agg
  | v => ofVal1 v

/-- A state: what the temporaries hold that are known, and the call's own rows. -/
structure St where
  env : List (Nat × D)
  rows : Rows

def look : List (Nat × D) → Nat → D
  | [], _ => .dead
  | (u, d) :: l, t => match Nat.beq u t with | true => d | false => look l t

def evOp (env : List (Nat × D)) : Operand → D
  | .tmp t => look env t
  | .const v => (ofVal v).getD .dead
  | _ => .dead

/- integers -/
def iand (k : IntKind) (x y : Int) : Int := k.wrap (BitVec.ofInt k.bits x &&& BitVec.ofInt k.bits y).toNat
def ior (k : IntKind) (x y : Int) : Int := k.wrap (BitVec.ofInt k.bits x ||| BitVec.ofInt k.bits y).toNat
def ixor (k : IntKind) (x y : Int) : Int := k.wrap (BitVec.ofInt k.bits x ^^^ BitVec.ofInt k.bits y).toNat
def iandn (k : IntKind) (x y : Int) : Int := k.wrap (BitVec.ofInt k.bits x &&& ~~~ BitVec.ofInt k.bits y).toNat
def ishl (k : IntKind) (x y : Int) : Int := k.wrap (x * 2 ^ (min y.toNat k.bits))
def ishr (k : IntKind) (x y : Int) : Int := x.fdiv (2 ^ (min y.toNat k.bits))

def intBin (op : BinOp) (k : IntKind) (x y : Int) (K : D → Prop) : Prop :=
  match op with
  | .add => K (.int k (k.wrap (x + y)))
  | .sub => K (.int k (k.wrap (x - y)))
  | .mul => K (.int k (k.wrap (x * y)))
  | .quo => cand (decide (y ≠ 0)) (K (.int k (k.wrap (x.tdiv y))))
  | .rem => cand (decide (y ≠ 0)) (K (.int k (x.tmod y)))
  | .and => K (.int k (iand k x y))
  | .or => K (.int k (ior k x y))
  | .xor => K (.int k (ixor k x y))
  | .andNot => K (.int k (iandn k x y))
  | .eql => K (.bool (x == y))
  | .neq => K (.bool (x != y))
  | .lss => K (.bool (decide (x < y)))
  | .leq => K (.bool (decide (x ≤ y)))
  | .gtr => K (.bool (decide (x > y)))
  | .geq => K (.bool (decide (x ≥ y)))
  | _ => False

def eq1 : D → D → Bool
  | .int _ a, .int _ b => a == b
  | .bool a, .bool b => a == b
  | .str a, .str b => decide (a = b)
  | _, _ => false
def eqs : List D → List D → Bool
  | [], _ => true
  | a :: l, b :: m => eq1 a b && eqs l m
  | _ :: _, [] => false
/-- The cells are of these types. -/
def fits : List CTy → List D → Bool
  | [], [] => true
  | .int k :: t, d :: l => d.isInt k && fits t l
  | .bool :: t, d :: l => d.isBool && fits t l
  | .str :: t, d :: l => d.isStr && fits t l
  | _, _ => false

def binVC (T : Tab) (op : BinOp) (t : TypeId) (x y : D) (K : D → Prop) : Prop :=
  match x, y with
  | .int k a, .int k' b =>
    match op with
    | .shl => cand (decide (0 ≤ b)) (K (.int k (ishl k a b)))
    | .shr => cand (decide (0 ≤ b)) (K (.int k (ishr k a b)))
    | op => cand (decide (k = k')) (intBin op k a b K)
  | .str a, .str b =>
    match op with
    | .add => cand (decide (a.length + b.length ≤ maxLen)) (K (.str (a ++ b)))
    | .eql => K (.bool (decide (a = b)))
    | .neq => K (.bool (!decide (a = b)))
    | _ => False
  | .bool a, .bool b =>
    match T.get t with
    | some ⟨.bool, _, _, _, _, _⟩ => match op with
      | .eql => K (.bool (a == b))
      | .neq => K (.bool (!(a == b)))
      | _ => False
    | _ => False
  | .agg a, .agg b =>
    match T.get t with
    | some ti => cand (ti.kind.isAgg && Nat.blt 0 ti.size && ti.eq && fits ti.ctys a && fits ti.ctys b) <|
      match op with
      | .eql => K (.bool (eqs a b))
      | .neq => K (.bool (!(eqs a b)))
      | _ => False
    | none => False
  | _, _ => False

def convVC (T : Tab) (s d : TypeId) (x : D) (K : D → Prop) : Prop :=
  match T.get s, T.get d with
  | some ⟨.int _, _, _, _, _, _⟩, some ⟨.int k, _, _, _, _, _⟩ => match x with
    | .int _ n => K (.int k (k.wrap n))
    | _ => False
  | some ⟨.string, _, _, _, _, _⟩, some ⟨.string, _, _, _, _, _⟩ => match x with
    | .str s => K (.str s)
    | _ => False
  | _, _ => False

/-- A place in a struct: its offset, its type, its number of cells. -/
def fieldOff (T : Tab) (s : TypeId) (f : Nat) : Option (Nat × TypeId × Nat) :=
  match T.get s with
  | some ⟨.struct fs, _, _, _, _, _⟩ => fs[f]?
  | _ => none

def fillVC (place : Nat → Option (Nat × Nat)) (ev : Operand → D) : List (Nat × Operand) → List D → (List D → Prop) → Prop
  | [], cs, K => D.forceL cs K
  | (i, x) :: ps, cs, K => match place i with
    | some (off, n) => cand ((ev x).isVal && Nat.beq (ev x).cells.length n && Nat.ble (off + n) cs.length) (fillVC place ev ps (overlay cs off (ev x).cells) K)
    | none => False

def fillSl (n len : Nat) (ev : Operand → D) : List (Nat × Operand) → List (List D) → (List (List D) → Prop) → Prop
  | [], es, K => K es
  | (i, x) :: ps, es, K => cand (((ev x).isVal && (ev x).cells.all D.plain) && Nat.beq (ev x).cells.length n && Nat.blt i len) (fillSl n len ev ps (es.set i (ev x).cells) K)

/-- One row more: its number, and the rows. -/
def addR1 (row : Row) : Rows → Nat → (Nat → Rows → Prop) → Prop
  | [], n, K => K n [some row]
  | x :: l, n, K => addR1 row l (n + 1) fun k l => K k (x :: l)
def addR (R : Rows) (row : Row) (K : Nat → Rows → Prop) : Prop := addR1 row R 0 K

/-- The numbers of an array among the cells. -/
def ints (e : List D) (off : Nat) : Nat → List Int
  | 0 => []
  | n + 1 => (e.getD off .dead).toInt :: ints e (off + 1) n
def bools (e : List D) (off : Nat) : Nat → List Bool
  | 0 => []
  | n + 1 => (e.getD off .dead).toBool :: bools e (off + 1) n
def allInt (k : IntKind) (e : List D) (off : Nat) : Nat → Bool
  | 0 => true
  | n + 1 => (e.getD off .dead).isInt k && allInt k e (off + 1) n
def allBool (e : List D) (off : Nat) : Nat → Bool
  | 0 => true
  | n + 1 => (e.getD off .dead).isBool && allBool e (off + 1) n
/-- A list of numbers as cells, from place j on. -/
def cellsI (k : IntKind) (l : List Int) (j : Nat) : Nat → List D
  | 0 => []
  | n + 1 => .int k (l.getD j 0) :: cellsI k l (j + 1) n
def cellsB (l : List Bool) (j : Nat) : Nat → List D
  | 0 => []
  | n + 1 => .bool (l.getD j false) :: cellsB l (j + 1) n


/-- What an operation that is no call of a Go function comes to. -/
def loadVC (T : Tab) (t : TypeId) (x : D) (R : Rows) (K : D → Rows → Prop) : Prop :=
  match T.get t with
  | none => False
  | some ti => match x with
    | .ptr r i off => match R.getD r none with
      | some ⟨box, _, sz, es⟩ => cand (Nat.ble (off + ti.size) sz) (readAt (!box) ti (es.getD i []) off fun d => K d R)
      | none => False
    | .pa r i off len k n => match R.getD r none with
      | some ⟨_, _, sz, es⟩ => cand (Nat.ble (off + len) sz) <| match ti.kind, k with
        | .int j, some k => cand (decide (j = k) && allInt k (es.getD i []) off len) (K (.int k ((ints (es.getD i []) off len).getD n 0)) R)
        | .bool, none => cand (allBool (es.getD i []) off len) (K (.bool ((bools (es.getD i []) off len).getD n false)) R)
        | _, _ => False
      | none => False
    | .iptr sz es i off => cand (Nat.ble (off + ti.size) sz) (readAt true ti (es.getD i []) off fun d => K d R)
    | _ => False

def storeVC (T : Tab) (t : TypeId) (x d : D) (R : Rows) (K : D → Rows → Prop) : Prop :=
  match T.get t with
  | none => False
  | some ti => match x with
    | .ptr r i off => match R.getD r none with
      | some ⟨box, ty, sz, es⟩ => cand (Nat.blt 0 ti.size && d.isVal && Nat.beq d.cells.length ti.size && Nat.ble (off + ti.size) sz) <| match box with
        | true => D.forceL (overlay (es.getD i []) off d.cells) fun e => forceR (R.set r (some ⟨true, ty, sz, [e]⟩)) fun R => K .dead R
        | false => cand (d.cells.all D.plain) (forceR (R.set r (some ⟨false, ty, sz, es.set i (overlay (es.getD i []) off d.cells)⟩)) fun R => K .dead R)
      | none => False
    | .pa r i off len k n => match R.getD r none with
      | some ⟨box, ty, sz, es⟩ => cand (box && Nat.ble (off + len) sz) <| match ti.kind, k, d with
        | .int j, some k, .int k' v => cand (decide (j = k) && decide (k' = k) && allInt k (es.getD i []) off len) <|
          D.forceL (overlay (es.getD i []) off (cellsI k ((ints (es.getD i []) off len).set n v) 0 len)) fun e => forceR (R.set r (some ⟨true, ty, sz, [e]⟩)) fun R => K .dead R
        | .bool, none, .bool v => cand (allBool (es.getD i []) off len) <|
          D.forceL (overlay (es.getD i []) off (cellsB ((bools (es.getD i []) off len).set n v) 0 len)) fun e => forceR (R.set r (some ⟨true, ty, sz, [e]⟩)) fun R => K .dead R
        | _, _, _ => False
      | none => False
    | _ => False

def idxAddrVC (T : Tab) (t : TypeId) (x : D) (isC : Bool) (n : Int) (R : Rows) (K : D → Rows → Prop) : Prop :=
  match T.get t with
  | some ⟨.slice _ esz, _, _, _, _, _⟩ => match x with
    | .sl sz es _ => cand (Nat.beq sz esz && Nat.blt 0 esz && decide (0 ≤ n ∧ n < es.length)) (K (.iptr sz es n.toNat 0) R)
    | .own r o m => match R.getD r none with
      | some ⟨_, _, sz, _⟩ => cand (Nat.beq sz esz && Nat.blt 0 esz && decide (0 ≤ n ∧ n < m)) (K (.ptr r (o + n.toNat) 0) R)
      | none => False
    | .all r => match R.getD r none with
      | some ⟨_, _, sz, es⟩ => cand (Nat.beq sz esz && Nat.blt 0 esz && decide (0 ≤ n ∧ n < es.length)) (K (.ptr r n.toNat 0) R)
      | none => False
    | _ => False
  | some ⟨.array len e esz, _, _, _, _, _⟩ => cand (Nat.blt 0 esz && decide (0 ≤ n ∧ n < len)) <| match x with
    | .ptr r i off => match isC with
      | true => K (.ptr r i (off + n.toNat * esz)) R
      | false => match T.get e with
        | some ⟨.int k, _, _, _, _, _⟩ => cand (Nat.beq esz 1) (K (.pa r i off len (some k) n.toNat) R)
        | some ⟨.bool, _, _, _, _, _⟩ => cand (Nat.beq esz 1) (K (.pa r i off len none n.toNat) R)
        | _ => K (.ptr r i (off + n.toNat * esz)) R
    | .iptr sz es i off => K (.iptr sz es i (off + n.toNat * esz)) R
    | _ => False
  | _ => False

/-- A slice expression's bound. -/
def bnd (x : Option Operand) (ev : Operand → D) (n : Int) : Option Int := match x with | none => some n | some y => match ev y with | .int _ m => some m | _ => none

def sliceVC (T : Tab) (t : TypeId) (x : D) (lo hi : Option Operand) (ev : Operand → D) (R : Rows) (K : D → Rows → Prop) : Prop :=
  match T.get t with
  | some ⟨.string, _, _, _, _, _⟩ => match x with
    | .str s => match bnd lo ev 0, bnd hi ev s.length with
      | some l, some h => cand (decide (0 ≤ l ∧ l ≤ h ∧ h ≤ s.length)) (K (.str ((s.drop l.toNat).take (h.toNat - l.toNat))) R)
      | _, _ => False
    | _ => False
  | some ⟨.slice _ esz, _, _, _, _, _⟩ => match x with
    | .sl sz es fr => match bnd lo ev 0, bnd hi ev es.length with
      | some l, some h => cand (Nat.beq sz esz && Nat.blt 0 esz && decide (0 ≤ l ∧ l ≤ h ∧ h ≤ es.length)) (K (.sl sz ((es.drop l.toNat).take (h.toNat - l.toNat)) fr) R)
      | _, _ => False
    | .all r => match R.getD r none with
      | some ⟨_, _, sz, es⟩ => match bnd lo ev 0, bnd hi ev es.length with
        | some l, some h => cand (Nat.beq sz esz && Nat.blt 0 esz && decide (0 ≤ l ∧ l ≤ h ∧ h ≤ es.length)) (K (.own r l.toNat (h.toNat - l.toNat)) R)
        | _, _ => False
      | none => False
    | .own r o n => match R.getD r none with
      | some ⟨_, _, sz, _⟩ => match bnd lo ev 0, bnd hi ev n with
        | some l, some h => cand (Nat.beq sz esz && Nat.blt 0 esz && decide (0 ≤ l ∧ l ≤ h ∧ h ≤ n)) (K (.own r (o + l.toNat) (h.toNat - l.toNat)) R)
        | _, _ => False
      | none => False
    | _ => False
  | _ => False

def makeVC (T : Tab) (t : TypeId) (n m : Int) (R : Rows) (K : D → Rows → Prop) : Prop :=
  match T.get t with
  | some ⟨.slice e _, _, _, _, _, _⟩ => match T.get e with
    | some ⟨_, sz, by', _, some z, _⟩ => cand (Nat.blt 0 sz && Nat.beq z.length sz && z.all D.plain && decide (0 ≤ n ∧ n ≤ m ∧ m ≤ 9223372036854775807 ∧ (by' : Int) * m ≤ 140737488355328))
        (addR R ⟨false, e, sz, List.replicate n.toNat z⟩ fun k R => K (.all k) R)
    | _ => False
  | _ => False

def lenVC (T : Tab) (t : TypeId) (x : D) (R : Rows) (K : D → Rows → Prop) : Prop :=
  match T.get t with
  | some ⟨.string, _, _, _, _, _⟩ => match x with
    | .str s => K (.int .i64 s.length) R
    | _ => False
  | some ⟨.slice _ _, _, _, _, _, _⟩ => match x with
    | .sl _ es _ => K (.int .i64 es.length) R
    | .own _ _ n => K (.int .i64 n) R
    | .all r => match R.getD r none with
      | some ⟨_, _, _, es⟩ => K (.int .i64 es.length) R
      | none => False
    | .nils => K (.int .i64 0) R
    | _ => False
  | _ => False

def buildVC (T : Tab) (t : TypeId) (parts : List (Nat × Operand)) (ev : Operand → D) (R : Rows) (K : D → Rows → Prop) : Prop :=
  match T.get t with
  | some ⟨.struct fs, _, _, _, some ds, _⟩ => cand (fs.all fun f => Nat.blt 0 f.2.2) <| fillVC (fun i => (fs[i]?).map fun f => (f.1, f.2.2)) ev parts ds fun cs => K (.agg cs) R
  | some ⟨.array _ _ esz, _, _, _, some ds, _⟩ => cand (Nat.blt 0 esz) <| fillVC (fun i => some (i * esz, esz)) ev parts ds fun cs => K (.agg cs) R
  | _ => False

def buildSlVC (T : Tab) (t : TypeId) (len : Nat) (parts : List (Nat × Operand)) (ev : Operand → D) (R : Rows) (K : D → Rows → Prop) : Prop :=
  match T.get t with
  | some ⟨.slice e _, _, _, _, _, _⟩ => match T.get e with
    | some ⟨_, sz, _, _, some z, _⟩ => cand (Nat.blt 0 sz && Nat.beq z.length sz && Nat.ble (len * sz) 16777216 && z.all D.plain) <|
        fillSl sz len ev parts (List.replicate len z) fun es => addR R ⟨false, e, sz, es⟩ fun k R => K (.all k) R
    | _ => False
  | _ => False

def opVC (T : Tab) (o : Op) (ev : Operand → D) (R : Rows) (K : D → Rows → Prop) : Prop :=
  match o with
  | .move x | .assign x => (ev x).force fun d => K d R
  | .alloc t => match T.get t with
    | some ⟨_, sz, _, _, some ds, _⟩ => cand (Nat.blt 0 sz && Nat.beq ds.length sz) (addR R ⟨true, t, sz, [ds]⟩ fun k R => K (.ptr k 0 0) R)
    | _ => False
  | .box t x => match T.get t with
    | some ⟨_, sz, _, _, _, _⟩ => cand (Nat.blt 0 sz && (ev x).isVal && Nat.beq (ev x).cells.length sz) (D.forceL (ev x).cells fun cs => addR R ⟨true, t, sz, [cs]⟩ fun k R => K (.ptr k 0 0) R)
    | none => False
  | .build t parts => buildVC T t parts.toList ev R K
  | .buildSlice t len parts => buildSlVC T t len parts.toList ev R K
  | .load t a => loadVC T t (ev a) R K
  | .store t a x => storeVC T t (ev a) (ev x) R K
  | .nilCheck x => match ev x with
    | .ptr a b c => K (.ptr a b c) R
    | .iptr a b c d => K (.iptr a b c d) R
    | _ => False
  | .binOp op t x y _ => binVC T op t (ev x) (ev y) fun d => K d R
  | .unOp op _ x => match op, ev x with
    | .neg, .int k n => K (.int k (k.wrap (0 - n))) R
    | .xor, .int k n => K (.int k (ixor k (if k.signed then -1 else k.max) n)) R
    | .not, .bool b => K (.bool (!b)) R
    | _, _ => False
  | .convert s d x => convVC T s d (ev x) fun v => K v R
  | .fieldAddr s x f => match fieldOff T s f with
    | some (o, _, n) => cand (Nat.blt 0 n) <| match ev x with
      | .ptr r i off => K (.ptr r i (off + o)) R
      | .iptr sz es i off => K (.iptr sz es i (off + o)) R
      | _ => False
    | none => False
  | .field s x f => match fieldOff T s f with
    | some (o, t, n) => match ev x, T.get t with
      | .agg cs, some ti => cand (Nat.blt 0 n && Nat.ble (o + n) cs.length) <| match ti.kind.isAgg with
        | true => D.forceL ((cs.drop o).take n) fun l => K (.agg l) R
        | false => cand (cs.getD o .dead).isCell ((cs.getD o .dead).force fun d => K d R)
      | _, _ => False
    | none => False
  | .indexAddr t x ix => match ev ix with
    | .int _ n => idxAddrVC T t (ev x) (match ix with | .const _ => true | _ => false) n R K
    | _ => False
  | .index t x ix => match T.get t, ev x, ev ix with
    | some ⟨.string, _, _, _, _, _⟩, .str s, .int _ n => cand (decide (0 ≤ n ∧ n < s.length)) (K (.int .u8 ((s.getD n.toNat 0).toNat : Int)) R)
    | _, _, _ => False
  | .extract x i => match ev x with
    | .tup ds => cand (ds.getD i .dead).isVal ((ds.getD i .dead).force fun d => K d R)
    | _ => False
  | .slice t x lo hi none => sliceVC T t (ev x) lo hi ev R K
  | .makeSlice t l c => match ev l, ev c with
    | .int _ n, .int _ m => makeVC T t n m R K
    | _, _ => False
  | .call { callee := .builtin .len, args, argTypes } => match args.toList, argTypes.toList with
    | [x], [t] => lenVC T t (ev x) R K
    | _, _ => False
  | _ => False

/-- What a call comes to: a result and the rows that it got, behind it (and new ones). -/
inductive Ans where
  | no
  | ok (res : D) (rows : List Row)
  | when (p : Prop) (res : D) (rows : List Row)

/-- What is known of the functions: which parameters are handed on by reference; what a call comes to. -/
structure Model where
  f : FuncId
  refs : List Bool
  flat : Bool
  m : List D → List Row → Ans

def findM : List Model → FuncId → Option Model
  | [], _ => none
  | x :: l, f => match Nat.beq x.f f with | true => some x | false => findM l f

/- arguments by value: a slice of the call's own is handed on as one that is only read -/
def conv1 (R : Rows) : D → Option D
  | .bool b => some (.bool b)
  | .int k n => some (.int k n)
  | .str s => some (.str s)
  | .nilp => some .nilp
  | .nils => some (.sl 0 [] false)
  | .sl a b _ => some (.sl a b false)
  | .all r => match R.getD r none with | some row => (match row.box with | false => some (.sl row.sz row.es false) | true => none) | none => none
  | .own r o n => match R.getD r none with | some row => (match row.box with | false => some (.sl row.sz ((row.es.drop o).take n) false) | true => none) | none => none
  | _ => none
def convs (R : Rows) : List D → Option (List D)
  | [] => some []
  | d :: ds => match conv1 R d, convs R ds with | some x, some xs => some (x :: xs) | _, _ => none
def conv (R : Rows) : D → Option D
  | .agg cs => (convs R cs).map .agg
  | d => conv1 R d
/-- Holds it a slice of the call's own? -/
def lends1 : D → Bool | .all _ => true | .own _ _ _ => true | _ => false
def lends : D → Bool | .agg cs => cs.any lends1 | d => lends1 d

/- arguments by reference -/
def idx (r : Nat) : List Nat → Nat → Nat × List Nat
  | [], k => (k, [r])
  | x :: l, k => match Nat.beq x r with | true => (k, x :: l) | false => let (j, l') := idx r l (k + 1); (j, x :: l')
def ref1 (ids : List Nat) : D → Option (D × List Nat)
  | .ptr r i off => let (k, ids) := idx r ids 0; some (.ptr k i off, ids)
  | .all r => let (k, ids) := idx r ids 0; some (.all k, ids)
  | .own r o n => let (k, ids) := idx r ids 0; some (.own k o n, ids)
  | .bool b => some (.bool b, ids)
  | .int k n => some (.int k n, ids)
  | .str s => some (.str s, ids)
  | .nilp => some (.nilp, ids)
  | .nils => some (.nils, ids)
  | .sl a b c => some (.sl a b c, ids)
  | .iptr a b c d => some (.iptr a b c d, ids)
  | .dead => some (.dead, ids)
  | _ => none
def refs1 (ids : List Nat) : List D → Option (List D × List Nat)
  | [] => some ([], ids)
  | d :: ds => match ref1 ids d with
    | some (x, ids) => match refs1 ids ds with | some (xs, ids) => some (x :: xs, ids) | none => none
    | none => none

inductive Ex where
  | normal | exit (id : Nat) | ret

def St.put (N : Nat) (st : St) (dst : Option Tmp) (d : D) (R : Rows) (K : St → Prop) : Prop :=
  match dst with
  | none => K ⟨st.env, R⟩
  | some t => cand (Nat.blt t N) (K ⟨(t, d) :: st.env, R⟩)
def St.know (st : St) (c : Operand) (b : Bool) : St :=
  match c with
  | .tmp t => ⟨(t, .bool b) :: st.env, st.rows⟩
  | _ => st

def convL (R : Rows) : List D → Option (List D)
  | [] => some []
  | d :: ds => match conv R d, convL R ds with | some x, some xs => some (x :: xs) | _, _ => none

/-- A call of a Go function. -/
def callVC (G : List Model) (f : FuncId) (args : List D) (R : Rows) (K : D → Rows → Prop) : Prop :=
  match findM G f with
  | some x => match x.refs with
    | [] => match convL R args with
      | some as => cand (x.flat || !(args.any lends)) <| match x.m as [] with
        | .ok res [] => res.force fun res => K res R
        | .when p res [] => p ∧ res.force fun res => K res R
        | _ => False
      | none => False
    | _ => False
  | none => False

/-- One operation, where it is wanted. -/
def doVC (T : Tab) (G : List Model) (N : Nat) (o : Oper) (st : St) (K : St → Prop) : Prop :=
  match o.op with
  | .pick c a b => match evOp st.env c with
    | .bool t => bcase t ((evOp st.env a).force fun d => st.put N o.dst d st.rows K) ((evOp st.env b).force fun d => st.put N o.dst d st.rows K)
    | _ => False
  | .call { callee := .value (.func f), args, .. } => callVC G f (args.toList.map (evOp st.env)) st.rows fun d R => st.put N o.dst d R K
  | op => opVC T op (evOp st.env) st.rows fun d R => st.put N o.dst d R K

def opsVC (T : Tab) (G : List Model) (N : Nat) (ops : Array Oper) : List Oper → St → (St → Prop) → Prop
  | [], st, K => K st
  | o :: l, st, K => match o.guard with
    | none => doVC T G N o st fun st => opsVC T G N ops l st K
    | some (j, want) => match (ops[j]?).bind (·.dst) with
      | some g => match look st.env g with
        | .bool b => bcase b
            (match want with | true => doVC T G N o (st.know (.tmp g) true) fun st => opsVC T G N ops l st K | false => (st.know (.tmp g) true).put N o.dst .dead st.rows fun st => opsVC T G N ops l st K)
            (match want with | false => doVC T G N o (st.know (.tmp g) false) fun st => opsVC T G N ops l st K | true => (st.know (.tmp g) false).put N o.dst .dead st.rows fun st => opsVC T G N ops l st K)
        | _ => False
      | none => False

/- regions that draw their order -/
/-- It touches no row and makes none. -/
def quietOp : Op → Bool
  | .store _ _ _ => false
  | .call { callee := .value (.func _), .. } => true
  | _ => true
/-- The order of the text serves for every order: each destination is met once, and whoever reads or writes a temporary is ordered with whoever writes it; stores lie behind all that stands before them and ahead of all that follows. -/
def pairOK (ops : Array Oper) (b : Array Nat) (i j : Nat) : Bool :=
  match ops[i]?, ops[j]? with
  | some x, some y =>
    (x.apart ops y || (b.getD j 0).testBit i) && ((quietOp x.op && quietOp y.op) || (b.getD j 0).testBit i)
  | _, _ => true
def drawOK (_G : List Model) (ops : Array Oper) : Bool :=
  let b := Region.before ops
  (List.range ops.size).all fun j => (match ops[j]? with | some o => o.after.all fun e => !Region.binds .any e || Nat.blt e.on j | none => true) && (List.range j).all fun i => pairOK ops b i j

/-- Code: 'L' is what is asked where nothing is reckoned out: a loop. -/
def codeVC (T : Tab) (G : List Model) (N : Nat) (L : Code → St → (Ex → St → Prop) → Prop) : Code → St → (Ex → St → Prop) → Prop
  | .skip, st, Q => Q .normal st
  | .label _, st, Q => Q .normal st
  | .region _ ops draw, st, Q => cand (!draw || drawOK G ops) (opsVC T G N ops ops.toList st fun st => Q .normal st)
  | .seq a b, st, Q => codeVC T G N L a st fun e st => match e with | .normal => codeVC T G N L b st Q | .exit i => Q (.exit i) st | .ret => Q .ret st
  | .cond c a b, st, Q => match evOp st.env c with
    | .bool t => bcase t (codeVC T G N L a (st.know c true) Q) (codeVC T G N L b (st.know c false) Q)
    | _ => False
  | .block id c, st, Q => codeVC T G N L c st fun e st => match e with | .normal => Q .normal st | .exit i => (match Nat.beq i id with | true => Q .normal st | false => Q (.exit i) st) | .ret => Q .ret st
  | .exit id, st, Q => Q (.exit id) st
  | .ret, st, Q => Q .ret st
  | c, st, Q => L c st Q

/-- The results, at a function's end. -/
def resVC (T : Tab) (R : Rows) (env : List (Nat × D)) : List ResultVar → (List D → Prop) → Prop
  | [], K => K []
  | .tmp t :: l, K => (look env t).force fun d => cand d.isVal (resVC T R env l fun ds => K (d :: ds))
  | .cell a t :: l, K => loadVC T t (look env a) R fun d _ => cand d.isVal (resVC T R env l fun ds => K (d :: ds))

/- what is handed back: rows of the caller's stay; at most one row of the call's own is handed over; the others are only read from then on -/
def inEx (ex : List Nat) (i r : Nat) : Bool := match ex[i]? with | some x => Nat.beq x r | none => false
def outEx (ex : List Nat) (r : Nat) : Bool := ex.all fun x => !(Nat.beq x r)

/-- A cell and what is promised of it. -/
def retC (ex : List Nat) (m : Nat) (R : Rows) (d : D) (p : D) : Prop :=
  match p with
  | .int k n => match d with | .int j q => cand (decide (j = k)) (q = n) | _ => False
  | .bool b => match d with | .bool a => a = b | _ => False
  | .str s => match d with | .str u => u = s | _ => False
  | .nilp => match d with | .nilp => True | _ => False
  | .nils => match d with | .nils => True | _ => False
  | .sl sz es fr => match d with
    | .nils => es = []
    | .sl sz' es' fr' => cand (!fr || fr') ((es' = [] ∨ sz' = sz) ∧ es' = es)
    | .all r => match R.getD r none with
      | some ⟨box, _, sz', es'⟩ => cand (!box && Nat.beq sz' sz && outEx ex r && Nat.ble m r) (es' = es)
      | none => False
    | .own r o n => match R.getD r none with
      | some ⟨box, _, sz', es'⟩ => cand (!box && Nat.beq sz' sz && outEx ex r && Nat.ble m r) ((es'.drop o).take n = es)
      | none => False
    | _ => False
  | .all i => match d with | .all r => cand (inEx ex i r) True | _ => False
  | .own i o n => match d with | .own r o' n' => cand (inEx ex i r) (o' = o ∧ n' = n) | _ => False
  | _ => False
def retCs (ex : List Nat) (m : Nat) (R : Rows) : List D → List D → Prop
  | [], [] => True
  | d :: ds, p :: ps => retC ex m R d p ∧ retCs ex m R ds ps
  | _, _ => False
def retV (ex : List Nat) (m : Nat) (R : Rows) (d p : D) : Prop :=
  match p with
  | .agg ps => match d with | .agg ds => retCs ex m R ds ps | _ => False
  | p => retC ex m R d p
def retVs (ex : List Nat) (m : Nat) (R : Rows) : List D → List D → Prop
  | [], [] => True
  | d :: ds, p :: ps => retV ex m R d p ∧ retVs ex m R ds ps
  | _, _ => False
def retD (ex : List Nat) (m : Nat) (R : Rows) (d p : D) : Prop :=
  match p with
  | .tup ps => match d with | .tup ds => retVs ex m R ds ps | _ => False
  | p => retV ex m R d p
/-- The rows that are handed back. -/
def retRows (ex : List Nat) (m : Nat) (R : Rows) : List Nat → List Row → Prop
  | [], [] => True
  | r :: rs, ⟨box, ty, sz, es⟩ :: ps => (match R.getD r none with
    | some ⟨box', ty', sz', es'⟩ => cand (Bool.xor (!box) box' && Nat.beq ty ty' && Nat.beq sz sz') (match box with
      | false => es' = es
      | true => match es', es with | [e'], [e] => retCs ex m R e' e | _, _ => False)
    | none => False) ∧ retRows ex m R rs ps
  | _, _ => False
def exsOf (m : Nat) (d p : D) : List Nat :=
  match p with
  | .all i => match d with | .all r => (match Nat.ble m i with | true => List.range m ++ [r] | false => List.range m) | _ => List.range m
  | _ => List.range m
def okEx (m : Nat) (ex : List Nat) : Bool := match ex.drop m with | [] => true | [r] => Nat.ble m r | _ => false
/-- What is promised of a call: the result, and the rows behind it. -/
def retAll (m : Nat) (res : D) (rows : List Row) (d : D) (R : Rows) : Prop :=
  cand (okEx m (exsOf m d res)) (retD (exsOf m d res) m R d res ∧ retRows (exsOf m d res) m R (exsOf m d res) rows)

/-- A whole function: the arguments in the first temporaries. -/
def argEnv : List D → Nat → List (Nat × D)
  | [], _ => []
  | d :: ds, i => (i, d) :: argEnv ds (i + 1)
def fnVC (T : Tab) (G : List Model) (L : Code → St → (Ex → St → Prop) → Prop) (fn : Func) (args : List D) (rows : List Row) (Q : D → Rows → Prop) : Prop :=
  match fn.body with
  | some c => codeVC T G fn.ntmps L c ⟨argEnv args 0, rows.map some⟩ fun e st => match e with
    | .exit _ => False
    | _ => resVC T st.rows st.env fn.results.toList fun ds => match ds with | [d] => Q d st.rows | ds => Q (.tup ds) st.rows
  | none => False
end Go.GD

/-
  No cell of these rows narrows 'for every input' (looked for: loops, veiled, ifaces, maps, wideKeys, modest, calm, conditions, laid).
  DERIVED. THE GIVEN ROWS OF THIS SEAT. 8 by the template 'for every input the law returns true; each argument reads behind the call as it read before'; 0 by the template 'total and deterministic' (their statements: YtpcbkbalabgnlaaGreatTotals.lean).
  GIVEN WITH THE SEED: the statements are not yours to turn. If you find one false, say at which input.
  Laid BY PROGRAM, IN A SANDBOX (cutbox-rows.mjs): the forced cells as the released guide's own fill.sh prints them over the translation 7ecf3e2afe691b12… (all of the seat's roots in one cut). By AI agents, Wed Nov 11 2026. No macro, syntax, notation, axiom, sorry.
-/
import Derived.Test.YtpcbkbalabgnlaaGreatChecked
import GoSem.Claim
import GoSem.ClaimJoined
import GoSem.ClaimMapViews
import Derived.JoinedTies
import Derived.KernelRfl
namespace Go.Proofs.YtpcbkbalabgnlaaGreat
/- THE CELL 'sum', in the pinned program and in every row, IS THE sha256 OF THE DUMP (.gsa) THAT YtpcbkbalabgnlaaGreatProg.lean LOADS. Nothing in Lean hashes anything: it is a label: what it is worth is what the hold of that sum in a sandbox is worth. -/
noncomputable def Tryz.pinned : Pinned := { name := "ytpcbkbalabgnlaagreat", sum := "7ecf3e2afe691b124437117cfb469e3de5b8d4db4344976f676fdb271d85b97f", checked := Tryz.checked }
namespace Rows
def none {H : Type} : Left H := { results := [], args := [] }

/-- 'vmfleetlaw21.RecordTells': WHATEVER THE INPUT: true; the input reads as it did. -/
def recordTellsSpec : ChangeSpec := { name := "recordTells", fn := fun _ => fun
  | [d1, d2, d3, d4, d5, d6, d7, d8, d9, d10, d11] => { results := [.lit (.bool true)], args := [d1, d2, d3, d4, d5, d6, d7, d8, d9, d10, d11] }
  | _ => none }
def recordTellsRow : OpenClaim := { program := "ytpcbkbalabgnlaagreat", sum := "7ecf3e2afe691b124437117cfb469e3de5b8d4db4344976f676fdb271d85b97f", func := "vmfleet/vmfleetlaw21.RecordTells", spec := "recordTells", inPlace := ["internal/abi.NoEscape", "internal/bytealg.MakeNoZero"], unfollowed := true, recurses := true, apart := false }
def RecordTellsSaid : Prop := recordTellsRow.holds Tryz.pinned (OpenSpec.ofChange recordTellsSpec)

/-- ITS FALSE NEIGHBOUR: 'it returns false'. Refute it at one input. -/
def recordTellsWrong : ChangeSpec := { name := "recordTells", fn := fun _ => fun
  | [d1, d2, d3, d4, d5, d6, d7, d8, d9, d10, d11] => { results := [.lit (.bool false)], args := [d1, d2, d3, d4, d5, d6, d7, d8, d9, d10, d11] }
  | _ => none }
def RecordTellsWrongFalsely : Prop := recordTellsRow.holds Tryz.pinned (OpenSpec.ofChange recordTellsWrong)

/-- 'vmfleetlaw21.RecordPieces': WHATEVER THE INPUT: true; the input reads as it did. -/
def recordPiecesSpec : ChangeSpec := { name := "recordPieces", fn := fun _ => fun
  | [d1, d2, d3, d4, d5, d6] => { results := [.lit (.bool true)], args := [d1, d2, d3, d4, d5, d6] }
  | _ => none }
def recordPiecesRow : OpenClaim := { program := "ytpcbkbalabgnlaagreat", sum := "7ecf3e2afe691b124437117cfb469e3de5b8d4db4344976f676fdb271d85b97f", func := "vmfleet/vmfleetlaw21.RecordPieces", spec := "recordPieces", inPlace := ["internal/abi.NoEscape", "internal/bytealg.MakeNoZero"], unfollowed := true, recurses := true, apart := false }
def RecordPiecesSaid : Prop := recordPiecesRow.holds Tryz.pinned (OpenSpec.ofChange recordPiecesSpec)

/-- ITS FALSE NEIGHBOUR: 'it returns false'. Refute it at one input. -/
def recordPiecesWrong : ChangeSpec := { name := "recordPieces", fn := fun _ => fun
  | [d1, d2, d3, d4, d5, d6] => { results := [.lit (.bool false)], args := [d1, d2, d3, d4, d5, d6] }
  | _ => none }
def RecordPiecesWrongFalsely : Prop := recordPiecesRow.holds Tryz.pinned (OpenSpec.ofChange recordPiecesWrong)

/-- 'vmfleetlaw21.RecordCuts': WHATEVER THE INPUT: true; the input reads as it did. -/
def recordCutsSpec : ChangeSpec := { name := "recordCuts", fn := fun _ => fun
  | [d1, d2, d3, d4] => { results := [.lit (.bool true)], args := [d1, d2, d3, d4] }
  | _ => none }
def recordCutsRow : OpenClaim := { program := "ytpcbkbalabgnlaagreat", sum := "7ecf3e2afe691b124437117cfb469e3de5b8d4db4344976f676fdb271d85b97f", func := "vmfleet/vmfleetlaw21.RecordCuts", spec := "recordCuts", inPlace := ["internal/abi.NoEscape", "internal/bytealg.MakeNoZero"], unfollowed := true, recurses := true, apart := false }
def RecordCutsSaid : Prop := recordCutsRow.holds Tryz.pinned (OpenSpec.ofChange recordCutsSpec)

/-- ITS FALSE NEIGHBOUR: 'it returns false'. Refute it at one input. -/
def recordCutsWrong : ChangeSpec := { name := "recordCuts", fn := fun _ => fun
  | [d1, d2, d3, d4] => { results := [.lit (.bool false)], args := [d1, d2, d3, d4] }
  | _ => none }
def RecordCutsWrongFalsely : Prop := recordCutsRow.holds Tryz.pinned (OpenSpec.ofChange recordCutsWrong)

/-- 'vmfleetlaw21.RecordTimer': WHATEVER THE INPUT: true; the input reads as it did. -/
def recordTimerSpec : ChangeSpec := { name := "recordTimer", fn := fun _ => fun
  | [d1, d2, d3] => { results := [.lit (.bool true)], args := [d1, d2, d3] }
  | _ => none }
def recordTimerRow : OpenClaim := { program := "ytpcbkbalabgnlaagreat", sum := "7ecf3e2afe691b124437117cfb469e3de5b8d4db4344976f676fdb271d85b97f", func := "vmfleet/vmfleetlaw21.RecordTimer", spec := "recordTimer", inPlace := ["internal/abi.NoEscape", "internal/bytealg.MakeNoZero"], unfollowed := true, recurses := true, apart := false }
def RecordTimerSaid : Prop := recordTimerRow.holds Tryz.pinned (OpenSpec.ofChange recordTimerSpec)

/-- ITS FALSE NEIGHBOUR: 'it returns false'. Refute it at one input. -/
def recordTimerWrong : ChangeSpec := { name := "recordTimer", fn := fun _ => fun
  | [d1, d2, d3] => { results := [.lit (.bool false)], args := [d1, d2, d3] }
  | _ => none }
def RecordTimerWrongFalsely : Prop := recordTimerRow.holds Tryz.pinned (OpenSpec.ofChange recordTimerWrong)

/-- 'vmfleetlaw21.RecordClock': WHATEVER THE INPUT: true; the input reads as it did. -/
def recordClockSpec : ChangeSpec := { name := "recordClock", fn := fun _ => fun
  | [d1, d2, d3] => { results := [.lit (.bool true)], args := [d1, d2, d3] }
  | _ => none }
def recordClockRow : OpenClaim := { program := "ytpcbkbalabgnlaagreat", sum := "7ecf3e2afe691b124437117cfb469e3de5b8d4db4344976f676fdb271d85b97f", func := "vmfleet/vmfleetlaw21.RecordClock", spec := "recordClock", inPlace := ["internal/abi.NoEscape", "internal/bytealg.MakeNoZero"], unfollowed := true, recurses := true, apart := false }
def RecordClockSaid : Prop := recordClockRow.holds Tryz.pinned (OpenSpec.ofChange recordClockSpec)

/-- ITS FALSE NEIGHBOUR: 'it returns false'. Refute it at one input. -/
def recordClockWrong : ChangeSpec := { name := "recordClock", fn := fun _ => fun
  | [d1, d2, d3] => { results := [.lit (.bool false)], args := [d1, d2, d3] }
  | _ => none }
def RecordClockWrongFalsely : Prop := recordClockRow.holds Tryz.pinned (OpenSpec.ofChange recordClockWrong)

/-- 'vmfleetlaw21.RecordQueue': WHATEVER THE INPUT: true; the input reads as it did. -/
def recordQueueSpec : ChangeSpec := { name := "recordQueue", fn := fun _ => fun
  | [d1, d2] => { results := [.lit (.bool true)], args := [d1, d2] }
  | _ => none }
def recordQueueRow : OpenClaim := { program := "ytpcbkbalabgnlaagreat", sum := "7ecf3e2afe691b124437117cfb469e3de5b8d4db4344976f676fdb271d85b97f", func := "vmfleet/vmfleetlaw21.RecordQueue", spec := "recordQueue", inPlace := ["internal/abi.NoEscape", "internal/bytealg.MakeNoZero"], unfollowed := true, recurses := true, apart := false }
def RecordQueueSaid : Prop := recordQueueRow.holds Tryz.pinned (OpenSpec.ofChange recordQueueSpec)

/-- ITS FALSE NEIGHBOUR: 'it returns false'. Refute it at one input. -/
def recordQueueWrong : ChangeSpec := { name := "recordQueue", fn := fun _ => fun
  | [d1, d2] => { results := [.lit (.bool false)], args := [d1, d2] }
  | _ => none }
def RecordQueueWrongFalsely : Prop := recordQueueRow.holds Tryz.pinned (OpenSpec.ofChange recordQueueWrong)

/-- 'vmfleetlaw21.RecordOrdered': WHATEVER THE INPUT: true; the input reads as it did. -/
def recordOrderedSpec : ChangeSpec := { name := "recordOrdered", fn := fun _ => fun
  | [d1, d2, d3] => { results := [.lit (.bool true)], args := [d1, d2, d3] }
  | _ => none }
def recordOrderedRow : OpenClaim := { program := "ytpcbkbalabgnlaagreat", sum := "7ecf3e2afe691b124437117cfb469e3de5b8d4db4344976f676fdb271d85b97f", func := "vmfleet/vmfleetlaw21.RecordOrdered", spec := "recordOrdered", inPlace := ["internal/abi.NoEscape", "internal/bytealg.MakeNoZero"], unfollowed := true, recurses := true, apart := false }
def RecordOrderedSaid : Prop := recordOrderedRow.holds Tryz.pinned (OpenSpec.ofChange recordOrderedSpec)

/-- ITS FALSE NEIGHBOUR: 'it returns false'. Refute it at one input. -/
def recordOrderedWrong : ChangeSpec := { name := "recordOrdered", fn := fun _ => fun
  | [d1, d2, d3] => { results := [.lit (.bool false)], args := [d1, d2, d3] }
  | _ => none }
def RecordOrderedWrongFalsely : Prop := recordOrderedRow.holds Tryz.pinned (OpenSpec.ofChange recordOrderedWrong)

/-- 'vmfleetlaw21.RecordBare': WHATEVER THE INPUT: true; the input reads as it did. -/
def recordBareSpec : ChangeSpec := { name := "recordBare", fn := fun _ => fun
  | [d1, d2, d3] => { results := [.lit (.bool true)], args := [d1, d2, d3] }
  | _ => none }
def recordBareRow : OpenClaim := { program := "ytpcbkbalabgnlaagreat", sum := "7ecf3e2afe691b124437117cfb469e3de5b8d4db4344976f676fdb271d85b97f", func := "vmfleet/vmfleetlaw21.RecordBare", spec := "recordBare", inPlace := ["internal/abi.NoEscape", "internal/bytealg.MakeNoZero"], unfollowed := true, recurses := true, apart := false }
def RecordBareSaid : Prop := recordBareRow.holds Tryz.pinned (OpenSpec.ofChange recordBareSpec)

/-- ITS FALSE NEIGHBOUR: 'it returns false'. Refute it at one input. -/
def recordBareWrong : ChangeSpec := { name := "recordBare", fn := fun _ => fun
  | [d1, d2, d3] => { results := [.lit (.bool false)], args := [d1, d2, d3] }
  | _ => none }
def RecordBareWrongFalsely : Prop := recordBareRow.holds Tryz.pinned (OpenSpec.ofChange recordBareWrong)

/- THE SECOND FORM. 'bulk': how many values and letters a reading holds, each counted each time it is reached (what is shared counts as often as it is met; a slice's spare places count too). A statement '..UptoSaid' is the law's where the arguments, and the package variables that the reading takes, are together of bulk at most 1048576: NARROWER than '..Said'. Prove '..Said' where nothing that the law and all that it calls make is longer than what came in: it says more and counts as full. Else prove '..UptoSaid'. A law counts once. -/
mutual
def uptoBulk {H : Type} : DataW H → Nat
  | .lit (.string bytes) => bytes.length + 1
  | .lit _ => 1
  | .nil => 1
  | .ptr d => uptoBulk d + 1
  | .slice elems spare => uptoBulkAll elems + uptoBulkAll spare + 1
  | .agg parts => uptoBulkAll parts + 1
  | .iface _ d => uptoBulk d + 1
  | .map entries => uptoBulkEntries entries + 1
  | .held _ => 1
def uptoBulkAll {H : Type} : List (DataW H) → Nat
  | [] => 0
  | d :: r => uptoBulk d + uptoBulkAll r
def uptoBulkEntries {H : Type} : List (Lit × DataW H) → Nat
  | [] => 0
  | x :: r => uptoBulkEntry x + uptoBulkEntries r
def uptoBulkEntry {H : Type} : Lit × DataW H → Nat
  | (.string bytes, d) => bytes.length + uptoBulk d + 1
  | (_, d) => uptoBulk d + 1
 end
def uptoSmall : (H : Type) → List (DataW H) → Bool := fun _ ds => decide (uptoBulkAll ds ≤ 1048576)
def OpenSpec.upto (s : _root_.Go.ChangeSpec) : _root_.Go.OpenSpec := { _root_.Go.OpenSpec.ofChange s with cond := some uptoSmall }

/-- 'vmfleetlaw21.RecordTells', WHERE WHAT IT READS IS OF BULK AT MOST 1048576: true; the input reads as it did. -/
def recordTellsUptoRow : OpenClaim := { program := "ytpcbkbalabgnlaagreat", sum := "7ecf3e2afe691b124437117cfb469e3de5b8d4db4344976f676fdb271d85b97f", func := "vmfleet/vmfleetlaw21.RecordTells", spec := "recordTells", inPlace := ["internal/abi.NoEscape", "internal/bytealg.MakeNoZero"], unfollowed := true, recurses := true, apart := false, narrowed := true }
def RecordTellsUptoSaid : Prop := recordTellsUptoRow.holds Tryz.pinned (OpenSpec.upto recordTellsSpec)

/-- 'vmfleetlaw21.RecordPieces', WHERE WHAT IT READS IS OF BULK AT MOST 1048576: true; the input reads as it did. -/
def recordPiecesUptoRow : OpenClaim := { program := "ytpcbkbalabgnlaagreat", sum := "7ecf3e2afe691b124437117cfb469e3de5b8d4db4344976f676fdb271d85b97f", func := "vmfleet/vmfleetlaw21.RecordPieces", spec := "recordPieces", inPlace := ["internal/abi.NoEscape", "internal/bytealg.MakeNoZero"], unfollowed := true, recurses := true, apart := false, narrowed := true }
def RecordPiecesUptoSaid : Prop := recordPiecesUptoRow.holds Tryz.pinned (OpenSpec.upto recordPiecesSpec)

/-- 'vmfleetlaw21.RecordCuts', WHERE WHAT IT READS IS OF BULK AT MOST 1048576: true; the input reads as it did. -/
def recordCutsUptoRow : OpenClaim := { program := "ytpcbkbalabgnlaagreat", sum := "7ecf3e2afe691b124437117cfb469e3de5b8d4db4344976f676fdb271d85b97f", func := "vmfleet/vmfleetlaw21.RecordCuts", spec := "recordCuts", inPlace := ["internal/abi.NoEscape", "internal/bytealg.MakeNoZero"], unfollowed := true, recurses := true, apart := false, narrowed := true }
def RecordCutsUptoSaid : Prop := recordCutsUptoRow.holds Tryz.pinned (OpenSpec.upto recordCutsSpec)

/-- 'vmfleetlaw21.RecordTimer', WHERE WHAT IT READS IS OF BULK AT MOST 1048576: true; the input reads as it did. -/
def recordTimerUptoRow : OpenClaim := { program := "ytpcbkbalabgnlaagreat", sum := "7ecf3e2afe691b124437117cfb469e3de5b8d4db4344976f676fdb271d85b97f", func := "vmfleet/vmfleetlaw21.RecordTimer", spec := "recordTimer", inPlace := ["internal/abi.NoEscape", "internal/bytealg.MakeNoZero"], unfollowed := true, recurses := true, apart := false, narrowed := true }
def RecordTimerUptoSaid : Prop := recordTimerUptoRow.holds Tryz.pinned (OpenSpec.upto recordTimerSpec)

/-- 'vmfleetlaw21.RecordClock', WHERE WHAT IT READS IS OF BULK AT MOST 1048576: true; the input reads as it did. -/
def recordClockUptoRow : OpenClaim := { program := "ytpcbkbalabgnlaagreat", sum := "7ecf3e2afe691b124437117cfb469e3de5b8d4db4344976f676fdb271d85b97f", func := "vmfleet/vmfleetlaw21.RecordClock", spec := "recordClock", inPlace := ["internal/abi.NoEscape", "internal/bytealg.MakeNoZero"], unfollowed := true, recurses := true, apart := false, narrowed := true }
def RecordClockUptoSaid : Prop := recordClockUptoRow.holds Tryz.pinned (OpenSpec.upto recordClockSpec)

/-- 'vmfleetlaw21.RecordQueue', WHERE WHAT IT READS IS OF BULK AT MOST 1048576: true; the input reads as it did. -/
def recordQueueUptoRow : OpenClaim := { program := "ytpcbkbalabgnlaagreat", sum := "7ecf3e2afe691b124437117cfb469e3de5b8d4db4344976f676fdb271d85b97f", func := "vmfleet/vmfleetlaw21.RecordQueue", spec := "recordQueue", inPlace := ["internal/abi.NoEscape", "internal/bytealg.MakeNoZero"], unfollowed := true, recurses := true, apart := false, narrowed := true }
def RecordQueueUptoSaid : Prop := recordQueueUptoRow.holds Tryz.pinned (OpenSpec.upto recordQueueSpec)

/-- 'vmfleetlaw21.RecordOrdered', WHERE WHAT IT READS IS OF BULK AT MOST 1048576: true; the input reads as it did. -/
def recordOrderedUptoRow : OpenClaim := { program := "ytpcbkbalabgnlaagreat", sum := "7ecf3e2afe691b124437117cfb469e3de5b8d4db4344976f676fdb271d85b97f", func := "vmfleet/vmfleetlaw21.RecordOrdered", spec := "recordOrdered", inPlace := ["internal/abi.NoEscape", "internal/bytealg.MakeNoZero"], unfollowed := true, recurses := true, apart := false, narrowed := true }
def RecordOrderedUptoSaid : Prop := recordOrderedUptoRow.holds Tryz.pinned (OpenSpec.upto recordOrderedSpec)

/-- 'vmfleetlaw21.RecordBare', WHERE WHAT IT READS IS OF BULK AT MOST 1048576: true; the input reads as it did. -/
def recordBareUptoRow : OpenClaim := { program := "ytpcbkbalabgnlaagreat", sum := "7ecf3e2afe691b124437117cfb469e3de5b8d4db4344976f676fdb271d85b97f", func := "vmfleet/vmfleetlaw21.RecordBare", spec := "recordBare", inPlace := ["internal/abi.NoEscape", "internal/bytealg.MakeNoZero"], unfollowed := true, recurses := true, apart := false, narrowed := true }
def RecordBareUptoSaid : Prop := recordBareUptoRow.holds Tryz.pinned (OpenSpec.upto recordBareSpec)

end Rows
end Go.Proofs.YtpcbkbalabgnlaaGreat

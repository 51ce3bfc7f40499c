/-
  No cell of these rows narrows 'for every input' (looked for: loops, veiled, ifaces, maps, wideKeys, modest, calm, conditions, laid).
  DERIVED. THE GIVEN ROWS OF THIS SEAT. 4 by the template 'for every input the law returns true; each argument reads behind the call as it read before'; 0 by the template 'total and deterministic' (their statements: YtoijmgbahaekiaaGreatTotals.lean).
  GIVEN WITH THE SEED: the statements are not yours to turn. If you find one false, say at which input.
  Laid BY PROGRAM, IN A SANDBOX (cutbox-rows.mjs): the forced cells as the released guide's own fill.sh prints them over the translation 7859a1a62231a6d4… (all of the seat's roots in one cut). By AI agents, Wed Nov 11 2026. No macro, syntax, notation, axiom, sorry.
-/
import Derived.Test.YtoijmgbahaekiaaGreatChecked
import GoSem.Claim
import GoSem.ClaimJoined
import GoSem.ClaimMapViews
import Derived.JoinedTies
import Derived.KernelRfl
namespace Go.Proofs.YtoijmgbahaekiaaGreat
/- THE CELL 'sum', in the pinned program and in every row, IS THE sha256 OF THE DUMP (.gsa) THAT YtoijmgbahaekiaaGreatProg.lean LOADS. Nothing in Lean hashes anything: it is a label: what it is worth is what the hold of that sum in a sandbox is worth. -/
noncomputable def Tryz.pinned : Pinned := { name := "ytoijmgbahaekiaagreat", sum := "7859a1a62231a6d4527779ad1239ad99a567458e6cc643cc9a2b14cfa3809264", checked := Tryz.checked }
namespace Rows
def none {H : Type} : Left H := { results := [], args := [] }

/-- 'vmfleettop.TopMirror': WHATEVER THE INPUT: true; the input reads as it did. -/
def topMirrorSpec : ChangeSpec := { name := "topMirror", fn := fun _ => fun
  | [d1, d2, d3, d4] => { results := [.lit (.bool true)], args := [d1, d2, d3, d4] }
  | _ => none }
def topMirrorRow : OpenClaim := { program := "ytoijmgbahaekiaagreat", sum := "7859a1a62231a6d4527779ad1239ad99a567458e6cc643cc9a2b14cfa3809264", func := "vmfleet/vmfleettop.TopMirror", spec := "topMirror", inPlace := ["internal/abi.NoEscape", "internal/bytealg.MakeNoZero", "slices.overlaps[vmfleet/api.Delta]"], unfollowed := true, recurses := true, apart := false }
def TopMirrorSaid : Prop := topMirrorRow.holds Tryz.pinned (OpenSpec.ofChange topMirrorSpec)

/-- ITS FALSE NEIGHBOUR: 'it returns false'. Refute it at one input. -/
def topMirrorWrong : ChangeSpec := { name := "topMirror", fn := fun _ => fun
  | [d1, d2, d3, d4] => { results := [.lit (.bool false)], args := [d1, d2, d3, d4] }
  | _ => none }
def TopMirrorWrongFalsely : Prop := topMirrorRow.holds Tryz.pinned (OpenSpec.ofChange topMirrorWrong)

/-- 'vmfleettop.TopAudit': WHATEVER THE INPUT: true; the input reads as it did. -/
def topAuditSpec : ChangeSpec := { name := "topAudit", fn := fun _ => fun
  | [d1, d2, d3, d4, d5] => { results := [.lit (.bool true)], args := [d1, d2, d3, d4, d5] }
  | _ => none }
def topAuditRow : OpenClaim := { program := "ytoijmgbahaekiaagreat", sum := "7859a1a62231a6d4527779ad1239ad99a567458e6cc643cc9a2b14cfa3809264", func := "vmfleet/vmfleettop.TopAudit", spec := "topAudit", inPlace := ["internal/abi.NoEscape", "internal/bytealg.MakeNoZero"], unfollowed := true, recurses := true, apart := false }
def TopAuditSaid : Prop := topAuditRow.holds Tryz.pinned (OpenSpec.ofChange topAuditSpec)

/-- ITS FALSE NEIGHBOUR: 'it returns false'. Refute it at one input. -/
def topAuditWrong : ChangeSpec := { name := "topAudit", fn := fun _ => fun
  | [d1, d2, d3, d4, d5] => { results := [.lit (.bool false)], args := [d1, d2, d3, d4, d5] }
  | _ => none }
def TopAuditWrongFalsely : Prop := topAuditRow.holds Tryz.pinned (OpenSpec.ofChange topAuditWrong)

/-- 'vmfleettop.TopJournal': WHATEVER THE INPUT: true; the input reads as it did. -/
def topJournalSpec : ChangeSpec := { name := "topJournal", fn := fun _ => fun
  | [d1, d2, d3] => { results := [.lit (.bool true)], args := [d1, d2, d3] }
  | _ => none }
def topJournalRow : OpenClaim := { program := "ytoijmgbahaekiaagreat", sum := "7859a1a62231a6d4527779ad1239ad99a567458e6cc643cc9a2b14cfa3809264", func := "vmfleet/vmfleettop.TopJournal", spec := "topJournal", inPlace := ["internal/abi.NoEscape", "internal/bytealg.MakeNoZero", "internal/bytealg.abigen_runtime_cmpstring", "slices.overlaps[vmfleet/api.Placed]"], unfollowed := true, recurses := true, apart := false }
def TopJournalSaid : Prop := topJournalRow.holds Tryz.pinned (OpenSpec.ofChange topJournalSpec)

/-- ITS FALSE NEIGHBOUR: 'it returns false'. Refute it at one input. -/
def topJournalWrong : ChangeSpec := { name := "topJournal", fn := fun _ => fun
  | [d1, d2, d3] => { results := [.lit (.bool false)], args := [d1, d2, d3] }
  | _ => none }
def TopJournalWrongFalsely : Prop := topJournalRow.holds Tryz.pinned (OpenSpec.ofChange topJournalWrong)

/-- 'vmfleettop.TopMemory': WHATEVER THE INPUT: true; the input reads as it did. -/
def topMemorySpec : ChangeSpec := { name := "topMemory", fn := fun _ => fun
  | [d1, d2, d3, d4, d5] => { results := [.lit (.bool true)], args := [d1, d2, d3, d4, d5] }
  | _ => none }
def topMemoryRow : OpenClaim := { program := "ytoijmgbahaekiaagreat", sum := "7859a1a62231a6d4527779ad1239ad99a567458e6cc643cc9a2b14cfa3809264", func := "vmfleet/vmfleettop.TopMemory", spec := "topMemory", inPlace := ["internal/abi.NoEscape", "internal/bytealg.MakeNoZero", "internal/bytealg.CountString", "internal/bytealg.IndexByteString", "internal/bytealg.IndexString"], recurses := true, named := ["internal/bytealg.MaxLen"], apart := false }
def TopMemorySaid : Prop := topMemoryRow.holds Tryz.pinned (OpenSpec.ofChange topMemorySpec)

/-- ITS FALSE NEIGHBOUR: 'it returns false'. Refute it at one input. -/
def topMemoryWrong : ChangeSpec := { name := "topMemory", fn := fun _ => fun
  | [d1, d2, d3, d4, d5] => { results := [.lit (.bool false)], args := [d1, d2, d3, d4, d5] }
  | _ => none }
def TopMemoryWrongFalsely : Prop := topMemoryRow.holds Tryz.pinned (OpenSpec.ofChange topMemoryWrong)

/- THE SECOND FORM. 'bulk': how many values and letters a reading holds, each counted each time it is reached (what is shared counts as often as it is met; a slice's spare places count too). A statement '..UptoSaid' is the law's where the arguments, and the package variables that the reading takes, are together of bulk at most 1048576: NARROWER than '..Said'. Prove '..Said' where nothing that the law and all that it calls make is longer than what came in: it says more and counts as full. Else prove '..UptoSaid'. A law counts once. -/
mutual
def uptoBulk {H : Type} : DataW H → Nat
  | .lit (.string bytes) => bytes.length + 1
  | .lit _ => 1
  | .nil => 1
  | .ptr d => uptoBulk d + 1
  | .slice elems spare => uptoBulkAll elems + uptoBulkAll spare + 1
  | .agg parts => uptoBulkAll parts + 1
  | .iface _ d => uptoBulk d + 1
  | .map entries => uptoBulkEntries entries + 1
  | .held _ => 1
def uptoBulkAll {H : Type} : List (DataW H) → Nat
  | [] => 0
  | d :: r => uptoBulk d + uptoBulkAll r
def uptoBulkEntries {H : Type} : List (Lit × DataW H) → Nat
  | [] => 0
  | x :: r => uptoBulkEntry x + uptoBulkEntries r
def uptoBulkEntry {H : Type} : Lit × DataW H → Nat
  | (.string bytes, d) => bytes.length + uptoBulk d + 1
  | (_, d) => uptoBulk d + 1
 end
def uptoSmall : (H : Type) → List (DataW H) → Bool := fun _ ds => decide (uptoBulkAll ds ≤ 1048576)
def OpenSpec.upto (s : _root_.Go.ChangeSpec) : _root_.Go.OpenSpec := { _root_.Go.OpenSpec.ofChange s with cond := some uptoSmall }

/-- 'vmfleettop.TopMirror', WHERE WHAT IT READS IS OF BULK AT MOST 1048576: true; the input reads as it did. -/
def topMirrorUptoRow : OpenClaim := { program := "ytoijmgbahaekiaagreat", sum := "7859a1a62231a6d4527779ad1239ad99a567458e6cc643cc9a2b14cfa3809264", func := "vmfleet/vmfleettop.TopMirror", spec := "topMirror", inPlace := ["internal/abi.NoEscape", "internal/bytealg.MakeNoZero", "slices.overlaps[vmfleet/api.Delta]"], unfollowed := true, recurses := true, apart := false, narrowed := true }
def TopMirrorUptoSaid : Prop := topMirrorUptoRow.holds Tryz.pinned (OpenSpec.upto topMirrorSpec)

/-- 'vmfleettop.TopAudit', WHERE WHAT IT READS IS OF BULK AT MOST 1048576: true; the input reads as it did. -/
def topAuditUptoRow : OpenClaim := { program := "ytoijmgbahaekiaagreat", sum := "7859a1a62231a6d4527779ad1239ad99a567458e6cc643cc9a2b14cfa3809264", func := "vmfleet/vmfleettop.TopAudit", spec := "topAudit", inPlace := ["internal/abi.NoEscape", "internal/bytealg.MakeNoZero"], unfollowed := true, recurses := true, apart := false, narrowed := true }
def TopAuditUptoSaid : Prop := topAuditUptoRow.holds Tryz.pinned (OpenSpec.upto topAuditSpec)

/-- 'vmfleettop.TopJournal', WHERE WHAT IT READS IS OF BULK AT MOST 1048576: true; the input reads as it did. -/
def topJournalUptoRow : OpenClaim := { program := "ytoijmgbahaekiaagreat", sum := "7859a1a62231a6d4527779ad1239ad99a567458e6cc643cc9a2b14cfa3809264", func := "vmfleet/vmfleettop.TopJournal", spec := "topJournal", inPlace := ["internal/abi.NoEscape", "internal/bytealg.MakeNoZero", "internal/bytealg.abigen_runtime_cmpstring", "slices.overlaps[vmfleet/api.Placed]"], unfollowed := true, recurses := true, apart := false, narrowed := true }
def TopJournalUptoSaid : Prop := topJournalUptoRow.holds Tryz.pinned (OpenSpec.upto topJournalSpec)

/-- 'vmfleettop.TopMemory', WHERE WHAT IT READS IS OF BULK AT MOST 1048576: true; the input reads as it did. -/
def topMemoryUptoRow : OpenClaim := { program := "ytoijmgbahaekiaagreat", sum := "7859a1a62231a6d4527779ad1239ad99a567458e6cc643cc9a2b14cfa3809264", func := "vmfleet/vmfleettop.TopMemory", spec := "topMemory", inPlace := ["internal/abi.NoEscape", "internal/bytealg.MakeNoZero", "internal/bytealg.CountString", "internal/bytealg.IndexByteString", "internal/bytealg.IndexString"], recurses := true, named := ["internal/bytealg.MaxLen"], apart := false, narrowed := true }
def TopMemoryUptoSaid : Prop := topMemoryUptoRow.holds Tryz.pinned (OpenSpec.upto topMemorySpec)

end Rows
end Go.Proofs.YtoijmgbahaekiaaGreat

/-
  No cell of these rows narrows 'for every input' (looked for: loops, veiled, ifaces, maps, wideKeys, modest, calm, conditions, laid).
  DERIVED. THE GIVEN ROWS OF THIS SEAT. 12 by the template 'for every input the law returns true; each argument reads behind the call as it read before'; 0 by the template 'total and deterministic' (their statements: YtmalmklaonainaaGreatTotals.lean).
  GIVEN WITH THE SEED: the statements are not yours to turn. If you find one false, say at which input.
  Laid BY PROGRAM, IN A SANDBOX (cutbox-rows.mjs): the forced cells as the released guide's own fill.sh prints them over the translation 9d0550e13aa7e8ca… (all of the seat's roots in one cut). By AI agents, Wed Nov 11 2026. No macro, syntax, notation, axiom, sorry.
-/
import Derived.Test.YtmalmklaonainaaGreatChecked
import GoSem.Claim
import GoSem.ClaimJoined
import GoSem.ClaimMapViews
import Derived.JoinedTies
import Derived.KernelRfl
namespace Go.Proofs.YtmalmklaonainaaGreat
/- THE CELL 'sum', in the pinned program and in every row, IS THE sha256 OF THE DUMP (.gsa) THAT YtmalmklaonainaaGreatProg.lean LOADS. Nothing in Lean hashes anything: it is a label: what it is worth is what the hold of that sum in a sandbox is worth. -/
noncomputable def Tryz.pinned : Pinned := { name := "ytmalmklaonainaagreat", sum := "9d0550e13aa7e8ca8344df9764c405acdcc0c5c9068128e8341cb7fef28f1729", checked := Tryz.checked }
namespace Rows
def none {H : Type} : Left H := { results := [], args := [] }

/-- 'vmfleetlaw12.MachineEncodes': WHATEVER THE INPUT: true; the input reads as it did. -/
def machineEncodesSpec : ChangeSpec := { name := "machineEncodes", fn := fun _ => fun
  | [d1, d2, d3, d4, d5, d6, d7] => { results := [.lit (.bool true)], args := [d1, d2, d3, d4, d5, d6, d7] }
  | _ => none }
def machineEncodesRow : OpenClaim := { program := "ytmalmklaonainaagreat", sum := "9d0550e13aa7e8ca8344df9764c405acdcc0c5c9068128e8341cb7fef28f1729", func := "vmfleet/vmfleetlaw12.MachineEncodes", spec := "machineEncodes", inPlace := ["internal/abi.NoEscape", "internal/bytealg.MakeNoZero"], recurses := true, apart := false }
def MachineEncodesSaid : Prop := machineEncodesRow.holds Tryz.pinned (OpenSpec.ofChange machineEncodesSpec)

/-- ITS FALSE NEIGHBOUR: 'it returns false'. Refute it at one input. -/
def machineEncodesWrong : ChangeSpec := { name := "machineEncodes", fn := fun _ => fun
  | [d1, d2, d3, d4, d5, d6, d7] => { results := [.lit (.bool false)], args := [d1, d2, d3, d4, d5, d6, d7] }
  | _ => none }
def MachineEncodesWrongFalsely : Prop := machineEncodesRow.holds Tryz.pinned (OpenSpec.ofChange machineEncodesWrong)

/-- 'vmfleetlaw12.MachineTells': WHATEVER THE INPUT: true; the input reads as it did. -/
def machineTellsSpec : ChangeSpec := { name := "machineTells", fn := fun _ => fun
  | [d1, d2, d3, d4, d5, d6, d7] => { results := [.lit (.bool true)], args := [d1, d2, d3, d4, d5, d6, d7] }
  | _ => none }
def machineTellsRow : OpenClaim := { program := "ytmalmklaonainaagreat", sum := "9d0550e13aa7e8ca8344df9764c405acdcc0c5c9068128e8341cb7fef28f1729", func := "vmfleet/vmfleetlaw12.MachineTells", spec := "machineTells", inPlace := ["internal/abi.NoEscape", "internal/bytealg.MakeNoZero"], recurses := true, apart := false }
def MachineTellsSaid : Prop := machineTellsRow.holds Tryz.pinned (OpenSpec.ofChange machineTellsSpec)

/-- ITS FALSE NEIGHBOUR: 'it returns false'. Refute it at one input. -/
def machineTellsWrong : ChangeSpec := { name := "machineTells", fn := fun _ => fun
  | [d1, d2, d3, d4, d5, d6, d7] => { results := [.lit (.bool false)], args := [d1, d2, d3, d4, d5, d6, d7] }
  | _ => none }
def MachineTellsWrongFalsely : Prop := machineTellsRow.holds Tryz.pinned (OpenSpec.ofChange machineTellsWrong)

/-- 'vmfleetlaw12.MachinePorts': WHATEVER THE INPUT: true; the input reads as it did. -/
def machinePortsSpec : ChangeSpec := { name := "machinePorts", fn := fun _ => fun
  | [d1, d2] => { results := [.lit (.bool true)], args := [d1, d2] }
  | _ => none }
def machinePortsRow : OpenClaim := { program := "ytmalmklaonainaagreat", sum := "9d0550e13aa7e8ca8344df9764c405acdcc0c5c9068128e8341cb7fef28f1729", func := "vmfleet/vmfleetlaw12.MachinePorts", spec := "machinePorts", inPlace := ["internal/abi.NoEscape", "internal/bytealg.MakeNoZero"], unfollowed := true, recurses := true, apart := false }
def MachinePortsSaid : Prop := machinePortsRow.holds Tryz.pinned (OpenSpec.ofChange machinePortsSpec)

/-- ITS FALSE NEIGHBOUR: 'it returns false'. Refute it at one input. -/
def machinePortsWrong : ChangeSpec := { name := "machinePorts", fn := fun _ => fun
  | [d1, d2] => { results := [.lit (.bool false)], args := [d1, d2] }
  | _ => none }
def MachinePortsWrongFalsely : Prop := machinePortsRow.holds Tryz.pinned (OpenSpec.ofChange machinePortsWrong)

/-- 'vmfleetlaw30.PrecopyCopies': WHATEVER THE INPUT: true; the input reads as it did. -/
def precopyCopiesSpec : ChangeSpec := { name := "precopyCopies", fn := fun _ => fun
  | [d1, d2, d3] => { results := [.lit (.bool true)], args := [d1, d2, d3] }
  | _ => none }
def precopyCopiesRow : OpenClaim := { program := "ytmalmklaonainaagreat", sum := "9d0550e13aa7e8ca8344df9764c405acdcc0c5c9068128e8341cb7fef28f1729", func := "vmfleet/vmfleetlaw30.PrecopyCopies", spec := "precopyCopies", inPlace := ["internal/abi.NoEscape", "internal/bytealg.MakeNoZero"], unfollowed := true, recurses := true, apart := false }
def PrecopyCopiesSaid : Prop := precopyCopiesRow.holds Tryz.pinned (OpenSpec.ofChange precopyCopiesSpec)

/-- ITS FALSE NEIGHBOUR: 'it returns false'. Refute it at one input. -/
def precopyCopiesWrong : ChangeSpec := { name := "precopyCopies", fn := fun _ => fun
  | [d1, d2, d3] => { results := [.lit (.bool false)], args := [d1, d2, d3] }
  | _ => none }
def PrecopyCopiesWrongFalsely : Prop := precopyCopiesRow.holds Tryz.pinned (OpenSpec.ofChange precopyCopiesWrong)

/-- 'vmfleetlaw21.RecordCuts': WHATEVER THE INPUT: true; the input reads as it did. -/
def recordCutsSpec : ChangeSpec := { name := "recordCuts", fn := fun _ => fun
  | [d1, d2, d3, d4] => { results := [.lit (.bool true)], args := [d1, d2, d3, d4] }
  | _ => none }
def recordCutsRow : OpenClaim := { program := "ytmalmklaonainaagreat", sum := "9d0550e13aa7e8ca8344df9764c405acdcc0c5c9068128e8341cb7fef28f1729", func := "vmfleet/vmfleetlaw21.RecordCuts", spec := "recordCuts", inPlace := ["internal/abi.NoEscape", "internal/bytealg.MakeNoZero"], unfollowed := true, recurses := true, apart := false }
def RecordCutsSaid : Prop := recordCutsRow.holds Tryz.pinned (OpenSpec.ofChange recordCutsSpec)

/-- ITS FALSE NEIGHBOUR: 'it returns false'. Refute it at one input. -/
def recordCutsWrong : ChangeSpec := { name := "recordCuts", fn := fun _ => fun
  | [d1, d2, d3, d4] => { results := [.lit (.bool false)], args := [d1, d2, d3, d4] }
  | _ => none }
def RecordCutsWrongFalsely : Prop := recordCutsRow.holds Tryz.pinned (OpenSpec.ofChange recordCutsWrong)

/-- 'vmfleetlaw22.ReplayTells': WHATEVER THE INPUT: true; the input reads as it did. -/
def replayTellsSpec : ChangeSpec := { name := "replayTells", fn := fun _ => fun
  | [d1, d2, d3, d4, d5, d6, d7, d8, d9, d10, d11] => { results := [.lit (.bool true)], args := [d1, d2, d3, d4, d5, d6, d7, d8, d9, d10, d11] }
  | _ => none }
def replayTellsRow : OpenClaim := { program := "ytmalmklaonainaagreat", sum := "9d0550e13aa7e8ca8344df9764c405acdcc0c5c9068128e8341cb7fef28f1729", func := "vmfleet/vmfleetlaw22.ReplayTells", spec := "replayTells", inPlace := ["internal/abi.NoEscape", "internal/bytealg.MakeNoZero"], unfollowed := true, recurses := true, apart := false }
def ReplayTellsSaid : Prop := replayTellsRow.holds Tryz.pinned (OpenSpec.ofChange replayTellsSpec)

/-- ITS FALSE NEIGHBOUR: 'it returns false'. Refute it at one input. -/
def replayTellsWrong : ChangeSpec := { name := "replayTells", fn := fun _ => fun
  | [d1, d2, d3, d4, d5, d6, d7, d8, d9, d10, d11] => { results := [.lit (.bool false)], args := [d1, d2, d3, d4, d5, d6, d7, d8, d9, d10, d11] }
  | _ => none }
def ReplayTellsWrongFalsely : Prop := replayTellsRow.holds Tryz.pinned (OpenSpec.ofChange replayTellsWrong)

/-- 'vmfleetlaw22.ReplayPieces': WHATEVER THE INPUT: true; the input reads as it did. -/
def replayPiecesSpec : ChangeSpec := { name := "replayPieces", fn := fun _ => fun
  | [d1, d2, d3, d4, d5] => { results := [.lit (.bool true)], args := [d1, d2, d3, d4, d5] }
  | _ => none }
def replayPiecesRow : OpenClaim := { program := "ytmalmklaonainaagreat", sum := "9d0550e13aa7e8ca8344df9764c405acdcc0c5c9068128e8341cb7fef28f1729", func := "vmfleet/vmfleetlaw22.ReplayPieces", spec := "replayPieces", inPlace := ["internal/abi.NoEscape", "internal/bytealg.MakeNoZero"], unfollowed := true, recurses := true, apart := false }
def ReplayPiecesSaid : Prop := replayPiecesRow.holds Tryz.pinned (OpenSpec.ofChange replayPiecesSpec)

/-- ITS FALSE NEIGHBOUR: 'it returns false'. Refute it at one input. -/
def replayPiecesWrong : ChangeSpec := { name := "replayPieces", fn := fun _ => fun
  | [d1, d2, d3, d4, d5] => { results := [.lit (.bool false)], args := [d1, d2, d3, d4, d5] }
  | _ => none }
def ReplayPiecesWrongFalsely : Prop := replayPiecesRow.holds Tryz.pinned (OpenSpec.ofChange replayPiecesWrong)

/-- 'vmfleetlaw22.ReplayStops': WHATEVER THE INPUT: true; the input reads as it did. -/
def replayStopsSpec : ChangeSpec := { name := "replayStops", fn := fun _ => fun
  | [d1, d2, d3, d4, d5, d6] => { results := [.lit (.bool true)], args := [d1, d2, d3, d4, d5, d6] }
  | _ => none }
def replayStopsRow : OpenClaim := { program := "ytmalmklaonainaagreat", sum := "9d0550e13aa7e8ca8344df9764c405acdcc0c5c9068128e8341cb7fef28f1729", func := "vmfleet/vmfleetlaw22.ReplayStops", spec := "replayStops", inPlace := ["internal/abi.NoEscape", "internal/bytealg.MakeNoZero"], unfollowed := true, recurses := true, apart := false }
def ReplayStopsSaid : Prop := replayStopsRow.holds Tryz.pinned (OpenSpec.ofChange replayStopsSpec)

/-- ITS FALSE NEIGHBOUR: 'it returns false'. Refute it at one input. -/
def replayStopsWrong : ChangeSpec := { name := "replayStops", fn := fun _ => fun
  | [d1, d2, d3, d4, d5, d6] => { results := [.lit (.bool false)], args := [d1, d2, d3, d4, d5, d6] }
  | _ => none }
def ReplayStopsWrongFalsely : Prop := replayStopsRow.holds Tryz.pinned (OpenSpec.ofChange replayStopsWrong)

/-- 'vmfleetlaw22.ReplayBounds': WHATEVER THE INPUT: true; the input reads as it did. -/
def replayBoundsSpec : ChangeSpec := { name := "replayBounds", fn := fun _ => fun
  | [d1, d2, d3, d4, d5] => { results := [.lit (.bool true)], args := [d1, d2, d3, d4, d5] }
  | _ => none }
def replayBoundsRow : OpenClaim := { program := "ytmalmklaonainaagreat", sum := "9d0550e13aa7e8ca8344df9764c405acdcc0c5c9068128e8341cb7fef28f1729", func := "vmfleet/vmfleetlaw22.ReplayBounds", spec := "replayBounds", inPlace := ["internal/abi.NoEscape", "internal/bytealg.MakeNoZero"], unfollowed := true, recurses := true, apart := false }
def ReplayBoundsSaid : Prop := replayBoundsRow.holds Tryz.pinned (OpenSpec.ofChange replayBoundsSpec)

/-- ITS FALSE NEIGHBOUR: 'it returns false'. Refute it at one input. -/
def replayBoundsWrong : ChangeSpec := { name := "replayBounds", fn := fun _ => fun
  | [d1, d2, d3, d4, d5] => { results := [.lit (.bool false)], args := [d1, d2, d3, d4, d5] }
  | _ => none }
def ReplayBoundsWrongFalsely : Prop := replayBoundsRow.holds Tryz.pinned (OpenSpec.ofChange replayBoundsWrong)

/-- 'vmfleetlaw22.ReplayRefuses': WHATEVER THE INPUT: true; the input reads as it did. -/
def replayRefusesSpec : ChangeSpec := { name := "replayRefuses", fn := fun _ => fun
  | [d1, d2, d3, d4] => { results := [.lit (.bool true)], args := [d1, d2, d3, d4] }
  | _ => none }
def replayRefusesRow : OpenClaim := { program := "ytmalmklaonainaagreat", sum := "9d0550e13aa7e8ca8344df9764c405acdcc0c5c9068128e8341cb7fef28f1729", func := "vmfleet/vmfleetlaw22.ReplayRefuses", spec := "replayRefuses", inPlace := ["internal/abi.NoEscape", "internal/bytealg.MakeNoZero"], unfollowed := true, recurses := true, apart := false }
def ReplayRefusesSaid : Prop := replayRefusesRow.holds Tryz.pinned (OpenSpec.ofChange replayRefusesSpec)

/-- ITS FALSE NEIGHBOUR: 'it returns false'. Refute it at one input. -/
def replayRefusesWrong : ChangeSpec := { name := "replayRefuses", fn := fun _ => fun
  | [d1, d2, d3, d4] => { results := [.lit (.bool false)], args := [d1, d2, d3, d4] }
  | _ => none }
def ReplayRefusesWrongFalsely : Prop := replayRefusesRow.holds Tryz.pinned (OpenSpec.ofChange replayRefusesWrong)

/-- 'vmfleetlaw22.ReplayFollows': WHATEVER THE INPUT: true; the input reads as it did. -/
def replayFollowsSpec : ChangeSpec := { name := "replayFollows", fn := fun _ => fun
  | [d1, d2, d3, d4] => { results := [.lit (.bool true)], args := [d1, d2, d3, d4] }
  | _ => none }
def replayFollowsRow : OpenClaim := { program := "ytmalmklaonainaagreat", sum := "9d0550e13aa7e8ca8344df9764c405acdcc0c5c9068128e8341cb7fef28f1729", func := "vmfleet/vmfleetlaw22.ReplayFollows", spec := "replayFollows", inPlace := ["internal/abi.NoEscape", "internal/bytealg.MakeNoZero"], unfollowed := true, recurses := true, apart := false }
def ReplayFollowsSaid : Prop := replayFollowsRow.holds Tryz.pinned (OpenSpec.ofChange replayFollowsSpec)

/-- ITS FALSE NEIGHBOUR: 'it returns false'. Refute it at one input. -/
def replayFollowsWrong : ChangeSpec := { name := "replayFollows", fn := fun _ => fun
  | [d1, d2, d3, d4] => { results := [.lit (.bool false)], args := [d1, d2, d3, d4] }
  | _ => none }
def ReplayFollowsWrongFalsely : Prop := replayFollowsRow.holds Tryz.pinned (OpenSpec.ofChange replayFollowsWrong)

/-- 'vmfleetlaw22.ReplayLive': WHATEVER THE INPUT: true; the input reads as it did. -/
def replayLiveSpec : ChangeSpec := { name := "replayLive", fn := fun _ => fun
  | [d1, d2, d3, d4, d5, d6] => { results := [.lit (.bool true)], args := [d1, d2, d3, d4, d5, d6] }
  | _ => none }
def replayLiveRow : OpenClaim := { program := "ytmalmklaonainaagreat", sum := "9d0550e13aa7e8ca8344df9764c405acdcc0c5c9068128e8341cb7fef28f1729", func := "vmfleet/vmfleetlaw22.ReplayLive", spec := "replayLive", inPlace := ["internal/abi.NoEscape", "internal/bytealg.MakeNoZero"], unfollowed := true, recurses := true, apart := false }
def ReplayLiveSaid : Prop := replayLiveRow.holds Tryz.pinned (OpenSpec.ofChange replayLiveSpec)

/-- ITS FALSE NEIGHBOUR: 'it returns false'. Refute it at one input. -/
def replayLiveWrong : ChangeSpec := { name := "replayLive", fn := fun _ => fun
  | [d1, d2, d3, d4, d5, d6] => { results := [.lit (.bool false)], args := [d1, d2, d3, d4, d5, d6] }
  | _ => none }
def ReplayLiveWrongFalsely : Prop := replayLiveRow.holds Tryz.pinned (OpenSpec.ofChange replayLiveWrong)

/- THE SECOND FORM. 'bulk': how many values and letters a reading holds, each counted each time it is reached (what is shared counts as often as it is met; a slice's spare places count too). A statement '..UptoSaid' is the law's where the arguments, and the package variables that the reading takes, are together of bulk at most 1048576: NARROWER than '..Said'. Prove '..Said' where nothing that the law and all that it calls make is longer than what came in: it says more and counts as full. Else prove '..UptoSaid'. A law counts once. -/
mutual
def uptoBulk {H : Type} : DataW H → Nat
  | .lit (.string bytes) => bytes.length + 1
  | .lit _ => 1
  | .nil => 1
  | .ptr d => uptoBulk d + 1
  | .slice elems spare => uptoBulkAll elems + uptoBulkAll spare + 1
  | .agg parts => uptoBulkAll parts + 1
  | .iface _ d => uptoBulk d + 1
  | .map entries => uptoBulkEntries entries + 1
  | .held _ => 1
def uptoBulkAll {H : Type} : List (DataW H) → Nat
  | [] => 0
  | d :: r => uptoBulk d + uptoBulkAll r
def uptoBulkEntries {H : Type} : List (Lit × DataW H) → Nat
  | [] => 0
  | x :: r => uptoBulkEntry x + uptoBulkEntries r
def uptoBulkEntry {H : Type} : Lit × DataW H → Nat
  | (.string bytes, d) => bytes.length + uptoBulk d + 1
  | (_, d) => uptoBulk d + 1
 end
def uptoSmall : (H : Type) → List (DataW H) → Bool := fun _ ds => decide (uptoBulkAll ds ≤ 1048576)
def OpenSpec.upto (s : _root_.Go.ChangeSpec) : _root_.Go.OpenSpec := { _root_.Go.OpenSpec.ofChange s with cond := some uptoSmall }

/-- 'vmfleetlaw12.MachineEncodes', WHERE WHAT IT READS IS OF BULK AT MOST 1048576: true; the input reads as it did. -/
def machineEncodesUptoRow : OpenClaim := { program := "ytmalmklaonainaagreat", sum := "9d0550e13aa7e8ca8344df9764c405acdcc0c5c9068128e8341cb7fef28f1729", func := "vmfleet/vmfleetlaw12.MachineEncodes", spec := "machineEncodes", inPlace := ["internal/abi.NoEscape", "internal/bytealg.MakeNoZero"], recurses := true, apart := false, narrowed := true }
def MachineEncodesUptoSaid : Prop := machineEncodesUptoRow.holds Tryz.pinned (OpenSpec.upto machineEncodesSpec)

/-- 'vmfleetlaw12.MachineTells', WHERE WHAT IT READS IS OF BULK AT MOST 1048576: true; the input reads as it did. -/
def machineTellsUptoRow : OpenClaim := { program := "ytmalmklaonainaagreat", sum := "9d0550e13aa7e8ca8344df9764c405acdcc0c5c9068128e8341cb7fef28f1729", func := "vmfleet/vmfleetlaw12.MachineTells", spec := "machineTells", inPlace := ["internal/abi.NoEscape", "internal/bytealg.MakeNoZero"], recurses := true, apart := false, narrowed := true }
def MachineTellsUptoSaid : Prop := machineTellsUptoRow.holds Tryz.pinned (OpenSpec.upto machineTellsSpec)

/-- 'vmfleetlaw12.MachinePorts', WHERE WHAT IT READS IS OF BULK AT MOST 1048576: true; the input reads as it did. -/
def machinePortsUptoRow : OpenClaim := { program := "ytmalmklaonainaagreat", sum := "9d0550e13aa7e8ca8344df9764c405acdcc0c5c9068128e8341cb7fef28f1729", func := "vmfleet/vmfleetlaw12.MachinePorts", spec := "machinePorts", inPlace := ["internal/abi.NoEscape", "internal/bytealg.MakeNoZero"], unfollowed := true, recurses := true, apart := false, narrowed := true }
def MachinePortsUptoSaid : Prop := machinePortsUptoRow.holds Tryz.pinned (OpenSpec.upto machinePortsSpec)

/-- 'vmfleetlaw30.PrecopyCopies', WHERE WHAT IT READS IS OF BULK AT MOST 1048576: true; the input reads as it did. -/
def precopyCopiesUptoRow : OpenClaim := { program := "ytmalmklaonainaagreat", sum := "9d0550e13aa7e8ca8344df9764c405acdcc0c5c9068128e8341cb7fef28f1729", func := "vmfleet/vmfleetlaw30.PrecopyCopies", spec := "precopyCopies", inPlace := ["internal/abi.NoEscape", "internal/bytealg.MakeNoZero"], unfollowed := true, recurses := true, apart := false, narrowed := true }
def PrecopyCopiesUptoSaid : Prop := precopyCopiesUptoRow.holds Tryz.pinned (OpenSpec.upto precopyCopiesSpec)

/-- 'vmfleetlaw21.RecordCuts', WHERE WHAT IT READS IS OF BULK AT MOST 1048576: true; the input reads as it did. -/
def recordCutsUptoRow : OpenClaim := { program := "ytmalmklaonainaagreat", sum := "9d0550e13aa7e8ca8344df9764c405acdcc0c5c9068128e8341cb7fef28f1729", func := "vmfleet/vmfleetlaw21.RecordCuts", spec := "recordCuts", inPlace := ["internal/abi.NoEscape", "internal/bytealg.MakeNoZero"], unfollowed := true, recurses := true, apart := false, narrowed := true }
def RecordCutsUptoSaid : Prop := recordCutsUptoRow.holds Tryz.pinned (OpenSpec.upto recordCutsSpec)

/-- 'vmfleetlaw22.ReplayTells', WHERE WHAT IT READS IS OF BULK AT MOST 1048576: true; the input reads as it did. -/
def replayTellsUptoRow : OpenClaim := { program := "ytmalmklaonainaagreat", sum := "9d0550e13aa7e8ca8344df9764c405acdcc0c5c9068128e8341cb7fef28f1729", func := "vmfleet/vmfleetlaw22.ReplayTells", spec := "replayTells", inPlace := ["internal/abi.NoEscape", "internal/bytealg.MakeNoZero"], unfollowed := true, recurses := true, apart := false, narrowed := true }
def ReplayTellsUptoSaid : Prop := replayTellsUptoRow.holds Tryz.pinned (OpenSpec.upto replayTellsSpec)

/-- 'vmfleetlaw22.ReplayPieces', WHERE WHAT IT READS IS OF BULK AT MOST 1048576: true; the input reads as it did. -/
def replayPiecesUptoRow : OpenClaim := { program := "ytmalmklaonainaagreat", sum := "9d0550e13aa7e8ca8344df9764c405acdcc0c5c9068128e8341cb7fef28f1729", func := "vmfleet/vmfleetlaw22.ReplayPieces", spec := "replayPieces", inPlace := ["internal/abi.NoEscape", "internal/bytealg.MakeNoZero"], unfollowed := true, recurses := true, apart := false, narrowed := true }
def ReplayPiecesUptoSaid : Prop := replayPiecesUptoRow.holds Tryz.pinned (OpenSpec.upto replayPiecesSpec)

/-- 'vmfleetlaw22.ReplayStops', WHERE WHAT IT READS IS OF BULK AT MOST 1048576: true; the input reads as it did. -/
def replayStopsUptoRow : OpenClaim := { program := "ytmalmklaonainaagreat", sum := "9d0550e13aa7e8ca8344df9764c405acdcc0c5c9068128e8341cb7fef28f1729", func := "vmfleet/vmfleetlaw22.ReplayStops", spec := "replayStops", inPlace := ["internal/abi.NoEscape", "internal/bytealg.MakeNoZero"], unfollowed := true, recurses := true, apart := false, narrowed := true }
def ReplayStopsUptoSaid : Prop := replayStopsUptoRow.holds Tryz.pinned (OpenSpec.upto replayStopsSpec)

/-- 'vmfleetlaw22.ReplayBounds', WHERE WHAT IT READS IS OF BULK AT MOST 1048576: true; the input reads as it did. -/
def replayBoundsUptoRow : OpenClaim := { program := "ytmalmklaonainaagreat", sum := "9d0550e13aa7e8ca8344df9764c405acdcc0c5c9068128e8341cb7fef28f1729", func := "vmfleet/vmfleetlaw22.ReplayBounds", spec := "replayBounds", inPlace := ["internal/abi.NoEscape", "internal/bytealg.MakeNoZero"], unfollowed := true, recurses := true, apart := false, narrowed := true }
def ReplayBoundsUptoSaid : Prop := replayBoundsUptoRow.holds Tryz.pinned (OpenSpec.upto replayBoundsSpec)

/-- 'vmfleetlaw22.ReplayRefuses', WHERE WHAT IT READS IS OF BULK AT MOST 1048576: true; the input reads as it did. -/
def replayRefusesUptoRow : OpenClaim := { program := "ytmalmklaonainaagreat", sum := "9d0550e13aa7e8ca8344df9764c405acdcc0c5c9068128e8341cb7fef28f1729", func := "vmfleet/vmfleetlaw22.ReplayRefuses", spec := "replayRefuses", inPlace := ["internal/abi.NoEscape", "internal/bytealg.MakeNoZero"], unfollowed := true, recurses := true, apart := false, narrowed := true }
def ReplayRefusesUptoSaid : Prop := replayRefusesUptoRow.holds Tryz.pinned (OpenSpec.upto replayRefusesSpec)

/-- 'vmfleetlaw22.ReplayFollows', WHERE WHAT IT READS IS OF BULK AT MOST 1048576: true; the input reads as it did. -/
def replayFollowsUptoRow : OpenClaim := { program := "ytmalmklaonainaagreat", sum := "9d0550e13aa7e8ca8344df9764c405acdcc0c5c9068128e8341cb7fef28f1729", func := "vmfleet/vmfleetlaw22.ReplayFollows", spec := "replayFollows", inPlace := ["internal/abi.NoEscape", "internal/bytealg.MakeNoZero"], unfollowed := true, recurses := true, apart := false, narrowed := true }
def ReplayFollowsUptoSaid : Prop := replayFollowsUptoRow.holds Tryz.pinned (OpenSpec.upto replayFollowsSpec)

/-- 'vmfleetlaw22.ReplayLive', WHERE WHAT IT READS IS OF BULK AT MOST 1048576: true; the input reads as it did. -/
def replayLiveUptoRow : OpenClaim := { program := "ytmalmklaonainaagreat", sum := "9d0550e13aa7e8ca8344df9764c405acdcc0c5c9068128e8341cb7fef28f1729", func := "vmfleet/vmfleetlaw22.ReplayLive", spec := "replayLive", inPlace := ["internal/abi.NoEscape", "internal/bytealg.MakeNoZero"], unfollowed := true, recurses := true, apart := false, narrowed := true }
def ReplayLiveUptoSaid : Prop := replayLiveUptoRow.holds Tryz.pinned (OpenSpec.upto replayLiveSpec)

end Rows
end Go.Proofs.YtmalmklaonainaaGreat

/-
  No cell of these rows narrows 'for every input' (looked for: loops, veiled, ifaces, maps, wideKeys, modest, calm, conditions, laid).
  DERIVED. THE GIVEN ROWS OF THIS SEAT. 11 by the template 'for every input the law returns true; each argument reads behind the call as it read before'; 0 by the template 'total and deterministic' (their statements: YtjaifpiopmhmlaaGreatTotals.lean).
  GIVEN WITH THE SEED: the statements are not yours to turn. If you find one false, say at which input.
  Laid BY PROGRAM, IN A SANDBOX (cutbox-rows.mjs): the forced cells as the released guide's own fill.sh prints them over the translation 78cc306fa6223fe7… (all of the seat's roots in one cut). By AI agents, Wed Nov 11 2026. No macro, syntax, notation, axiom, sorry.
-/
import Derived.Test.YtjaifpiopmhmlaaGreatChecked
import GoSem.Claim
import GoSem.ClaimJoined
import GoSem.ClaimMapViews
import Derived.JoinedTies
import Derived.KernelRfl
namespace Go.Proofs.YtjaifpiopmhmlaaGreat
/- THE CELL 'sum', in the pinned program and in every row, IS THE sha256 OF THE DUMP (.gsa) THAT YtjaifpiopmhmlaaGreatProg.lean LOADS. Nothing in Lean hashes anything: it is a label: what it is worth is what the hold of that sum in a sandbox is worth. -/
noncomputable def Tryz.pinned : Pinned := { name := "ytjaifpiopmhmlaagreat", sum := "78cc306fa6223fe7adb6173ff82ae0c6f886b4216855f169251de854e3043ded", checked := Tryz.checked }
namespace Rows
def none {H : Type} : Left H := { results := [], args := [] }

/-- 'vmfleetlaw13.BareRuns': WHATEVER THE INPUT: true; the input reads as it did. -/
def bareRunsSpec : ChangeSpec := { name := "bareRuns", fn := fun _ => fun
  | [d1, d2, d3, d4, d5, d6, d7, d8, d9, d10, d11, d12] => { results := [.lit (.bool true)], args := [d1, d2, d3, d4, d5, d6, d7, d8, d9, d10, d11, d12] }
  | _ => none }
def bareRunsRow : OpenClaim := { program := "ytjaifpiopmhmlaagreat", sum := "78cc306fa6223fe7adb6173ff82ae0c6f886b4216855f169251de854e3043ded", func := "vmfleet/vmfleetlaw13.BareRuns", spec := "bareRuns", inPlace := ["internal/abi.NoEscape", "internal/bytealg.MakeNoZero"], recurses := true, apart := false }
def BareRunsSaid : Prop := bareRunsRow.holds Tryz.pinned (OpenSpec.ofChange bareRunsSpec)

/-- ITS FALSE NEIGHBOUR: 'it returns false'. Refute it at one input. -/
def bareRunsWrong : ChangeSpec := { name := "bareRuns", fn := fun _ => fun
  | [d1, d2, d3, d4, d5, d6, d7, d8, d9, d10, d11, d12] => { results := [.lit (.bool false)], args := [d1, d2, d3, d4, d5, d6, d7, d8, d9, d10, d11, d12] }
  | _ => none }
def BareRunsWrongFalsely : Prop := bareRunsRow.holds Tryz.pinned (OpenSpec.ofChange bareRunsWrong)

/-- 'vmfleetlaw13.BareSplits': WHATEVER THE INPUT: true; the input reads as it did. -/
def bareSplitsSpec : ChangeSpec := { name := "bareSplits", fn := fun _ => fun
  | [d1, d2, d3, d4] => { results := [.lit (.bool true)], args := [d1, d2, d3, d4] }
  | _ => none }
def bareSplitsRow : OpenClaim := { program := "ytjaifpiopmhmlaagreat", sum := "78cc306fa6223fe7adb6173ff82ae0c6f886b4216855f169251de854e3043ded", func := "vmfleet/vmfleetlaw13.BareSplits", spec := "bareSplits", inPlace := ["internal/abi.NoEscape", "internal/bytealg.MakeNoZero"], recurses := true, apart := false }
def BareSplitsSaid : Prop := bareSplitsRow.holds Tryz.pinned (OpenSpec.ofChange bareSplitsSpec)

/-- ITS FALSE NEIGHBOUR: 'it returns false'. Refute it at one input. -/
def bareSplitsWrong : ChangeSpec := { name := "bareSplits", fn := fun _ => fun
  | [d1, d2, d3, d4] => { results := [.lit (.bool false)], args := [d1, d2, d3, d4] }
  | _ => none }
def BareSplitsWrongFalsely : Prop := bareSplitsRow.holds Tryz.pinned (OpenSpec.ofChange bareSplitsWrong)

/-- 'vmfleetlaw13.BarePositions': WHATEVER THE INPUT: true; the input reads as it did. -/
def barePositionsSpec : ChangeSpec := { name := "barePositions", fn := fun _ => fun
  | [d1, d2, d3] => { results := [.lit (.bool true)], args := [d1, d2, d3] }
  | _ => none }
def barePositionsRow : OpenClaim := { program := "ytjaifpiopmhmlaagreat", sum := "78cc306fa6223fe7adb6173ff82ae0c6f886b4216855f169251de854e3043ded", func := "vmfleet/vmfleetlaw13.BarePositions", spec := "barePositions", inPlace := ["internal/abi.NoEscape", "internal/bytealg.MakeNoZero"], recurses := true, apart := false }
def BarePositionsSaid : Prop := barePositionsRow.holds Tryz.pinned (OpenSpec.ofChange barePositionsSpec)

/-- ITS FALSE NEIGHBOUR: 'it returns false'. Refute it at one input. -/
def barePositionsWrong : ChangeSpec := { name := "barePositions", fn := fun _ => fun
  | [d1, d2, d3] => { results := [.lit (.bool false)], args := [d1, d2, d3] }
  | _ => none }
def BarePositionsWrongFalsely : Prop := barePositionsRow.holds Tryz.pinned (OpenSpec.ofChange barePositionsWrong)

/-- 'vmfleetlaw13.BareDrivers': WHATEVER THE INPUT: true; the input reads as it did. -/
def bareDriversSpec : ChangeSpec := { name := "bareDrivers", fn := fun _ => fun
  | [d1, d2] => { results := [.lit (.bool true)], args := [d1, d2] }
  | _ => none }
def bareDriversRow : OpenClaim := { program := "ytjaifpiopmhmlaagreat", sum := "78cc306fa6223fe7adb6173ff82ae0c6f886b4216855f169251de854e3043ded", func := "vmfleet/vmfleetlaw13.BareDrivers", spec := "bareDrivers", inPlace := ["internal/abi.NoEscape", "internal/bytealg.MakeNoZero"], recurses := true, apart := false }
def BareDriversSaid : Prop := bareDriversRow.holds Tryz.pinned (OpenSpec.ofChange bareDriversSpec)

/-- ITS FALSE NEIGHBOUR: 'it returns false'. Refute it at one input. -/
def bareDriversWrong : ChangeSpec := { name := "bareDrivers", fn := fun _ => fun
  | [d1, d2] => { results := [.lit (.bool false)], args := [d1, d2] }
  | _ => none }
def BareDriversWrongFalsely : Prop := bareDriversRow.holds Tryz.pinned (OpenSpec.ofChange bareDriversWrong)

/-- 'vmfleetlaw13.BareIgnores': WHATEVER THE INPUT: true; the input reads as it did. -/
def bareIgnoresSpec : ChangeSpec := { name := "bareIgnores", fn := fun _ => fun
  | [d1, d2, d3, d4] => { results := [.lit (.bool true)], args := [d1, d2, d3, d4] }
  | _ => none }
def bareIgnoresRow : OpenClaim := { program := "ytjaifpiopmhmlaagreat", sum := "78cc306fa6223fe7adb6173ff82ae0c6f886b4216855f169251de854e3043ded", func := "vmfleet/vmfleetlaw13.BareIgnores", spec := "bareIgnores", inPlace := ["internal/abi.NoEscape", "internal/bytealg.MakeNoZero"], recurses := true, apart := false }
def BareIgnoresSaid : Prop := bareIgnoresRow.holds Tryz.pinned (OpenSpec.ofChange bareIgnoresSpec)

/-- ITS FALSE NEIGHBOUR: 'it returns false'. Refute it at one input. -/
def bareIgnoresWrong : ChangeSpec := { name := "bareIgnores", fn := fun _ => fun
  | [d1, d2, d3, d4] => { results := [.lit (.bool false)], args := [d1, d2, d3, d4] }
  | _ => none }
def BareIgnoresWrongFalsely : Prop := bareIgnoresRow.holds Tryz.pinned (OpenSpec.ofChange bareIgnoresWrong)

/-- 'vmfleetlaw13.BareWaits': WHATEVER THE INPUT: true; the input reads as it did. -/
def bareWaitsSpec : ChangeSpec := { name := "bareWaits", fn := fun _ => fun
  | [d1, d2] => { results := [.lit (.bool true)], args := [d1, d2] }
  | _ => none }
def bareWaitsRow : OpenClaim := { program := "ytjaifpiopmhmlaagreat", sum := "78cc306fa6223fe7adb6173ff82ae0c6f886b4216855f169251de854e3043ded", func := "vmfleet/vmfleetlaw13.BareWaits", spec := "bareWaits", inPlace := ["internal/abi.NoEscape", "internal/bytealg.MakeNoZero"], recurses := true, apart := false }
def BareWaitsSaid : Prop := bareWaitsRow.holds Tryz.pinned (OpenSpec.ofChange bareWaitsSpec)

/-- ITS FALSE NEIGHBOUR: 'it returns false'. Refute it at one input. -/
def bareWaitsWrong : ChangeSpec := { name := "bareWaits", fn := fun _ => fun
  | [d1, d2] => { results := [.lit (.bool false)], args := [d1, d2] }
  | _ => none }
def BareWaitsWrongFalsely : Prop := bareWaitsRow.holds Tryz.pinned (OpenSpec.ofChange bareWaitsWrong)

/-- 'vmfleetlaw13.BareClock': WHATEVER THE INPUT: true; the input reads as it did. -/
def bareClockSpec : ChangeSpec := { name := "bareClock", fn := fun _ => fun
  | [d1, d2] => { results := [.lit (.bool true)], args := [d1, d2] }
  | _ => none }
def bareClockRow : OpenClaim := { program := "ytjaifpiopmhmlaagreat", sum := "78cc306fa6223fe7adb6173ff82ae0c6f886b4216855f169251de854e3043ded", func := "vmfleet/vmfleetlaw13.BareClock", spec := "bareClock", inPlace := ["internal/abi.NoEscape", "internal/bytealg.MakeNoZero"], recurses := true, apart := false }
def BareClockSaid : Prop := bareClockRow.holds Tryz.pinned (OpenSpec.ofChange bareClockSpec)

/-- ITS FALSE NEIGHBOUR: 'it returns false'. Refute it at one input. -/
def bareClockWrong : ChangeSpec := { name := "bareClock", fn := fun _ => fun
  | [d1, d2] => { results := [.lit (.bool false)], args := [d1, d2] }
  | _ => none }
def BareClockWrongFalsely : Prop := bareClockRow.holds Tryz.pinned (OpenSpec.ofChange bareClockWrong)

/-- 'vmfleetlaw13.BareSees': WHATEVER THE INPUT: true; the input reads as it did. -/
def bareSeesSpec : ChangeSpec := { name := "bareSees", fn := fun _ => fun
  | [d1, d2, d3, d4, d5, d6] => { results := [.lit (.bool true)], args := [d1, d2, d3, d4, d5, d6] }
  | _ => none }
def bareSeesRow : OpenClaim := { program := "ytjaifpiopmhmlaagreat", sum := "78cc306fa6223fe7adb6173ff82ae0c6f886b4216855f169251de854e3043ded", func := "vmfleet/vmfleetlaw13.BareSees", spec := "bareSees", inPlace := ["internal/abi.NoEscape", "internal/bytealg.MakeNoZero"], recurses := true, apart := false }
def BareSeesSaid : Prop := bareSeesRow.holds Tryz.pinned (OpenSpec.ofChange bareSeesSpec)

/-- ITS FALSE NEIGHBOUR: 'it returns false'. Refute it at one input. -/
def bareSeesWrong : ChangeSpec := { name := "bareSees", fn := fun _ => fun
  | [d1, d2, d3, d4, d5, d6] => { results := [.lit (.bool false)], args := [d1, d2, d3, d4, d5, d6] }
  | _ => none }
def BareSeesWrongFalsely : Prop := bareSeesRow.holds Tryz.pinned (OpenSpec.ofChange bareSeesWrong)

/-- 'vmfleetlaw12.MachineEncodes': WHATEVER THE INPUT: true; the input reads as it did. -/
def machineEncodesSpec : ChangeSpec := { name := "machineEncodes", fn := fun _ => fun
  | [d1, d2, d3, d4, d5, d6, d7] => { results := [.lit (.bool true)], args := [d1, d2, d3, d4, d5, d6, d7] }
  | _ => none }
def machineEncodesRow : OpenClaim := { program := "ytjaifpiopmhmlaagreat", sum := "78cc306fa6223fe7adb6173ff82ae0c6f886b4216855f169251de854e3043ded", func := "vmfleet/vmfleetlaw12.MachineEncodes", spec := "machineEncodes", inPlace := ["internal/abi.NoEscape", "internal/bytealg.MakeNoZero"], recurses := true, apart := false }
def MachineEncodesSaid : Prop := machineEncodesRow.holds Tryz.pinned (OpenSpec.ofChange machineEncodesSpec)

/-- ITS FALSE NEIGHBOUR: 'it returns false'. Refute it at one input. -/
def machineEncodesWrong : ChangeSpec := { name := "machineEncodes", fn := fun _ => fun
  | [d1, d2, d3, d4, d5, d6, d7] => { results := [.lit (.bool false)], args := [d1, d2, d3, d4, d5, d6, d7] }
  | _ => none }
def MachineEncodesWrongFalsely : Prop := machineEncodesRow.holds Tryz.pinned (OpenSpec.ofChange machineEncodesWrong)

/-- 'vmfleetlaw12.MachineTells': WHATEVER THE INPUT: true; the input reads as it did. -/
def machineTellsSpec : ChangeSpec := { name := "machineTells", fn := fun _ => fun
  | [d1, d2, d3, d4, d5, d6, d7] => { results := [.lit (.bool true)], args := [d1, d2, d3, d4, d5, d6, d7] }
  | _ => none }
def machineTellsRow : OpenClaim := { program := "ytjaifpiopmhmlaagreat", sum := "78cc306fa6223fe7adb6173ff82ae0c6f886b4216855f169251de854e3043ded", func := "vmfleet/vmfleetlaw12.MachineTells", spec := "machineTells", inPlace := ["internal/abi.NoEscape", "internal/bytealg.MakeNoZero"], recurses := true, apart := false }
def MachineTellsSaid : Prop := machineTellsRow.holds Tryz.pinned (OpenSpec.ofChange machineTellsSpec)

/-- ITS FALSE NEIGHBOUR: 'it returns false'. Refute it at one input. -/
def machineTellsWrong : ChangeSpec := { name := "machineTells", fn := fun _ => fun
  | [d1, d2, d3, d4, d5, d6, d7] => { results := [.lit (.bool false)], args := [d1, d2, d3, d4, d5, d6, d7] }
  | _ => none }
def MachineTellsWrongFalsely : Prop := machineTellsRow.holds Tryz.pinned (OpenSpec.ofChange machineTellsWrong)

/-- 'vmfleetlaw12.MachinePorts': WHATEVER THE INPUT: true; the input reads as it did. -/
def machinePortsSpec : ChangeSpec := { name := "machinePorts", fn := fun _ => fun
  | [d1, d2] => { results := [.lit (.bool true)], args := [d1, d2] }
  | _ => none }
def machinePortsRow : OpenClaim := { program := "ytjaifpiopmhmlaagreat", sum := "78cc306fa6223fe7adb6173ff82ae0c6f886b4216855f169251de854e3043ded", func := "vmfleet/vmfleetlaw12.MachinePorts", spec := "machinePorts", inPlace := ["internal/abi.NoEscape", "internal/bytealg.MakeNoZero"], unfollowed := true, recurses := true, apart := false }
def MachinePortsSaid : Prop := machinePortsRow.holds Tryz.pinned (OpenSpec.ofChange machinePortsSpec)

/-- ITS FALSE NEIGHBOUR: 'it returns false'. Refute it at one input. -/
def machinePortsWrong : ChangeSpec := { name := "machinePorts", fn := fun _ => fun
  | [d1, d2] => { results := [.lit (.bool false)], args := [d1, d2] }
  | _ => none }
def MachinePortsWrongFalsely : Prop := machinePortsRow.holds Tryz.pinned (OpenSpec.ofChange machinePortsWrong)

/- THE SECOND FORM. 'bulk': how many values and letters a reading holds, each counted each time it is reached (what is shared counts as often as it is met; a slice's spare places count too). A statement '..UptoSaid' is the law's where the arguments, and the package variables that the reading takes, are together of bulk at most 1048576: NARROWER than '..Said'. Prove '..Said' where nothing that the law and all that it calls make is longer than what came in: it says more and counts as full. Else prove '..UptoSaid'. A law counts once. -/
mutual
def uptoBulk {H : Type} : DataW H → Nat
  | .lit (.string bytes) => bytes.length + 1
  | .lit _ => 1
  | .nil => 1
  | .ptr d => uptoBulk d + 1
  | .slice elems spare => uptoBulkAll elems + uptoBulkAll spare + 1
  | .agg parts => uptoBulkAll parts + 1
  | .iface _ d => uptoBulk d + 1
  | .map entries => uptoBulkEntries entries + 1
  | .held _ => 1
def uptoBulkAll {H : Type} : List (DataW H) → Nat
  | [] => 0
  | d :: r => uptoBulk d + uptoBulkAll r
def uptoBulkEntries {H : Type} : List (Lit × DataW H) → Nat
  | [] => 0
  | x :: r => uptoBulkEntry x + uptoBulkEntries r
def uptoBulkEntry {H : Type} : Lit × DataW H → Nat
  | (.string bytes, d) => bytes.length + uptoBulk d + 1
  | (_, d) => uptoBulk d + 1
 end
def uptoSmall : (H : Type) → List (DataW H) → Bool := fun _ ds => decide (uptoBulkAll ds ≤ 1048576)
def OpenSpec.upto (s : _root_.Go.ChangeSpec) : _root_.Go.OpenSpec := { _root_.Go.OpenSpec.ofChange s with cond := some uptoSmall }

/-- 'vmfleetlaw13.BareRuns', WHERE WHAT IT READS IS OF BULK AT MOST 1048576: true; the input reads as it did. -/
def bareRunsUptoRow : OpenClaim := { program := "ytjaifpiopmhmlaagreat", sum := "78cc306fa6223fe7adb6173ff82ae0c6f886b4216855f169251de854e3043ded", func := "vmfleet/vmfleetlaw13.BareRuns", spec := "bareRuns", inPlace := ["internal/abi.NoEscape", "internal/bytealg.MakeNoZero"], recurses := true, apart := false, narrowed := true }
def BareRunsUptoSaid : Prop := bareRunsUptoRow.holds Tryz.pinned (OpenSpec.upto bareRunsSpec)

/-- 'vmfleetlaw13.BareSplits', WHERE WHAT IT READS IS OF BULK AT MOST 1048576: true; the input reads as it did. -/
def bareSplitsUptoRow : OpenClaim := { program := "ytjaifpiopmhmlaagreat", sum := "78cc306fa6223fe7adb6173ff82ae0c6f886b4216855f169251de854e3043ded", func := "vmfleet/vmfleetlaw13.BareSplits", spec := "bareSplits", inPlace := ["internal/abi.NoEscape", "internal/bytealg.MakeNoZero"], recurses := true, apart := false, narrowed := true }
def BareSplitsUptoSaid : Prop := bareSplitsUptoRow.holds Tryz.pinned (OpenSpec.upto bareSplitsSpec)

/-- 'vmfleetlaw13.BarePositions', WHERE WHAT IT READS IS OF BULK AT MOST 1048576: true; the input reads as it did. -/
def barePositionsUptoRow : OpenClaim := { program := "ytjaifpiopmhmlaagreat", sum := "78cc306fa6223fe7adb6173ff82ae0c6f886b4216855f169251de854e3043ded", func := "vmfleet/vmfleetlaw13.BarePositions", spec := "barePositions", inPlace := ["internal/abi.NoEscape", "internal/bytealg.MakeNoZero"], recurses := true, apart := false, narrowed := true }
def BarePositionsUptoSaid : Prop := barePositionsUptoRow.holds Tryz.pinned (OpenSpec.upto barePositionsSpec)

/-- 'vmfleetlaw13.BareDrivers', WHERE WHAT IT READS IS OF BULK AT MOST 1048576: true; the input reads as it did. -/
def bareDriversUptoRow : OpenClaim := { program := "ytjaifpiopmhmlaagreat", sum := "78cc306fa6223fe7adb6173ff82ae0c6f886b4216855f169251de854e3043ded", func := "vmfleet/vmfleetlaw13.BareDrivers", spec := "bareDrivers", inPlace := ["internal/abi.NoEscape", "internal/bytealg.MakeNoZero"], recurses := true, apart := false, narrowed := true }
def BareDriversUptoSaid : Prop := bareDriversUptoRow.holds Tryz.pinned (OpenSpec.upto bareDriversSpec)

/-- 'vmfleetlaw13.BareIgnores', WHERE WHAT IT READS IS OF BULK AT MOST 1048576: true; the input reads as it did. -/
def bareIgnoresUptoRow : OpenClaim := { program := "ytjaifpiopmhmlaagreat", sum := "78cc306fa6223fe7adb6173ff82ae0c6f886b4216855f169251de854e3043ded", func := "vmfleet/vmfleetlaw13.BareIgnores", spec := "bareIgnores", inPlace := ["internal/abi.NoEscape", "internal/bytealg.MakeNoZero"], recurses := true, apart := false, narrowed := true }
def BareIgnoresUptoSaid : Prop := bareIgnoresUptoRow.holds Tryz.pinned (OpenSpec.upto bareIgnoresSpec)

/-- 'vmfleetlaw13.BareWaits', WHERE WHAT IT READS IS OF BULK AT MOST 1048576: true; the input reads as it did. -/
def bareWaitsUptoRow : OpenClaim := { program := "ytjaifpiopmhmlaagreat", sum := "78cc306fa6223fe7adb6173ff82ae0c6f886b4216855f169251de854e3043ded", func := "vmfleet/vmfleetlaw13.BareWaits", spec := "bareWaits", inPlace := ["internal/abi.NoEscape", "internal/bytealg.MakeNoZero"], recurses := true, apart := false, narrowed := true }
def BareWaitsUptoSaid : Prop := bareWaitsUptoRow.holds Tryz.pinned (OpenSpec.upto bareWaitsSpec)

/-- 'vmfleetlaw13.BareClock', WHERE WHAT IT READS IS OF BULK AT MOST 1048576: true; the input reads as it did. -/
def bareClockUptoRow : OpenClaim := { program := "ytjaifpiopmhmlaagreat", sum := "78cc306fa6223fe7adb6173ff82ae0c6f886b4216855f169251de854e3043ded", func := "vmfleet/vmfleetlaw13.BareClock", spec := "bareClock", inPlace := ["internal/abi.NoEscape", "internal/bytealg.MakeNoZero"], recurses := true, apart := false, narrowed := true }
def BareClockUptoSaid : Prop := bareClockUptoRow.holds Tryz.pinned (OpenSpec.upto bareClockSpec)

/-- 'vmfleetlaw13.BareSees', WHERE WHAT IT READS IS OF BULK AT MOST 1048576: true; the input reads as it did. -/
def bareSeesUptoRow : OpenClaim := { program := "ytjaifpiopmhmlaagreat", sum := "78cc306fa6223fe7adb6173ff82ae0c6f886b4216855f169251de854e3043ded", func := "vmfleet/vmfleetlaw13.BareSees", spec := "bareSees", inPlace := ["internal/abi.NoEscape", "internal/bytealg.MakeNoZero"], recurses := true, apart := false, narrowed := true }
def BareSeesUptoSaid : Prop := bareSeesUptoRow.holds Tryz.pinned (OpenSpec.upto bareSeesSpec)

/-- 'vmfleetlaw12.MachineEncodes', WHERE WHAT IT READS IS OF BULK AT MOST 1048576: true; the input reads as it did. -/
def machineEncodesUptoRow : OpenClaim := { program := "ytjaifpiopmhmlaagreat", sum := "78cc306fa6223fe7adb6173ff82ae0c6f886b4216855f169251de854e3043ded", func := "vmfleet/vmfleetlaw12.MachineEncodes", spec := "machineEncodes", inPlace := ["internal/abi.NoEscape", "internal/bytealg.MakeNoZero"], recurses := true, apart := false, narrowed := true }
def MachineEncodesUptoSaid : Prop := machineEncodesUptoRow.holds Tryz.pinned (OpenSpec.upto machineEncodesSpec)

/-- 'vmfleetlaw12.MachineTells', WHERE WHAT IT READS IS OF BULK AT MOST 1048576: true; the input reads as it did. -/
def machineTellsUptoRow : OpenClaim := { program := "ytjaifpiopmhmlaagreat", sum := "78cc306fa6223fe7adb6173ff82ae0c6f886b4216855f169251de854e3043ded", func := "vmfleet/vmfleetlaw12.MachineTells", spec := "machineTells", inPlace := ["internal/abi.NoEscape", "internal/bytealg.MakeNoZero"], recurses := true, apart := false, narrowed := true }
def MachineTellsUptoSaid : Prop := machineTellsUptoRow.holds Tryz.pinned (OpenSpec.upto machineTellsSpec)

/-- 'vmfleetlaw12.MachinePorts', WHERE WHAT IT READS IS OF BULK AT MOST 1048576: true; the input reads as it did. -/
def machinePortsUptoRow : OpenClaim := { program := "ytjaifpiopmhmlaagreat", sum := "78cc306fa6223fe7adb6173ff82ae0c6f886b4216855f169251de854e3043ded", func := "vmfleet/vmfleetlaw12.MachinePorts", spec := "machinePorts", inPlace := ["internal/abi.NoEscape", "internal/bytealg.MakeNoZero"], unfollowed := true, recurses := true, apart := false, narrowed := true }
def MachinePortsUptoSaid : Prop := machinePortsUptoRow.holds Tryz.pinned (OpenSpec.upto machinePortsSpec)

end Rows
end Go.Proofs.YtjaifpiopmhmlaaGreat

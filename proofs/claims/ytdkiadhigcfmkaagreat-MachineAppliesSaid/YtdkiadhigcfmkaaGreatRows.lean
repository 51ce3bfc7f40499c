/-
  No cell of these rows narrows 'for every input' (looked for: loops, veiled, ifaces, maps, wideKeys, modest, calm, conditions, laid).
  DERIVED. THE GIVEN ROWS OF THIS SEAT. 12 by the template 'for every input the law returns true; each argument reads behind the call as it read before'; 0 by the template 'total and deterministic' (their statements: YtdkiadhigcfmkaaGreatTotals.lean).
  GIVEN WITH THE SEED: the statements are not yours to turn. If you find one false, say at which input.
  Laid BY PROGRAM, IN A SANDBOX (cutbox-rows.mjs): the forced cells as the released guide's own fill.sh prints them over the translation da570afb6add80f1… (all of the seat's roots in one cut). By AI agents, Wed Nov 11 2026. No macro, syntax, notation, axiom, sorry.
-/
import Derived.Test.YtdkiadhigcfmkaaGreatChecked
import GoSem.Claim
import GoSem.ClaimJoined
import GoSem.ClaimMapViews
import Derived.JoinedTies
import Derived.KernelRfl
namespace Go.Proofs.YtdkiadhigcfmkaaGreat
/- THE CELL 'sum', in the pinned program and in every row, IS THE sha256 OF THE DUMP (.gsa) THAT YtdkiadhigcfmkaaGreatProg.lean LOADS. Nothing in Lean hashes anything: it is a label: what it is worth is what the hold of that sum in a sandbox is worth. -/
noncomputable def Tryz.pinned : Pinned := { name := "ytdkiadhigcfmkaagreat", sum := "da570afb6add80f10fb071b93ae7ffeaaed4e0396daefd9b5b5421ceebcf7996", checked := Tryz.checked }
namespace Rows
def none {H : Type} : Left H := { results := [], args := [] }

/-- 'vmfleetlaw12.MachineNews': WHATEVER THE INPUT: true; the input reads as it did. -/
def machineNewsSpec : ChangeSpec := { name := "machineNews", fn := fun _ => fun
  | [d1, d2, d3, d4, d5] => { results := [.lit (.bool true)], args := [d1, d2, d3, d4, d5] }
  | _ => none }
def machineNewsRow : OpenClaim := { program := "ytdkiadhigcfmkaagreat", sum := "da570afb6add80f10fb071b93ae7ffeaaed4e0396daefd9b5b5421ceebcf7996", func := "vmfleet/vmfleetlaw12.MachineNews", spec := "machineNews", inPlace := ["internal/abi.NoEscape", "internal/bytealg.MakeNoZero"], apart := false }
def MachineNewsSaid : Prop := machineNewsRow.holds Tryz.pinned (OpenSpec.ofChange machineNewsSpec)

/-- ITS FALSE NEIGHBOUR: 'it returns false'. Refute it at one input. -/
def machineNewsWrong : ChangeSpec := { name := "machineNews", fn := fun _ => fun
  | [d1, d2, d3, d4, d5] => { results := [.lit (.bool false)], args := [d1, d2, d3, d4, d5] }
  | _ => none }
def MachineNewsWrongFalsely : Prop := machineNewsRow.holds Tryz.pinned (OpenSpec.ofChange machineNewsWrong)

/-- 'vmfleetlaw12.MachineSteps': WHATEVER THE INPUT: true; the input reads as it did. -/
def machineStepsSpec : ChangeSpec := { name := "machineSteps", fn := fun _ => fun
  | [d1, d2, d3, d4, d5, d6, d7, d8] => { results := [.lit (.bool true)], args := [d1, d2, d3, d4, d5, d6, d7, d8] }
  | _ => none }
def machineStepsRow : OpenClaim := { program := "ytdkiadhigcfmkaagreat", sum := "da570afb6add80f10fb071b93ae7ffeaaed4e0396daefd9b5b5421ceebcf7996", func := "vmfleet/vmfleetlaw12.MachineSteps", spec := "machineSteps", inPlace := ["internal/abi.NoEscape", "internal/bytealg.MakeNoZero"], recurses := true, apart := false }
def MachineStepsSaid : Prop := machineStepsRow.holds Tryz.pinned (OpenSpec.ofChange machineStepsSpec)

/-- ITS FALSE NEIGHBOUR: 'it returns false'. Refute it at one input. -/
def machineStepsWrong : ChangeSpec := { name := "machineSteps", fn := fun _ => fun
  | [d1, d2, d3, d4, d5, d6, d7, d8] => { results := [.lit (.bool false)], args := [d1, d2, d3, d4, d5, d6, d7, d8] }
  | _ => none }
def MachineStepsWrongFalsely : Prop := machineStepsRow.holds Tryz.pinned (OpenSpec.ofChange machineStepsWrong)

/-- 'vmfleetlaw12.MachineInterrupts': WHATEVER THE INPUT: true; the input reads as it did. -/
def machineInterruptsSpec : ChangeSpec := { name := "machineInterrupts", fn := fun _ => fun
  | [d1, d2, d3, d4, d5, d6] => { results := [.lit (.bool true)], args := [d1, d2, d3, d4, d5, d6] }
  | _ => none }
def machineInterruptsRow : OpenClaim := { program := "ytdkiadhigcfmkaagreat", sum := "da570afb6add80f10fb071b93ae7ffeaaed4e0396daefd9b5b5421ceebcf7996", func := "vmfleet/vmfleetlaw12.MachineInterrupts", spec := "machineInterrupts", inPlace := ["internal/abi.NoEscape", "internal/bytealg.MakeNoZero"], recurses := true, apart := false }
def MachineInterruptsSaid : Prop := machineInterruptsRow.holds Tryz.pinned (OpenSpec.ofChange machineInterruptsSpec)

/-- ITS FALSE NEIGHBOUR: 'it returns false'. Refute it at one input. -/
def machineInterruptsWrong : ChangeSpec := { name := "machineInterrupts", fn := fun _ => fun
  | [d1, d2, d3, d4, d5, d6] => { results := [.lit (.bool false)], args := [d1, d2, d3, d4, d5, d6] }
  | _ => none }
def MachineInterruptsWrongFalsely : Prop := machineInterruptsRow.holds Tryz.pinned (OpenSpec.ofChange machineInterruptsWrong)

/-- 'vmfleetlaw12.MachineConfined': WHATEVER THE INPUT: true; the input reads as it did. -/
def machineConfinedSpec : ChangeSpec := { name := "machineConfined", fn := fun _ => fun
  | [d1, d2, d3] => { results := [.lit (.bool true)], args := [d1, d2, d3] }
  | _ => none }
def machineConfinedRow : OpenClaim := { program := "ytdkiadhigcfmkaagreat", sum := "da570afb6add80f10fb071b93ae7ffeaaed4e0396daefd9b5b5421ceebcf7996", func := "vmfleet/vmfleetlaw12.MachineConfined", spec := "machineConfined", inPlace := ["internal/abi.NoEscape", "internal/bytealg.MakeNoZero"], apart := false }
def MachineConfinedSaid : Prop := machineConfinedRow.holds Tryz.pinned (OpenSpec.ofChange machineConfinedSpec)

/-- ITS FALSE NEIGHBOUR: 'it returns false'. Refute it at one input. -/
def machineConfinedWrong : ChangeSpec := { name := "machineConfined", fn := fun _ => fun
  | [d1, d2, d3] => { results := [.lit (.bool false)], args := [d1, d2, d3] }
  | _ => none }
def MachineConfinedWrongFalsely : Prop := machineConfinedRow.holds Tryz.pinned (OpenSpec.ofChange machineConfinedWrong)

/-- 'vmfleetlaw12.MachineEncodes': WHATEVER THE INPUT: true; the input reads as it did. -/
def machineEncodesSpec : ChangeSpec := { name := "machineEncodes", fn := fun _ => fun
  | [d1, d2, d3, d4, d5, d6, d7] => { results := [.lit (.bool true)], args := [d1, d2, d3, d4, d5, d6, d7] }
  | _ => none }
def machineEncodesRow : OpenClaim := { program := "ytdkiadhigcfmkaagreat", sum := "da570afb6add80f10fb071b93ae7ffeaaed4e0396daefd9b5b5421ceebcf7996", func := "vmfleet/vmfleetlaw12.MachineEncodes", spec := "machineEncodes", inPlace := ["internal/abi.NoEscape", "internal/bytealg.MakeNoZero"], recurses := true, apart := false }
def MachineEncodesSaid : Prop := machineEncodesRow.holds Tryz.pinned (OpenSpec.ofChange machineEncodesSpec)

/-- ITS FALSE NEIGHBOUR: 'it returns false'. Refute it at one input. -/
def machineEncodesWrong : ChangeSpec := { name := "machineEncodes", fn := fun _ => fun
  | [d1, d2, d3, d4, d5, d6, d7] => { results := [.lit (.bool false)], args := [d1, d2, d3, d4, d5, d6, d7] }
  | _ => none }
def MachineEncodesWrongFalsely : Prop := machineEncodesRow.holds Tryz.pinned (OpenSpec.ofChange machineEncodesWrong)

/-- 'vmfleetlaw12.MachineTells': WHATEVER THE INPUT: true; the input reads as it did. -/
def machineTellsSpec : ChangeSpec := { name := "machineTells", fn := fun _ => fun
  | [d1, d2, d3, d4, d5, d6, d7] => { results := [.lit (.bool true)], args := [d1, d2, d3, d4, d5, d6, d7] }
  | _ => none }
def machineTellsRow : OpenClaim := { program := "ytdkiadhigcfmkaagreat", sum := "da570afb6add80f10fb071b93ae7ffeaaed4e0396daefd9b5b5421ceebcf7996", func := "vmfleet/vmfleetlaw12.MachineTells", spec := "machineTells", inPlace := ["internal/abi.NoEscape", "internal/bytealg.MakeNoZero"], recurses := true, apart := false }
def MachineTellsSaid : Prop := machineTellsRow.holds Tryz.pinned (OpenSpec.ofChange machineTellsSpec)

/-- ITS FALSE NEIGHBOUR: 'it returns false'. Refute it at one input. -/
def machineTellsWrong : ChangeSpec := { name := "machineTells", fn := fun _ => fun
  | [d1, d2, d3, d4, d5, d6, d7] => { results := [.lit (.bool false)], args := [d1, d2, d3, d4, d5, d6, d7] }
  | _ => none }
def MachineTellsWrongFalsely : Prop := machineTellsRow.holds Tryz.pinned (OpenSpec.ofChange machineTellsWrong)

/-- 'vmfleetlaw12.MachineApplies': WHATEVER THE INPUT: true; the input reads as it did. -/
def machineAppliesSpec : ChangeSpec := { name := "machineApplies", fn := fun _ => fun
  | [d1, d2, d3, d4, d5, d6, d7, d8, d9] => { results := [.lit (.bool true)], args := [d1, d2, d3, d4, d5, d6, d7, d8, d9] }
  | _ => none }
def machineAppliesRow : OpenClaim := { program := "ytdkiadhigcfmkaagreat", sum := "da570afb6add80f10fb071b93ae7ffeaaed4e0396daefd9b5b5421ceebcf7996", func := "vmfleet/vmfleetlaw12.MachineApplies", spec := "machineApplies", inPlace := ["internal/abi.NoEscape", "internal/bytealg.MakeNoZero"], recurses := true, apart := false }
def MachineAppliesSaid : Prop := machineAppliesRow.holds Tryz.pinned (OpenSpec.ofChange machineAppliesSpec)

/-- ITS FALSE NEIGHBOUR: 'it returns false'. Refute it at one input. -/
def machineAppliesWrong : ChangeSpec := { name := "machineApplies", fn := fun _ => fun
  | [d1, d2, d3, d4, d5, d6, d7, d8, d9] => { results := [.lit (.bool false)], args := [d1, d2, d3, d4, d5, d6, d7, d8, d9] }
  | _ => none }
def MachineAppliesWrongFalsely : Prop := machineAppliesRow.holds Tryz.pinned (OpenSpec.ofChange machineAppliesWrong)

/-- 'vmfleetlaw12.MachineHalted': WHATEVER THE INPUT: true; the input reads as it did. -/
def machineHaltedSpec : ChangeSpec := { name := "machineHalted", fn := fun _ => fun
  | [d1, d2, d3, d4, d5] => { results := [.lit (.bool true)], args := [d1, d2, d3, d4, d5] }
  | _ => none }
def machineHaltedRow : OpenClaim := { program := "ytdkiadhigcfmkaagreat", sum := "da570afb6add80f10fb071b93ae7ffeaaed4e0396daefd9b5b5421ceebcf7996", func := "vmfleet/vmfleetlaw12.MachineHalted", spec := "machineHalted", inPlace := ["internal/abi.NoEscape", "internal/bytealg.MakeNoZero"], recurses := true, apart := false }
def MachineHaltedSaid : Prop := machineHaltedRow.holds Tryz.pinned (OpenSpec.ofChange machineHaltedSpec)

/-- ITS FALSE NEIGHBOUR: 'it returns false'. Refute it at one input. -/
def machineHaltedWrong : ChangeSpec := { name := "machineHalted", fn := fun _ => fun
  | [d1, d2, d3, d4, d5] => { results := [.lit (.bool false)], args := [d1, d2, d3, d4, d5] }
  | _ => none }
def MachineHaltedWrongFalsely : Prop := machineHaltedRow.holds Tryz.pinned (OpenSpec.ofChange machineHaltedWrong)

/-- 'vmfleetlaw12.MachineCommutes': WHATEVER THE INPUT: true; the input reads as it did. -/
def machineCommutesSpec : ChangeSpec := { name := "machineCommutes", fn := fun _ => fun
  | [d1, d2, d3, d4, d5] => { results := [.lit (.bool true)], args := [d1, d2, d3, d4, d5] }
  | _ => none }
def machineCommutesRow : OpenClaim := { program := "ytdkiadhigcfmkaagreat", sum := "da570afb6add80f10fb071b93ae7ffeaaed4e0396daefd9b5b5421ceebcf7996", func := "vmfleet/vmfleetlaw12.MachineCommutes", spec := "machineCommutes", inPlace := ["internal/abi.NoEscape", "internal/bytealg.MakeNoZero"], recurses := true, apart := false }
def MachineCommutesSaid : Prop := machineCommutesRow.holds Tryz.pinned (OpenSpec.ofChange machineCommutesSpec)

/-- ITS FALSE NEIGHBOUR: 'it returns false'. Refute it at one input. -/
def machineCommutesWrong : ChangeSpec := { name := "machineCommutes", fn := fun _ => fun
  | [d1, d2, d3, d4, d5] => { results := [.lit (.bool false)], args := [d1, d2, d3, d4, d5] }
  | _ => none }
def MachineCommutesWrongFalsely : Prop := machineCommutesRow.holds Tryz.pinned (OpenSpec.ofChange machineCommutesWrong)

/-- 'vmfleetlaw12.MachineDma': WHATEVER THE INPUT: true; the input reads as it did. -/
def machineDmaSpec : ChangeSpec := { name := "machineDma", fn := fun _ => fun
  | [d1, d2, d3, d4] => { results := [.lit (.bool true)], args := [d1, d2, d3, d4] }
  | _ => none }
def machineDmaRow : OpenClaim := { program := "ytdkiadhigcfmkaagreat", sum := "da570afb6add80f10fb071b93ae7ffeaaed4e0396daefd9b5b5421ceebcf7996", func := "vmfleet/vmfleetlaw12.MachineDma", spec := "machineDma", inPlace := ["internal/abi.NoEscape", "internal/bytealg.MakeNoZero"], recurses := true, apart := false }
def MachineDmaSaid : Prop := machineDmaRow.holds Tryz.pinned (OpenSpec.ofChange machineDmaSpec)

/-- ITS FALSE NEIGHBOUR: 'it returns false'. Refute it at one input. -/
def machineDmaWrong : ChangeSpec := { name := "machineDma", fn := fun _ => fun
  | [d1, d2, d3, d4] => { results := [.lit (.bool false)], args := [d1, d2, d3, d4] }
  | _ => none }
def MachineDmaWrongFalsely : Prop := machineDmaRow.holds Tryz.pinned (OpenSpec.ofChange machineDmaWrong)

/-- 'vmfleetlaw12.MachinePorts': WHATEVER THE INPUT: true; the input reads as it did. -/
def machinePortsSpec : ChangeSpec := { name := "machinePorts", fn := fun _ => fun
  | [d1, d2] => { results := [.lit (.bool true)], args := [d1, d2] }
  | _ => none }
def machinePortsRow : OpenClaim := { program := "ytdkiadhigcfmkaagreat", sum := "da570afb6add80f10fb071b93ae7ffeaaed4e0396daefd9b5b5421ceebcf7996", func := "vmfleet/vmfleetlaw12.MachinePorts", spec := "machinePorts", inPlace := ["internal/abi.NoEscape", "internal/bytealg.MakeNoZero"], unfollowed := true, recurses := true, apart := false }
def MachinePortsSaid : Prop := machinePortsRow.holds Tryz.pinned (OpenSpec.ofChange machinePortsSpec)

/-- ITS FALSE NEIGHBOUR: 'it returns false'. Refute it at one input. -/
def machinePortsWrong : ChangeSpec := { name := "machinePorts", fn := fun _ => fun
  | [d1, d2] => { results := [.lit (.bool false)], args := [d1, d2] }
  | _ => none }
def MachinePortsWrongFalsely : Prop := machinePortsRow.holds Tryz.pinned (OpenSpec.ofChange machinePortsWrong)

/-- 'vmfleetlaw12.MachineKeeps': WHATEVER THE INPUT: true; the input reads as it did. -/
def machineKeepsSpec : ChangeSpec := { name := "machineKeeps", fn := fun _ => fun
  | [d1, d2, d3, d4, d5, d6, d7] => { results := [.lit (.bool true)], args := [d1, d2, d3, d4, d5, d6, d7] }
  | _ => none }
def machineKeepsRow : OpenClaim := { program := "ytdkiadhigcfmkaagreat", sum := "da570afb6add80f10fb071b93ae7ffeaaed4e0396daefd9b5b5421ceebcf7996", func := "vmfleet/vmfleetlaw12.MachineKeeps", spec := "machineKeeps", inPlace := ["internal/abi.NoEscape", "internal/bytealg.MakeNoZero"], recurses := true, apart := false }
def MachineKeepsSaid : Prop := machineKeepsRow.holds Tryz.pinned (OpenSpec.ofChange machineKeepsSpec)

/-- ITS FALSE NEIGHBOUR: 'it returns false'. Refute it at one input. -/
def machineKeepsWrong : ChangeSpec := { name := "machineKeeps", fn := fun _ => fun
  | [d1, d2, d3, d4, d5, d6, d7] => { results := [.lit (.bool false)], args := [d1, d2, d3, d4, d5, d6, d7] }
  | _ => none }
def MachineKeepsWrongFalsely : Prop := machineKeepsRow.holds Tryz.pinned (OpenSpec.ofChange machineKeepsWrong)

/- THE SECOND FORM. 'bulk': how many values and letters a reading holds, each counted each time it is reached (what is shared counts as often as it is met; a slice's spare places count too). A statement '..UptoSaid' is the law's where the arguments, and the package variables that the reading takes, are together of bulk at most 1048576: NARROWER than '..Said'. Prove '..Said' where nothing that the law and all that it calls make is longer than what came in: it says more and counts as full. Else prove '..UptoSaid'. A law counts once. -/
mutual
def uptoBulk {H : Type} : DataW H → Nat
  | .lit (.string bytes) => bytes.length + 1
  | .lit _ => 1
  | .nil => 1
  | .ptr d => uptoBulk d + 1
  | .slice elems spare => uptoBulkAll elems + uptoBulkAll spare + 1
  | .agg parts => uptoBulkAll parts + 1
  | .iface _ d => uptoBulk d + 1
  | .map entries => uptoBulkEntries entries + 1
  | .held _ => 1
def uptoBulkAll {H : Type} : List (DataW H) → Nat
  | [] => 0
  | d :: r => uptoBulk d + uptoBulkAll r
def uptoBulkEntries {H : Type} : List (Lit × DataW H) → Nat
  | [] => 0
  | x :: r => uptoBulkEntry x + uptoBulkEntries r
def uptoBulkEntry {H : Type} : Lit × DataW H → Nat
  | (.string bytes, d) => bytes.length + uptoBulk d + 1
  | (_, d) => uptoBulk d + 1
 end
def uptoSmall : (H : Type) → List (DataW H) → Bool := fun _ ds => decide (uptoBulkAll ds ≤ 1048576)
def OpenSpec.upto (s : _root_.Go.ChangeSpec) : _root_.Go.OpenSpec := { _root_.Go.OpenSpec.ofChange s with cond := some uptoSmall }

/-- 'vmfleetlaw12.MachineNews', WHERE WHAT IT READS IS OF BULK AT MOST 1048576: true; the input reads as it did. -/
def machineNewsUptoRow : OpenClaim := { program := "ytdkiadhigcfmkaagreat", sum := "da570afb6add80f10fb071b93ae7ffeaaed4e0396daefd9b5b5421ceebcf7996", func := "vmfleet/vmfleetlaw12.MachineNews", spec := "machineNews", inPlace := ["internal/abi.NoEscape", "internal/bytealg.MakeNoZero"], apart := false, narrowed := true }
def MachineNewsUptoSaid : Prop := machineNewsUptoRow.holds Tryz.pinned (OpenSpec.upto machineNewsSpec)

/-- 'vmfleetlaw12.MachineSteps', WHERE WHAT IT READS IS OF BULK AT MOST 1048576: true; the input reads as it did. -/
def machineStepsUptoRow : OpenClaim := { program := "ytdkiadhigcfmkaagreat", sum := "da570afb6add80f10fb071b93ae7ffeaaed4e0396daefd9b5b5421ceebcf7996", func := "vmfleet/vmfleetlaw12.MachineSteps", spec := "machineSteps", inPlace := ["internal/abi.NoEscape", "internal/bytealg.MakeNoZero"], recurses := true, apart := false, narrowed := true }
def MachineStepsUptoSaid : Prop := machineStepsUptoRow.holds Tryz.pinned (OpenSpec.upto machineStepsSpec)

/-- 'vmfleetlaw12.MachineInterrupts', WHERE WHAT IT READS IS OF BULK AT MOST 1048576: true; the input reads as it did. -/
def machineInterruptsUptoRow : OpenClaim := { program := "ytdkiadhigcfmkaagreat", sum := "da570afb6add80f10fb071b93ae7ffeaaed4e0396daefd9b5b5421ceebcf7996", func := "vmfleet/vmfleetlaw12.MachineInterrupts", spec := "machineInterrupts", inPlace := ["internal/abi.NoEscape", "internal/bytealg.MakeNoZero"], recurses := true, apart := false, narrowed := true }
def MachineInterruptsUptoSaid : Prop := machineInterruptsUptoRow.holds Tryz.pinned (OpenSpec.upto machineInterruptsSpec)

/-- 'vmfleetlaw12.MachineConfined', WHERE WHAT IT READS IS OF BULK AT MOST 1048576: true; the input reads as it did. -/
def machineConfinedUptoRow : OpenClaim := { program := "ytdkiadhigcfmkaagreat", sum := "da570afb6add80f10fb071b93ae7ffeaaed4e0396daefd9b5b5421ceebcf7996", func := "vmfleet/vmfleetlaw12.MachineConfined", spec := "machineConfined", inPlace := ["internal/abi.NoEscape", "internal/bytealg.MakeNoZero"], apart := false, narrowed := true }
def MachineConfinedUptoSaid : Prop := machineConfinedUptoRow.holds Tryz.pinned (OpenSpec.upto machineConfinedSpec)

/-- 'vmfleetlaw12.MachineEncodes', WHERE WHAT IT READS IS OF BULK AT MOST 1048576: true; the input reads as it did. -/
def machineEncodesUptoRow : OpenClaim := { program := "ytdkiadhigcfmkaagreat", sum := "da570afb6add80f10fb071b93ae7ffeaaed4e0396daefd9b5b5421ceebcf7996", func := "vmfleet/vmfleetlaw12.MachineEncodes", spec := "machineEncodes", inPlace := ["internal/abi.NoEscape", "internal/bytealg.MakeNoZero"], recurses := true, apart := false, narrowed := true }
def MachineEncodesUptoSaid : Prop := machineEncodesUptoRow.holds Tryz.pinned (OpenSpec.upto machineEncodesSpec)

/-- 'vmfleetlaw12.MachineTells', WHERE WHAT IT READS IS OF BULK AT MOST 1048576: true; the input reads as it did. -/
def machineTellsUptoRow : OpenClaim := { program := "ytdkiadhigcfmkaagreat", sum := "da570afb6add80f10fb071b93ae7ffeaaed4e0396daefd9b5b5421ceebcf7996", func := "vmfleet/vmfleetlaw12.MachineTells", spec := "machineTells", inPlace := ["internal/abi.NoEscape", "internal/bytealg.MakeNoZero"], recurses := true, apart := false, narrowed := true }
def MachineTellsUptoSaid : Prop := machineTellsUptoRow.holds Tryz.pinned (OpenSpec.upto machineTellsSpec)

/-- 'vmfleetlaw12.MachineApplies', WHERE WHAT IT READS IS OF BULK AT MOST 1048576: true; the input reads as it did. -/
def machineAppliesUptoRow : OpenClaim := { program := "ytdkiadhigcfmkaagreat", sum := "da570afb6add80f10fb071b93ae7ffeaaed4e0396daefd9b5b5421ceebcf7996", func := "vmfleet/vmfleetlaw12.MachineApplies", spec := "machineApplies", inPlace := ["internal/abi.NoEscape", "internal/bytealg.MakeNoZero"], recurses := true, apart := false, narrowed := true }
def MachineAppliesUptoSaid : Prop := machineAppliesUptoRow.holds Tryz.pinned (OpenSpec.upto machineAppliesSpec)

/-- 'vmfleetlaw12.MachineHalted', WHERE WHAT IT READS IS OF BULK AT MOST 1048576: true; the input reads as it did. -/
def machineHaltedUptoRow : OpenClaim := { program := "ytdkiadhigcfmkaagreat", sum := "da570afb6add80f10fb071b93ae7ffeaaed4e0396daefd9b5b5421ceebcf7996", func := "vmfleet/vmfleetlaw12.MachineHalted", spec := "machineHalted", inPlace := ["internal/abi.NoEscape", "internal/bytealg.MakeNoZero"], recurses := true, apart := false, narrowed := true }
def MachineHaltedUptoSaid : Prop := machineHaltedUptoRow.holds Tryz.pinned (OpenSpec.upto machineHaltedSpec)

/-- 'vmfleetlaw12.MachineCommutes', WHERE WHAT IT READS IS OF BULK AT MOST 1048576: true; the input reads as it did. -/
def machineCommutesUptoRow : OpenClaim := { program := "ytdkiadhigcfmkaagreat", sum := "da570afb6add80f10fb071b93ae7ffeaaed4e0396daefd9b5b5421ceebcf7996", func := "vmfleet/vmfleetlaw12.MachineCommutes", spec := "machineCommutes", inPlace := ["internal/abi.NoEscape", "internal/bytealg.MakeNoZero"], recurses := true, apart := false, narrowed := true }
def MachineCommutesUptoSaid : Prop := machineCommutesUptoRow.holds Tryz.pinned (OpenSpec.upto machineCommutesSpec)

/-- 'vmfleetlaw12.MachineDma', WHERE WHAT IT READS IS OF BULK AT MOST 1048576: true; the input reads as it did. -/
def machineDmaUptoRow : OpenClaim := { program := "ytdkiadhigcfmkaagreat", sum := "da570afb6add80f10fb071b93ae7ffeaaed4e0396daefd9b5b5421ceebcf7996", func := "vmfleet/vmfleetlaw12.MachineDma", spec := "machineDma", inPlace := ["internal/abi.NoEscape", "internal/bytealg.MakeNoZero"], recurses := true, apart := false, narrowed := true }
def MachineDmaUptoSaid : Prop := machineDmaUptoRow.holds Tryz.pinned (OpenSpec.upto machineDmaSpec)

/-- 'vmfleetlaw12.MachinePorts', WHERE WHAT IT READS IS OF BULK AT MOST 1048576: true; the input reads as it did. -/
def machinePortsUptoRow : OpenClaim := { program := "ytdkiadhigcfmkaagreat", sum := "da570afb6add80f10fb071b93ae7ffeaaed4e0396daefd9b5b5421ceebcf7996", func := "vmfleet/vmfleetlaw12.MachinePorts", spec := "machinePorts", inPlace := ["internal/abi.NoEscape", "internal/bytealg.MakeNoZero"], unfollowed := true, recurses := true, apart := false, narrowed := true }
def MachinePortsUptoSaid : Prop := machinePortsUptoRow.holds Tryz.pinned (OpenSpec.upto machinePortsSpec)

/-- 'vmfleetlaw12.MachineKeeps', WHERE WHAT IT READS IS OF BULK AT MOST 1048576: true; the input reads as it did. -/
def machineKeepsUptoRow : OpenClaim := { program := "ytdkiadhigcfmkaagreat", sum := "da570afb6add80f10fb071b93ae7ffeaaed4e0396daefd9b5b5421ceebcf7996", func := "vmfleet/vmfleetlaw12.MachineKeeps", spec := "machineKeeps", inPlace := ["internal/abi.NoEscape", "internal/bytealg.MakeNoZero"], recurses := true, apart := false, narrowed := true }
def MachineKeepsUptoSaid : Prop := machineKeepsUptoRow.holds Tryz.pinned (OpenSpec.upto machineKeepsSpec)

end Rows
end Go.Proofs.YtdkiadhigcfmkaaGreat

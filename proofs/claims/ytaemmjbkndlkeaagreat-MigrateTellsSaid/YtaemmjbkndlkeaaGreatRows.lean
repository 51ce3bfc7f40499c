/-
  No cell of these rows narrows 'for every input' (looked for: loops, veiled, ifaces, maps, wideKeys, modest, calm, conditions, laid).
  DERIVED. THE GIVEN ROWS OF THIS SEAT. 8 by the template 'for every input the law returns true; each argument reads behind the call as it read before'; 0 by the template 'total and deterministic' (their statements: YtaemmjbkndlkeaaGreatTotals.lean).
  GIVEN WITH THE SEED: the statements are not yours to turn. If you find one false, say at which input.
  Laid BY PROGRAM, IN A SANDBOX (cutbox-rows.mjs): the forced cells as the released guide's own fill.sh prints them over the translation 7817ed0cda7a2536… (all of the seat's roots in one cut). By AI agents, Wed Nov 11 2026. No macro, syntax, notation, axiom, sorry.
-/
import Derived.Test.YtaemmjbkndlkeaaGreatChecked
import GoSem.Claim
import GoSem.ClaimJoined
import GoSem.ClaimMapViews
import Derived.JoinedTies
import Derived.KernelRfl
namespace Go.Proofs.YtaemmjbkndlkeaaGreat
/- THE CELL 'sum', in the pinned program and in every row, IS THE sha256 OF THE DUMP (.gsa) THAT YtaemmjbkndlkeaaGreatProg.lean LOADS. Nothing in Lean hashes anything: it is a label: what it is worth is what the hold of that sum in a sandbox is worth. -/
noncomputable def Tryz.pinned : Pinned := { name := "ytaemmjbkndlkeaagreat", sum := "7817ed0cda7a2536d700a3e45f868de1810b940a3e9c42f869c62f81a13d5890", checked := Tryz.checked }
namespace Rows
def none {H : Type} : Left H := { results := [], args := [] }

/-- 'vmfleetlaw34.MigrateTells': WHATEVER THE INPUT: true; the input reads as it did. -/
def migrateTellsSpec : ChangeSpec := { name := "migrateTells", fn := fun _ => fun
  | [d1, d2, d3, d4] => { results := [.lit (.bool true)], args := [d1, d2, d3, d4] }
  | _ => none }
def migrateTellsRow : OpenClaim := { program := "ytaemmjbkndlkeaagreat", sum := "7817ed0cda7a2536d700a3e45f868de1810b940a3e9c42f869c62f81a13d5890", func := "vmfleet/vmfleetlaw34.MigrateTells", spec := "migrateTells", inPlace := ["internal/abi.NoEscape", "internal/bytealg.MakeNoZero"], unfollowed := true, recurses := true, apart := false }
def MigrateTellsSaid : Prop := migrateTellsRow.holds Tryz.pinned (OpenSpec.ofChange migrateTellsSpec)

/-- ITS FALSE NEIGHBOUR: 'it returns false'. Refute it at one input. -/
def migrateTellsWrong : ChangeSpec := { name := "migrateTells", fn := fun _ => fun
  | [d1, d2, d3, d4] => { results := [.lit (.bool false)], args := [d1, d2, d3, d4] }
  | _ => none }
def MigrateTellsWrongFalsely : Prop := migrateTellsRow.holds Tryz.pinned (OpenSpec.ofChange migrateTellsWrong)

/-- 'vmfleetlaw34.MigrateStarts': WHATEVER THE INPUT: true; the input reads as it did. -/
def migrateStartsSpec : ChangeSpec := { name := "migrateStarts", fn := fun _ => fun
  | [d1, d2] => { results := [.lit (.bool true)], args := [d1, d2] }
  | _ => none }
def migrateStartsRow : OpenClaim := { program := "ytaemmjbkndlkeaagreat", sum := "7817ed0cda7a2536d700a3e45f868de1810b940a3e9c42f869c62f81a13d5890", func := "vmfleet/vmfleetlaw34.MigrateStarts", spec := "migrateStarts", inPlace := ["internal/abi.NoEscape", "internal/bytealg.MakeNoZero"], unfollowed := true, recurses := true, apart := false }
def MigrateStartsSaid : Prop := migrateStartsRow.holds Tryz.pinned (OpenSpec.ofChange migrateStartsSpec)

/-- ITS FALSE NEIGHBOUR: 'it returns false'. Refute it at one input. -/
def migrateStartsWrong : ChangeSpec := { name := "migrateStarts", fn := fun _ => fun
  | [d1, d2] => { results := [.lit (.bool false)], args := [d1, d2] }
  | _ => none }
def MigrateStartsWrongFalsely : Prop := migrateStartsRow.holds Tryz.pinned (OpenSpec.ofChange migrateStartsWrong)

/-- 'vmfleetlaw34.MigrateOne': WHATEVER THE INPUT: true; the input reads as it did. -/
def migrateOneSpec : ChangeSpec := { name := "migrateOne", fn := fun _ => fun
  | [d1, d2, d3] => { results := [.lit (.bool true)], args := [d1, d2, d3] }
  | _ => none }
def migrateOneRow : OpenClaim := { program := "ytaemmjbkndlkeaagreat", sum := "7817ed0cda7a2536d700a3e45f868de1810b940a3e9c42f869c62f81a13d5890", func := "vmfleet/vmfleetlaw34.MigrateOne", spec := "migrateOne", inPlace := ["internal/abi.NoEscape", "internal/bytealg.MakeNoZero"], unfollowed := true, recurses := true, apart := false }
def MigrateOneSaid : Prop := migrateOneRow.holds Tryz.pinned (OpenSpec.ofChange migrateOneSpec)

/-- ITS FALSE NEIGHBOUR: 'it returns false'. Refute it at one input. -/
def migrateOneWrong : ChangeSpec := { name := "migrateOne", fn := fun _ => fun
  | [d1, d2, d3] => { results := [.lit (.bool false)], args := [d1, d2, d3] }
  | _ => none }
def MigrateOneWrongFalsely : Prop := migrateOneRow.holds Tryz.pinned (OpenSpec.ofChange migrateOneWrong)

/-- 'vmfleetlaw34.MigrateContinues': WHATEVER THE INPUT: true; the input reads as it did. -/
def migrateContinuesSpec : ChangeSpec := { name := "migrateContinues", fn := fun _ => fun
  | [d1, d2, d3] => { results := [.lit (.bool true)], args := [d1, d2, d3] }
  | _ => none }
def migrateContinuesRow : OpenClaim := { program := "ytaemmjbkndlkeaagreat", sum := "7817ed0cda7a2536d700a3e45f868de1810b940a3e9c42f869c62f81a13d5890", func := "vmfleet/vmfleetlaw34.MigrateContinues", spec := "migrateContinues", inPlace := ["internal/abi.NoEscape", "internal/bytealg.MakeNoZero"], unfollowed := true, recurses := true, apart := false }
def MigrateContinuesSaid : Prop := migrateContinuesRow.holds Tryz.pinned (OpenSpec.ofChange migrateContinuesSpec)

/-- ITS FALSE NEIGHBOUR: 'it returns false'. Refute it at one input. -/
def migrateContinuesWrong : ChangeSpec := { name := "migrateContinues", fn := fun _ => fun
  | [d1, d2, d3] => { results := [.lit (.bool false)], args := [d1, d2, d3] }
  | _ => none }
def MigrateContinuesWrongFalsely : Prop := migrateContinuesRow.holds Tryz.pinned (OpenSpec.ofChange migrateContinuesWrong)

/-- 'vmfleetlaw34.MigrateEnds': WHATEVER THE INPUT: true; the input reads as it did. -/
def migrateEndsSpec : ChangeSpec := { name := "migrateEnds", fn := fun _ => fun
  | [d1, d2, d3] => { results := [.lit (.bool true)], args := [d1, d2, d3] }
  | _ => none }
def migrateEndsRow : OpenClaim := { program := "ytaemmjbkndlkeaagreat", sum := "7817ed0cda7a2536d700a3e45f868de1810b940a3e9c42f869c62f81a13d5890", func := "vmfleet/vmfleetlaw34.MigrateEnds", spec := "migrateEnds", inPlace := ["internal/abi.NoEscape", "internal/bytealg.MakeNoZero"], unfollowed := true, recurses := true, apart := false }
def MigrateEndsSaid : Prop := migrateEndsRow.holds Tryz.pinned (OpenSpec.ofChange migrateEndsSpec)

/-- ITS FALSE NEIGHBOUR: 'it returns false'. Refute it at one input. -/
def migrateEndsWrong : ChangeSpec := { name := "migrateEnds", fn := fun _ => fun
  | [d1, d2, d3] => { results := [.lit (.bool false)], args := [d1, d2, d3] }
  | _ => none }
def MigrateEndsWrongFalsely : Prop := migrateEndsRow.holds Tryz.pinned (OpenSpec.ofChange migrateEndsWrong)

/-- 'vmfleetlaw34.MigrateQuiet': WHATEVER THE INPUT: true; the input reads as it did. -/
def migrateQuietSpec : ChangeSpec := { name := "migrateQuiet", fn := fun _ => fun
  | [d1, d2, d3] => { results := [.lit (.bool true)], args := [d1, d2, d3] }
  | _ => none }
def migrateQuietRow : OpenClaim := { program := "ytaemmjbkndlkeaagreat", sum := "7817ed0cda7a2536d700a3e45f868de1810b940a3e9c42f869c62f81a13d5890", func := "vmfleet/vmfleetlaw34.MigrateQuiet", spec := "migrateQuiet", inPlace := ["internal/abi.NoEscape", "internal/bytealg.MakeNoZero"], unfollowed := true, recurses := true, apart := false }
def MigrateQuietSaid : Prop := migrateQuietRow.holds Tryz.pinned (OpenSpec.ofChange migrateQuietSpec)

/-- ITS FALSE NEIGHBOUR: 'it returns false'. Refute it at one input. -/
def migrateQuietWrong : ChangeSpec := { name := "migrateQuiet", fn := fun _ => fun
  | [d1, d2, d3] => { results := [.lit (.bool false)], args := [d1, d2, d3] }
  | _ => none }
def MigrateQuietWrongFalsely : Prop := migrateQuietRow.holds Tryz.pinned (OpenSpec.ofChange migrateQuietWrong)

/-- 'vmfleetlaw34.MigrateCancels': WHATEVER THE INPUT: true; the input reads as it did. -/
def migrateCancelsSpec : ChangeSpec := { name := "migrateCancels", fn := fun _ => fun
  | [d1, d2, d3, d4, d5] => { results := [.lit (.bool true)], args := [d1, d2, d3, d4, d5] }
  | _ => none }
def migrateCancelsRow : OpenClaim := { program := "ytaemmjbkndlkeaagreat", sum := "7817ed0cda7a2536d700a3e45f868de1810b940a3e9c42f869c62f81a13d5890", func := "vmfleet/vmfleetlaw34.MigrateCancels", spec := "migrateCancels", inPlace := ["internal/abi.NoEscape", "internal/bytealg.MakeNoZero"], unfollowed := true, recurses := true, apart := false }
def MigrateCancelsSaid : Prop := migrateCancelsRow.holds Tryz.pinned (OpenSpec.ofChange migrateCancelsSpec)

/-- ITS FALSE NEIGHBOUR: 'it returns false'. Refute it at one input. -/
def migrateCancelsWrong : ChangeSpec := { name := "migrateCancels", fn := fun _ => fun
  | [d1, d2, d3, d4, d5] => { results := [.lit (.bool false)], args := [d1, d2, d3, d4, d5] }
  | _ => none }
def MigrateCancelsWrongFalsely : Prop := migrateCancelsRow.holds Tryz.pinned (OpenSpec.ofChange migrateCancelsWrong)

/-- 'vmfleetlaw34.MigrateOrders': WHATEVER THE INPUT: true; the input reads as it did. -/
def migrateOrdersSpec : ChangeSpec := { name := "migrateOrders", fn := fun _ => fun
  | [d1, d2, d3, d4] => { results := [.lit (.bool true)], args := [d1, d2, d3, d4] }
  | _ => none }
def migrateOrdersRow : OpenClaim := { program := "ytaemmjbkndlkeaagreat", sum := "7817ed0cda7a2536d700a3e45f868de1810b940a3e9c42f869c62f81a13d5890", func := "vmfleet/vmfleetlaw34.MigrateOrders", spec := "migrateOrders", inPlace := ["internal/abi.NoEscape", "internal/bytealg.MakeNoZero"], unfollowed := true, recurses := true, apart := false }
def MigrateOrdersSaid : Prop := migrateOrdersRow.holds Tryz.pinned (OpenSpec.ofChange migrateOrdersSpec)

/-- ITS FALSE NEIGHBOUR: 'it returns false'. Refute it at one input. -/
def migrateOrdersWrong : ChangeSpec := { name := "migrateOrders", fn := fun _ => fun
  | [d1, d2, d3, d4] => { results := [.lit (.bool false)], args := [d1, d2, d3, d4] }
  | _ => none }
def MigrateOrdersWrongFalsely : Prop := migrateOrdersRow.holds Tryz.pinned (OpenSpec.ofChange migrateOrdersWrong)

/- THE SECOND FORM. 'bulk': how many values and letters a reading holds, each counted each time it is reached (what is shared counts as often as it is met; a slice's spare places count too). A statement '..UptoSaid' is the law's where the arguments, and the package variables that the reading takes, are together of bulk at most 1048576: NARROWER than '..Said'. Prove '..Said' where nothing that the law and all that it calls make is longer than what came in: it says more and counts as full. Else prove '..UptoSaid'. A law counts once. -/
mutual
def uptoBulk {H : Type} : DataW H → Nat
  | .lit (.string bytes) => bytes.length + 1
  | .lit _ => 1
  | .nil => 1
  | .ptr d => uptoBulk d + 1
  | .slice elems spare => uptoBulkAll elems + uptoBulkAll spare + 1
  | .agg parts => uptoBulkAll parts + 1
  | .iface _ d => uptoBulk d + 1
  | .map entries => uptoBulkEntries entries + 1
  | .held _ => 1
def uptoBulkAll {H : Type} : List (DataW H) → Nat
  | [] => 0
  | d :: r => uptoBulk d + uptoBulkAll r
def uptoBulkEntries {H : Type} : List (Lit × DataW H) → Nat
  | [] => 0
  | x :: r => uptoBulkEntry x + uptoBulkEntries r
def uptoBulkEntry {H : Type} : Lit × DataW H → Nat
  | (.string bytes, d) => bytes.length + uptoBulk d + 1
  | (_, d) => uptoBulk d + 1
 end
def uptoSmall : (H : Type) → List (DataW H) → Bool := fun _ ds => decide (uptoBulkAll ds ≤ 1048576)
def OpenSpec.upto (s : _root_.Go.ChangeSpec) : _root_.Go.OpenSpec := { _root_.Go.OpenSpec.ofChange s with cond := some uptoSmall }

/-- 'vmfleetlaw34.MigrateTells', WHERE WHAT IT READS IS OF BULK AT MOST 1048576: true; the input reads as it did. -/
def migrateTellsUptoRow : OpenClaim := { program := "ytaemmjbkndlkeaagreat", sum := "7817ed0cda7a2536d700a3e45f868de1810b940a3e9c42f869c62f81a13d5890", func := "vmfleet/vmfleetlaw34.MigrateTells", spec := "migrateTells", inPlace := ["internal/abi.NoEscape", "internal/bytealg.MakeNoZero"], unfollowed := true, recurses := true, apart := false, narrowed := true }
def MigrateTellsUptoSaid : Prop := migrateTellsUptoRow.holds Tryz.pinned (OpenSpec.upto migrateTellsSpec)

/-- 'vmfleetlaw34.MigrateStarts', WHERE WHAT IT READS IS OF BULK AT MOST 1048576: true; the input reads as it did. -/
def migrateStartsUptoRow : OpenClaim := { program := "ytaemmjbkndlkeaagreat", sum := "7817ed0cda7a2536d700a3e45f868de1810b940a3e9c42f869c62f81a13d5890", func := "vmfleet/vmfleetlaw34.MigrateStarts", spec := "migrateStarts", inPlace := ["internal/abi.NoEscape", "internal/bytealg.MakeNoZero"], unfollowed := true, recurses := true, apart := false, narrowed := true }
def MigrateStartsUptoSaid : Prop := migrateStartsUptoRow.holds Tryz.pinned (OpenSpec.upto migrateStartsSpec)

/-- 'vmfleetlaw34.MigrateOne', WHERE WHAT IT READS IS OF BULK AT MOST 1048576: true; the input reads as it did. -/
def migrateOneUptoRow : OpenClaim := { program := "ytaemmjbkndlkeaagreat", sum := "7817ed0cda7a2536d700a3e45f868de1810b940a3e9c42f869c62f81a13d5890", func := "vmfleet/vmfleetlaw34.MigrateOne", spec := "migrateOne", inPlace := ["internal/abi.NoEscape", "internal/bytealg.MakeNoZero"], unfollowed := true, recurses := true, apart := false, narrowed := true }
def MigrateOneUptoSaid : Prop := migrateOneUptoRow.holds Tryz.pinned (OpenSpec.upto migrateOneSpec)

/-- 'vmfleetlaw34.MigrateContinues', WHERE WHAT IT READS IS OF BULK AT MOST 1048576: true; the input reads as it did. -/
def migrateContinuesUptoRow : OpenClaim := { program := "ytaemmjbkndlkeaagreat", sum := "7817ed0cda7a2536d700a3e45f868de1810b940a3e9c42f869c62f81a13d5890", func := "vmfleet/vmfleetlaw34.MigrateContinues", spec := "migrateContinues", inPlace := ["internal/abi.NoEscape", "internal/bytealg.MakeNoZero"], unfollowed := true, recurses := true, apart := false, narrowed := true }
def MigrateContinuesUptoSaid : Prop := migrateContinuesUptoRow.holds Tryz.pinned (OpenSpec.upto migrateContinuesSpec)

/-- 'vmfleetlaw34.MigrateEnds', WHERE WHAT IT READS IS OF BULK AT MOST 1048576: true; the input reads as it did. -/
def migrateEndsUptoRow : OpenClaim := { program := "ytaemmjbkndlkeaagreat", sum := "7817ed0cda7a2536d700a3e45f868de1810b940a3e9c42f869c62f81a13d5890", func := "vmfleet/vmfleetlaw34.MigrateEnds", spec := "migrateEnds", inPlace := ["internal/abi.NoEscape", "internal/bytealg.MakeNoZero"], unfollowed := true, recurses := true, apart := false, narrowed := true }
def MigrateEndsUptoSaid : Prop := migrateEndsUptoRow.holds Tryz.pinned (OpenSpec.upto migrateEndsSpec)

/-- 'vmfleetlaw34.MigrateQuiet', WHERE WHAT IT READS IS OF BULK AT MOST 1048576: true; the input reads as it did. -/
def migrateQuietUptoRow : OpenClaim := { program := "ytaemmjbkndlkeaagreat", sum := "7817ed0cda7a2536d700a3e45f868de1810b940a3e9c42f869c62f81a13d5890", func := "vmfleet/vmfleetlaw34.MigrateQuiet", spec := "migrateQuiet", inPlace := ["internal/abi.NoEscape", "internal/bytealg.MakeNoZero"], unfollowed := true, recurses := true, apart := false, narrowed := true }
def MigrateQuietUptoSaid : Prop := migrateQuietUptoRow.holds Tryz.pinned (OpenSpec.upto migrateQuietSpec)

/-- 'vmfleetlaw34.MigrateCancels', WHERE WHAT IT READS IS OF BULK AT MOST 1048576: true; the input reads as it did. -/
def migrateCancelsUptoRow : OpenClaim := { program := "ytaemmjbkndlkeaagreat", sum := "7817ed0cda7a2536d700a3e45f868de1810b940a3e9c42f869c62f81a13d5890", func := "vmfleet/vmfleetlaw34.MigrateCancels", spec := "migrateCancels", inPlace := ["internal/abi.NoEscape", "internal/bytealg.MakeNoZero"], unfollowed := true, recurses := true, apart := false, narrowed := true }
def MigrateCancelsUptoSaid : Prop := migrateCancelsUptoRow.holds Tryz.pinned (OpenSpec.upto migrateCancelsSpec)

/-- 'vmfleetlaw34.MigrateOrders', WHERE WHAT IT READS IS OF BULK AT MOST 1048576: true; the input reads as it did. -/
def migrateOrdersUptoRow : OpenClaim := { program := "ytaemmjbkndlkeaagreat", sum := "7817ed0cda7a2536d700a3e45f868de1810b940a3e9c42f869c62f81a13d5890", func := "vmfleet/vmfleetlaw34.MigrateOrders", spec := "migrateOrders", inPlace := ["internal/abi.NoEscape", "internal/bytealg.MakeNoZero"], unfollowed := true, recurses := true, apart := false, narrowed := true }
def MigrateOrdersUptoSaid : Prop := migrateOrdersUptoRow.holds Tryz.pinned (OpenSpec.upto migrateOrdersSpec)

end Rows
end Go.Proofs.YtaemmjbkndlkeaaGreat

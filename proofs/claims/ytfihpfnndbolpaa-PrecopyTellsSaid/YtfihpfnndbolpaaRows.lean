/-
  No cell of these rows narrows 'for every input' (looked for: loops, veiled, ifaces, maps, wideKeys, modest, calm, conditions, laid).
  DERIVED. THE GIVEN ROWS OF THIS SEAT. 3 by the template 'for every input the law returns true; each argument reads behind the call as it read before'; 0 by the template 'total and deterministic' (their statements: YtfihpfnndbolpaaTotals.lean).
  GIVEN WITH THE SEED: the statements are not yours to turn. If you find one false, say at which input.
  Laid BY PROGRAM, IN A SANDBOX (cutbox-rows.mjs): the forced cells as the released guide's own fill.sh prints them over the translation ecf410ba1abb9edb… (all of the seat's roots in one cut). By AI agents, Wed Nov 11 2026. No macro, syntax, notation, axiom, sorry.
-/
import Derived.Test.YtfihpfnndbolpaaChecked
import GoSem.Claim
import GoSem.ClaimJoined
import GoSem.ClaimMapViews
import Derived.JoinedTies
import Derived.KernelRfl
namespace Go.Proofs.Ytfihpfnndbolpaa
/- THE CELL 'sum', in the pinned program and in every row, IS THE sha256 OF THE DUMP (.gsa) THAT YtfihpfnndbolpaaProg.lean LOADS. Nothing in Lean hashes anything: it is a label: what it is worth is what the hold of that sum in a sandbox is worth. -/
noncomputable def Try.pinned : Pinned := { name := "ytfihpfnndbolpaa", sum := "ecf410ba1abb9edb8ff7296416581235ed78607eb0b7804c95a1116bfb216e5b", checked := Try.checked }
namespace Rows
def none {H : Type} : Left H := { results := [], args := [] }

/-- 'vmfleetlaw30.PrecopyStops': WHATEVER THE INPUT: true; the input reads as it did. -/
def precopyStopsSpec : ChangeSpec := { name := "precopyStops", fn := fun _ => fun
  | [d1, d2, d3, d4, d5] => { results := [.lit (.bool true)], args := [d1, d2, d3, d4, d5] }
  | _ => none }
def precopyStopsRow : OpenClaim := { program := "ytfihpfnndbolpaa", sum := "ecf410ba1abb9edb8ff7296416581235ed78607eb0b7804c95a1116bfb216e5b", func := "vmfleet/vmfleetlaw30.PrecopyStops", spec := "precopyStops", unfollowed := true, recurses := true, apart := false }
def PrecopyStopsSaid : Prop := precopyStopsRow.holds Try.pinned (OpenSpec.ofChange precopyStopsSpec)

/-- ITS FALSE NEIGHBOUR: 'it returns false'. Refute it at one input. -/
def precopyStopsWrong : ChangeSpec := { name := "precopyStops", fn := fun _ => fun
  | [d1, d2, d3, d4, d5] => { results := [.lit (.bool false)], args := [d1, d2, d3, d4, d5] }
  | _ => none }
def PrecopyStopsWrongFalsely : Prop := precopyStopsRow.holds Try.pinned (OpenSpec.ofChange precopyStopsWrong)

/-- 'vmfleetlaw30.PrecopyEnds': WHATEVER THE INPUT: true; the input reads as it did. -/
def precopyEndsSpec : ChangeSpec := { name := "precopyEnds", fn := fun _ => fun
  | [d1, d2] => { results := [.lit (.bool true)], args := [d1, d2] }
  | _ => none }
def precopyEndsRow : OpenClaim := { program := "ytfihpfnndbolpaa", sum := "ecf410ba1abb9edb8ff7296416581235ed78607eb0b7804c95a1116bfb216e5b", func := "vmfleet/vmfleetlaw30.PrecopyEnds", spec := "precopyEnds", unfollowed := true, recurses := true, apart := false }
def PrecopyEndsSaid : Prop := precopyEndsRow.holds Try.pinned (OpenSpec.ofChange precopyEndsSpec)

/-- ITS FALSE NEIGHBOUR: 'it returns false'. Refute it at one input. -/
def precopyEndsWrong : ChangeSpec := { name := "precopyEnds", fn := fun _ => fun
  | [d1, d2] => { results := [.lit (.bool false)], args := [d1, d2] }
  | _ => none }
def PrecopyEndsWrongFalsely : Prop := precopyEndsRow.holds Try.pinned (OpenSpec.ofChange precopyEndsWrong)

/-- 'vmfleetlaw30.PrecopyTells': WHATEVER THE INPUT: true; the input reads as it did. -/
def precopyTellsSpec : ChangeSpec := { name := "precopyTells", fn := fun _ => fun
  | [d1, d2, d3, d4, d5, d6, d7] => { results := [.lit (.bool true)], args := [d1, d2, d3, d4, d5, d6, d7] }
  | _ => none }
def precopyTellsRow : OpenClaim := { program := "ytfihpfnndbolpaa", sum := "ecf410ba1abb9edb8ff7296416581235ed78607eb0b7804c95a1116bfb216e5b", func := "vmfleet/vmfleetlaw30.PrecopyTells", spec := "precopyTells", unfollowed := true, recurses := true, apart := false }
def PrecopyTellsSaid : Prop := precopyTellsRow.holds Try.pinned (OpenSpec.ofChange precopyTellsSpec)

/-- ITS FALSE NEIGHBOUR: 'it returns false'. Refute it at one input. -/
def precopyTellsWrong : ChangeSpec := { name := "precopyTells", fn := fun _ => fun
  | [d1, d2, d3, d4, d5, d6, d7] => { results := [.lit (.bool false)], args := [d1, d2, d3, d4, d5, d6, d7] }
  | _ => none }
def PrecopyTellsWrongFalsely : Prop := precopyTellsRow.holds Try.pinned (OpenSpec.ofChange precopyTellsWrong)

/- THE SECOND FORM. 'bulk': how many values and letters a reading holds, each counted each time it is reached (what is shared counts as often as it is met; a slice's spare places count too). A statement '..UptoSaid' is the law's where the arguments, and the package variables that the reading takes, are together of bulk at most 1048576: NARROWER than '..Said'. Prove '..Said' where nothing that the law and all that it calls make is longer than what came in: it says more and counts as full. Else prove '..UptoSaid'. A law counts once. -/
mutual
def uptoBulk {H : Type} : DataW H → Nat
  | .lit (.string bytes) => bytes.length + 1
  | .lit _ => 1
  | .nil => 1
  | .ptr d => uptoBulk d + 1
  | .slice elems spare => uptoBulkAll elems + uptoBulkAll spare + 1
  | .agg parts => uptoBulkAll parts + 1
  | .iface _ d => uptoBulk d + 1
  | .map entries => uptoBulkEntries entries + 1
  | .held _ => 1
def uptoBulkAll {H : Type} : List (DataW H) → Nat
  | [] => 0
  | d :: r => uptoBulk d + uptoBulkAll r
def uptoBulkEntries {H : Type} : List (Lit × DataW H) → Nat
  | [] => 0
  | x :: r => uptoBulkEntry x + uptoBulkEntries r
def uptoBulkEntry {H : Type} : Lit × DataW H → Nat
  | (.string bytes, d) => bytes.length + uptoBulk d + 1
  | (_, d) => uptoBulk d + 1
 end
def uptoSmall : (H : Type) → List (DataW H) → Bool := fun _ ds => decide (uptoBulkAll ds ≤ 1048576)
def OpenSpec.upto (s : _root_.Go.ChangeSpec) : _root_.Go.OpenSpec := { _root_.Go.OpenSpec.ofChange s with cond := some uptoSmall }

/-- 'vmfleetlaw30.PrecopyStops', WHERE WHAT IT READS IS OF BULK AT MOST 1048576: true; the input reads as it did. -/
def precopyStopsUptoRow : OpenClaim := { program := "ytfihpfnndbolpaa", sum := "ecf410ba1abb9edb8ff7296416581235ed78607eb0b7804c95a1116bfb216e5b", func := "vmfleet/vmfleetlaw30.PrecopyStops", spec := "precopyStops", unfollowed := true, recurses := true, apart := false, narrowed := true }
def PrecopyStopsUptoSaid : Prop := precopyStopsUptoRow.holds Try.pinned (OpenSpec.upto precopyStopsSpec)

/-- 'vmfleetlaw30.PrecopyEnds', WHERE WHAT IT READS IS OF BULK AT MOST 1048576: true; the input reads as it did. -/
def precopyEndsUptoRow : OpenClaim := { program := "ytfihpfnndbolpaa", sum := "ecf410ba1abb9edb8ff7296416581235ed78607eb0b7804c95a1116bfb216e5b", func := "vmfleet/vmfleetlaw30.PrecopyEnds", spec := "precopyEnds", unfollowed := true, recurses := true, apart := false, narrowed := true }
def PrecopyEndsUptoSaid : Prop := precopyEndsUptoRow.holds Try.pinned (OpenSpec.upto precopyEndsSpec)

/-- 'vmfleetlaw30.PrecopyTells', WHERE WHAT IT READS IS OF BULK AT MOST 1048576: true; the input reads as it did. -/
def precopyTellsUptoRow : OpenClaim := { program := "ytfihpfnndbolpaa", sum := "ecf410ba1abb9edb8ff7296416581235ed78607eb0b7804c95a1116bfb216e5b", func := "vmfleet/vmfleetlaw30.PrecopyTells", spec := "precopyTells", unfollowed := true, recurses := true, apart := false, narrowed := true }
def PrecopyTellsUptoSaid : Prop := precopyTellsUptoRow.holds Try.pinned (OpenSpec.upto precopyTellsSpec)

end Rows
end Go.Proofs.Ytfihpfnndbolpaa

/-
  NARROWER THAN 'FOR EVERY INPUT', by the rows' own cells (each row's printed sentence says how): PostPushes: laid · PostNeeds: laid · PostRuns: laid · AuditAccepts: laid · AuditFinds: laid · AuditScripts: laid · AuditCompares: laid · AuditFewer: laid · AuditTells: laid.
  DERIVED. THE GIVEN ROWS OF THIS SEAT. 9 by the template 'for every input the law returns true; each argument reads behind the call as it read before'; 0 by the template 'total and deterministic' (their statements: YthjfindbamdacaaGreatDoorTotals.lean).
  GIVEN WITH THE SEED: the statements are not yours to turn. If you find one false, say at which input.
  Laid BY PROGRAM, IN A SANDBOX (cutbox-rows.mjs): the forced cells as the released guide's own fill.sh prints them over the translation cfeb543d994ed229… (all of the seat's roots in one cut). By AI agents, Wed Nov 11 2026. No macro, syntax, notation, axiom, sorry.
-/
import Derived.Test.YthjfindbamdacaaGreatDoorChecked
import GoSem.Claim
import GoSem.ClaimJoined
import GoSem.ClaimMapViews
import Derived.JoinedTies
import Derived.KernelRfl
namespace Go.Proofs.YthjfindbamdacaaGreatDoor
/- THE CELL 'sum', in the pinned program and in every row, IS THE sha256 OF THE DUMP (.gsa) THAT YthjfindbamdacaaGreatDoorProg.lean LOADS. Nothing in Lean hashes anything: it is a label: what it is worth is what the hold of that sum in a sandbox is worth. -/
noncomputable def Tryz.pinned : Pinned := { name := "ythjfindbamdacaagreatdoor", sum := "cfeb543d994ed2299943af8cb9636106802c25229242376676713a842b6a71c4", checked := Tryz.checked }
namespace Rows
def none {H : Type} : Left H := { results := [], args := [] }

/- WHAT THE LISTED PACKAGE-LEVEL VARIABLES READ AS WHEN THE CALL BEGINS. Each datum BY PROGRAM (the guide's laid-datum.mjs) off the statement by which the dump's own 'gosem.cut.vars' lays the variable. In a bare row this is a premise. The card (YthjfindbamdacaaGreatDoorCards.lean) ties it to the program's text. -/
def laid_math_bits_deBruijn32tab {H : Type} : DataW H := .agg [.lit (.int .u8 0), .lit (.int .u8 1), .lit (.int .u8 28), .lit (.int .u8 2), .lit (.int .u8 29), .lit (.int .u8 14), .lit (.int .u8 24), .lit (.int .u8 3), .lit (.int .u8 30), .lit (.int .u8 22), .lit (.int .u8 20), .lit (.int .u8 15), .lit (.int .u8 25), .lit (.int .u8 17), .lit (.int .u8 4), .lit (.int .u8 8), .lit (.int .u8 31), .lit (.int .u8 27), .lit (.int .u8 13), .lit (.int .u8 23), .lit (.int .u8 21), .lit (.int .u8 19), .lit (.int .u8 16), .lit (.int .u8 7), .lit (.int .u8 26), .lit (.int .u8 12), .lit (.int .u8 18), .lit (.int .u8 6), .lit (.int .u8 11), .lit (.int .u8 5), .lit (.int .u8 10), .lit (.int .u8 9)]
def laid_math_bits_deBruijn64tab {H : Type} : DataW H := .agg [.lit (.int .u8 0), .lit (.int .u8 1), .lit (.int .u8 56), .lit (.int .u8 2), .lit (.int .u8 57), .lit (.int .u8 49), .lit (.int .u8 28), .lit (.int .u8 3), .lit (.int .u8 61), .lit (.int .u8 58), .lit (.int .u8 42), .lit (.int .u8 50), .lit (.int .u8 38), .lit (.int .u8 29), .lit (.int .u8 17), .lit (.int .u8 4), .lit (.int .u8 62), .lit (.int .u8 47), .lit (.int .u8 59), .lit (.int .u8 36), .lit (.int .u8 45), .lit (.int .u8 43), .lit (.int .u8 51), .lit (.int .u8 22), .lit (.int .u8 53), .lit (.int .u8 39), .lit (.int .u8 33), .lit (.int .u8 30), .lit (.int .u8 24), .lit (.int .u8 18), .lit (.int .u8 12), .lit (.int .u8 5), .lit (.int .u8 63), .lit (.int .u8 55), .lit (.int .u8 48), .lit (.int .u8 27), .lit (.int .u8 60), .lit (.int .u8 41), .lit (.int .u8 37), .lit (.int .u8 16), .lit (.int .u8 46), .lit (.int .u8 35), .lit (.int .u8 44), .lit (.int .u8 21), .lit (.int .u8 52), .lit (.int .u8 32), .lit (.int .u8 23), .lit (.int .u8 11), .lit (.int .u8 54), .lit (.int .u8 26), .lit (.int .u8 40), .lit (.int .u8 15), .lit (.int .u8 34), .lit (.int .u8 20), .lit (.int .u8 31), .lit (.int .u8 10), .lit (.int .u8 25), .lit (.int .u8 14), .lit (.int .u8 19), .lit (.int .u8 9), .lit (.int .u8 13), .lit (.int .u8 8), .lit (.int .u8 7), .lit (.int .u8 6)]
def laid_internal_strconv_uint64pow10 {H : Type} : DataW H := .agg [.lit (.int .u64 1), .lit (.int .u64 10), .lit (.int .u64 100), .lit (.int .u64 1000), .lit (.int .u64 10000), .lit (.int .u64 100000), .lit (.int .u64 1000000), .lit (.int .u64 10000000), .lit (.int .u64 100000000), .lit (.int .u64 1000000000), .lit (.int .u64 10000000000), .lit (.int .u64 100000000000), .lit (.int .u64 1000000000000), .lit (.int .u64 10000000000000), .lit (.int .u64 100000000000000), .lit (.int .u64 1000000000000000), .lit (.int .u64 10000000000000000), .lit (.int .u64 100000000000000000), .lit (.int .u64 1000000000000000000), .lit (.int .u64 10000000000000000000)]

/-- 'vmfleetlaw31.PostPushes': WHATEVER THE INPUT: true; the input reads as it did. -/
def postPushesSpec : ChangeSpec := { name := "postPushes", fn := fun _ => fun
  | [d1, d2, d3, d4, d5] => { results := [.lit (.bool true)], args := [d1, d2, d3, d4, d5] }
  | _ => none }
def postPushesRow : OpenClaim := { program := "ythjfindbamdacaagreatdoor", sum := "cfeb543d994ed2299943af8cb9636106802c25229242376676713a842b6a71c4", func := "vmfleet/vmfleetlaw31.PostPushes", spec := "postPushes", inPlace := ["internal/abi.NoEscape", "internal/bytealg.MakeNoZero"], recurses := true, named := ["math/bits.deBruijn32tab"], apart := false, laid := [("math/bits.deBruijn32tab", laid_math_bits_deBruijn32tab)] }
def PostPushesSaid : Prop := postPushesRow.holds Tryz.pinned (OpenSpec.ofChange postPushesSpec)

/-- ITS FALSE NEIGHBOUR: 'it returns false'. Refute it at one input. -/
def postPushesWrong : ChangeSpec := { name := "postPushes", fn := fun _ => fun
  | [d1, d2, d3, d4, d5] => { results := [.lit (.bool false)], args := [d1, d2, d3, d4, d5] }
  | _ => none }
def PostPushesWrongFalsely : Prop := postPushesRow.holds Tryz.pinned (OpenSpec.ofChange postPushesWrong)

/-- 'vmfleetlaw31.PostNeeds': WHATEVER THE INPUT: true; the input reads as it did. -/
def postNeedsSpec : ChangeSpec := { name := "postNeeds", fn := fun _ => fun
  | [d1, d2, d3, d4, d5, d6] => { results := [.lit (.bool true)], args := [d1, d2, d3, d4, d5, d6] }
  | _ => none }
def postNeedsRow : OpenClaim := { program := "ythjfindbamdacaagreatdoor", sum := "cfeb543d994ed2299943af8cb9636106802c25229242376676713a842b6a71c4", func := "vmfleet/vmfleetlaw31.PostNeeds", spec := "postNeeds", inPlace := ["internal/abi.NoEscape", "internal/bytealg.MakeNoZero"], recurses := true, named := ["math/bits.deBruijn32tab"], apart := false, laid := [("math/bits.deBruijn32tab", laid_math_bits_deBruijn32tab)] }
def PostNeedsSaid : Prop := postNeedsRow.holds Tryz.pinned (OpenSpec.ofChange postNeedsSpec)

/-- ITS FALSE NEIGHBOUR: 'it returns false'. Refute it at one input. -/
def postNeedsWrong : ChangeSpec := { name := "postNeeds", fn := fun _ => fun
  | [d1, d2, d3, d4, d5, d6] => { results := [.lit (.bool false)], args := [d1, d2, d3, d4, d5, d6] }
  | _ => none }
def PostNeedsWrongFalsely : Prop := postNeedsRow.holds Tryz.pinned (OpenSpec.ofChange postNeedsWrong)

/-- 'vmfleetlaw31.PostRuns': WHATEVER THE INPUT: true; the input reads as it did. -/
def postRunsSpec : ChangeSpec := { name := "postRuns", fn := fun _ => fun
  | [d1, d2, d3, d4, d5] => { results := [.lit (.bool true)], args := [d1, d2, d3, d4, d5] }
  | _ => none }
def postRunsRow : OpenClaim := { program := "ythjfindbamdacaagreatdoor", sum := "cfeb543d994ed2299943af8cb9636106802c25229242376676713a842b6a71c4", func := "vmfleet/vmfleetlaw31.PostRuns", spec := "postRuns", inPlace := ["internal/abi.NoEscape", "internal/bytealg.MakeNoZero"], recurses := true, named := ["math/bits.deBruijn32tab"], apart := false, laid := [("math/bits.deBruijn32tab", laid_math_bits_deBruijn32tab)] }
def PostRunsSaid : Prop := postRunsRow.holds Tryz.pinned (OpenSpec.ofChange postRunsSpec)

/-- ITS FALSE NEIGHBOUR: 'it returns false'. Refute it at one input. -/
def postRunsWrong : ChangeSpec := { name := "postRuns", fn := fun _ => fun
  | [d1, d2, d3, d4, d5] => { results := [.lit (.bool false)], args := [d1, d2, d3, d4, d5] }
  | _ => none }
def PostRunsWrongFalsely : Prop := postRunsRow.holds Tryz.pinned (OpenSpec.ofChange postRunsWrong)

/-- 'vmfleetlaw43.AuditAccepts': WHATEVER THE INPUT: true; the input reads as it did. -/
def auditAcceptsSpec : ChangeSpec := { name := "auditAccepts", fn := fun _ => fun
  | [d1, d2, d3, d4] => { results := [.lit (.bool true)], args := [d1, d2, d3, d4] }
  | _ => none }
def auditAcceptsRow : OpenClaim := { program := "ythjfindbamdacaagreatdoor", sum := "cfeb543d994ed2299943af8cb9636106802c25229242376676713a842b6a71c4", func := "vmfleet/vmfleetlaw43.AuditAccepts", spec := "auditAccepts", inPlace := ["internal/abi.NoEscape", "internal/bytealg.MakeNoZero"], unfollowed := true, recurses := true, named := ["internal/strconv.uint64pow10", "math/bits.deBruijn32tab", "math/bits.deBruijn64tab"], apart := false, laid := [("math/bits.deBruijn32tab", laid_math_bits_deBruijn32tab), ("math/bits.deBruijn64tab", laid_math_bits_deBruijn64tab), ("internal/strconv.uint64pow10", laid_internal_strconv_uint64pow10)] }
def AuditAcceptsSaid : Prop := auditAcceptsRow.holds Tryz.pinned (OpenSpec.ofChange auditAcceptsSpec)

/-- ITS FALSE NEIGHBOUR: 'it returns false'. Refute it at one input. -/
def auditAcceptsWrong : ChangeSpec := { name := "auditAccepts", fn := fun _ => fun
  | [d1, d2, d3, d4] => { results := [.lit (.bool false)], args := [d1, d2, d3, d4] }
  | _ => none }
def AuditAcceptsWrongFalsely : Prop := auditAcceptsRow.holds Tryz.pinned (OpenSpec.ofChange auditAcceptsWrong)

/-- 'vmfleetlaw43.AuditFinds': WHATEVER THE INPUT: true; the input reads as it did. -/
def auditFindsSpec : ChangeSpec := { name := "auditFinds", fn := fun _ => fun
  | [d1, d2, d3, d4, d5, d6] => { results := [.lit (.bool true)], args := [d1, d2, d3, d4, d5, d6] }
  | _ => none }
def auditFindsRow : OpenClaim := { program := "ythjfindbamdacaagreatdoor", sum := "cfeb543d994ed2299943af8cb9636106802c25229242376676713a842b6a71c4", func := "vmfleet/vmfleetlaw43.AuditFinds", spec := "auditFinds", inPlace := ["internal/abi.NoEscape", "internal/bytealg.MakeNoZero"], unfollowed := true, recurses := true, named := ["internal/strconv.uint64pow10", "math/bits.deBruijn32tab", "math/bits.deBruijn64tab"], apart := false, laid := [("math/bits.deBruijn32tab", laid_math_bits_deBruijn32tab), ("math/bits.deBruijn64tab", laid_math_bits_deBruijn64tab), ("internal/strconv.uint64pow10", laid_internal_strconv_uint64pow10)] }
def AuditFindsSaid : Prop := auditFindsRow.holds Tryz.pinned (OpenSpec.ofChange auditFindsSpec)

/-- ITS FALSE NEIGHBOUR: 'it returns false'. Refute it at one input. -/
def auditFindsWrong : ChangeSpec := { name := "auditFinds", fn := fun _ => fun
  | [d1, d2, d3, d4, d5, d6] => { results := [.lit (.bool false)], args := [d1, d2, d3, d4, d5, d6] }
  | _ => none }
def AuditFindsWrongFalsely : Prop := auditFindsRow.holds Tryz.pinned (OpenSpec.ofChange auditFindsWrong)

/-- 'vmfleetlaw43.AuditScripts': WHATEVER THE INPUT: true; the input reads as it did. -/
def auditScriptsSpec : ChangeSpec := { name := "auditScripts", fn := fun _ => fun
  | [d1, d2, d3, d4, d5] => { results := [.lit (.bool true)], args := [d1, d2, d3, d4, d5] }
  | _ => none }
def auditScriptsRow : OpenClaim := { program := "ythjfindbamdacaagreatdoor", sum := "cfeb543d994ed2299943af8cb9636106802c25229242376676713a842b6a71c4", func := "vmfleet/vmfleetlaw43.AuditScripts", spec := "auditScripts", inPlace := ["internal/abi.NoEscape", "internal/bytealg.MakeNoZero"], unfollowed := true, recurses := true, named := ["internal/strconv.uint64pow10", "math/bits.deBruijn32tab", "math/bits.deBruijn64tab"], apart := false, laid := [("math/bits.deBruijn32tab", laid_math_bits_deBruijn32tab), ("math/bits.deBruijn64tab", laid_math_bits_deBruijn64tab), ("internal/strconv.uint64pow10", laid_internal_strconv_uint64pow10)] }
def AuditScriptsSaid : Prop := auditScriptsRow.holds Tryz.pinned (OpenSpec.ofChange auditScriptsSpec)

/-- ITS FALSE NEIGHBOUR: 'it returns false'. Refute it at one input. -/
def auditScriptsWrong : ChangeSpec := { name := "auditScripts", fn := fun _ => fun
  | [d1, d2, d3, d4, d5] => { results := [.lit (.bool false)], args := [d1, d2, d3, d4, d5] }
  | _ => none }
def AuditScriptsWrongFalsely : Prop := auditScriptsRow.holds Tryz.pinned (OpenSpec.ofChange auditScriptsWrong)

/-- 'vmfleetlaw43.AuditCompares': WHATEVER THE INPUT: true; the input reads as it did. -/
def auditComparesSpec : ChangeSpec := { name := "auditCompares", fn := fun _ => fun
  | [d1, d2, d3, d4] => { results := [.lit (.bool true)], args := [d1, d2, d3, d4] }
  | _ => none }
def auditComparesRow : OpenClaim := { program := "ythjfindbamdacaagreatdoor", sum := "cfeb543d994ed2299943af8cb9636106802c25229242376676713a842b6a71c4", func := "vmfleet/vmfleetlaw43.AuditCompares", spec := "auditCompares", inPlace := ["internal/abi.NoEscape", "internal/bytealg.MakeNoZero"], unfollowed := true, recurses := true, named := ["internal/strconv.uint64pow10", "math/bits.deBruijn32tab", "math/bits.deBruijn64tab"], apart := false, laid := [("math/bits.deBruijn32tab", laid_math_bits_deBruijn32tab), ("math/bits.deBruijn64tab", laid_math_bits_deBruijn64tab), ("internal/strconv.uint64pow10", laid_internal_strconv_uint64pow10)] }
def AuditComparesSaid : Prop := auditComparesRow.holds Tryz.pinned (OpenSpec.ofChange auditComparesSpec)

/-- ITS FALSE NEIGHBOUR: 'it returns false'. Refute it at one input. -/
def auditComparesWrong : ChangeSpec := { name := "auditCompares", fn := fun _ => fun
  | [d1, d2, d3, d4] => { results := [.lit (.bool false)], args := [d1, d2, d3, d4] }
  | _ => none }
def AuditComparesWrongFalsely : Prop := auditComparesRow.holds Tryz.pinned (OpenSpec.ofChange auditComparesWrong)

/-- 'vmfleetlaw43.AuditFewer': WHATEVER THE INPUT: true; the input reads as it did. -/
def auditFewerSpec : ChangeSpec := { name := "auditFewer", fn := fun _ => fun
  | [d1, d2, d3, d4, d5, d6] => { results := [.lit (.bool true)], args := [d1, d2, d3, d4, d5, d6] }
  | _ => none }
def auditFewerRow : OpenClaim := { program := "ythjfindbamdacaagreatdoor", sum := "cfeb543d994ed2299943af8cb9636106802c25229242376676713a842b6a71c4", func := "vmfleet/vmfleetlaw43.AuditFewer", spec := "auditFewer", inPlace := ["internal/abi.NoEscape", "internal/bytealg.MakeNoZero"], unfollowed := true, recurses := true, named := ["internal/strconv.uint64pow10", "math/bits.deBruijn32tab", "math/bits.deBruijn64tab"], apart := false, laid := [("math/bits.deBruijn32tab", laid_math_bits_deBruijn32tab), ("math/bits.deBruijn64tab", laid_math_bits_deBruijn64tab), ("internal/strconv.uint64pow10", laid_internal_strconv_uint64pow10)] }
def AuditFewerSaid : Prop := auditFewerRow.holds Tryz.pinned (OpenSpec.ofChange auditFewerSpec)

/-- ITS FALSE NEIGHBOUR: 'it returns false'. Refute it at one input. -/
def auditFewerWrong : ChangeSpec := { name := "auditFewer", fn := fun _ => fun
  | [d1, d2, d3, d4, d5, d6] => { results := [.lit (.bool false)], args := [d1, d2, d3, d4, d5, d6] }
  | _ => none }
def AuditFewerWrongFalsely : Prop := auditFewerRow.holds Tryz.pinned (OpenSpec.ofChange auditFewerWrong)

/-- 'vmfleetlaw43.AuditTells': WHATEVER THE INPUT: true; the input reads as it did. -/
def auditTellsSpec : ChangeSpec := { name := "auditTells", fn := fun _ => fun
  | [d1, d2, d3, d4, d5] => { results := [.lit (.bool true)], args := [d1, d2, d3, d4, d5] }
  | _ => none }
def auditTellsRow : OpenClaim := { program := "ythjfindbamdacaagreatdoor", sum := "cfeb543d994ed2299943af8cb9636106802c25229242376676713a842b6a71c4", func := "vmfleet/vmfleetlaw43.AuditTells", spec := "auditTells", inPlace := ["internal/abi.NoEscape", "internal/bytealg.MakeNoZero"], unfollowed := true, recurses := true, named := ["internal/strconv.uint64pow10", "math/bits.deBruijn32tab", "math/bits.deBruijn64tab"], apart := false, laid := [("math/bits.deBruijn32tab", laid_math_bits_deBruijn32tab), ("math/bits.deBruijn64tab", laid_math_bits_deBruijn64tab), ("internal/strconv.uint64pow10", laid_internal_strconv_uint64pow10)] }
def AuditTellsSaid : Prop := auditTellsRow.holds Tryz.pinned (OpenSpec.ofChange auditTellsSpec)

/-- ITS FALSE NEIGHBOUR: 'it returns false'. Refute it at one input. -/
def auditTellsWrong : ChangeSpec := { name := "auditTells", fn := fun _ => fun
  | [d1, d2, d3, d4, d5] => { results := [.lit (.bool false)], args := [d1, d2, d3, d4, d5] }
  | _ => none }
def AuditTellsWrongFalsely : Prop := auditTellsRow.holds Tryz.pinned (OpenSpec.ofChange auditTellsWrong)

/- THE SECOND FORM. 'bulk': how many values and letters a reading holds, each counted each time it is reached (what is shared counts as often as it is met; a slice's spare places count too). A statement '..UptoSaid' is the law's where the arguments, and the package variables that the reading takes, are together of bulk at most 1048576: NARROWER than '..Said'. Prove '..Said' where nothing that the law and all that it calls make is longer than what came in: it says more and counts as full. Else prove '..UptoSaid'. A law counts once. -/
mutual
def uptoBulk {H : Type} : DataW H → Nat
  | .lit (.string bytes) => bytes.length + 1
  | .lit _ => 1
  | .nil => 1
  | .ptr d => uptoBulk d + 1
  | .slice elems spare => uptoBulkAll elems + uptoBulkAll spare + 1
  | .agg parts => uptoBulkAll parts + 1
  | .iface _ d => uptoBulk d + 1
  | .map entries => uptoBulkEntries entries + 1
  | .held _ => 1
def uptoBulkAll {H : Type} : List (DataW H) → Nat
  | [] => 0
  | d :: r => uptoBulk d + uptoBulkAll r
def uptoBulkEntries {H : Type} : List (Lit × DataW H) → Nat
  | [] => 0
  | x :: r => uptoBulkEntry x + uptoBulkEntries r
def uptoBulkEntry {H : Type} : Lit × DataW H → Nat
  | (.string bytes, d) => bytes.length + uptoBulk d + 1
  | (_, d) => uptoBulk d + 1
 end
def uptoSmall : (H : Type) → List (DataW H) → Bool := fun _ ds => decide (uptoBulkAll ds ≤ 1048576)
def OpenSpec.upto (s : _root_.Go.ChangeSpec) : _root_.Go.OpenSpec := { _root_.Go.OpenSpec.ofChange s with cond := some uptoSmall }

/-- 'vmfleetlaw31.PostPushes', WHERE WHAT IT READS IS OF BULK AT MOST 1048576: true; the input reads as it did. -/
def postPushesUptoRow : OpenClaim := { program := "ythjfindbamdacaagreatdoor", sum := "cfeb543d994ed2299943af8cb9636106802c25229242376676713a842b6a71c4", func := "vmfleet/vmfleetlaw31.PostPushes", spec := "postPushes", inPlace := ["internal/abi.NoEscape", "internal/bytealg.MakeNoZero"], recurses := true, named := ["math/bits.deBruijn32tab"], apart := false, laid := [("math/bits.deBruijn32tab", laid_math_bits_deBruijn32tab)], narrowed := true }
def PostPushesUptoSaid : Prop := postPushesUptoRow.holds Tryz.pinned (OpenSpec.upto postPushesSpec)

/-- 'vmfleetlaw31.PostNeeds', WHERE WHAT IT READS IS OF BULK AT MOST 1048576: true; the input reads as it did. -/
def postNeedsUptoRow : OpenClaim := { program := "ythjfindbamdacaagreatdoor", sum := "cfeb543d994ed2299943af8cb9636106802c25229242376676713a842b6a71c4", func := "vmfleet/vmfleetlaw31.PostNeeds", spec := "postNeeds", inPlace := ["internal/abi.NoEscape", "internal/bytealg.MakeNoZero"], recurses := true, named := ["math/bits.deBruijn32tab"], apart := false, laid := [("math/bits.deBruijn32tab", laid_math_bits_deBruijn32tab)], narrowed := true }
def PostNeedsUptoSaid : Prop := postNeedsUptoRow.holds Tryz.pinned (OpenSpec.upto postNeedsSpec)

/-- 'vmfleetlaw31.PostRuns', WHERE WHAT IT READS IS OF BULK AT MOST 1048576: true; the input reads as it did. -/
def postRunsUptoRow : OpenClaim := { program := "ythjfindbamdacaagreatdoor", sum := "cfeb543d994ed2299943af8cb9636106802c25229242376676713a842b6a71c4", func := "vmfleet/vmfleetlaw31.PostRuns", spec := "postRuns", inPlace := ["internal/abi.NoEscape", "internal/bytealg.MakeNoZero"], recurses := true, named := ["math/bits.deBruijn32tab"], apart := false, laid := [("math/bits.deBruijn32tab", laid_math_bits_deBruijn32tab)], narrowed := true }
def PostRunsUptoSaid : Prop := postRunsUptoRow.holds Tryz.pinned (OpenSpec.upto postRunsSpec)

/-- 'vmfleetlaw43.AuditAccepts', WHERE WHAT IT READS IS OF BULK AT MOST 1048576: true; the input reads as it did. -/
def auditAcceptsUptoRow : OpenClaim := { program := "ythjfindbamdacaagreatdoor", sum := "cfeb543d994ed2299943af8cb9636106802c25229242376676713a842b6a71c4", func := "vmfleet/vmfleetlaw43.AuditAccepts", spec := "auditAccepts", inPlace := ["internal/abi.NoEscape", "internal/bytealg.MakeNoZero"], unfollowed := true, recurses := true, named := ["internal/strconv.uint64pow10", "math/bits.deBruijn32tab", "math/bits.deBruijn64tab"], apart := false, laid := [("math/bits.deBruijn32tab", laid_math_bits_deBruijn32tab), ("math/bits.deBruijn64tab", laid_math_bits_deBruijn64tab), ("internal/strconv.uint64pow10", laid_internal_strconv_uint64pow10)], narrowed := true }
def AuditAcceptsUptoSaid : Prop := auditAcceptsUptoRow.holds Tryz.pinned (OpenSpec.upto auditAcceptsSpec)

/-- 'vmfleetlaw43.AuditFinds', WHERE WHAT IT READS IS OF BULK AT MOST 1048576: true; the input reads as it did. -/
def auditFindsUptoRow : OpenClaim := { program := "ythjfindbamdacaagreatdoor", sum := "cfeb543d994ed2299943af8cb9636106802c25229242376676713a842b6a71c4", func := "vmfleet/vmfleetlaw43.AuditFinds", spec := "auditFinds", inPlace := ["internal/abi.NoEscape", "internal/bytealg.MakeNoZero"], unfollowed := true, recurses := true, named := ["internal/strconv.uint64pow10", "math/bits.deBruijn32tab", "math/bits.deBruijn64tab"], apart := false, laid := [("math/bits.deBruijn32tab", laid_math_bits_deBruijn32tab), ("math/bits.deBruijn64tab", laid_math_bits_deBruijn64tab), ("internal/strconv.uint64pow10", laid_internal_strconv_uint64pow10)], narrowed := true }
def AuditFindsUptoSaid : Prop := auditFindsUptoRow.holds Tryz.pinned (OpenSpec.upto auditFindsSpec)

/-- 'vmfleetlaw43.AuditScripts', WHERE WHAT IT READS IS OF BULK AT MOST 1048576: true; the input reads as it did. -/
def auditScriptsUptoRow : OpenClaim := { program := "ythjfindbamdacaagreatdoor", sum := "cfeb543d994ed2299943af8cb9636106802c25229242376676713a842b6a71c4", func := "vmfleet/vmfleetlaw43.AuditScripts", spec := "auditScripts", inPlace := ["internal/abi.NoEscape", "internal/bytealg.MakeNoZero"], unfollowed := true, recurses := true, named := ["internal/strconv.uint64pow10", "math/bits.deBruijn32tab", "math/bits.deBruijn64tab"], apart := false, laid := [("math/bits.deBruijn32tab", laid_math_bits_deBruijn32tab), ("math/bits.deBruijn64tab", laid_math_bits_deBruijn64tab), ("internal/strconv.uint64pow10", laid_internal_strconv_uint64pow10)], narrowed := true }
def AuditScriptsUptoSaid : Prop := auditScriptsUptoRow.holds Tryz.pinned (OpenSpec.upto auditScriptsSpec)

/-- 'vmfleetlaw43.AuditCompares', WHERE WHAT IT READS IS OF BULK AT MOST 1048576: true; the input reads as it did. -/
def auditComparesUptoRow : OpenClaim := { program := "ythjfindbamdacaagreatdoor", sum := "cfeb543d994ed2299943af8cb9636106802c25229242376676713a842b6a71c4", func := "vmfleet/vmfleetlaw43.AuditCompares", spec := "auditCompares", inPlace := ["internal/abi.NoEscape", "internal/bytealg.MakeNoZero"], unfollowed := true, recurses := true, named := ["internal/strconv.uint64pow10", "math/bits.deBruijn32tab", "math/bits.deBruijn64tab"], apart := false, laid := [("math/bits.deBruijn32tab", laid_math_bits_deBruijn32tab), ("math/bits.deBruijn64tab", laid_math_bits_deBruijn64tab), ("internal/strconv.uint64pow10", laid_internal_strconv_uint64pow10)], narrowed := true }
def AuditComparesUptoSaid : Prop := auditComparesUptoRow.holds Tryz.pinned (OpenSpec.upto auditComparesSpec)

/-- 'vmfleetlaw43.AuditFewer', WHERE WHAT IT READS IS OF BULK AT MOST 1048576: true; the input reads as it did. -/
def auditFewerUptoRow : OpenClaim := { program := "ythjfindbamdacaagreatdoor", sum := "cfeb543d994ed2299943af8cb9636106802c25229242376676713a842b6a71c4", func := "vmfleet/vmfleetlaw43.AuditFewer", spec := "auditFewer", inPlace := ["internal/abi.NoEscape", "internal/bytealg.MakeNoZero"], unfollowed := true, recurses := true, named := ["internal/strconv.uint64pow10", "math/bits.deBruijn32tab", "math/bits.deBruijn64tab"], apart := false, laid := [("math/bits.deBruijn32tab", laid_math_bits_deBruijn32tab), ("math/bits.deBruijn64tab", laid_math_bits_deBruijn64tab), ("internal/strconv.uint64pow10", laid_internal_strconv_uint64pow10)], narrowed := true }
def AuditFewerUptoSaid : Prop := auditFewerUptoRow.holds Tryz.pinned (OpenSpec.upto auditFewerSpec)

/-- 'vmfleetlaw43.AuditTells', WHERE WHAT IT READS IS OF BULK AT MOST 1048576: true; the input reads as it did. -/
def auditTellsUptoRow : OpenClaim := { program := "ythjfindbamdacaagreatdoor", sum := "cfeb543d994ed2299943af8cb9636106802c25229242376676713a842b6a71c4", func := "vmfleet/vmfleetlaw43.AuditTells", spec := "auditTells", inPlace := ["internal/abi.NoEscape", "internal/bytealg.MakeNoZero"], unfollowed := true, recurses := true, named := ["internal/strconv.uint64pow10", "math/bits.deBruijn32tab", "math/bits.deBruijn64tab"], apart := false, laid := [("math/bits.deBruijn32tab", laid_math_bits_deBruijn32tab), ("math/bits.deBruijn64tab", laid_math_bits_deBruijn64tab), ("internal/strconv.uint64pow10", laid_internal_strconv_uint64pow10)], narrowed := true }
def AuditTellsUptoSaid : Prop := auditTellsUptoRow.holds Tryz.pinned (OpenSpec.upto auditTellsSpec)

end Rows
end Go.Proofs.YthjfindbamdacaaGreatDoor

/-
  PROVED: 'Rows.PrecopyStopsSaid': whatever the input: vmfleetlaw30.PrecopyStops returns true, and each argument reads behind the call as it read before. No condition.
-/
import Derived.Test.YtfihpfnndbolpaaRows
import Derived.WalkKit
import Derived.ProofKit
import Derived.OpenShut
import Derived.ShutString
import Derived.ChangeOld
import Derived.Below
import Derived.SizedLaws
import Derived.Test.YtfihpfnndbolpaaPrecopyStopsLaw
import Derived.Test.YtfihpfnndbolpaaPrecopyStopsFacts
import Derived.Test.YtfihpfnndbolpaaPrecopyStopsP30L
namespace Go.Proofs.Ytfihpfnndbolpaa.precopyStops
open Go Go.GD Go.ChangeShapes Go.WideShapes Go.ChangeAt Go.RowKit
set_option linter.unusedVariables false
theorem own : ownKnob Try.prog.godebug = none := by kernel_rfl
theorem laidOut : laidOutB Try.prog = true := by kernel_rfl
def sig : List (Bool × List STy) := [(false, [.int .i64]), (false, [.sl [.int .i64]]), (false, [.int .i64]), (false, [.int .i64]), (false, [.int .i64])]
theorem sigOK : SigOK Try.prog 8 Try.f3.params.toList sig := by
  rw [Try.params3]
  exact ⟨by kernel_rfl, by kernel_rfl, by kernel_rfl, of_decide_eq_true (by kernel_rfl), ⟨by kernel_rfl, by kernel_rfl, by kernel_rfl, of_decide_eq_true (by kernel_rfl), ⟨by kernel_rfl, by kernel_rfl, by kernel_rfl, of_decide_eq_true (by kernel_rfl), ⟨by kernel_rfl, by kernel_rfl, by kernel_rfl, of_decide_eq_true (by kernel_rfl), ⟨by kernel_rfl, by kernel_rfl, by kernel_rfl, of_decide_eq_true (by kernel_rfl), trivial⟩⟩⟩⟩⟩
theorem called (Ds : List D) (h : FitA sig Ds) : ACalls Try.prog 3 Ds [] (.bool true) [] := by
  obtain ⟨d1, Ds, rfl, h1, h⟩ := fitA_one h
  obtain ⟨d2, Ds, rfl, h2, h⟩ := fitA_one h
  obtain ⟨d3, Ds, rfl, h3, h⟩ := fitA_one h
  obtain ⟨d4, Ds, rfl, h4, h⟩ := fitA_one h
  obtain ⟨d5, Ds, rfl, h5, h⟩ := fitA_one h
  obtain rfl := fitA_nil h
  obtain ⟨pages, rfl, _⟩ := fit_int (fits_one h1)
  obtain ⟨dirty, rfl, r1, _⟩ := fit_ints (fits_one h2)
  obtain ⟨limit, rfl, _⟩ := fit_int (fits_one h3)
  obtain ⟨rate, rfl, _⟩ := fit_int (fits_one h4)
  obtain ⟨rounds, rfl, _⟩ := fit_int (fits_one h5)
  obtain ⟨g1, g2⟩ := Tree.pp (W := fun r => r = true) (stops_w pages dirty limit rate rounds)
  have := (law30_PrecopyStops_ok.absW rfl [.int .i64 pages, .sl 1 (.ints .i64 dirty) false, .int .i64 limit, .int .i64 rate, .int .i64 rounds] [] _ Bool (law30_PrecopyStops pages dirty limit rate rounds) (fun X => .bool X) (fun X => []) (by rfl) g1).1
  rw [show law30_PrecopyStops pages dirty limit rate rounds = true from g2] at this
  exact this
set_option maxRecDepth 100000 in
theorem lifted (os : Os) (started : os.Started) (H : Type) (enc : TypeId × Value → H) :
    ReturnsInHanded {} Try.checked os 3 .any (Rows.precopyStopsSpec.pre6 enc Try.prog Try.f3 Rows.precopyStopsRow.domain false) (Rows.precopyStopsSpec.post enc Try.prog Try.f3 false true false false) := by
  refine returnsInHanded_of_change_sized (C := Try.checked) own started (by kernel_rfl) Try.func3
    (ChangeSpec.witness6 (enc := enc) (C := Try.checked) false ⟨#[], #[.int .i64 0, .slice none 0 0, .int .i64 0, .int .i64 0, .int .i64 0], []⟩ 8 (by kernel_rfl) (by kernel_rfl) (by kernel_rfl) (by kernel_rfl)) ?_
  intro W base args ds gs before hval0 hW hcnd hsz _
  exact law_lifted laidOut sigOK (by kernel_rfl) Try.underlying4 rfl (fun ds hd => by match ds, hd with | [d0, d1, d2, d3, d4], _ => exact ⟨rfl, rfl, rfl⟩) called W base args ds gs before hval0 hW hsz
theorem named : Try.pinned.checked.prog.funcNamed Rows.precopyStopsRow.func = some 3 := by kernel_rfl
theorem inst : Try.f3.isInstance Try.pinned.checked.prog Rows.precopyStopsRow.origin Rows.precopyStopsRow.targs := of_decide_eq_true (by kernel_rfl)
theorem wrap : Try.f3.isWrapper Try.pinned.checked.prog Rows.precopyStopsRow.wrapper Rows.precopyStopsRow.mainSum := by unfold Func.isWrapper; first | (rw [if_pos (by decide +kernel)]; kernel_rfl) | (rw [if_neg (by decide +kernel)]; exact ⟨rfl, rfl⟩)
theorem over : Rows.precopyStopsRow.holds Try.pinned (OpenSpec.ofChange Rows.precopyStopsSpec) :=
  OpenClaim.holds_of_wide 3 Try.f3 rfl rfl rfl rfl rfl rfl rfl ⟨rfl, rfl, rfl, rfl, rfl⟩ rfl rfl rfl rfl rfl named Try.func3 facts inst wrap (fun os started H enc _ => lifted os started H enc)
theorem proved : Rows.PrecopyStopsSaid := over
#print axioms proved
end Go.Proofs.Ytfihpfnndbolpaa.precopyStops

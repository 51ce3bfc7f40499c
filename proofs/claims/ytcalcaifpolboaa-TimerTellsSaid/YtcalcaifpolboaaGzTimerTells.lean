/-
  PROVED: 'Rows.TimerTellsSaid': whatever the input: vmfleetlaw8.TimerTells returns true, and each argument reads behind the call as it read before. No condition.
-/
import Derived.Test.YtcalcaifpolboaaRows
import Derived.WalkKit
import Derived.ProofKit
import Derived.OpenShut
import Derived.ShutString
import Derived.ChangeOld
import Derived.Below
import Derived.Test.YtcalcaifpolboaaGdLaw
import Derived.Test.YtcalcaifpolboaaGxTimer
namespace Go.Proofs.Ytcalcaifpolboaa.timerTells
open Go Go.GD Go.ChangeShapes Go.WideShapes Go.ChangeAt Go.RowKit
set_option linter.unusedVariables false

theorem own : ownKnob Try.prog.godebug = none := by kernel_rfl
theorem laidOut : laidOutB Try.prog = true := by kernel_rfl

/-- The parameters' types. -/
def sig : List (Bool × List STy) := [(true, [.bool, .int .u32, .bool]), (false, [.int .u32]), (false, [.int .u32])]
theorem sigOK : SigOK Try.prog 8 Try.f3.params.toList sig := by
  rw [Try.params3]
  exact ⟨by kernel_rfl, by kernel_rfl, by kernel_rfl, of_decide_eq_true (by kernel_rfl), ⟨by kernel_rfl, by kernel_rfl, by kernel_rfl, of_decide_eq_true (by kernel_rfl), ⟨by kernel_rfl, by kernel_rfl, by kernel_rfl, of_decide_eq_true (by kernel_rfl), trivial⟩⟩⟩

/-- The call. -/
theorem called (Ds : List D) (h : FitA sig Ds) : ACalls Try.prog 3 Ds [] (.bool true) [] := by
  match Ds, h with
  | [d1, d2, d3], h =>
    simp only [FitA, sig] at h
    obtain ⟨⟨es, rfl, h1⟩, h2, h3, _⟩ := h
    match es, h1 with
    | [e1, e2, e3], h1 =>
      simp only [Fits, Fit, and_true] at h1 h2 h3
      obtain ⟨⟨a, rfl⟩, ⟨d, rfl, _⟩, ⟨f, rfl⟩⟩ := h1
      obtain ⟨e, rfl, _⟩ := h2
      obtain ⟨n, rfl, _⟩ := h3
      exact law8_TimerTells_calls a d f e n

set_option maxRecDepth 100000 in
theorem lifted (os : Os) (started : os.Started) (H : Type) (enc : TypeId × Value → H) :
    ReturnsInHanded {} Try.checked os 3 .any (Rows.timerTellsSpec.pre6 enc Try.prog Try.f3 Rows.timerTellsRow.domain false) (Rows.timerTellsSpec.post enc Try.prog Try.f3 false true false false) := by
  refine returnsInHanded_of_change (C := Try.checked) own started (by kernel_rfl) Try.func3
    (ChangeSpec.witness6 (enc := enc) (C := Try.checked) false ⟨#[], #[.agg #[.bool false, .int .u32 0, .bool false], .int .u32 0, .int .u32 0], []⟩ 8 (by kernel_rfl) (by kernel_rfl) (by kernel_rfl) (by kernel_rfl)) ?_
  intro W base args ds gs before hval0 hW hcnd _
  exact law_lifted laidOut sigOK (by kernel_rfl) Try.underlying4 rfl (fun ds hd => by match ds, hd with | [d0, d1, d2], _ => exact ⟨rfl, rfl, rfl⟩) called W base args ds gs before hval0 hW

theorem over : Rows.timerTellsRow.holds Try.pinned (OpenSpec.ofChange Rows.timerTellsSpec) :=
  OpenClaim.holds_of_wide 3 Try.f3 rfl rfl rfl rfl rfl rfl rfl ⟨rfl, rfl, rfl, rfl, rfl⟩ rfl rfl rfl rfl rfl (by kernel_rfl) Try.func3 (by kernel_rfl)
    (of_decide_eq_true (by kernel_rfl)) (by unfold Func.isWrapper; first | (rw [if_pos (by decide +kernel)]; kernel_rfl) | (rw [if_neg (by decide +kernel)]; exact ⟨rfl, rfl⟩))
    (fun os started H enc _ => lifted os started H enc)

/-- ████ THE STATEMENT ████ -/
theorem proved : Rows.TimerTellsSaid := over
#print axioms proved
end Go.Proofs.Ytcalcaifpolboaa.timerTells

/-
  PROVED: 'Rows.MachineConfinedSaid': whatever the input: vmfleetlaw12.MachineConfined returns true, and each argument reads behind the call as it read before. No condition.
-/
import Derived.Test.YtdkiadhigcfmkaaGreatRows
import Derived.WalkKit
import Derived.ProofKit
import Derived.OpenShut
import Derived.ShutString
import Derived.ChangeOld
import Derived.Below
import Derived.SizedLaws
import Derived.Test.YtdkiadhigcfmkaaGreatMachineConfinedLaw
import Derived.Test.YtdkiadhigcfmkaaGreatMachineConfinedFin
namespace Go.Proofs.YtdkiadhigcfmkaaGreat.machineConfined
open Go Go.GD Go.ChangeShapes Go.WideShapes Go.ChangeAt Go.RowKit
set_option linter.unusedVariables false
theorem own : ownKnob Tryz.prog.godebug = none := by kernel_rfl
theorem laidOut : laidOutB Tryz.prog = true := by kernel_rfl
def sig : List (Bool × List STy) := [(false, [.sl [.int .i64]]), (false, [.sl [.int .i64]]), (false, [.int .i64])]
theorem sigOK : SigOK Tryz.prog 8 Tryz.f6.params.toList sig := by
  rw [Tryz.params6]
  exact ⟨by kernel_rfl, by kernel_rfl, by kernel_rfl, of_decide_eq_true (by kernel_rfl), ⟨by kernel_rfl, by kernel_rfl, by kernel_rfl, of_decide_eq_true (by kernel_rfl), ⟨by kernel_rfl, by kernel_rfl, by kernel_rfl, of_decide_eq_true (by kernel_rfl), trivial⟩⟩⟩
theorem called (Ds : List D) (h : FitA sig Ds) : ACalls Tryz.prog 6 Ds [] (.bool true) [] := by
  obtain ⟨d1, Ds, rfl, h1, h⟩ := fitA_one h
  obtain ⟨d2, Ds, rfl, h2, h⟩ := fitA_one h
  obtain ⟨d3, Ds, rfl, h3, h⟩ := fitA_one h
  obtain rfl := fitA_nil h
  obtain ⟨l, rfl, hl, _⟩ := fit_ints (fits_one h1)
  obtain ⟨regs, rfl, hr, _⟩ := fit_ints (fits_one h2)
  obtain ⟨steps, rfl, _⟩ := fit_int (fits_one h3)
  obtain ⟨g1, g2⟩ := confined l regs steps hl hr
  have := (law12_MachineConfined_ok.absW rfl [.sl 1 (.ints .i64 l) false, .sl 1 (.ints .i64 regs) false, .int .i64 steps] [] _ Bool (law12_MachineConfined l regs steps) (fun X => .bool X) (fun X => []) (by rfl) g1).1
  rw [g2] at this
  exact this
set_option maxRecDepth 100000 in
theorem lifted (os : Os) (started : os.Started) (H : Type) (enc : TypeId × Value → H) :
    ReturnsInHanded {} Tryz.checked os 6 .any (Rows.machineConfinedSpec.pre6 enc Tryz.prog Tryz.f6 Rows.machineConfinedRow.domain false) (Rows.machineConfinedSpec.post enc Tryz.prog Tryz.f6 false true false false) := by
  refine returnsInHanded_of_change_sized (C := Tryz.checked) own started (by kernel_rfl) Tryz.func6
    (ChangeSpec.witness6 (enc := enc) (C := Tryz.checked) false ⟨#[], #[.slice none 0 0, .slice none 0 0, .int .i64 0], []⟩ 8 (by kernel_rfl) (by kernel_rfl) (by kernel_rfl) (by kernel_rfl)) ?_
  intro W base args ds gs before hval0 hW hcnd hsz _
  exact law_lifted laidOut sigOK (by kernel_rfl) Tryz.underlying4 rfl (fun ds hd => by match ds, hd with | [d0, d1, d2], _ => exact ⟨rfl, rfl, rfl⟩) called W base args ds gs before hval0 hW hsz
theorem facts : joinedFacts Tryz.pinned.checked.prog 6 Tryz.f6 Rows.machineConfinedSpec Rows.machineConfinedRow = true := by kernel_rfl
theorem named : Tryz.pinned.checked.prog.funcNamed Rows.machineConfinedRow.func = some 6 := by kernel_rfl
theorem inst : Tryz.f6.isInstance Tryz.pinned.checked.prog Rows.machineConfinedRow.origin Rows.machineConfinedRow.targs := of_decide_eq_true (by kernel_rfl)
theorem wrap : Tryz.f6.isWrapper Tryz.pinned.checked.prog Rows.machineConfinedRow.wrapper Rows.machineConfinedRow.mainSum := by unfold Func.isWrapper; first | (rw [if_pos (by decide +kernel)]; kernel_rfl) | (rw [if_neg (by decide +kernel)]; exact ⟨rfl, rfl⟩)
theorem over : Rows.machineConfinedRow.holds Tryz.pinned (OpenSpec.ofChange Rows.machineConfinedSpec) :=
  OpenClaim.holds_of_wide 6 Tryz.f6 rfl rfl rfl rfl rfl rfl rfl ⟨rfl, rfl, rfl, rfl, rfl⟩ rfl rfl rfl rfl rfl named Tryz.func6 facts inst wrap (fun os started H enc _ => lifted os started H enc)
theorem proved : Rows.MachineConfinedSaid := over
#print axioms proved
end Go.Proofs.YtdkiadhigcfmkaaGreat.machineConfined

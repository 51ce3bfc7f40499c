/-
  PROVED: 'Rows.MachineNewsSaid': whatever the input: vmfleetlaw12.MachineNews returns true, and each argument reads behind the call as it read before. No condition.
-/
import Derived.Test.YtdkiadhigcfmkaaGreatRows
import Derived.WalkKit
import Derived.ProofKit
import Derived.OpenShut
import Derived.ShutString
import Derived.ChangeOld
import Derived.Below
import Derived.SizedLaws
import Derived.Test.YtdkiadhigcfmkaaGreatMachineNewsLaw
import Derived.Test.YtdkiadhigcfmkaaGreatMachineNewsNews
namespace Go.Proofs.YtdkiadhigcfmkaaGreat.machineNews
open Go Go.GD Go.ChangeShapes Go.WideShapes Go.ChangeAt Go.RowKit
set_option linter.unusedVariables false
theorem own : ownKnob Tryz.prog.godebug = none := by kernel_rfl
theorem laidOut : laidOutB Tryz.prog = true := by kernel_rfl
def sig : List (Bool × List STy) := [(false, [.int .i64]), (false, [.int .i64]), (false, [.sl [.int .u32]]), (false, [.sl [.int .i64]]), (false, [.bool])]
theorem sigOK : SigOK Tryz.prog 8 Tryz.f3.params.toList sig := by
  rw [Tryz.params3]
  exact ⟨by kernel_rfl, by kernel_rfl, by kernel_rfl, of_decide_eq_true (by kernel_rfl), ⟨by kernel_rfl, by kernel_rfl, by kernel_rfl, of_decide_eq_true (by kernel_rfl), ⟨by kernel_rfl, by kernel_rfl, by kernel_rfl, of_decide_eq_true (by kernel_rfl), ⟨by kernel_rfl, by kernel_rfl, by kernel_rfl, of_decide_eq_true (by kernel_rfl), ⟨by kernel_rfl, by kernel_rfl, by kernel_rfl, of_decide_eq_true (by kernel_rfl), trivial⟩⟩⟩⟩⟩
theorem called (Ds : List D) (h : FitA sig Ds) : ACalls Tryz.prog 3 Ds [] (.bool true) [] := by
  obtain ⟨d1, Ds, rfl, h1, h⟩ := fitA_one h
  obtain ⟨d2, Ds, rfl, h2, h⟩ := fitA_one h
  obtain ⟨d3, Ds, rfl, h3, h⟩ := fitA_one h
  obtain ⟨d4, Ds, rfl, h4, h⟩ := fitA_one h
  obtain ⟨d5, Ds, rfl, h5, h⟩ := fitA_one h
  obtain rfl := fitA_nil h
  obtain ⟨pages, rfl, _⟩ := fit_int (fits_one h1)
  obtain ⟨blocks, rfl, _⟩ := fit_int (fits_one h2)
  obtain ⟨image, rfl, _⟩ := fit_ints (fits_one h3)
  obtain ⟨l, rfl, hl, _⟩ := fit_ints (fits_one h4)
  obtain ⟨made, rfl⟩ := fit_bool (fits_one h5)
  obtain ⟨g1, g2⟩ := news pages blocks image l made hl
  have := law12_MachineNews_calls pages blocks image l made g1
  rw [g2] at this
  exact this
set_option maxRecDepth 100000 in
theorem lifted (os : Os) (started : os.Started) (H : Type) (enc : TypeId × Value → H) :
    ReturnsInHanded {} Tryz.checked os 3 .any (Rows.machineNewsSpec.pre6 enc Tryz.prog Tryz.f3 Rows.machineNewsRow.domain false) (Rows.machineNewsSpec.post enc Tryz.prog Tryz.f3 false true false false) := by
  refine returnsInHanded_of_change_sized (C := Tryz.checked) own started (by kernel_rfl) Tryz.func3
    (ChangeSpec.witness6 (enc := enc) (C := Tryz.checked) false ⟨#[], #[.int .i64 0, .int .i64 0, .slice none 0 0, .slice none 0 0, .bool false], []⟩ 8 (by kernel_rfl) (by kernel_rfl) (by kernel_rfl) (by kernel_rfl)) ?_
  intro W base args ds gs before hval0 hW hcnd hsz _
  exact law_lifted laidOut sigOK (by kernel_rfl) Tryz.underlying4 rfl (fun ds hd => by match ds, hd with | [d0, d1, d2, d3, d4], _ => exact ⟨rfl, rfl, rfl⟩) called W base args ds gs before hval0 hW hsz
theorem facts : joinedFacts Tryz.pinned.checked.prog 3 Tryz.f3 Rows.machineNewsSpec Rows.machineNewsRow = true := by kernel_rfl
theorem named : Tryz.pinned.checked.prog.funcNamed Rows.machineNewsRow.func = some 3 := by kernel_rfl
theorem inst : Tryz.f3.isInstance Tryz.pinned.checked.prog Rows.machineNewsRow.origin Rows.machineNewsRow.targs := of_decide_eq_true (by kernel_rfl)
theorem wrap : Tryz.f3.isWrapper Tryz.pinned.checked.prog Rows.machineNewsRow.wrapper Rows.machineNewsRow.mainSum := by unfold Func.isWrapper; first | (rw [if_pos (by decide +kernel)]; kernel_rfl) | (rw [if_neg (by decide +kernel)]; exact ⟨rfl, rfl⟩)
theorem over : Rows.machineNewsRow.holds Tryz.pinned (OpenSpec.ofChange Rows.machineNewsSpec) :=
  OpenClaim.holds_of_wide 3 Tryz.f3 rfl rfl rfl rfl rfl rfl rfl ⟨rfl, rfl, rfl, rfl, rfl⟩ rfl rfl rfl rfl rfl named Tryz.func3 facts inst wrap (fun os started H enc _ => lifted os started H enc)
theorem proved : Rows.MachineNewsSaid := over
#print axioms proved
end Go.Proofs.YtdkiadhigcfmkaaGreat.machineNews

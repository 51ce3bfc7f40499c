/-
  PROVED: 'Rows.MachineCommutesSaid': whatever the input: vmfleetlaw12.MachineCommutes returns true, and each argument reads behind the call as it read before. No condition.
-/
import Derived.Test.YtdkiadhigcfmkaaGreatRows
import Derived.WalkKit
import Derived.ProofKit
import Derived.OpenShut
import Derived.ShutString
import Derived.ChangeOld
import Derived.Below
import Derived.SizedLaws
import Derived.Test.YtdkiadhigcfmkaaGreatMachineCommutesLaw
import Derived.Test.YtdkiadhigcfmkaaGreatMachineCommutesFacts
import Derived.Test.YtdkiadhigcfmkaaGreatMachineCommutesFin2
namespace Go.Proofs.YtdkiadhigcfmkaaGreat.machineCommutes
open Go Go.GD Go.ChangeShapes Go.WideShapes Go.ChangeAt Go.RowKit
set_option linter.unusedVariables false
theorem own : ownKnob Tryz.prog.godebug = none := by kernel_rfl
theorem laidOut : laidOutB Tryz.prog = true := by kernel_rfl
def sig : List (Bool × List STy) := [(false, [.int .i64]), (false, [.sl [.int .i64]]), (false, [.sl [.int .i64]]), (false, [.int .i64]), (false, [.int .u8])]
theorem sigOK : SigOK Tryz.prog 8 Tryz.f11.params.toList sig := by
  rw [Tryz.params11]
  exact ⟨by kernel_rfl, by kernel_rfl, by kernel_rfl, of_decide_eq_true (by kernel_rfl), ⟨by kernel_rfl, by kernel_rfl, by kernel_rfl, of_decide_eq_true (by kernel_rfl), ⟨by kernel_rfl, by kernel_rfl, by kernel_rfl, of_decide_eq_true (by kernel_rfl), ⟨by kernel_rfl, by kernel_rfl, by kernel_rfl, of_decide_eq_true (by kernel_rfl), ⟨by kernel_rfl, by kernel_rfl, by kernel_rfl, of_decide_eq_true (by kernel_rfl), trivial⟩⟩⟩⟩⟩
theorem called (Ds : List D) (h : FitA sig Ds) : ACalls Tryz.prog 11 Ds [] (.bool true) [] := by
  obtain ⟨d1, Ds, rfl, h1, h⟩ := fitA_one h
  obtain ⟨d2, Ds, rfl, h2, h⟩ := fitA_one h
  obtain ⟨d3, Ds, rfl, h3, h⟩ := fitA_one h
  obtain ⟨d4, Ds, rfl, h4, h⟩ := fitA_one h
  obtain ⟨d5, Ds, rfl, h5, h⟩ := fitA_one h
  obtain rfl := fitA_nil h
  obtain ⟨kind, rfl, _⟩ := fit_int (fits_one h1)
  obtain ⟨l, rfl, r1, _⟩ := fit_ints (fits_one h2)
  obtain ⟨acts, rfl, r2, _⟩ := fit_ints (fits_one h3)
  obtain ⟨n, rfl, _⟩ := fit_int (fits_one h4)
  obtain ⟨key, rfl, _⟩ := fit_int (fits_one h5)
  obtain ⟨g1, g2⟩ := commutes kind l acts n key r1
  have := (law12_MachineCommutes_ok.absW rfl [.int .i64 kind, .sl 1 (.ints .i64 l) false, .sl 1 (.ints .i64 acts) false, .int .i64 n, .int .u8 key] [] _ Bool (law12_MachineCommutes kind l acts n key) (fun X => .bool X) (fun X => []) (by rfl) g1).1
  rw [g2] at this
  exact this
set_option maxRecDepth 100000 in
theorem lifted (os : Os) (started : os.Started) (H : Type) (enc : TypeId × Value → H) :
    ReturnsInHanded {} Tryz.checked os 11 .any (Rows.machineCommutesSpec.pre6 enc Tryz.prog Tryz.f11 Rows.machineCommutesRow.domain false) (Rows.machineCommutesSpec.post enc Tryz.prog Tryz.f11 false true false false) := by
  refine returnsInHanded_of_change_sized (C := Tryz.checked) own started (by kernel_rfl) Tryz.func11
    (ChangeSpec.witness6 (enc := enc) (C := Tryz.checked) false ⟨#[], #[.int .i64 0, .slice none 0 0, .slice none 0 0, .int .i64 0, .int .u8 0], []⟩ 8 (by kernel_rfl) (by kernel_rfl) (by kernel_rfl) (by kernel_rfl)) ?_
  intro W base args ds gs before hval0 hW hcnd hsz _
  exact law_lifted laidOut sigOK (by kernel_rfl) Tryz.underlying4 rfl (fun ds hd => by match ds, hd with | [d0, d1, d2, d3, d4], _ => exact ⟨rfl, rfl, rfl⟩) called W base args ds gs before hval0 hW hsz
theorem named : Tryz.pinned.checked.prog.funcNamed Rows.machineCommutesRow.func = some 11 := by kernel_rfl
theorem inst : Tryz.f11.isInstance Tryz.pinned.checked.prog Rows.machineCommutesRow.origin Rows.machineCommutesRow.targs := of_decide_eq_true (by kernel_rfl)
theorem wrap : Tryz.f11.isWrapper Tryz.pinned.checked.prog Rows.machineCommutesRow.wrapper Rows.machineCommutesRow.mainSum := by unfold Func.isWrapper; first | (rw [if_pos (by decide +kernel)]; kernel_rfl) | (rw [if_neg (by decide +kernel)]; exact ⟨rfl, rfl⟩)
theorem over : Rows.machineCommutesRow.holds Tryz.pinned (OpenSpec.ofChange Rows.machineCommutesSpec) :=
  OpenClaim.holds_of_wide 11 Tryz.f11 rfl rfl rfl rfl rfl rfl rfl ⟨rfl, rfl, rfl, rfl, rfl⟩ rfl rfl rfl rfl rfl named Tryz.func11 facts inst wrap (fun os started H enc _ => lifted os started H enc)
theorem proved : Rows.MachineCommutesSaid := over
#print axioms proved
end Go.Proofs.YtdkiadhigcfmkaaGreat.machineCommutes

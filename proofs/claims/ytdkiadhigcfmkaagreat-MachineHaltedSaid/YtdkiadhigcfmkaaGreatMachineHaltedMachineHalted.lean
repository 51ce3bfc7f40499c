/-
  PROVED: 'Rows.MachineHaltedSaid': whatever the input: vmfleetlaw12.MachineHalted returns true, and each argument reads behind the call as it read before. No condition.
-/
import Derived.Test.YtdkiadhigcfmkaaGreatRows
import Derived.WalkKit
import Derived.ProofKit
import Derived.OpenShut
import Derived.ShutString
import Derived.ChangeOld
import Derived.Below
import Derived.SizedLaws
import Derived.Test.YtdkiadhigcfmkaaGreatMachineHaltedLaw
import Derived.Test.YtdkiadhigcfmkaaGreatMachineHaltedFacts
import Derived.Test.YtdkiadhigcfmkaaGreatMachineHaltedFin2
namespace Go.Proofs.YtdkiadhigcfmkaaGreat.machineHalted
open Go Go.GD Go.ChangeShapes Go.WideShapes Go.ChangeAt Go.RowKit
set_option linter.unusedVariables false
theorem own : ownKnob Tryz.prog.godebug = none := by kernel_rfl
theorem laidOut : laidOutB Tryz.prog = true := by kernel_rfl
def sig : List (Bool × List STy) := [(false, [.int .i64]), (false, [.sl [.int .i64]]), (false, [.sl [.int .i64]]), (false, [.int .i64]), (false, [.int .u32])]
theorem sigOK : SigOK Tryz.prog 8 Tryz.f10.params.toList sig := by
  rw [Tryz.params10]
  exact ⟨by kernel_rfl, by kernel_rfl, by kernel_rfl, of_decide_eq_true (by kernel_rfl), ⟨by kernel_rfl, by kernel_rfl, by kernel_rfl, of_decide_eq_true (by kernel_rfl), ⟨by kernel_rfl, by kernel_rfl, by kernel_rfl, of_decide_eq_true (by kernel_rfl), ⟨by kernel_rfl, by kernel_rfl, by kernel_rfl, of_decide_eq_true (by kernel_rfl), ⟨by kernel_rfl, by kernel_rfl, by kernel_rfl, of_decide_eq_true (by kernel_rfl), trivial⟩⟩⟩⟩⟩
theorem called (Ds : List D) (h : FitA sig Ds) : ACalls Tryz.prog 10 Ds [] (.bool true) [] := by
  obtain ⟨d1, Ds, rfl, h1, h⟩ := fitA_one h
  obtain ⟨d2, Ds, rfl, h2, h⟩ := fitA_one h
  obtain ⟨d3, Ds, rfl, h3, h⟩ := fitA_one h
  obtain ⟨d4, Ds, rfl, h4, h⟩ := fitA_one h
  obtain ⟨d5, Ds, rfl, h5, h⟩ := fitA_one h
  obtain rfl := fitA_nil h
  obtain ⟨kind, rfl, _⟩ := fit_int (fits_one h1)
  obtain ⟨l, rfl, hl, _⟩ := fit_ints (fits_one h2)
  obtain ⟨acts, rfl, _, _⟩ := fit_ints (fits_one h3)
  obtain ⟨n, rfl, _⟩ := fit_int (fits_one h4)
  obtain ⟨clock, rfl, _⟩ := fit_int (fits_one h5)
  obtain ⟨g1, g2⟩ := halted kind l acts n clock hl
  have := (law12_MachineHalted_ok.absW rfl [.int .i64 kind, .sl 1 (.ints .i64 l) false, .sl 1 (.ints .i64 acts) false, .int .i64 n, .int .u32 clock] [] _ Bool (law12_MachineHalted kind l acts n clock) (fun X => .bool X) (fun X => []) (by rfl) g1).1
  rw [g2] at this
  exact this
set_option maxRecDepth 100000 in
theorem lifted (os : Os) (started : os.Started) (H : Type) (enc : TypeId × Value → H) :
    ReturnsInHanded {} Tryz.checked os 10 .any (Rows.machineHaltedSpec.pre6 enc Tryz.prog Tryz.f10 Rows.machineHaltedRow.domain false) (Rows.machineHaltedSpec.post enc Tryz.prog Tryz.f10 false true false false) := by
  refine returnsInHanded_of_change_sized (C := Tryz.checked) own started (by kernel_rfl) Tryz.func10
    (ChangeSpec.witness6 (enc := enc) (C := Tryz.checked) false ⟨#[], #[.int .i64 0, .slice none 0 0, .slice none 0 0, .int .i64 0, .int .u32 0], []⟩ 8 (by kernel_rfl) (by kernel_rfl) (by kernel_rfl) (by kernel_rfl)) ?_
  intro W base args ds gs before hval0 hW hcnd hsz _
  exact law_lifted laidOut sigOK (by kernel_rfl) Tryz.underlying4 rfl (fun ds hd => by match ds, hd with | [d0, d1, d2, d3, d4], _ => exact ⟨rfl, rfl, rfl⟩) called W base args ds gs before hval0 hW hsz
theorem named : Tryz.pinned.checked.prog.funcNamed Rows.machineHaltedRow.func = some 10 := by kernel_rfl
theorem inst : Tryz.f10.isInstance Tryz.pinned.checked.prog Rows.machineHaltedRow.origin Rows.machineHaltedRow.targs := of_decide_eq_true (by kernel_rfl)
theorem wrap : Tryz.f10.isWrapper Tryz.pinned.checked.prog Rows.machineHaltedRow.wrapper Rows.machineHaltedRow.mainSum := by unfold Func.isWrapper; first | (rw [if_pos (by decide +kernel)]; kernel_rfl) | (rw [if_neg (by decide +kernel)]; exact ⟨rfl, rfl⟩)
theorem over : Rows.machineHaltedRow.holds Tryz.pinned (OpenSpec.ofChange Rows.machineHaltedSpec) :=
  OpenClaim.holds_of_wide 10 Tryz.f10 rfl rfl rfl rfl rfl rfl rfl ⟨rfl, rfl, rfl, rfl, rfl⟩ rfl rfl rfl rfl rfl named Tryz.func10 facts inst wrap (fun os started H enc _ => lifted os started H enc)
theorem proved : Rows.MachineHaltedSaid := over
#print axioms proved
end Go.Proofs.YtdkiadhigcfmkaaGreat.machineHalted

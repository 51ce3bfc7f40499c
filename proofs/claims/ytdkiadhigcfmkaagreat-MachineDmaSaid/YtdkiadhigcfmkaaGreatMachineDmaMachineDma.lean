/-
  PROVED: 'Rows.MachineDmaSaid': whatever the input: vmfleetlaw12.MachineDma returns true, and each argument reads behind the call as it read before. No condition.
-/
import Derived.Test.YtdkiadhigcfmkaaGreatRows
import Derived.WalkKit
import Derived.ProofKit
import Derived.OpenShut
import Derived.ShutString
import Derived.ChangeOld
import Derived.Below
import Derived.SizedLaws
import Derived.Test.YtdkiadhigcfmkaaGreatMachineDmaLaw
import Derived.Test.YtdkiadhigcfmkaaGreatMachineDmaFacts
import Derived.Test.YtdkiadhigcfmkaaGreatMachineDmaFin2
namespace Go.Proofs.YtdkiadhigcfmkaaGreat.machineDma
open Go Go.GD Go.ChangeShapes Go.WideShapes Go.ChangeAt Go.RowKit
set_option linter.unusedVariables false
theorem own : ownKnob Tryz.prog.godebug = none := by kernel_rfl
theorem laidOut : laidOutB Tryz.prog = true := by kernel_rfl
def sig : List (Bool × List STy) := [(false, [.int .i64]), (false, [.sl [.int .i64]]), (false, [.sl [.int .i64]]), (false, [.int .i64])]
theorem sigOK : SigOK Tryz.prog 8 Tryz.f12.params.toList sig := by
  rw [Tryz.params12]
  exact ⟨by kernel_rfl, by kernel_rfl, by kernel_rfl, of_decide_eq_true (by kernel_rfl), ⟨by kernel_rfl, by kernel_rfl, by kernel_rfl, of_decide_eq_true (by kernel_rfl), ⟨by kernel_rfl, by kernel_rfl, by kernel_rfl, of_decide_eq_true (by kernel_rfl), ⟨by kernel_rfl, by kernel_rfl, by kernel_rfl, of_decide_eq_true (by kernel_rfl), trivial⟩⟩⟩⟩
theorem called (Ds : List D) (h : FitA sig Ds) : ACalls Tryz.prog 12 Ds [] (.bool true) [] := by
  obtain ⟨d1, Ds, rfl, h1, h⟩ := fitA_one h
  obtain ⟨d2, Ds, rfl, h2, h⟩ := fitA_one h
  obtain ⟨d3, Ds, rfl, h3, h⟩ := fitA_one h
  obtain ⟨d4, Ds, rfl, h4, h⟩ := fitA_one h
  obtain rfl := fitA_nil h
  obtain ⟨kind, rfl, _⟩ := fit_int (fits_one h1)
  obtain ⟨l, rfl, r1, _⟩ := fit_ints (fits_one h2)
  obtain ⟨acts, rfl, r2, _⟩ := fit_ints (fits_one h3)
  obtain ⟨n, rfl, _⟩ := fit_int (fits_one h4)
  obtain ⟨g1, g2⟩ := dma kind l acts n r1
  have := (law12_MachineDma_ok.absW rfl [.int .i64 kind, .sl 1 (.ints .i64 l) false, .sl 1 (.ints .i64 acts) false, .int .i64 n] [] _ Bool (law12_MachineDma kind l acts n) (fun X => .bool X) (fun X => []) (by rfl) g1).1
  rw [g2] at this
  exact this
set_option maxRecDepth 100000 in
theorem lifted (os : Os) (started : os.Started) (H : Type) (enc : TypeId × Value → H) :
    ReturnsInHanded {} Tryz.checked os 12 .any (Rows.machineDmaSpec.pre6 enc Tryz.prog Tryz.f12 Rows.machineDmaRow.domain false) (Rows.machineDmaSpec.post enc Tryz.prog Tryz.f12 false true false false) := by
  refine returnsInHanded_of_change_sized (C := Tryz.checked) own started (by kernel_rfl) Tryz.func12
    (ChangeSpec.witness6 (enc := enc) (C := Tryz.checked) false ⟨#[], #[.int .i64 0, .slice none 0 0, .slice none 0 0, .int .i64 0], []⟩ 8 (by kernel_rfl) (by kernel_rfl) (by kernel_rfl) (by kernel_rfl)) ?_
  intro W base args ds gs before hval0 hW hcnd hsz _
  exact law_lifted laidOut sigOK (by kernel_rfl) Tryz.underlying4 rfl (fun ds hd => by match ds, hd with | [d0, d1, d2, d3], _ => exact ⟨rfl, rfl, rfl⟩) called W base args ds gs before hval0 hW hsz
theorem named : Tryz.pinned.checked.prog.funcNamed Rows.machineDmaRow.func = some 12 := by kernel_rfl
theorem inst : Tryz.f12.isInstance Tryz.pinned.checked.prog Rows.machineDmaRow.origin Rows.machineDmaRow.targs := of_decide_eq_true (by kernel_rfl)
theorem wrap : Tryz.f12.isWrapper Tryz.pinned.checked.prog Rows.machineDmaRow.wrapper Rows.machineDmaRow.mainSum := by unfold Func.isWrapper; first | (rw [if_pos (by decide +kernel)]; kernel_rfl) | (rw [if_neg (by decide +kernel)]; exact ⟨rfl, rfl⟩)
theorem over : Rows.machineDmaRow.holds Tryz.pinned (OpenSpec.ofChange Rows.machineDmaSpec) :=
  OpenClaim.holds_of_wide 12 Tryz.f12 rfl rfl rfl rfl rfl rfl rfl ⟨rfl, rfl, rfl, rfl, rfl⟩ rfl rfl rfl rfl rfl named Tryz.func12 facts inst wrap (fun os started H enc _ => lifted os started H enc)
theorem proved : Rows.MachineDmaSaid := over
#print axioms proved
end Go.Proofs.YtdkiadhigcfmkaaGreat.machineDma

/-
  PROVED: 'Rows.MachineKeepsSaid': whatever the input: vmfleetlaw12.MachineKeeps returns true, and each argument reads behind the call as it read before. No condition.
-/
import Derived.Test.YtdkiadhigcfmkaaGreatRows
import Derived.WalkKit
import Derived.ProofKit
import Derived.OpenShut
import Derived.ShutString
import Derived.ChangeOld
import Derived.Below
import Derived.SizedLaws
import Derived.Test.YtdkiadhigcfmkaaGreatMachineKeepsLaw
import Derived.Test.YtdkiadhigcfmkaaGreatMachineKeepsFacts
import Derived.Test.YtdkiadhigcfmkaaGreatMachineKeepsFin2
namespace Go.Proofs.YtdkiadhigcfmkaaGreat.machineKeeps
open Go Go.GD Go.ChangeShapes Go.WideShapes Go.ChangeAt Go.RowKit
set_option linter.unusedVariables false
theorem own : ownKnob Tryz.prog.godebug = none := by kernel_rfl
theorem laidOut : laidOutB Tryz.prog = true := by kernel_rfl
def sig : List (Bool × List STy) := [(false, [.int .i64]), (false, [.sl [.int .i64]]), (false, [.sl [.int .i64]]), (false, [.int .i64]), (false, [.int .i64]), (false, [.int .u32]), (false, [.int .u32])]
theorem sigOK : SigOK Tryz.prog 8 Tryz.f14.params.toList sig := by
  rw [Tryz.params14]
  exact ⟨by kernel_rfl, by kernel_rfl, by kernel_rfl, of_decide_eq_true (by kernel_rfl), ⟨by kernel_rfl, by kernel_rfl, by kernel_rfl, of_decide_eq_true (by kernel_rfl), ⟨by kernel_rfl, by kernel_rfl, by kernel_rfl, of_decide_eq_true (by kernel_rfl), ⟨by kernel_rfl, by kernel_rfl, by kernel_rfl, of_decide_eq_true (by kernel_rfl), ⟨by kernel_rfl, by kernel_rfl, by kernel_rfl, of_decide_eq_true (by kernel_rfl), ⟨by kernel_rfl, by kernel_rfl, by kernel_rfl, of_decide_eq_true (by kernel_rfl), ⟨by kernel_rfl, by kernel_rfl, by kernel_rfl, of_decide_eq_true (by kernel_rfl), trivial⟩⟩⟩⟩⟩⟩⟩
theorem called (Ds : List D) (h : FitA sig Ds) : Q3g Tryz.prog 14 Ds [] (.bool true) [] := by
  obtain ⟨d1, Ds, rfl, h1, h⟩ := Qgi h
  obtain ⟨d2, Ds, rfl, h2, h⟩ := Qgi h
  obtain ⟨d3, Ds, rfl, h3, h⟩ := Qgi h
  obtain ⟨d4, Ds, rfl, h4, h⟩ := Qgi h
  obtain ⟨d5, Ds, rfl, h5, h⟩ := Qgi h
  obtain ⟨d6, Ds, rfl, h6, h⟩ := Qgi h
  obtain ⟨d7, Ds, rfl, h7, h⟩ := Qgi h
  obtain rfl := fitA_nil h
  obtain ⟨kind, rfl, b0⟩ := Qwn (Qgm h1)
  obtain ⟨l, rfl, r1, _⟩ := Zbu (Qgm h2)
  obtain ⟨acts, rfl, r2, _⟩ := Zbu (Qgm h3)
  obtain ⟨where0, rfl, b3⟩ := Qwn (Qgm h4)
  obtain ⟨what, rfl, b4⟩ := Qwn (Qgm h5)
  obtain ⟨one, rfl, b5⟩ := Qwn (Qgm h6)
  obtain ⟨two, rfl, b6⟩ := Qwn (Qgm h7)
  have uu : ∀ {x : Int}, (IntKind.u32.min ≤ x ∧ x ≤ IntKind.u32.max) → U x := fun h => ⟨h.1, by have : IntKind.u32.max = 4294967295 := rfl; have := h.2; omega⟩
  obtain ⟨g1, g2⟩ := keeps kind l acts where0 what one two r1 (uu b5) (uu b6)
  have := (Qjd.absW rfl [.int .i64 kind, .sl 1 (.ints .i64 l) false, .sl 1 (.ints .i64 acts) false, .int .i64 where0, .int .i64 what, .int .u32 one, .int .u32 two] [] _ Bool (Q8u kind l acts where0 what one two) (fun X => .bool X) (fun X => []) (by rfl) g1).1
  rw [g2] at this
  exact this
set_option maxRecDepth 100000 in
theorem lifted (os : Os) (started : os.Started) (H : Type) (enc : TypeId × Value → H) :
    ReturnsInHanded {} Tryz.checked os 14 .any (Rows.machineKeepsSpec.pre6 enc Tryz.prog Tryz.f14 Rows.machineKeepsRow.domain false) (Rows.machineKeepsSpec.post enc Tryz.prog Tryz.f14 false true false false) := by
  refine returnsInHanded_of_change_sized (C := Tryz.checked) own started (by kernel_rfl) Tryz.func14
    (ChangeSpec.witness6 (enc := enc) (C := Tryz.checked) false ⟨#[], #[.int .i64 0, .slice none 0 0, .slice none 0 0, .int .i64 0, .int .i64 0, .int .u32 0, .int .u32 0], []⟩ 8 (by kernel_rfl) (by kernel_rfl) (by kernel_rfl) (by kernel_rfl)) ?_
  intro W base args ds gs before hval0 hW hcnd hsz _
  exact Zcu laidOut sigOK (by kernel_rfl) Tryz.underlying4 rfl (fun ds hd => by match ds, hd with | [d0, d1, d2, d3, d4, d5, d6], _ => exact ⟨rfl, rfl, rfl⟩) called W base args ds gs before hval0 hW hsz
theorem named : Tryz.pinned.checked.prog.funcNamed Rows.machineKeepsRow.func = some 14 := by kernel_rfl
theorem inst : Tryz.f14.isInstance Tryz.pinned.checked.prog Rows.machineKeepsRow.origin Rows.machineKeepsRow.targs := of_decide_eq_true (by kernel_rfl)
theorem wrap : Tryz.f14.isWrapper Tryz.pinned.checked.prog Rows.machineKeepsRow.wrapper Rows.machineKeepsRow.mainSum := by unfold Func.isWrapper; first | (rw [if_pos (by decide +kernel)]; kernel_rfl) | (rw [if_neg (by decide +kernel)]; exact ⟨rfl, rfl⟩)
theorem over : Rows.machineKeepsRow.holds Tryz.pinned (OpenSpec.ofChange Rows.machineKeepsSpec) :=
  OpenClaim.holds_of_wide 14 Tryz.f14 rfl rfl rfl rfl rfl rfl rfl ⟨rfl, rfl, rfl, rfl, rfl⟩ rfl rfl rfl rfl rfl named Tryz.func14 facts inst wrap (fun os started H enc _ => lifted os started H enc)
theorem proved : Rows.MachineKeepsSaid := over
#print axioms proved
end Go.Proofs.YtdkiadhigcfmkaaGreat.machineKeeps

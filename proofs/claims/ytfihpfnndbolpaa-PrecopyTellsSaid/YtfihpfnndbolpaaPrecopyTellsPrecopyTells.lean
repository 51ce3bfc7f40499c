/-
  PROVED: 'Rows.PrecopyTellsSaid': whatever the input: vmfleetlaw30.PrecopyTells returns true, and each argument reads behind the call as it read before. No condition.
-/
import Derived.Test.YtfihpfnndbolpaaRows
import Derived.WalkKit
import Derived.ProofKit
import Derived.OpenShut
import Derived.ShutString
import Derived.ChangeOld
import Derived.Below
import Derived.SizedLaws
import Derived.Test.YtfihpfnndbolpaaPrecopyTellsLaw
import Derived.Test.YtfihpfnndbolpaaPrecopyTellsFacts
import Derived.Test.YtfihpfnndbolpaaPrecopyTellsP30F
namespace Go.Proofs.Ytfihpfnndbolpaa.precopyTells
open Go Go.GD Go.ChangeShapes Go.WideShapes Go.ChangeAt Go.RowKit
set_option linter.unusedVariables false
theorem own : ownKnob Try.prog.godebug = none := by kernel_rfl
theorem laidOut : laidOutB Try.prog = true := by kernel_rfl
def sig : List (Bool × List STy) := [(true, [.sl [.bool], .int .i64, .int .i64]), (false, [.sl [.int .i64]]), (false, [.sl [.int .u32]]), (false, [.sl [.int .i64, .str]]), (false, [.int .i64]), (false, [.int .i64]), (false, [.int .i64])]
theorem sigOK : SigOK Try.prog 8 Try.f5.params.toList sig := by
  rw [Try.params5]
  exact ⟨by kernel_rfl, by kernel_rfl, by kernel_rfl, of_decide_eq_true (by kernel_rfl), ⟨by kernel_rfl, by kernel_rfl, by kernel_rfl, of_decide_eq_true (by kernel_rfl), ⟨by kernel_rfl, by kernel_rfl, by kernel_rfl, of_decide_eq_true (by kernel_rfl), ⟨by kernel_rfl, by kernel_rfl, by kernel_rfl, of_decide_eq_true (by kernel_rfl), ⟨by kernel_rfl, by kernel_rfl, by kernel_rfl, of_decide_eq_true (by kernel_rfl), ⟨by kernel_rfl, by kernel_rfl, by kernel_rfl, of_decide_eq_true (by kernel_rfl), ⟨by kernel_rfl, by kernel_rfl, by kernel_rfl, of_decide_eq_true (by kernel_rfl), trivial⟩⟩⟩⟩⟩⟩⟩
theorem called (Ds : List D) (h : FitA sig Ds) : ACalls Try.prog 5 Ds [] (.bool true) [] := by
  obtain ⟨es, Ds, rfl, h1, h⟩ := fitA_agg h
  obtain ⟨d2, Ds, rfl, h2, h⟩ := fitA_one h
  obtain ⟨d3, Ds, rfl, h3, h⟩ := fitA_one h
  obtain ⟨d4, Ds, rfl, h4, h⟩ := fitA_one h
  obtain ⟨d5, Ds, rfl, h5, h⟩ := fitA_one h
  obtain ⟨d6, Ds, rfl, h6, h⟩ := fitA_one h
  obtain ⟨d7, Ds, rfl, h7, h⟩ := fitA_one h
  obtain rfl := fitA_nil h
  obtain ⟨c, rfl⟩ := fits_precopy h1
  obtain ⟨frames, rfl, _, _⟩ := fit_ints (fits_one h2)
  obtain ⟨m, rfl, _, b3⟩ := fit_ints (fits_one h3)
  obtain ⟨l, s4⟩ := fit_copies (fits_one h4)
  obtain ⟨limit, rfl, _⟩ := fit_int (fits_one h5)
  obtain ⟨rate, rfl, b6⟩ := fit_int (fits_one h6)
  obtain ⟨pages, rfl, _⟩ := fit_int (fits_one h7)
  obtain ⟨g1, g2⟩ := Tree.pp (W := fun r => r = true) (tells_w (c := c) (frames := frames) (m := m) (l := l) (limit := limit) (rate := rate) (pages := pages) (fun w hw => u_of (b3 w hw)) (show rate ≤ 9223372036854775807 from b6.2))
  have := (law30_PrecopyTells_ok.absW rfl [.agg c.cells, .sl 1 (.ints .i64 frames) false, .sl 1 (.ints .u32 m) false, .sl 2 (.recs .apiPageCopy l) false, .int .i64 limit, .int .i64 rate, .int .i64 pages] [] _ Bool (law30_PrecopyTells c frames m l limit rate pages) (fun X => .bool X) (fun X => []) (by rfl) g1).1
  rw [show law30_PrecopyTells c frames m l limit rate pages = true from g2] at this
  exact ACalls.sub (args' := [.agg c.cells, .sl 1 (.ints .i64 frames) false, .sl 1 (.ints .u32 m) false, .sl 2 (.recs .apiPageCopy l) false, .int .i64 limit, .int .i64 rate, .int .i64 pages]) ⟨SubL_rfl30, Sub1.rfl, Sub1.rfl, s4, Sub1.rfl, Sub1.rfl, Sub1.rfl, trivial⟩ this
set_option maxRecDepth 100000 in
theorem lifted (os : Os) (started : os.Started) (H : Type) (enc : TypeId × Value → H) :
    ReturnsInHanded {} Try.checked os 5 .any (Rows.precopyTellsSpec.pre6 enc Try.prog Try.f5 Rows.precopyTellsRow.domain false) (Rows.precopyTellsSpec.post enc Try.prog Try.f5 false true false false) := by
  refine returnsInHanded_of_change_sized (C := Try.checked) own started (by kernel_rfl) Try.func5
    (ChangeSpec.witness6 (enc := enc) (C := Try.checked) false ⟨#[], #[.agg #[.slice none 0 0, .int .i64 0, .int .i64 0], .slice none 0 0, .slice none 0 0, .slice none 0 0, .int .i64 0, .int .i64 0, .int .i64 0], []⟩ 8 (by kernel_rfl) (by kernel_rfl) (by kernel_rfl) (by kernel_rfl)) ?_
  intro W base args ds gs before hval0 hW hcnd hsz _
  exact law_lifted laidOut sigOK (by kernel_rfl) Try.underlying4 rfl (fun ds hd => by match ds, hd with | [d0, d1, d2, d3, d4, d5, d6], _ => exact ⟨rfl, rfl, rfl⟩) called W base args ds gs before hval0 hW hsz
theorem named : Try.pinned.checked.prog.funcNamed Rows.precopyTellsRow.func = some 5 := by kernel_rfl
theorem inst : Try.f5.isInstance Try.pinned.checked.prog Rows.precopyTellsRow.origin Rows.precopyTellsRow.targs := of_decide_eq_true (by kernel_rfl)
theorem wrap : Try.f5.isWrapper Try.pinned.checked.prog Rows.precopyTellsRow.wrapper Rows.precopyTellsRow.mainSum := by unfold Func.isWrapper; first | (rw [if_pos (by decide +kernel)]; kernel_rfl) | (rw [if_neg (by decide +kernel)]; exact ⟨rfl, rfl⟩)
theorem over : Rows.precopyTellsRow.holds Try.pinned (OpenSpec.ofChange Rows.precopyTellsSpec) :=
  OpenClaim.holds_of_wide 5 Try.f5 rfl rfl rfl rfl rfl rfl rfl ⟨rfl, rfl, rfl, rfl, rfl⟩ rfl rfl rfl rfl rfl named Try.func5 facts inst wrap (fun os started H enc _ => lifted os started H enc)
theorem proved : Rows.PrecopyTellsSaid := over
#print axioms proved
end Go.Proofs.Ytfihpfnndbolpaa.precopyTells

/-
  What a call of PrecopyTells brings in.
-/
import Derived.Test.YtfihpfnndbolpaaPrecopyTellsP30T
import Derived.Test.YtfihpfnndbolpaaPrecopyTellsLaw
namespace Go.Proofs.Ytfihpfnndbolpaa
open Go Go.GD Go.RowKit Go.ChangeShapes
set_option linter.unusedVariables false
set_option linter.unusedSimpArgs false
set_option maxRecDepth 100000
theorem SubL_rfl30 : ∀ {l : List D}, SubL l l
  | [] => trivial
  | _ :: _ => ⟨Sub1.rfl, SubL_rfl30⟩
theorem fits_cons {t : STy} {ts : List STy} {es : List D} (h : Fits (t :: ts) es) : ∃ d ds, es = d :: ds ∧ Fit t d ∧ Fits ts ds := by
  cases es with
  | nil => unfold Fits at h; exact h.elim
  | cons d ds => unfold Fits at h; exact ⟨d, ds, rfl, h⟩
theorem fits_nil {es : List D} (h : Fits [] es) : es = [] := by
  cases es with
  | nil => rfl
  | cons d ds => exact absurd h (by simp [Fits])
theorem fits_precopy {es : List D} (h : Fits [.sl [.bool], .int .i64, .int .i64] es) : ∃ c : ApiPrecopy, es = c.cells := by
  obtain ⟨d0, e0, rfl, h0, H0⟩ := fits_cons h
  obtain ⟨x0, rfl, b0⟩ := fit_bools h0
  obtain ⟨d1, e1, rfl, h1, H1⟩ := fits_cons H0
  obtain ⟨x1, rfl, b1⟩ := fit_int h1
  obtain ⟨d2, e2, rfl, h2, H2⟩ := fits_cons H1
  obtain ⟨x2, rfl, b2⟩ := fit_int h2
  obtain rfl := fits_nil H2
  exact ⟨⟨x0, x1, x2⟩, rfl⟩
theorem fit_copies {d : D} (h : Fit (.sl [.int .i64, .str]) d) : ∃ l : List ApiPageCopy, SubV d (.sl 2 (.recs .apiPageCopy l) false) := by
  unfold Fit at h
  obtain ⟨es, rfl, hl, h⟩ := h
  have : ∃ l : List ApiPageCopy, es = l.map (RK.cells .apiPageCopy) := by
    clear hl
    induction es with
    | nil => exact ⟨[], rfl⟩
    | cons x es ih =>
      obtain ⟨l, h1⟩ := ih (fun e he => h e (by simp [he]))
      obtain ⟨d0, e0, rfl, h0, H0⟩ := fits_cons (h x (by simp))
      obtain ⟨x0, rfl, b0⟩ := fit_int h0
      obtain ⟨d1, e1, rfl, h1', H1⟩ := fits_cons H0
      obtain ⟨x1, rfl, b1⟩ := fit_str h1'
      obtain rfl := fits_nil H1
      exact ⟨⟨x0, x1⟩ :: l, by rw [h1]; rfl⟩
  obtain ⟨l, rfl⟩ := this
  refine ⟨l, ?_⟩
  show Sub1 _ _
  intro c w v hv
  obtain ⟨a, cap, hv, hc, hes⟩ := hv
  refine ⟨a, cap, hv, hc, ?_⟩
  rcases hes with hes | ⟨b, off, arr, ty, fz, ha, hI, hf, hh, hE⟩
  · exact .inl hes
  · exact .inr ⟨b, off, arr, ty, fz, ha, hI, (fun e => by cases e), hh, hE⟩
theorem u_of {x : Int} (h : IntKind.u32.min ≤ x ∧ x ≤ IntKind.u32.max) : U x := ⟨h.1, by have : IntKind.u32.max = 4294967295 := rfl; have := h.2; omega⟩
end Go.Proofs.Ytfihpfnndbolpaa

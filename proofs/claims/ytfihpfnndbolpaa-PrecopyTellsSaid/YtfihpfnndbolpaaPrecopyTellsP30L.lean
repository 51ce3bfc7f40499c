/-
  **The laws PrecopyEnds and PrecopyStops.**
-/
import Derived.Test.YtfihpfnndbolpaaPrecopyTellsP30
import Derived.Test.YtfihpfnndbolpaaPrecopyTellsPd
namespace Go.Proofs.Ytfihpfnndbolpaa
open Go Go.GD
set_option linter.unusedVariables false
set_option linter.unusedSimpArgs false
set_option maxRecDepth 100000
theorem copies_length (m l : List Int) : (copies m l).length = l.length := by simp [copies]
theorem awake30_w : law30_awake_pre ∧ law30_awake = true := by
  have h : law30_awake_t.w fun r => r = true := by
    unfold law30_awake_t
    obtain ⟨b1, b2⟩ := begin_w (P := 3) (by omega) (by omega)
    obtain ⟨n1, n2⟩ := new_w (P := 3) (by omega) (by omega)
    refine w_an b1 (w_lv fun x0 h0 => w_an n1 (w_lv fun x1 h1 => ?_))
    have h0 : x0 = precopy_Begin ((3 : Nat) : Int) := h0
    have h1 : x1 = memory_New ((3 : Nat) : Int) := h1
    rw [b2] at h0; rw [n2] at h1; subst h0; subst h1
    have hp : memory_Pages (List.replicate (32 * 3) (0 : Int)) = ((3 : Nat) : Int) := pages_of (by simp) (by omega)
    obtain ⟨r1, r2⟩ := rounds_w (c := ⟨List.replicate 3 true, 0, 0⟩) (m := List.replicate (32 * 3) (0 : Int)) (by simp)
    have hR : roundF ⟨List.replicate 3 true, 0, 0⟩ (List.replicate (32 * 3) (0 : Int)) = (⟨List.replicate 3 false, 1, 3⟩, copies (List.replicate (32 * 3) (0 : Int)) [0, 1, 2]) := by
      unfold roundF
      rw [if_pos ⟨by rw [valid_iff]; rfl, by show (0 : Int) ≤ 10; omega, by rw [hp]; rfl⟩]
      rfl
    refine w_an r1 (w_lv fun x2 h2 => ?_)
    have h2 : x2 = precopy_Round _ _ := h2
    rw [r2, hR] at h2; subst h2
    obtain ⟨o1, o2⟩ := note_w (c := ⟨List.replicate 3 false, 1, 3⟩) (l := [1]) (by simp) (by simp)
    refine w_an o1 (w_lv fun x3 h3 => ?_)
    have h3 : x3 = precopy_Note ⟨List.replicate 3 false, 1, 3⟩ [1] := h3
    rw [o2] at h3
    have h3 : x3 = ⟨[false, true, false], 1, 3⟩ := h3
    subst h3
    obtain ⟨p1, p2⟩ := pending_w (c := ⟨[false, true, false], 1, 3⟩) (by simp)
    refine w_an p1 (w_lv fun x4 h4 => ?_)
    have h4 : x4 = precopy_Pending ⟨[false, true, false], 1, 3⟩ := h4
    rw [p2] at h4
    have h4 : x4 = [1] := h4
    subst h4
    refine w_br (fun _ => ?_) (fun h => by cases h)
    refine w_br (fun _ => ?_) (fun h => by simp [copies] at h)
    refine w_br (fun _ => ?_) (fun h => by cases h)
    refine w_cn rfl ?_
    refine w_br (fun _ => ?_) (fun h => by cases h)
    refine w_br (fun _ => ?_) (fun h => by cases h)
    refine w_br (fun _ => ?_) (fun h => by cases h)
    obtain ⟨s1, s2⟩ := stop_w (c := ⟨[false, true, false], 1, 3⟩) (limit := 1) (by simp)
    obtain ⟨t1, t2⟩ := stop_w (c := ⟨[false, true, false], 1, 3⟩) (limit := 0) (by simp)
    obtain ⟨d1, d2⟩ := down_w (c := ⟨[false, true, false], 1, 3⟩) (rate := 5) (by simp)
    refine w_an s1 (w_lv fun x5 h5 => ?_)
    have h5 : x5 = precopy_Stop ⟨[false, true, false], 1, 3⟩ 1 := h5
    rw [s2, valid_iff] at h5
    have h5 : x5 = true := h5
    subst h5
    refine w_br (fun _ => ?_) (fun h => by cases h)
    refine w_an t1 (w_lv fun x6 h6 => ?_)
    have h6 : x6 = precopy_Stop ⟨[false, true, false], 1, 3⟩ 0 := h6
    rw [t2, valid_iff] at h6
    have h6 : x6 = false := h6
    subst h6
    refine w_br (fun _ => ?_) (fun h => by cases h)
    refine w_an d1 (w_lv fun x7 h7 => w_lf ?_)
    have h7 : x7 = precopy_Downtime ⟨[false, true, false], 1, 3⟩ 5 := h7
    rw [d2] at h7
    have h7 : x7 = 1 := h7
    subst h7
    rfl
  exact Tree.pp (W := fun r => r = true) h
theorem awake_an {W : Bool → Prop} (h : W true) : (Tree.an law30_awake_pre (.lv law30_awake fun x => .lf x)).w W := by
  obtain ⟨h1, h2⟩ := awake30_w
  refine w_an h1 (w_lv fun x hx => w_lf ?_)
  have hx : x = law30_awake := hx
  rw [hx, h2]; exact h
end Go.Proofs.Ytfihpfnndbolpaa

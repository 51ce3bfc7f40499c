/-
  **The laws PrecopyEnds and PrecopyStops.**
-/
import Derived.Test.YtfihpfnndbolpaaPrecopyEndsP30
import Derived.Test.YtfihpfnndbolpaaPrecopyEndsPd
namespace Go.Proofs.Ytfihpfnndbolpaa
open Go Go.GD
set_option linter.unusedVariables false
set_option linter.unusedSimpArgs false
set_option maxRecDepth 100000
theorem copies_length (m l : List Int) : (copies m l).length = l.length := by simp [copies]
theorem sel_true : ∀ (P : Nat) (k : Int), (sel (List.replicate P true) k).length = P
  | 0, _ => rfl
  | P + 1, k => by simp [List.replicate_succ, sel, sel_true P]
theorem sel_false : ∀ (P : Nat) (k : Int), sel (List.replicate P false) k = []
  | 0, _ => rfl
  | P + 1, k => by simp [List.replicate_succ, sel, sel_false P]
theorem awake30_w : law30_awake_pre ∧ law30_awake = true := by
  have h : law30_awake_t.w fun r => r = true := by
    unfold law30_awake_t
    obtain ⟨b1, b2⟩ := begin_w (P := 3) (by omega) (by omega)
    obtain ⟨n1, n2⟩ := new_w (P := 3) (by omega) (by omega)
    refine w_an b1 (w_lv fun x0 h0 => w_an n1 (w_lv fun x1 h1 => ?_))
    have h0 : x0 = precopy_Begin ((3 : Nat) : Int) := h0
    have h1 : x1 = memory_New ((3 : Nat) : Int) := h1
    rw [b2] at h0; rw [n2] at h1; subst h0; subst h1
    have hp : memory_Pages (List.replicate (32 * 3) (0 : Int)) = ((3 : Nat) : Int) := pages_of (by simp) (by omega)
    obtain ⟨r1, r2⟩ := rounds_w (c := ⟨List.replicate 3 true, 0, 0⟩) (m := List.replicate (32 * 3) (0 : Int)) (by simp)
    have hR : roundF ⟨List.replicate 3 true, 0, 0⟩ (List.replicate (32 * 3) (0 : Int)) = (⟨List.replicate 3 false, 1, 3⟩, copies (List.replicate (32 * 3) (0 : Int)) [0, 1, 2]) := by
      unfold roundF
      rw [if_pos ⟨by rw [valid_iff]; rfl, by show (0 : Int) ≤ 10; omega, by rw [hp]; rfl⟩]
      rfl
    refine w_an r1 (w_lv fun x2 h2 => ?_)
    have h2 : x2 = precopy_Round _ _ := h2
    rw [r2, hR] at h2; subst h2
    obtain ⟨o1, o2⟩ := note_w (c := ⟨List.replicate 3 false, 1, 3⟩) (l := [1]) (by simp) (by simp)
    refine w_an o1 (w_lv fun x3 h3 => ?_)
    have h3 : x3 = precopy_Note ⟨List.replicate 3 false, 1, 3⟩ [1] := h3
    rw [o2] at h3
    have h3 : x3 = ⟨[false, true, false], 1, 3⟩ := h3
    subst h3
    obtain ⟨p1, p2⟩ := pending_w (c := ⟨[false, true, false], 1, 3⟩) (by simp)
    refine w_an p1 (w_lv fun x4 h4 => ?_)
    have h4 : x4 = precopy_Pending ⟨[false, true, false], 1, 3⟩ := h4
    rw [p2] at h4
    have h4 : x4 = [1] := h4
    subst h4
    refine w_br (fun _ => ?_) (fun h => by cases h)
    refine w_br (fun _ => ?_) (fun h => by simp [copies] at h)
    refine w_br (fun _ => ?_) (fun h => by cases h)
    refine w_cn rfl ?_
    refine w_br (fun _ => ?_) (fun h => by cases h)
    refine w_br (fun _ => ?_) (fun h => by cases h)
    refine w_br (fun _ => ?_) (fun h => by cases h)
    obtain ⟨s1, s2⟩ := stop_w (c := ⟨[false, true, false], 1, 3⟩) (limit := 1) (by simp)
    obtain ⟨t1, t2⟩ := stop_w (c := ⟨[false, true, false], 1, 3⟩) (limit := 0) (by simp)
    obtain ⟨d1, d2⟩ := down_w (c := ⟨[false, true, false], 1, 3⟩) (rate := 5) (by simp)
    refine w_an s1 (w_lv fun x5 h5 => ?_)
    have h5 : x5 = precopy_Stop ⟨[false, true, false], 1, 3⟩ 1 := h5
    rw [s2, valid_iff] at h5
    have h5 : x5 = true := h5
    subst h5
    refine w_br (fun _ => ?_) (fun h => by cases h)
    refine w_an t1 (w_lv fun x6 h6 => ?_)
    have h6 : x6 = precopy_Stop ⟨[false, true, false], 1, 3⟩ 0 := h6
    rw [t2, valid_iff] at h6
    have h6 : x6 = false := h6
    subst h6
    refine w_br (fun _ => ?_) (fun h => by cases h)
    refine w_an d1 (w_lv fun x7 h7 => w_lf ?_)
    have h7 : x7 = precopy_Downtime ⟨[false, true, false], 1, 3⟩ 5 := h7
    rw [d2] at h7
    have h7 : x7 = 1 := h7
    subst h7
    rfl
  exact Tree.pp (W := fun r => r = true) h
theorem awake_an {W : Bool → Prop} (h : W true) : (Tree.an law30_awake_pre (.lv law30_awake fun x => .lf x)).w W := by
  obtain ⟨h1, h2⟩ := awake30_w
  refine w_an h1 (w_lv fun x hx => w_lf ?_)
  have hx : x = law30_awake := hx
  rw [hx, h2]; exact h
theorem roundF_go {c : ApiPrecopy} {P : Nat} (hP : 1 ≤ P) (hP2 : P ≤ 32) (hd : c.Dirty.length = P) (r0 : 0 ≤ c.Round) (r1 : c.Round ≤ 10) (s0 : 0 ≤ c.Sent) (s1 : c.Sent ≤ 352) : roundF c (List.replicate (32 * P) 0) = (⟨List.replicate P false, c.Round + 1, c.Sent + (sel c.Dirty 0).length⟩, copies (List.replicate (32 * P) 0) (sel c.Dirty 0)) := by
  have := sel_length c.Dirty 0
  unfold roundF
  rw [if_pos ⟨by rw [valid_iff]; exact decide_eq_true (by omega), r1, by rw [pages_of (P := P) (by simp) hP2, hd]⟩, wi (by omega) (by omega), wi (by omega) (by omega), hd]
theorem ends_w (pages extra : Int) : (law30_PrecopyEnds_t pages extra).w fun r => r = true := by
  unfold law30_PrecopyEnds_t
  refine w_br (fun _ => awake_an rfl) (fun h1 => w_br (fun _ => awake_an rfl) (fun h2 => w_br (fun _ => awake_an rfl) (fun h3 => w_br (fun _ => awake_an rfl) (fun h4 => ?_))))
  have h1 := of_decide_eq_false h1
  have h2 := of_decide_eq_false h2
  have h3 := of_decide_eq_false h3
  have h4 := of_decide_eq_false h4
  obtain ⟨P, rfl⟩ : ∃ P : Nat, pages = P := ⟨pages.toNat, by omega⟩
  have hP : 1 ≤ P := by omega
  have hP2 : P ≤ 32 := by omega
  obtain ⟨b1, b2⟩ := begin_w hP hP2
  obtain ⟨n1, n2⟩ := new_w hP hP2
  refine w_an b1 (w_lv fun x4 e4 => w_an n1 (w_lv fun x5 e5 => ?_))
  have e4 : x4 = precopy_Begin P := e4
  have e5 : x5 = memory_New P := e5
  rw [b2] at e4; rw [n2] at e5; subst e4; subst e5
  have ee : IntKind.wrap .i64 (11 + extra) = 11 + extra := wi (by omega) (by omega)
  refine w_lp (inv := fun z : Int × Int × ApiPrecopy => ∃ i : Nat, z.2.1 = i ∧ (i : Int) ≤ 11 + extra ∧ z.2.2.Dirty.length = P ∧ z.2.2.Round = min i 11 ∧ z.2.2.Sent = z.1 ∧ z.1 = (if i = 0 then 0 else P + min (i - 1) 10 : Nat) ∧ (i = 0 → z.2.2.Dirty = List.replicate P true) ∧ (1 ≤ i → i ≤ 11 → z.2.2.Dirty = List.replicate P false)) (μ := fun z => (11 + extra - z.2.1).toNat)
    ⟨0, rfl, by omega, by simp, rfl, rfl, rfl, fun _ => rfl, fun h => by omega⟩ (by simp only [law30_PrecopyEnds_meas0]; omega) ?_
  rintro ⟨n, _, c⟩ ⟨i, rfl, hi, hd, hr, hs, hn, ht, hf⟩
  simp only at hd hr hs hn ht hf
  refine w_br (fun hlt => ?_) (fun hge => ?_)
  · have hlt : (i : Int) < 11 + extra := by rw [ee] at hlt; exact of_decide_eq_true hlt
    have ew : IntKind.wrap .i64 ((i : Int) + 1) = ((i + 1 : Nat) : Int) := by rw [wi (by omega) (by omega)]; omega
    have nb : n ≤ 42 ∧ 0 ≤ n := by rw [hn]; split <;> omega
    obtain ⟨o1, o2⟩ := note_w (c := c) (l := [0]) (by omega) (by simp)
    refine w_an o1 (w_lv fun x6 e6 => ?_)
    have e6 : x6 = precopy_Note c [0] := e6
    rw [o2] at e6
    have ed : noteF c.Dirty [0] = c.Dirty.set 0 true := by
      simp only [noteF]; rw [if_pos ⟨by omega, by omega⟩]; rfl
    rw [ed] at e6
    subst e6
    obtain ⟨r1, r2⟩ := rounds_w (c := { c with Dirty := c.Dirty.set 0 true }) (m := List.replicate (32 * P) (0 : Int)) (by simp; omega)
    refine w_an r1 (w_lv fun x7 e7 => w_nx ?_)
    have e7 : x7 = precopy_Round { c with Dirty := c.Dirty.set 0 true } (List.replicate (32 * P) (0 : Int)) := e7
    rw [r2] at e7
    refine ⟨⟨i + 1, ew, by omega, ?_⟩, by simp only [ew]; omega⟩
    by_cases h11 : i ≤ 10
    · rw [roundF_go hP hP2 (by simpa using hd) (by show 0 ≤ c.Round; omega) (by show c.Round ≤ 10; omega) (by show 0 ≤ c.Sent; omega) (by show c.Sent ≤ 352; omega)] at e7
      subst e7
      have hk : (sel (c.Dirty.set 0 true) 0).length = if i = 0 then P else 1 := by
        obtain ⟨Q, rfl⟩ : ∃ Q, P = Q + 1 := ⟨P - 1, by omega⟩
        by_cases h0 : i = 0
        · rw [ht h0, if_pos h0]
          simp [List.replicate_succ, sel, sel_true]
        · rw [hf (by omega) (by omega), if_neg h0]
          simp [List.replicate_succ, sel, sel_false]
      simp only [copies_length, hk]
      have en : IntKind.wrap .i64 (n + (if i = 0 then P else 1 : Nat)) = n + (if i = 0 then P else 1 : Nat) := by rw [wi] <;> split <;> omega
      refine ⟨by simp, by omega, ?_, ?_, fun h => by omega, by simp⟩
      · rw [en, hs]
      · rw [en, hn]; split <;> rename_i h0 <;> simp [h0] <;> omega
    · have : roundF { c with Dirty := c.Dirty.set 0 true } (List.replicate (32 * P) (0 : Int)) = ({ c with Dirty := c.Dirty.set 0 true }, []) := by
        unfold roundF
        rw [if_neg (fun h => by have h := h.2.1; have h : c.Round ≤ 10 := h; omega)]
      rw [this] at e7
      subst e7
      have en : IntKind.wrap .i64 (n + (([] : List ApiPageCopy).length : Int)) = n := by rw [wi (by simp; omega) (by simp; omega)]; simp
      refine ⟨by simpa using hd, by show c.Round = _; omega, by rw [en]; exact hs, ?_, fun h => by omega, fun _ h => by omega⟩
      rw [en, hn]; simp only [show ¬ i = 0 by omega, show ¬ i + 1 = 0 by omega, if_false]; omega
  · have hge : ¬ (i : Int) < 11 + extra := by rw [ee] at hge; exact of_decide_eq_false hge
    have hi' : (i : Int) = 11 + extra := by omega
    have i0 : ¬ i = 0 := by omega
    rw [if_neg i0] at hn
    have ep : IntKind.wrap .i64 ((P : Int) + 10) = (P : Int) + 10 := wi (by omega) (by omega)
    refine w_br (fun _ => w_br (fun _ => w_br (fun _ => ?_) (fun h => ?_)) (fun h => ?_)) (fun h => ?_)
    · obtain ⟨g1, g2⟩ := awake30_w
      refine w_an g1 (w_lv fun x hx => w_lf ?_)
      have hx : x = law30_awake := hx
      rw [hx, g2]; rfl
    · exfalso
      have : c.Round = 11 := by omega
      simp [this] at h
    · exfalso; simp [hs] at h
    · exfalso
      rw [ep] at h
      have : n = (P : Int) + 10 := by omega
      simp [this] at h
end Go.Proofs.Ytfihpfnndbolpaa

/-
  **The laws PrecopyEnds and PrecopyStops.**
-/
import Derived.Test.YtfihpfnndbolpaaPrecopyStopsP30
import Derived.Test.YtfihpfnndbolpaaPrecopyStopsPd
namespace Go.Proofs.Ytfihpfnndbolpaa
open Go Go.GD
set_option linter.unusedVariables false
set_option linter.unusedSimpArgs false
set_option maxRecDepth 100000
theorem sel_true : ∀ (P : Nat) (k : Int), (sel (List.replicate P true) k).length = P
  | 0, _ => rfl
  | P + 1, k => by simp [List.replicate_succ, sel, sel_true P]
theorem sel_false : ∀ (P : Nat) (k : Int), sel (List.replicate P false) k = []
  | 0, _ => rfl
  | P + 1, k => by simp [List.replicate_succ, sel, sel_false P]
theorem awake30_w : law30_awake_pre ∧ law30_awake = true := by
  have h : law30_awake_t.w fun r => r = true := by
    unfold law30_awake_t
    obtain ⟨b1, b2⟩ := begin_w (P := 3) (by omega) (by omega)
    obtain ⟨n1, n2⟩ := new_w (P := 3) (by omega) (by omega)
    refine w_an b1 (w_lv fun x0 h0 => w_an n1 (w_lv fun x1 h1 => ?_))
    have h0 : x0 = precopy_Begin ((3 : Nat) : Int) := h0
    have h1 : x1 = memory_New ((3 : Nat) : Int) := h1
    rw [b2] at h0; rw [n2] at h1; subst h0; subst h1
    have hp : memory_Pages (List.replicate (32 * 3) (0 : Int)) = ((3 : Nat) : Int) := pages_of (by simp) (by omega)
    obtain ⟨r1, r2⟩ := rounds_w (c := ⟨List.replicate 3 true, 0, 0⟩) (m := List.replicate (32 * 3) (0 : Int)) (by simp)
    have hR : roundF ⟨List.replicate 3 true, 0, 0⟩ (List.replicate (32 * 3) (0 : Int)) = (⟨List.replicate 3 false, 1, 3⟩, copies (List.replicate (32 * 3) (0 : Int)) [0, 1, 2]) := by
      unfold roundF
      rw [if_pos ⟨by rw [valid_iff]; rfl, by show (0 : Int) ≤ 10; omega, by rw [hp]; rfl⟩]
      rfl
    refine w_an r1 (w_lv fun x2 h2 => ?_)
    have h2 : x2 = precopy_Round _ _ := h2
    rw [r2, hR] at h2; subst h2
    obtain ⟨o1, o2⟩ := note_w (c := ⟨List.replicate 3 false, 1, 3⟩) (l := [1]) (by simp) (by simp)
    refine w_an o1 (w_lv fun x3 h3 => ?_)
    have h3 : x3 = precopy_Note ⟨List.replicate 3 false, 1, 3⟩ [1] := h3
    rw [o2] at h3
    have h3 : x3 = ⟨[false, true, false], 1, 3⟩ := h3
    subst h3
    obtain ⟨p1, p2⟩ := pending_w (c := ⟨[false, true, false], 1, 3⟩) (by simp)
    refine w_an p1 (w_lv fun x4 h4 => ?_)
    have h4 : x4 = precopy_Pending ⟨[false, true, false], 1, 3⟩ := h4
    rw [p2] at h4
    have h4 : x4 = [1] := h4
    subst h4
    refine w_br (fun _ => ?_) (fun h => by cases h)
    refine w_br (fun _ => ?_) (fun h => by simp [copies] at h)
    refine w_br (fun _ => ?_) (fun h => by cases h)
    refine w_cn rfl ?_
    refine w_br (fun _ => ?_) (fun h => by cases h)
    refine w_br (fun _ => ?_) (fun h => by cases h)
    refine w_br (fun _ => ?_) (fun h => by cases h)
    obtain ⟨s1, s2⟩ := stop_w (c := ⟨[false, true, false], 1, 3⟩) (limit := 1) (by simp)
    obtain ⟨t1, t2⟩ := stop_w (c := ⟨[false, true, false], 1, 3⟩) (limit := 0) (by simp)
    obtain ⟨d1, d2⟩ := down_w (c := ⟨[false, true, false], 1, 3⟩) (rate := 5) (by simp)
    refine w_an s1 (w_lv fun x5 h5 => ?_)
    have h5 : x5 = precopy_Stop ⟨[false, true, false], 1, 3⟩ 1 := h5
    rw [s2, valid_iff] at h5
    have h5 : x5 = true := h5
    subst h5
    refine w_br (fun _ => ?_) (fun h => by cases h)
    refine w_an t1 (w_lv fun x6 h6 => ?_)
    have h6 : x6 = precopy_Stop ⟨[false, true, false], 1, 3⟩ 0 := h6
    rw [t2, valid_iff] at h6
    have h6 : x6 = false := h6
    subst h6
    refine w_br (fun _ => ?_) (fun h => by cases h)
    refine w_an d1 (w_lv fun x7 h7 => w_lf ?_)
    have h7 : x7 = precopy_Downtime ⟨[false, true, false], 1, 3⟩ 5 := h7
    rw [d2] at h7
    have h7 : x7 = 1 := h7
    subst h7
    rfl
  exact Tree.pp (W := fun r => r = true) h
theorem awake_an {W : Bool → Prop} (h : W true) : (Tree.an law30_awake_pre (.lv law30_awake fun x => .lf x)).w W := by
  obtain ⟨h1, h2⟩ := awake30_w
  refine w_an h1 (w_lv fun x hx => w_lf ?_)
  have hx : x = law30_awake := hx
  rw [hx, h2]; exact h
theorem roundF_go {c : ApiPrecopy} {P : Nat} (hP : 1 ≤ P) (hP2 : P ≤ 32) (hd : c.Dirty.length = P) (r0 : 0 ≤ c.Round) (r1 : c.Round ≤ 10) (s0 : 0 ≤ c.Sent) (s1 : c.Sent ≤ 352) : roundF c (List.replicate (32 * P) 0) = (⟨List.replicate P false, c.Round + 1, c.Sent + (sel c.Dirty 0).length⟩, copies (List.replicate (32 * P) 0) (sel c.Dirty 0)) := by
  have := sel_length c.Dirty 0
  unfold roundF
  rw [if_pos ⟨by rw [valid_iff]; exact decide_eq_true (by omega), r1, by rw [pages_of (P := P) (by simp) hP2, hd]⟩, wi (by omega) (by omega), wi (by omega) (by omega), hd]
def stopInv (P : Nat) (rounds : Int) (z : Int × ApiPrecopy) : Prop :=
  ∃ i : Nat, z.1 = i ∧ (i : Int) ≤ rounds ∧ z.2.Dirty.length = P ∧ z.2.Round = i ∧ z.2.Sent = (if i = 0 then 0 else P : Nat) ∧ (1 ≤ i → z.2.Dirty = List.replicate P false) ∧ (i = 0 → z.2.Dirty = List.replicate P true)
theorem stops_w (pages : Int) (dirty : List Int) (limit rate rounds : Int) : (law30_PrecopyStops_t pages dirty limit rate rounds).w fun r => r = true := by
  unfold law30_PrecopyStops_t
  refine w_br (fun _ => awake_an rfl) (fun h1 => w_br (fun _ => awake_an rfl) (fun h2 => w_br (fun _ => awake_an rfl) (fun h3 => w_br (fun _ => awake_an rfl) (fun h4 => w_br (fun _ => awake_an rfl) (fun h5 => w_br (fun _ => awake_an rfl) (fun h6 => w_br (fun _ => awake_an rfl) (fun h7 => ?_)))))))
  have h1 := of_decide_eq_false h1
  have h2 := of_decide_eq_false h2
  have h3 := of_decide_eq_false h3
  have h4 := of_decide_eq_false h4
  have h5 := of_decide_eq_false h5
  have h6 := of_decide_eq_false h6
  have h7 := of_decide_eq_false h7
  obtain ⟨P, rfl⟩ : ∃ P : Nat, pages = P := ⟨pages.toNat, by omega⟩
  have hP : 1 ≤ P := by omega
  have hP2 : P ≤ 32 := by omega
  obtain ⟨b1, b2⟩ := begin_w hP hP2
  obtain ⟨n1, n2⟩ := new_w hP hP2
  refine w_an b1 (w_lv fun x7 e7 => w_an n1 (w_lv fun x8 e8 => ?_))
  have e7 : x7 = precopy_Begin P := e7
  have e8 : x8 = memory_New P := e8
  rw [b2] at e7; rw [n2] at e8; subst e7; subst e8
  refine w_lp (inv := stopInv P rounds) (μ := law30_PrecopyStops_meas0 P dirty limit rate rounds)
    ⟨0, rfl, by omega, by simp, rfl, rfl, fun h => by omega, fun _ => rfl⟩ (Nat.lt_succ_self _) ?_
  rintro ⟨_, c⟩ ⟨i, rfl, hi, hd, hr, hs, hf, ht⟩
  simp only at hd hr hs hf ht
  have hs2 : 0 ≤ c.Sent ∧ c.Sent ≤ 32 := by rw [hs]; split <;> omega
  refine w_br (fun hlt => ?_) (fun hge => ?_)
  · have hlt : (i : Int) < rounds := of_decide_eq_true hlt
    have ew : IntKind.wrap .i64 ((i : Int) + 1) = ((i + 1 : Nat) : Int) := by rw [wi (by omega) (by omega)]; omega
    obtain ⟨r1, r2⟩ := rounds_w (c := c) (m := List.replicate (32 * P) (0 : Int)) (by omega)
    refine w_an r1 (w_lv fun x9 e9 => w_nx ?_)
    have e9 : x9 = precopy_Round c (List.replicate (32 * P) (0 : Int)) := e9
    rw [r2, roundF_go hP hP2 hd (by omega) (by omega) (by omega) (by omega)] at e9
    subst e9
    refine ⟨⟨i + 1, ew, by omega, by simp, by show c.Round + 1 = _; omega, ?_, fun _ => rfl, fun h => by omega⟩, by simp only [law30_PrecopyStops_meas0, ew]; omega⟩
    show c.Sent + ((sel c.Dirty 0).length : Int) = _
    rw [hs, if_neg (show ¬ i + 1 = 0 by omega)]
    by_cases h0 : i = 0
    · rw [if_pos h0, ht h0, sel_true]; simp
    · rw [if_neg h0, hf (by omega), sel_false]; simp
  · have hge : ¬ (i : Int) < rounds := of_decide_eq_false hge
    have hi' : (i : Int) = rounds := by omega
    obtain ⟨o1, o2⟩ := note_w (c := c) (l := dirty) (by omega) (by omega)
    refine w_an o1 (w_lv fun x10 e10 => ?_)
    have e10 : x10 = precopy_Note c dirty := e10
    rw [o2] at e10
    have hdl : x10.Dirty.length = P := by rw [e10]; show (noteF c.Dirty dirty).length = P; rw [noteF_length]; exact hd
    have hrd : x10.Round = i := by rw [e10]; exact hr
    have hsd : x10.Sent = c.Sent := by rw [e10]
    obtain ⟨p1, p2⟩ := pending_w (c := x10) (by omega)
    refine w_an p1 (w_lv fun x11 e11 => ?_)
    have e11 : x11 = precopy_Pending x10 := e11
    rw [p2] at e11; subst e11
    obtain ⟨d1, d2⟩ := down_w (c := x10) (rate := rate) (by omega)
    refine w_an d1 (w_lv fun x12 e12 => ?_)
    have e12 : x12 = precopy_Downtime x10 rate := e12
    rw [d2, if_neg (by omega)] at e12
    refine w_br (fun h => by cases h) (fun _ => ?_)
    obtain ⟨s1, s2⟩ := stop_w (c := x10) (limit := limit) (by omega)
    refine w_an s1 (w_lv fun x13 e13 => ?_)
    have e13 : x13 = precopy_Stop x10 limit := e13
    have hv : precopy_Valid x10 = true := by rw [valid_iff]; exact decide_eq_true (by omega)
    rw [s2, hv, Bool.true_and] at e13
    obtain ⟨r1, r2⟩ := rounds_w (c := x10) (m := List.replicate (32 * P) (0 : Int)) (by omega)
    rw [roundF_go hP hP2 hdl (by omega) (by omega) (by omega) (by omega)] at r2
    have hn := sel_length x10.Dirty 0
    obtain ⟨k, hk⟩ : ∃ k : Nat, (sel x10.Dirty 0).length = k := ⟨_, rfl⟩
    have kk : k ≤ 32 := by omega
    have T1 : ∀ T : Tree ((Int × ApiPrecopy) ⊕ Bool), T = (.an (precopy_Round_pre x10 (List.replicate (32 * P) (0 : Int))) (.lv (precopy_Round x10 (List.replicate (32 * P) (0 : Int))) fun (x14 : ApiPrecopy × List ApiPageCopy) => .br ((x14.snd.length : Int) == ((sel x10.Dirty 0).length : Int)) (.an law30_awake_pre (.lv law30_awake fun (x15 : Bool) => .lf (Sum.inr x15))) (.lf (Sum.inr false)))) → T.w (Sum.elim (fun z => stopInv P rounds z ∧ law30_PrecopyStops_meas0 P dirty limit rate rounds z < law30_PrecopyStops_meas0 P dirty limit rate rounds ((i : Int), c)) fun r => r = true) := by
      rintro T rfl
      refine w_an r1 (w_lv fun x14 e14 => ?_)
      have e14 : x14 = precopy_Round x10 (List.replicate (32 * P) (0 : Int)) := e14
      rw [r2] at e14; subst e14
      refine w_br (fun _ => ?_) (fun h => by simp [copies] at h)
      obtain ⟨g1, g2⟩ := awake30_w
      refine w_an g1 (w_lv fun x hx => w_lf ?_)
      have hx : x = law30_awake := hx
      rw [hx, g2]; rfl
    rw [hk] at e12 e13
    have hq := Int.emod_add_ediv_mul (k : Int) rate
    have q0 : 0 ≤ (k : Int) / rate := Int.ediv_nonneg (by omega) (by omega)
    have q1 : (k : Int) / rate ≤ k := Int.ediv_le_self _ (by omega)
    have m0 : 0 ≤ (k : Int) % rate := Int.emod_nonneg _ (by omega)
    have m1 : (k : Int) % rate < rate := Int.emod_lt_of_pos _ (by omega)
    have b0 : 0 ≤ x12 ∧ x12 ≤ 33 := by rw [e12]; split <;> omega
    have t1 : (k : Int) ≤ x12 * rate := by
      rw [e12]; split
      · rw [Int.add_mul]; omega
      · omega
    have t2 : 0 < x12 → (x12 - 1) * rate < k := fun hp => by
      rw [e12] at hp ⊢; split
      · rw [show (k : Int) / rate + 1 - 1 = (k : Int) / rate by omega]; omega
      · rw [Int.sub_mul]; omega
    have ub : x12 * rate ≤ 3300 := Int.le_trans (Int.mul_le_mul b0.2 (by omega : rate ≤ 100) (by omega) (by omega)) (by omega)
    have lb : 0 ≤ x12 * rate := Int.mul_nonneg b0.1 (by omega)
    have lb2 : -100 ≤ (x12 - 1) * rate := by rw [Int.sub_mul]; omega
    have ub2 : (x12 - 1) * rate ≤ 3300 := by rw [Int.sub_mul]; omega
    have w1 : IntKind.wrap .i64 (x12 * rate) = x12 * rate := wi (by omega) (by omega)
    have w2 : IntKind.wrap .i64 (x12 - 1) = x12 - 1 := wi (by omega) (by omega)
    have w3 : IntKind.wrap .i64 ((x12 - 1) * rate) = (x12 - 1) * rate := wi (by omega) (by omega)
    have T2 : ∀ T : Tree ((Int × ApiPrecopy) ⊕ Bool), T.w (Sum.elim (fun z => stopInv P rounds z ∧ law30_PrecopyStops_meas0 P dirty limit rate rounds z < law30_PrecopyStops_meas0 P dirty limit rate rounds ((i : Int), c)) fun r => r = true) →
        (Tree.br (decide (IntKind.wrap .i64 (x12 * rate) < ((sel x10.Dirty 0).length : Int))) (.lf (Sum.inr false)) (.br (decide (x12 > 0)) (.br (decide (IntKind.wrap .i64 (IntKind.wrap .i64 (x12 - 1) * rate) ≥ ((sel x10.Dirty 0).length : Int))) (.lf (Sum.inr false)) T) T)).w (Sum.elim (fun z => stopInv P rounds z ∧ law30_PrecopyStops_meas0 P dirty limit rate rounds z < law30_PrecopyStops_meas0 P dirty limit rate rounds ((i : Int), c)) fun r => r = true) := by
      intro T hT
      rw [w1, w2, w3, hk]
      refine w_br (fun h => absurd (of_decide_eq_true h) (by omega)) (fun _ => w_br (fun hp => w_br (fun h => absurd (of_decide_eq_true h) (by have := t2 (of_decide_eq_true hp); omega)) (fun _ => hT)) (fun _ => hT))
    refine w_br (fun hlim => w_br (fun h => ?_) (fun _ => T2 _ (T1 _ rfl))) (fun hlim => w_br (fun h => ?_) (fun _ => T2 _ (T1 _ rfl)))
    · exfalso
      rw [hk] at hlim
      rw [e13, hlim] at h; simp at h
    · exfalso
      rw [hk] at hlim
      rw [e13, hlim, hrd] at h
      by_cases h10 : (10 : Int) ≤ i
      · have : rounds = 10 := by omega
        simp [this, h10] at h
      · have : ¬ rounds = 10 := by omega
        simp [this, h10] at h
end Go.Proofs.Ytfihpfnndbolpaa

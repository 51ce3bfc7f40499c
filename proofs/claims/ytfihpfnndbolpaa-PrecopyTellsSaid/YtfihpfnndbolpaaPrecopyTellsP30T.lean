/-
  **The law PrecopyTells.**
-/
import Derived.Test.YtfihpfnndbolpaaPrecopyTellsP30
import Derived.Test.YtfihpfnndbolpaaPrecopyTellsP30L
import Derived.Test.YtfihpfnndbolpaaPrecopyTellsP30M
import Derived.Test.YtfihpfnndbolpaaPrecopyTellsPd
namespace Go.Proofs.Ytfihpfnndbolpaa
open Go Go.GD
set_option linter.unusedVariables false
set_option linter.unusedSimpArgs false
set_option maxRecDepth 100000
theorem pages_sames (m : List Int) : ref1_Pages m = memory_Pages m := rfl
theorem rpend_w {c : ApiPrecopy} (hb : c.Dirty.length ≤ 1000000000000) : ref30_Pending_pre c ∧ ref30_Pending c = sel c.Dirty 0 := by
  have h : (ref30_Pending_t c).w fun r => r = sel c.Dirty 0 := by
    unfold ref30_Pending_t
    refine w_lp (inv := fun z : Int × List Int => ∃ i : Nat, z.1 = i ∧ i ≤ c.Dirty.length ∧ z.2.length ≤ i ∧ z.2 ++ sel (c.Dirty.drop i) i = sel c.Dirty 0) (μ := ref30_Pending_meas0 c) ⟨0, rfl, Nat.zero_le _, by simp, by simp⟩ (Nat.lt_succ_self _) ?_
    rintro ⟨_, x⟩ ⟨i, rfl, hi, hx, hs⟩
    simp only at hx hs
    refine w_br (fun hlt => ?_) (fun hge => ?_)
    · have hlt : i < c.Dirty.length := by simpa using hlt
      have ew : IntKind.wrap .i64 ((i : Int) + 1) = ((i + 1 : Nat) : Int) := by rw [wi (by omega) (by omega)]; omega
      refine w_cn (cnd hlt) (w_br (fun hb1 => ?_) (fun hb1 => ?_))
      · rw [Int.toNat_natCast] at hb1
        refine w_cn (decide_eq_true (by show 8 * (x.length + 1) ≤ _; omega)) (w_nx ⟨⟨i + 1, ew, hlt, by simp; omega, ?_⟩, ?_⟩)
        · rw [sel_yes hlt hb1] at hs
          simp only [List.append_assoc, List.singleton_append]
          rw [← hs]; simp
        · simp only [ref30_Pending_meas0, ew]; omega
      · rw [Int.toNat_natCast] at hb1
        refine w_nx ⟨⟨i + 1, ew, hlt, by show x.length ≤ _; omega, ?_⟩, ?_⟩
        · rw [sel_no hlt hb1] at hs; simpa using hs
        · simp only [ref30_Pending_meas0, ew]; omega
    · have hge : c.Dirty.length ≤ i := by simpa using hge
      rw [List.drop_eq_nil_of_le hge] at hs
      refine w_lf ?_
      show x = _
      rw [← hs]; simp [sel]
  exact Tree.pp h
theorem cnd2 {n : Nat} {i : Nat} (h : i < n) : (Nat.beq (nat_lit 2) 2 && Nat.blt 0 2 && decide (0 ≤ (i : Int) ∧ (i : Int) < (n : Int))) = true := by
  rw [decide_eq_true (by omega)]; rfl
theorem take_at {α : Type} {l : List α} {i : Nat} (h : i < l.length) (d : α) : l.take (i + 1) = l.take i ++ [l.getD i d] := by
  rw [List.take_add_one]; simp [List.getD, h]
theorem rround_w {c : ApiPrecopy} {m : List Int} (hu : ∀ w ∈ m, U w) (hb : c.Dirty.length ≤ 1000000000000) : ref30_Round_pre c m ∧ ref30_Round c m = roundF c m := by
  have h : (ref30_Round_t c m).w fun r => r = roundF c m := by
    unfold ref30_Round_t
    refine w_lv fun v hv => ?_
    have hv : v = precopy_Valid c := hv
    refine w_br (fun h1 => w_lf ?_) (fun h1 => ?_)
    · have : precopy_Valid c = false := by rw [hv] at h1; simpa using h1
      simp [roundF, this]
    have hV : precopy_Valid c = true := by rw [hv] at h1; simpa using h1
    obtain ⟨v1, v2, v3, v4, v5, v6⟩ := valid_len hV
    refine w_br (fun h2 => w_lf ?_) (fun h2 => ?_)
    · have : ¬ c.Round ≤ 10 := by simpa using h2
      simp [roundF, this]
    have h2 : c.Round ≤ 10 := by simpa using h2
    refine w_lv fun p hp => ?_
    have hp : p = memory_Pages m := hp
    refine w_br (fun h3 => w_lf ?_) (fun h3 => ?_)
    · have : ¬ memory_Pages m = c.Dirty.length := by rw [hp] at h3; simpa using h3
      simp [roundF, this]
    have h3 : memory_Pages m = c.Dirty.length := by rw [hp] at h3; simpa using h3
    obtain ⟨l1, l2⟩ := pages_inv h3 v1
    have ok : okMem c.Dirty.length m := ⟨l1, Nat.zero_le _, l2, hu⟩
    obtain ⟨p1, p2⟩ := rpend_w hb
    refine w_an p1 (w_lv fun x hx => ?_)
    have hx : x = ref30_Pending c := hx
    rw [p2] at hx; subst hx
    have sl := sel_length c.Dirty 0
    refine w_lp (inv := fun z : Int × List ApiPageCopy => ∃ i : Nat, z.1 = i ∧ i ≤ (sel c.Dirty 0).length ∧ z.2 = copies m ((sel c.Dirty 0).take i)) (μ := fun z => ((sel c.Dirty 0).length - z.1).toNat) ⟨0, rfl, Nat.zero_le _, by simp [copies]⟩ (by simp only [ref30_Round_meas0]; omega) ?_
    rintro ⟨_, x⟩ ⟨i, rfl, hi, hx⟩
    simp only at hx
    have hxl : x.length ≤ i := by rw [hx]; simp [copies]; omega
    refine w_br (fun hlt => ?_) (fun hge => ?_)
    · have hlt : i < (sel c.Dirty 0).length := by simpa using hlt
      have ew : IntKind.wrap .i64 ((i : Int) + 1) = ((i + 1 : Nat) : Int) := by rw [wi (by omega) (by omega)]; omega
      have hm : (sel c.Dirty 0).getD i 0 ∈ sel c.Dirty 0 := by
        have : (sel c.Dirty 0).getD i 0 = (sel c.Dirty 0)[i] := by simp [List.getD, hlt]
        rw [this]; exact List.getElem_mem hlt
      obtain ⟨f0, f1⟩ := sel_mem hm
      refine w_cn (cnd hlt) (w_an (Tree.pp (rpage_b ok f0 (by omega))).1 (w_lv fun y hy => w_cn (cnd hlt) (w_cn (decide_eq_true (by show 24 * (x.length + 1) ≤ _; omega)) (w_nx ⟨⟨i + 1, ew, hlt, ?_⟩, ?_⟩))))
      · have hy : y = ref1_Page m ((sel c.Dirty 0).getD i 0) := hy
        rw [← page_same ok] at hy
        rw [hx, take_at hlt 0, hy]
        simp [copies]
      · simp only [ew]; omega
    · have hge : (sel c.Dirty 0).length ≤ i := by simpa using hge
      rw [List.take_of_length_le hge] at hx
      refine w_cn ?_ (w_lf ?_)
      · rw [decide_eq_true (by omega)]; rfl
      · simp [roundF, hV, h2, h3, hx, copies]
  exact Tree.pp h
theorem rstop_w {c : ApiPrecopy} {limit : Int} (hb : c.Dirty.length ≤ 1000000000000) : ref30_Stop_pre c limit ∧ ref30_Stop c limit = (precopy_Valid c && (decide (((sel c.Dirty 0).length : Int) ≤ limit) || decide (c.Round ≥ 10))) := by
  have h : (ref30_Stop_t c limit).w fun r => r = (precopy_Valid c && (decide (((sel c.Dirty 0).length : Int) ≤ limit) || decide (c.Round ≥ 10))) := by
    unfold ref30_Stop_t
    refine w_lv fun v hv => ?_
    have hv : v = precopy_Valid c := hv
    subst hv
    refine w_br (fun h1 => ?_) (fun h1 => w_lf ?_)
    · obtain ⟨g1, g2⟩ := rpend_w hb
      refine w_an g1 (w_lv fun x hx => ?_)
      have hx : x = ref30_Pending c := hx
      rw [g2] at hx; subst hx
      rw [h1]
      refine w_br (fun h2 => w_lf ?_) (fun h2 => w_lf ?_)
      · rw [h2]; rfl
      · rw [h2]; simp
    · rw [h1]; rfl
  exact Tree.pp h
def ceil (n rate : Int) : Int := if n % rate > 0 then n / rate + 1 else n / rate
theorem ceil_step {x rate : Int} (h1 : 1 ≤ rate) (h0 : 0 < x) : ceil (x - if rate < x then rate else x) rate + 1 = ceil x rate := by
  unfold ceil
  split
  · have e1 : (x - rate) % rate = x % rate := Int.sub_emod_right x rate
    have e2 : (x - rate) / rate = x / rate - 1 := by
      have := Int.add_mul_ediv_right x (-1) (show rate ≠ 0 by omega)
      rw [show x - rate = x + -1 * rate by omega, this]; omega
    rw [e1, e2]; split <;> omega
  · rw [show x - x = 0 by omega]
    simp only [Int.zero_emod, Int.zero_ediv, gt_iff_lt, Int.lt_irrefl, if_false]
    by_cases he : x = rate
    · subst he; rw [Int.emod_self, Int.ediv_self (by omega)]; simp
    · rw [Int.emod_eq_of_lt (by omega) (by omega), Int.ediv_eq_zero_of_lt (by omega) (by omega), if_pos h0]
theorem rdown_w {c : ApiPrecopy} {rate : Int} (hr : rate ≤ 9223372036854775807) (hb : c.Dirty.length ≤ 1000000000000) : ref30_Downtime_pre c rate ∧ ref30_Downtime c rate = if rate < 1 then 0 else ceil (sel c.Dirty 0).length rate := by
  have h : (ref30_Downtime_t c rate).w fun r => r = if rate < 1 then 0 else ceil (sel c.Dirty 0).length rate := by
    unfold ref30_Downtime_t
    refine w_br (fun h1 => w_lf ?_) (fun h1 => ?_)
    · rw [if_pos (by simpa using h1)]
    have h1 : 1 ≤ rate := by have : ¬ rate < 1 := by simpa using h1
                             omega
    rw [if_neg (by omega)]
    obtain ⟨g1, g2⟩ := rpend_w hb
    refine w_an g1 (w_lv fun x hx => ?_)
    have hx : x = ref30_Pending c := hx
    rw [g2] at hx; subst hx
    have hn := sel_length c.Dirty 0
    refine w_lp (inv := fun z : Int × Int => 0 ≤ z.1 ∧ 0 ≤ z.2 ∧ z.1 + z.2 ≤ (sel c.Dirty 0).length ∧ z.2 + ceil z.1 rate = ceil (sel c.Dirty 0).length rate) (μ := ref30_Downtime_meas0 c rate) ⟨by show (0 : Int) ≤ ((sel c.Dirty 0).length : Int); omega, Int.le_refl _, by show ((sel c.Dirty 0).length : Int) + 0 ≤ _; omega, by simp⟩ (Nat.lt_succ_self _) ?_
    rintro ⟨n, k⟩ ⟨a1, a2, a3, a4⟩
    simp only at a1 a2 a3 a4
    refine w_br (fun h => ?_) (fun h => w_lf ?_)
    · have h : 0 < n := by simpa using h
      have hc := ceil_step h1 h
      have hm : 1 ≤ (if rate < n then rate else n) ∧ (if rate < n then rate else n) ≤ n := by split <;> omega
      have e1 : IntKind.wrap .i64 (n - if rate < n then rate else n) = n - if rate < n then rate else n := wi (by omega) (by omega)
      have e2 : IntKind.wrap .i64 (k + 1) = k + 1 := wi (by omega) (by omega)
      refine w_nx ⟨⟨?_, ?_, ?_, ?_⟩, ?_⟩
      · show 0 ≤ IntKind.wrap .i64 _; rw [e1]; omega
      · show 0 ≤ IntKind.wrap .i64 _; rw [e2]; omega
      · show IntKind.wrap .i64 _ + IntKind.wrap .i64 _ ≤ _; rw [e1, e2]; omega
      · show IntKind.wrap .i64 _ + ceil (IntKind.wrap .i64 _) rate = _; rw [e1, e2]; omega
      · simp only [ref30_Downtime_meas0, e1]; omega
    · have h : ¬ 0 < n := by simpa using h
      have : n = 0 := by omega
      subst this
      have c0 : ceil 0 rate = 0 := by simp [ceil]
      rw [c0] at a4
      show k = _
      omega
  exact Tree.pp h
theorem begin_same (P : Int) : (precopy_Begin_pre P ∧ precopy_Begin P = if 1 ≤ P ∧ P ≤ 32 then (⟨List.replicate P.toNat true, 0, 0⟩, true) else (⟨[], 0, 0⟩, false)) := by
  by_cases h : 1 ≤ P ∧ P ≤ 32
  · obtain ⟨Q, rfl⟩ : ∃ Q : Nat, P = Q := ⟨P.toNat, by omega⟩
    rw [if_pos h]
    exact begin_w (by omega) (by omega)
  · rw [if_neg h]
    have h : (precopy_Begin_t P).w fun r => r = (⟨[], 0, 0⟩, false) := by
      unfold precopy_Begin_t
      exact w_br (fun _ => w_lf rfl) (fun h1 => w_br (fun _ => w_lf rfl) (fun h2 => absurd ⟨by simp at h1; omega, by simp at h2; omega⟩ h))
    exact Tree.pp h
theorem rbegin_same (P : Int) : (ref30_Begin_pre P ∧ ref30_Begin P = if 1 ≤ P ∧ P ≤ 32 then (⟨List.replicate P.toNat true, 0, 0⟩, true) else (⟨[], 0, 0⟩, false)) := by
  by_cases h : 1 ≤ P ∧ P ≤ 32
  · obtain ⟨Q, rfl⟩ : ∃ Q : Nat, P = Q := ⟨P.toNat, by omega⟩
    rw [if_pos h]
    have h0 : 1 ≤ Q := by omega
    have h1 : Q ≤ 32 := by omega
    have h : (ref30_Begin_t Q).w fun r => r = (⟨List.replicate (Q : Int).toNat true, 0, 0⟩, true) := by
      unfold ref30_Begin_t
      refine w_br (fun h => by simp at h; omega) (fun _ => w_br (fun h => by simp at h; omega) (fun _ => w_cn (by rw [decide_eq_true (by omega)]; rfl) ?_))
      refine w_lp (inv := fun z : Int × List Bool => ∃ i : Nat, z.1 = i ∧ i ≤ Q ∧ z.2 = List.replicate i true ++ List.replicate (Q - i) false) (μ := ref30_Begin_meas0 Q) ⟨0, rfl, Nat.zero_le _, by simp⟩ (Nat.lt_succ_self _) ?_
      rintro ⟨_, x⟩ ⟨i, rfl, hi, hx⟩
      simp only at hx
      refine w_br (fun hlt => ?_) (fun hge => ?_)
      · have hlt : i < Q := by simpa using hlt
        have ew : IntKind.wrap .i64 ((i : Int) + 1) = ((i + 1 : Nat) : Int) := by rw [wi (by omega) (by omega)]; omega
        have hl : x.length = Q := by rw [hx]; simp; omega
        refine w_cn (by rw [hl]; exact cnd hlt) (w_nx ⟨⟨i + 1, ew, hlt, ?_⟩, ?_⟩)
        · show x.set (Int.toNat (i : Int)) true = _
          rw [hx, Int.toNat_natCast, List.set_append_right _ _ (by simp), show Q - i = (Q - (i + 1)) + 1 by omega, List.replicate_succ, List.replicate_succ']
          simp
        · simp only [ref30_Begin_meas0, ew]; omega
      · have hge : Q ≤ i := by simpa using hge
        have : i = Q := by omega
        subst this
        refine w_lf ?_
        show (({ Dirty := x, Round := (0 : Int), Sent := (0 : Int) } : ApiPrecopy), true) = _
        rw [hx]; simp
    exact Tree.pp h
  · rw [if_neg h]
    have h : (ref30_Begin_t P).w fun r => r = (⟨[], 0, 0⟩, false) := by
      unfold ref30_Begin_t
      exact w_br (fun _ => w_lf rfl) (fun h1 => w_br (fun _ => w_lf rfl) (fun h2 => absurd ⟨by simp at h1; omega, by simp at h2; omega⟩ h))
    exact Tree.pp h
theorem rnote_w {c : ApiPrecopy} {l : List Int} (hb : c.Dirty.length ≤ 1000000000000) (hl : l.length ≤ 1000000000000) : ref30_Note_pre c l ∧ ref30_Note c l = { c with Dirty := noteF c.Dirty l } := by
  have h : (ref30_Note_t c l).w fun r => r = { c with Dirty := noteF c.Dirty l } := by
    unfold ref30_Note_t
    refine w_cn (decide_eq_true (by omega)) ?_
    refine w_lp (inv := fun z : Int × List Bool => ∃ i : Nat, z.1 = i ∧ i ≤ l.length ∧ noteF z.2 (l.drop i) = noteF c.Dirty l) (μ := ref30_Note_meas0 c l) ⟨0, rfl, Nat.zero_le _, by simp⟩ (Nat.lt_succ_self _) ?_
    rintro ⟨_, d⟩ ⟨i, rfl, hi, hd⟩
    simp only at hd
    refine w_br (fun hlt => ?_) (fun hge => ?_)
    · have hlt : i < l.length := by simpa using hlt
      have ew : IntKind.wrap .i64 ((i : Int) + 1) = ((i + 1 : Nat) : Int) := by rw [wi (by omega) (by omega)]; omega
      have hdr : l.drop i = l.getD i 0 :: l.drop (i + 1) := by
        rw [List.drop_eq_getElem_cons hlt]; congr 1; simp [List.getD, hlt]
      rw [hdr, noteF] at hd
      have mx : ref30_Note_meas0 c l (IntKind.wrap .i64 ((i : Int) + 1), d) < ref30_Note_meas0 c l ((i : Int), d) := by simp only [ref30_Note_meas0, ew]; omega
      have skip : ¬ (0 ≤ l.getD i 0 ∧ l.getD i 0 < d.length) → (∃ j : Nat, IntKind.wrap .i64 ((i : Int) + 1) = j ∧ j ≤ l.length ∧ noteF d (l.drop j) = noteF c.Dirty l) := fun hn => by
        rw [if_neg hn] at hd
        exact ⟨i + 1, ew, hlt, hd⟩
      refine w_cn (cnd hlt) ?_
      refine w_br (fun h1 => ?_) (fun h1 => w_nx ⟨skip (fun h => of_decide_eq_false h1 h.1), mx⟩)
      have h1 : 0 ≤ l.getD i 0 := of_decide_eq_true h1
      refine w_cn (cnd hlt) (w_br (fun h2 => ?_) (fun h2 => w_nx ⟨skip (fun h => of_decide_eq_false h2 h.2), mx⟩))
      have h2 : l.getD i 0 < d.length := of_decide_eq_true h2
      refine w_cn (cnd hlt) (w_cn (Bool.and_eq_true_iff.2 ⟨rfl, decide_eq_true ⟨h1, h2⟩⟩) (w_nx ⟨⟨i + 1, ew, hlt, ?_⟩, ?_⟩))
      · rw [if_pos ⟨h1, h2⟩] at hd; exact hd
      · simp only [ref30_Note_meas0, ew]; omega
    · have hge : l.length ≤ i := by simpa using hge
      rw [List.drop_eq_nil_of_le hge, noteF] at hd
      refine w_lf ?_
      show ({ Dirty := d, Round := c.Round, Sent := c.Sent } : ApiPrecopy) = _
      rw [hd]
  exact Tree.pp h
theorem sameW_w {a : List Int} (hb : a.length ≤ 1000000000000) : ref1_SameWords a a = true := by
  have h : (ref1_SameWords_t a a).w fun r => r = true := by
    unfold ref1_SameWords_t
    refine w_br (fun h => by simp at h) (fun _ => ?_)
    refine w_lp (inv := fun z : Int => ∃ i : Nat, z = i ∧ i ≤ a.length) (μ := ref1_SameWords_meas0 a a) ⟨0, rfl, Nat.zero_le _⟩ (Nat.lt_succ_self _) ?_
    rintro _ ⟨i, rfl, hi⟩
    refine w_br (fun hlt => ?_) (fun hge => w_lf rfl)
    have hlt : i < a.length := by simpa using hlt
    have ew : IntKind.wrap .i64 ((i : Int) + 1) = ((i + 1 : Nat) : Int) := by rw [wi (by omega) (by omega)]; omega
    refine w_cn (cnd hlt) (w_cn (cnd hlt) (w_br (fun h => by simp at h) (fun _ => w_nx ⟨⟨i + 1, ew, hlt⟩, by simp only [ref1_SameWords_meas0, ew]; omega⟩)))
  exact (Tree.pp (W := fun r => r = true) h).2
theorem sameI_w {a : List Int} (hb : a.length ≤ 1000000000000) : ref1_SameInts a a = true := by
  have h : (ref1_SameInts_t a a).w fun r => r = true := by
    unfold ref1_SameInts_t
    refine w_br (fun h => by simp at h) (fun _ => ?_)
    refine w_lp (inv := fun z : Int => ∃ i : Nat, z = i ∧ i ≤ a.length) (μ := ref1_SameInts_meas0 a a) ⟨0, rfl, Nat.zero_le _⟩ (Nat.lt_succ_self _) ?_
    rintro _ ⟨i, rfl, hi⟩
    refine w_br (fun hlt => ?_) (fun hge => w_lf rfl)
    have hlt : i < a.length := by simpa using hlt
    have ew : IntKind.wrap .i64 ((i : Int) + 1) = ((i + 1 : Nat) : Int) := by rw [wi (by omega) (by omega)]; omega
    refine w_cn (cnd hlt) (w_cn (cnd hlt) (w_br (fun h => by simp at h) (fun _ => w_nx ⟨⟨i + 1, ew, hlt⟩, by simp only [ref1_SameInts_meas0, ew]; omega⟩)))
  exact (Tree.pp (W := fun r => r = true) h).2
theorem sameB_w {a : List Bool} (hb : a.length ≤ 1000000000000) : ref30_SameBools a a = true := by
  have h : (ref30_SameBools_t a a).w fun r => r = true := by
    unfold ref30_SameBools_t
    refine w_br (fun h => by simp at h) (fun _ => ?_)
    refine w_lp (inv := fun z : Int => ∃ i : Nat, z = i ∧ i ≤ a.length) (μ := ref30_SameBools_meas0 a a) ⟨0, rfl, Nat.zero_le _⟩ (Nat.lt_succ_self _) ?_
    rintro _ ⟨i, rfl, hi⟩
    refine w_br (fun hlt => ?_) (fun hge => w_lf rfl)
    have hlt : i < a.length := by simpa using hlt
    have ew : IntKind.wrap .i64 ((i : Int) + 1) = ((i + 1 : Nat) : Int) := by rw [wi (by omega) (by omega)]; omega
    refine w_cn (cnd hlt) (w_cn (cnd hlt) (w_br (fun h => by simp at h) (fun _ => w_nx ⟨⟨i + 1, ew, hlt⟩, by simp only [ref30_SameBools_meas0, ew]; omega⟩)))
  exact (Tree.pp (W := fun r => r = true) h).2
theorem sameP_w {a : ApiPrecopy} (hb : a.Dirty.length ≤ 1000000000000) : ref30_SameCopy_pre a a ∧ ref30_SameCopy a a = true := by
  have h : (ref30_SameCopy_t a a).w fun r => r = true := by
    unfold ref30_SameCopy_t
    refine w_br (fun _ => w_br (fun _ => w_an hb (w_lv fun x hx => w_lf ?_)) (fun h => by simp at h)) (fun h => by simp at h)
    have hx : x = ref30_SameBools a.Dirty a.Dirty := hx
    rw [hx, sameB_w hb]
  exact Tree.pp (W := fun r => r = true) h
theorem sameC_w {a : List ApiPageCopy} (hb : a.length ≤ 1000000000000) : ref30_SameCopies a a = true := by
  have h : (ref30_SameCopies_t a a).w fun r => r = true := by
    unfold ref30_SameCopies_t
    refine w_br (fun h => by simp at h) (fun _ => ?_)
    refine w_lp (inv := fun z : Int => ∃ i : Nat, z = i ∧ i ≤ a.length) (μ := ref30_SameCopies_meas0 a a) ⟨0, rfl, Nat.zero_le _⟩ (Nat.lt_succ_self _) ?_
    rintro _ ⟨i, rfl, hi⟩
    refine w_br (fun hlt => ?_) (fun hge => w_lf rfl)
    have hlt : i < a.length := by simpa using hlt
    have ew : IntKind.wrap .i64 ((i : Int) + 1) = ((i + 1 : Nat) : Int) := by rw [wi (by omega) (by omega)]; omega
    refine w_cn (cnd hlt) (w_cn (cnd hlt) (w_br (fun h => by simp [eqs, eq1] at h) (fun _ => w_nx ⟨⟨i + 1, ew, hlt⟩, by simp only [ref30_SameCopies_meas0, ew]; omega⟩)))
  exact (Tree.pp (W := fun r => r = true) h).2
theorem light_w {l : List ApiPageCopy} : law30_light_pre l ∧ (law30_light l = true → l.length ≤ 60) := by
  have h : (law30_light_t l).w fun r => r = true → l.length ≤ 60 := by
    unfold law30_light_t
    refine w_lp (inv := fun z : Int => ∃ i : Nat, z = i) (μ := law30_light_meas0 l) ⟨0, rfl⟩ (Nat.lt_succ_self _) ?_
    rintro _ ⟨i, rfl⟩
    refine w_br (fun hlt => w_br (fun h100 => ?_) (fun _ => w_lf fun h => ?_)) (fun _ => w_lf fun h => ?_)
    · have hlt : i < l.length := by simpa using hlt
      have h100 : (i : Int) < 100 := of_decide_eq_true h100
      have ew : IntKind.wrap .i64 ((i : Int) + 1) = ((i + 1 : Nat) : Int) := by rw [wi (by omega) (by omega)]; omega
      exact w_cn (cnd hlt) (w_br (fun _ => w_lf fun h => by cases h) (fun _ => w_nx ⟨⟨i + 1, ew⟩, by simp only [law30_light_meas0, ew]; omega⟩))
    · have := of_decide_eq_true h; omega
    · have := of_decide_eq_true h; omega
  exact Tree.pp h
theorem rcopy_w {m : List Int} (hl : m.length ≤ 1000000000000) : ref1_Copy_pre m ∧ ref1_Copy m = m := by
  have h : (ref1_Copy_t m).w fun r => r = m := by
    unfold ref1_Copy_t
    refine w_cn (by rw [decide_eq_true (by omega)]; rfl) (w_lf ?_)
    simp
  exact Tree.pp h
def goodC (P : Int) (c : ApiPageCopy) : Prop := 0 ≤ c.Frame ∧ c.Frame < P ∧ c.Data.length = 128
instance (P : Int) (c : ApiPageCopy) : Decidable (goodC P c) := by unfold goodC; infer_instance
def applyF (m : List Int) (l : List ApiPageCopy) : List Int := l.foldl (fun m c => (memory_SetPage m c.Frame c.Data).1) m
theorem applyF_app (m : List Int) (l k : List ApiPageCopy) : applyF m (l ++ k) = applyF (applyF m l) k := List.foldl_append ..
theorem applyF_ok {P : Nat} : ∀ {l : List ApiPageCopy} {m : List Int}, okMem P m → (∀ c ∈ l, goodC P c) → okMem P (applyF m l)
  | [], _, h, _ => h
  | c :: l, m, h, hg => by
    obtain ⟨g1, g2, g3⟩ := hg c (List.mem_cons_self ..)
    have := (Tree.pp (setPage_b h g1 g2 g3)).2
    exact applyF_ok (l := l) (m := (memory_SetPage m c.Frame c.Data).1) this.2.1 fun d hd => hg d (List.mem_cons_of_mem _ hd)
def applyR (m : List Int) (l : List ApiPageCopy) : List Int × Bool :=
  if memory_Pages m = 0 then (m, false) else if ∀ c ∈ l, goodC (memory_Pages m) c then (applyF m l, true) else (m, false)
theorem pages_nn {x : List Int} (hl : x.length ≤ 2000) : 0 ≤ memory_Pages x := by
  simp only [memory_Pages, memory_Pages_t, Tree.m]
  cases (Int.tmod (x.length : Int) 32 != 0)
  · cases hd : decide ((x.length : Int) > 1024)
    · have := of_decide_eq_false hd
      simp only [cond_false]
      rw [Int.tdiv_eq_ediv_of_nonneg (by omega), wi (by omega) (by omega)]; omega
    · exact Int.le_refl _
  · exact Int.le_refl _
theorem rset_w {m : List Int} {c : ApiPageCopy} (hu : ∀ w ∈ m, U w) (hl : m.length ≤ 2000) : ref1_SetPage_pre m c.Frame c.Data ∧ ref1_SetPage m c.Frame c.Data = if goodC (memory_Pages m) c then memory_SetPage m c.Frame c.Data else (m, false) := by
  have h : (ref1_SetPage_t m c.Frame c.Data).w fun r => r = if goodC (memory_Pages m) c then memory_SetPage m c.Frame c.Data else (m, false) := by
    unfold ref1_SetPage_t
    obtain ⟨c1, c2⟩ := rcopy_w (m := m) (by omega)
    refine w_an c1 (w_lv fun x hx => ?_)
    have hx : x = ref1_Copy m := hx
    rw [c2] at hx; subst hx
    refine w_br (fun h => w_lf ?_) (fun h1 => w_lv fun p hp => w_br (fun h => w_lf ?_) (fun h2 => w_br (fun h => w_lf ?_) (fun h3 => ?_)))
    · rw [if_neg]; intro g; have := g.1; have := of_decide_eq_true h; omega
    · have hp : p = memory_Pages x := hp
      subst hp
      rw [if_neg]; intro g; have g := g.2.1; have h := of_decide_eq_true h; rw [← pages_sames] at g; omega
    · rw [if_neg]; intro g; have := g.2.2; simp [show c.Data.length = 128 from this] at h
    · have hp : p = memory_Pages x := hp
      subst hp
      have h1 := of_decide_eq_false h1
      have h2 := of_decide_eq_false h2
      have h3 : c.Data.length = 128 := by
        have : (c.Data.length : Int) = 128 := by simpa using h3
        omega
      obtain ⟨P, hP⟩ : ∃ P : Nat, memory_Pages x = P := ⟨(memory_Pages x).toNat, by omega⟩
      rw [hP] at h2 ⊢
      obtain ⟨l1, l2⟩ := pages_inv hP (by omega)
      have ok : okMem P x := ⟨l1, Nat.zero_le _, l2, hu⟩
      have g : goodC P c := ⟨by omega, by omega, h3⟩
      refine w_an (Tree.pp (fill_b ok g.1 g.2.1 c.Data)).1 (w_lv fun y hy => w_lf ?_)
      rw [if_pos g, setPage_same ok g.1 g.2.1 h3, hy]
  exact Tree.pp h
theorem rapply_w {m : List Int} {l : List ApiPageCopy} (hu : ∀ w ∈ m, U w) (hl : m.length ≤ 2000) (hc : l.length ≤ 60) : ref30_ApplyCopies_pre m l ∧ (memory_Pages m ≠ 0 → ref30_ApplyCopies m l = applyR m l) := by
  have h : (ref30_ApplyCopies_t m l).w fun r => memory_Pages m ≠ 0 → r = applyR m l := by
    unfold ref30_ApplyCopies_t
    obtain ⟨c1, c2⟩ := rcopy_w (m := m) (by omega)
    refine w_an c1 (w_lv fun x hx => ?_)
    have hx : x = ref1_Copy m := hx
    rw [c2] at hx; subst hx
    refine w_lp (inv := fun z : Int × List Int => ∃ i : Nat, z.1 = i ∧ i ≤ l.length ∧ (∀ c ∈ l.take i, goodC (memory_Pages x) c) ∧ z.2 = applyF x (l.take i)) (μ := ref30_ApplyCopies_meas0 x l) ⟨0, rfl, Nat.zero_le _, by simp, by simp [applyF]⟩ (Nat.lt_succ_self _) ?_
    rintro ⟨_, y⟩ ⟨i, rfl, hi, hg, hy⟩
    simp only at hg hy
    refine w_br (fun hlt => ?_) (fun hge => ?_)
    · have hlt : i < l.length := by simpa using hlt
      have ew : IntKind.wrap .i64 ((i : Int) + 1) = ((i + 1 : Nat) : Int) := by rw [wi (by omega) (by omega)]; omega
      have hm : l.getD i (RK.dflt RK.apiPageCopy) ∈ l := by
        have : l.getD i (RK.dflt RK.apiPageCopy) = l[i] := by simp [List.getD, hlt]
        rw [this]; exact List.getElem_mem hlt
      have hy2 : (∀ w ∈ y, U w) ∧ y.length = x.length := by
        by_cases hp : memory_Pages x < 1
        · have : l.take i = [] := by
            cases h : l.take i with
            | nil => rfl
            | cons c k => have := hg c (by rw [h]; exact List.mem_cons_self ..); unfold goodC at this; omega
          rw [hy, this]; exact ⟨hu, rfl⟩
        · obtain ⟨P, hP⟩ : ∃ P : Nat, memory_Pages x = P := ⟨(memory_Pages x).toNat, by omega⟩
          obtain ⟨l1, l2⟩ := pages_inv hP (by omega)
          have ok : okMem P x := ⟨l1, Nat.zero_le _, l2, hu⟩
          rw [hP] at hg
          have ok2 := applyF_ok ok hg
          rw [hy]; exact ⟨ok2.u, ok2.len.trans l1.symm⟩
      have hpy : memory_Pages y = memory_Pages x := by
        simp only [memory_Pages, memory_Pages_t, hy2.2]
      obtain ⟨s1, s2⟩ := rset_w (c := l.getD i (RK.dflt RK.apiPageCopy)) hy2.1 (by rw [hy2.2]; exact hl)
      rw [hpy] at s2
      refine w_cn (cnd2 hlt) (w_cn (cnd2 hlt) (w_an s1 (w_lv fun r hr => ?_)))
      have hr : r = ref1_SetPage y (l.getD i (RK.dflt RK.apiPageCopy)).Frame (l.getD i (RK.dflt RK.apiPageCopy)).Data := hr
      rw [s2] at hr
      by_cases g : goodC (memory_Pages x) (l.getD i (RK.dflt RK.apiPageCopy))
      · rw [if_pos g] at hr
        have hp1 : 1 ≤ memory_Pages x := by unfold goodC at g; omega
        obtain ⟨P, hP⟩ : ∃ P : Nat, memory_Pages y = P := ⟨(memory_Pages y).toNat, by omega⟩
        obtain ⟨l1, l2⟩ := pages_inv hP (by omega)
        have ok : okMem P y := ⟨l1, Nat.zero_le _, l2, hy2.1⟩
        have hr2 : r.2 = true := by rw [hr, setPage_same ok g.1 (by rw [← hP, hpy]; exact g.2.1) g.2.2]
        refine w_br (fun h => by rw [hr2] at h; cases h) (fun _ => w_nx ⟨⟨i + 1, ew, hlt, ?_, ?_⟩, by simp only [ref30_ApplyCopies_meas0, ew]; omega⟩)
        · rw [take_at hlt (RK.dflt RK.apiPageCopy)]
          intro c hc
          rcases List.mem_append.1 hc with h | h
          · exact hg c h
          · rw [List.mem_singleton.1 h]; exact g
        · show r.1 = _
          rw [take_at hlt (RK.dflt RK.apiPageCopy), applyF_app, ← hy, hr]; rfl
      · rw [if_neg g] at hr
        refine w_br (fun _ => w_lf fun hp => ?_) (fun h => by rw [hr] at h; cases h)
        show (x, false) = _
        rw [applyR, if_neg hp, if_neg (fun h => g (h _ hm))]
    · have hge : l.length ≤ i := by simpa using hge
      rw [List.take_of_length_le hge] at hg hy
      refine w_lv fun p hp => w_lf fun h0 => ?_
      have hp : p = memory_Pages x := hp
      subst hp
      show (y, decide (memory_Pages x > 0)) = _
      rw [applyR, if_neg h0, if_pos hg, hy]
      have := pages_nn hl
      rw [decide_eq_true (by omega)]
  exact Tree.pp h
theorem papply_w {m : List Int} {l : List ApiPageCopy} (hu : ∀ w ∈ m, U w) (hl : m.length ≤ 2000) (hc : l.length ≤ 60) : precopy_Apply_pre m l ∧ precopy_Apply m l = applyR m l := by
  have h : (precopy_Apply_t m l).w fun r => r = applyR m l := by
    unfold precopy_Apply_t
    refine w_lv fun p hp => w_an (show m.length ≤ 35184372088832 by omega) (w_lv fun x hx => ?_)
    have hx : x = m := hx
    subst hx
    have hp : p = memory_Pages x := hp
    subst hp
    refine w_br (fun h => w_lf ?_) (fun h0 => ?_)
    · show (x, false) = _
      have : memory_Pages x = 0 := by simpa using h
      rw [applyR, if_pos this]
    have h0 : ¬ memory_Pages x = 0 := by simpa using h0
    refine w_lp (inv := fun z : Int => ∃ i : Nat, z = i ∧ i ≤ l.length ∧ (∀ c ∈ l.take i, goodC (memory_Pages x) c)) (μ := precopy_Apply_meas0 x l) ⟨0, rfl, Nat.zero_le _, by simp⟩ (Nat.lt_succ_self _) ?_
    rintro _ ⟨i, rfl, hi, hg⟩
    refine w_br (fun hlt => ?_) (fun hge => ?_)
    · have hlt : i < l.length := by simpa using hlt
      have ew : IntKind.wrap .i64 ((i : Int) + 1) = ((i + 1 : Nat) : Int) := by rw [wi (by omega) (by omega)]; omega
      have hm : l.getD i (RK.dflt RK.apiPageCopy) ∈ l := by
        have : l.getD i (RK.dflt RK.apiPageCopy) = l[i] := by simp [List.getD, hlt]
        rw [this]; exact List.getElem_mem hlt
      have bad : ¬ goodC (memory_Pages x) (l.getD i (RK.dflt RK.apiPageCopy)) → (x, false) = applyR x l := fun g => by
        rw [applyR, if_neg h0, if_neg (fun h => g (h _ hm))]
      refine w_cn (cnd2 hlt) ?_
      refine w_br (fun h => w_lf (bad fun g => ?_)) (fun h1 => w_br (fun h => w_lf (bad fun g => ?_)) (fun h2 => w_br (fun h => w_lf (bad fun g => ?_)) (fun h3 => w_nx ⟨⟨i + 1, ew, hlt, ?_⟩, by simp only [precopy_Apply_meas0, ew]; omega⟩)))
      · have h := of_decide_eq_true h
        have := g.1
        simp only [Int.toNat_natCast] at h; omega
      · have h := of_decide_eq_true h
        have := g.2.1
        simp only [Int.toNat_natCast] at h; omega
      · have := g.2.2
        simp only [Int.toNat_natCast, this] at h; cases h
      · rw [take_at hlt (RK.dflt RK.apiPageCopy)]
        have h1 := of_decide_eq_false h1
        have h2 := of_decide_eq_false h2
        simp only [Int.toNat_natCast] at h1 h2 h3
        have h3 : ((l.getD i (RK.dflt RK.apiPageCopy)).Data.length : Int) = 128 := by simpa using h3
        intro c hc
        rcases List.mem_append.1 hc with h | h
        · exact hg c h
        · rw [List.mem_singleton.1 h]; exact ⟨by omega, by omega, by omega⟩
    · have hge : l.length ≤ i := by simpa using hge
      rw [List.take_of_length_le hge] at hg
      have hp0 := pages_nn hl
      obtain ⟨P, hP⟩ : ∃ P : Nat, memory_Pages x = P := ⟨(memory_Pages x).toNat, by omega⟩
      obtain ⟨l1, l2⟩ := pages_inv hP (by omega)
      have ok : okMem P x := ⟨l1, Nat.zero_le _, l2, hu⟩
      have hg0 := hg
      rw [hP] at hg
      refine w_lp (inv := fun z : Int × List Int => ∃ i : Nat, z.1 = i ∧ i ≤ l.length ∧ z.2 = applyF x (l.take i)) (μ := precopy_Apply_meas1 x l) ⟨0, rfl, Nat.zero_le _, by simp [applyF]⟩ (Nat.lt_succ_self _) ?_
      rintro ⟨_, y⟩ ⟨i, rfl, hi, hy⟩
      simp only at hy
      refine w_br (fun hlt => ?_) (fun hge => ?_)
      · have hlt : i < l.length := by simpa using hlt
        have ew : IntKind.wrap .i64 ((i : Int) + 1) = ((i + 1 : Nat) : Int) := by rw [wi (by omega) (by omega)]; omega
        have hm : l.getD i (RK.dflt RK.apiPageCopy) ∈ l := by
          have : l.getD i (RK.dflt RK.apiPageCopy) = l[i] := by simp [List.getD, hlt]
          rw [this]; exact List.getElem_mem hlt
        have oky : okMem P y := by rw [hy]; exact applyF_ok ok fun c hc => hg c (List.mem_of_mem_take hc)
        obtain ⟨g1, g2, g3⟩ := hg _ hm
        refine w_cn (cnd2 hlt) (w_an (Tree.pp (setPage_b oky g1 g2 g3)).1 (w_lv fun r hr => w_nx ⟨⟨i + 1, ew, hlt, ?_⟩, by simp only [precopy_Apply_meas1, ew]; omega⟩))
        show r.1 = _
        rw [take_at hlt (RK.dflt RK.apiPageCopy), applyF_app, ← hy, hr]; rfl
      · have hge : l.length ≤ i := by simpa using hge
        rw [List.take_of_length_le hge] at hy
        refine w_lf ?_
        show (y, true) = _
        rw [applyR, if_neg h0, if_pos hg0, hy]
  exact Tree.pp h
theorem roundF_len {c : ApiPrecopy} {m : List Int} (hc : c.Dirty.length ≤ 100) : (roundF c m).1.Dirty.length ≤ 100 ∧ (roundF c m).2.length ≤ 100 := by
  unfold roundF
  have := sel_length c.Dirty 0
  split
  · refine ⟨by simpa using hc, ?_⟩
    show (copies m (sel c.Dirty 0)).length ≤ 100
    rw [copies_length]; omega
  · exact ⟨hc, by simp⟩
theorem applyF_len {l : List ApiPageCopy} {m : List Int} (hu : ∀ w ∈ m, U w) (h : m.length ≤ 2000) : (applyR m l).1.length ≤ 2000 := by
  unfold applyR
  split
  · exact h
  · split
    · rename_i h0 hg
      have hp0 := pages_nn h
      obtain ⟨P, hP⟩ : ∃ P : Nat, memory_Pages m = P := ⟨(memory_Pages m).toNat, by omega⟩
      obtain ⟨l1, l2⟩ := pages_inv hP (by omega)
      rw [hP] at hg
      have := (applyF_ok ⟨l1, Nat.zero_le _, l2, hu⟩ hg).len
      show (applyF m l).length ≤ 2000
      omega
    · exact h
theorem tells_w {c : ApiPrecopy} {frames m : List Int} {l : List ApiPageCopy} {limit rate pages : Int} (hu : ∀ w ∈ m, U w) (hr : rate ≤ 9223372036854775807) : (law30_PrecopyTells_t c frames m l limit rate pages).w fun r => r = true := by
  unfold law30_PrecopyTells_t
  refine w_br (fun _ => awake_an rfl) (fun h1 => w_br (fun _ => awake_an rfl) (fun h2 => w_br (fun _ => awake_an rfl) (fun h3 => ?_)))
  have h1 := of_decide_eq_false h1
  have h2 := of_decide_eq_false h2
  have h3 := of_decide_eq_false h3
  have c1 : c.Dirty.length ≤ 100 := by omega
  have c2 : frames.length ≤ 100 := by omega
  have c3 : m.length ≤ 2000 := by omega
  refine w_an light_w.1 (w_lv fun x3 e3 => w_br (fun _ => awake_an rfl) (fun h4 => ?_))
  have h4 : x3 = true := by simpa using h4
  have c4 : l.length ≤ 60 := light_w.2 (by rw [← h4]; exact e3.symm)
  obtain ⟨a1, a2⟩ := rounds_w (c := c) (m := m) (by omega)
  obtain ⟨b1, b2⟩ := rround_w (c := c) hu (by omega)
  obtain ⟨n1, n2⟩ := begin_same pages
  obtain ⟨o1, o2⟩ := rbegin_same pages
  obtain ⟨p1, p2⟩ := papply_w hu c3 c4
  obtain ⟨q1, q2⟩ := rapply_w hu c3 c4
  refine w_an a1 (w_lv fun x5 e5 => w_an b1 (w_lv fun x6 e6 => w_an n1 (w_lv fun x7 e7 => w_an o1 (w_lv fun x8 e8 => w_an p1 (w_lv fun x9 e9 => w_an q1 (w_lv fun x10 e10 => w_lv fun x11 e11 => ?_))))))
  have e5 : x5 = precopy_Round c m := e5
  have e6 : x6 = ref30_Round c m := e6
  have e7 : x7 = precopy_Begin pages := e7
  have e8 : x8 = ref30_Begin pages := e8
  have e9 : x9 = precopy_Apply m l := e9
  have e10 : x10 = ref30_ApplyCopies m l := e10
  have e11 : x11 = memory_Pages m := e11
  have s6 : x6 = x5 := by rw [e5, e6, a2, b2]
  have s8 : x8 = x7 := by rw [e7, e8, n2, o2]
  subst s6; subst s8
  have r5 : x6.1.Dirty.length ≤ 100 ∧ x6.2.length ≤ 100 := by rw [e5, a2]; exact roundF_len c1
  have r7 : x8.1.Dirty.length ≤ 100 := by
    rw [e7, n2]; split
    · show (List.replicate pages.toNat true).length ≤ 100; rw [List.length_replicate]; omega
    · simp
  have T1 : ∀ T : Tree Bool, T = (.an (precopy_Note_pre c frames) (.lv (precopy_Note c frames) fun (x18 : ApiPrecopy) => .an (ref30_Note_pre c frames) (.lv (ref30_Note c frames) fun (x19 : ApiPrecopy) => .an (ref30_SameCopy_pre x18 x19) (.lv (ref30_SameCopy x18 x19) fun (x20 : Bool) => .br x20 (.an (precopy_Pending_pre c) (.lv (precopy_Pending c) fun (x21 : List Int) => .an (ref30_Pending_pre c) (.lv (ref30_Pending c) fun (x22 : List Int) => .an (ref1_SameInts_pre x21 x22) (.lv (ref1_SameInts x21 x22) fun (x23 : Bool) => .br x23 (.an (precopy_Stop_pre c limit) (.lv (precopy_Stop c limit) fun (x24 : Bool) => .an (ref30_Stop_pre c limit) (.lv (ref30_Stop c limit) fun (x25 : Bool) => .br (x24 == x25) (.an (precopy_Downtime_pre c rate) (.lv (precopy_Downtime c rate) fun (x26 : Int) => .an (ref30_Downtime_pre c rate) (.lv (ref30_Downtime c rate) fun (x27 : Int) => .br (x26 == x27) (.an law30_awake_pre (.lv law30_awake fun (x28 : Bool) => .lf x28)) (.lf false)))) (.lf false)))) (.lf false))))) (.lf false))))) → T.w (fun r => r = true) := by
    rintro T rfl
    obtain ⟨a1, a2⟩ := note_w (c := c) (l := frames) (by omega) (by omega)
    obtain ⟨b1, b2⟩ := rnote_w (c := c) (l := frames) (by omega) (by omega)
    refine w_an a1 (w_lv fun x18 e18 => w_an b1 (w_lv fun x19 e19 => ?_))
    have e18 : x18 = precopy_Note c frames := e18
    have e19 : x19 = ref30_Note c frames := e19
    have s19 : x19 = x18 := by rw [e18, e19, a2, b2]
    subst s19
    obtain ⟨g1, g2⟩ := sameP_w (a := x19) (by rw [e18, a2]; show (noteF c.Dirty frames).length ≤ _; rw [noteF_length]; omega)
    refine w_an g1 (w_lv fun x20 e20 => w_br (fun _ => ?_) (fun h => by rw [show x20 = true from e20.trans g2] at h; cases h))
    obtain ⟨a1, a2⟩ := pending_w (c := c) (by omega)
    obtain ⟨b1, b2⟩ := rpend_w (c := c) (by omega)
    refine w_an a1 (w_lv fun x21 e21 => w_an b1 (w_lv fun x22 e22 => ?_))
    have e21 : x21 = precopy_Pending c := e21
    have e22 : x22 = ref30_Pending c := e22
    have s22 : x22 = x21 := by rw [e21, e22, a2, b2]
    subst s22
    have hl : x22.length ≤ 1000000000000 := by rw [e21, a2]; have := sel_length c.Dirty 0; omega
    refine w_an hl (w_lv fun x23 e23 => w_br (fun _ => ?_) (fun h => by rw [show x23 = true from e23.trans (sameI_w hl)] at h; cases h))
    obtain ⟨a1, a2⟩ := stop_w (c := c) (limit := limit) (by omega)
    obtain ⟨b1, b2⟩ := rstop_w (c := c) (limit := limit) (by omega)
    refine w_an a1 (w_lv fun x24 e24 => w_an b1 (w_lv fun x25 e25 => ?_))
    have e24 : x24 = precopy_Stop c limit := e24
    have e25 : x25 = ref30_Stop c limit := e25
    have s25 : x25 = x24 := by rw [e24, e25, a2, b2]
    subst s25
    refine w_br (fun _ => ?_) (fun h => by simp at h)
    obtain ⟨a1, a2⟩ := down_w (c := c) (rate := rate) (by omega)
    obtain ⟨b1, b2⟩ := rdown_w (c := c) hr (by omega)
    refine w_an a1 (w_lv fun x26 e26 => w_an b1 (w_lv fun x27 e27 => ?_))
    have e26 : x26 = precopy_Downtime c rate := e26
    have e27 : x27 = ref30_Downtime c rate := e27
    have s27 : x27 = x26 := by rw [e26, e27, a2, b2]; rfl
    subst s27
    exact w_br (fun _ => awake_an rfl) (fun h => by simp at h)
  obtain ⟨g1, g2⟩ := sameP_w (a := x6.1) (by omega)
  have g3 := sameC_w (a := x6.2) (by omega)
  obtain ⟨k1, k2⟩ := sameP_w (a := x8.1) (by omega)
  have lt : ∀ {x : Bool}, x = false → x = true → (Tree.lf false).w (fun r : Bool => r = true) := fun a b => by rw [a] at b; cases b
  refine w_br (fun h0 => ?_) (fun h0 => ?_)
  · have h0 : memory_Pages m = 0 := by rw [e11] at h0; simpa using h0
    have e9 : x9 = (m, false) := by rw [e9, p2, applyR, if_pos h0]
    subst e9
    have hm : m.length ≤ 1000000000000 := by omega
    refine w_lv fun x12 e12 => w_lv fun x13 e13 => ?_
    have s13 : x13 = x12 := e13.trans (e12.trans rfl).symm
    subst s13
    refine w_br (fun _ => ?_) (fun h => by simp at h)
    refine w_an g1 (w_lv fun x14 e14 => w_br (fun _ => ?_) (fun h => lt h (e14.trans g2)))
    refine w_an (show _ ≤ _ by omega) (w_lv fun x15 e15 => w_br (fun _ => ?_) (fun h => lt h (e15.trans g3)))
    refine w_an k1 (w_lv fun x16 e16 => w_br (fun _ => ?_) (fun h => lt h (e16.trans k2)))
    refine w_br (fun _ => ?_) (fun h => by simp at h)
    refine w_an hm (w_lv fun x17 e17 => w_br (fun _ => ?_) (fun h => lt h (e17.trans (sameW_w hm))))
    exact w_br (fun _ => T1 _ rfl) (fun h => by cases h)
  · have h0 : memory_Pages m ≠ 0 := by rw [e11] at h0; simpa using h0
    have s10 : x10 = x9 := by rw [e9, e10, p2, q2 h0]
    subst s10
    have hm : x10.1.length ≤ 1000000000000 := by rw [e9, p2]; have := applyF_len (l := l) hu c3; omega
    refine w_lv fun x12 e12 => w_lv fun x13 e13 => ?_
    have s13 : x13 = x12 := e13.trans (e12.trans rfl).symm
    subst s13
    refine w_br (fun _ => ?_) (fun h => by simp at h)
    refine w_an g1 (w_lv fun x14 e14 => w_br (fun _ => ?_) (fun h => lt h (e14.trans g2)))
    refine w_an (show _ ≤ _ by omega) (w_lv fun x15 e15 => w_br (fun _ => ?_) (fun h => lt h (e15.trans g3)))
    refine w_an k1 (w_lv fun x16 e16 => w_br (fun _ => ?_) (fun h => lt h (e16.trans k2)))
    refine w_br (fun _ => ?_) (fun h => by simp at h)
    refine w_an hm (w_lv fun x17 e17 => w_br (fun _ => ?_) (fun h => lt h (e17.trans (sameW_w hm))))
    exact w_br (fun _ => T1 _ rfl) (fun h => by simp at h)
end Go.Proofs.Ytfihpfnndbolpaa

/-
  Pre-copying: what the program's functions come to, in plain words.
-/
import Derived.Test.YtfihpfnndbolpaaPrecopyTellsPb
namespace Go.Proofs.Ytfihpfnndbolpaa
open Go Go.GD
set_option linter.unusedVariables false
set_option linter.unusedSimpArgs false
set_option maxRecDepth 100000
def sel : List Bool → Int → List Int
  | [], _ => []
  | b :: l, k => if b = true then k :: sel l (k + 1) else sel l (k + 1)
theorem sel_length : ∀ (l : List Bool) (k : Int), (sel l k).length ≤ l.length
  | [], _ => Nat.le_refl _
  | b :: l, k => by
    have := sel_length l (k + 1)
    simp only [sel]; split <;> (try simp) <;> omega
theorem sel_mem : ∀ {l : List Bool} {k x : Int}, x ∈ sel l k → k ≤ x ∧ x < k + l.length
  | [], _, _, h => by simp [sel] at h
  | b :: l, k, x, h => by
    simp only [sel] at h
    have go : x ∈ sel l (k + 1) → k ≤ x ∧ x < k + (b :: l).length := fun h => by
      have := sel_mem h; simp; omega
    split at h
    · rcases List.mem_cons.1 h with e | e
      · subst e; simp; omega
      · exact go e
    · exact go h
theorem drop_at {l : List Bool} {i : Nat} (h : i < l.length) : l.drop i = l.getD i false :: l.drop (i + 1) := by
  rw [List.drop_eq_getElem_cons h]
  show _ = (l[i]?).getD false :: _
  rw [List.getElem?_eq_getElem h]; rfl
theorem sel_yes {l : List Bool} {i : Nat} (h : i < l.length) (hb : l.getD i false = true) (k : Int) : sel (l.drop i) k = k :: sel (l.drop (i + 1)) (k + 1) := by
  rw [drop_at h, sel, if_pos hb]
theorem sel_no {l : List Bool} {i : Nat} (h : i < l.length) (hb : l.getD i false = false) (k : Int) : sel (l.drop i) k = sel (l.drop (i + 1)) (k + 1) := by
  rw [drop_at h, sel, if_neg (by rw [hb]; simp)]
theorem wi {x : Int} (h0 : -9223372036854775808 ≤ x) (h1 : x ≤ 9223372036854775807) : IntKind.wrap .i64 x = x := by rw [IntKind.wrap_i64]; omega
theorem cnd {n : Nat} {i : Nat} (h : i < n) : (Nat.beq (nat_lit 1) 1 && Nat.blt 0 1 && decide (0 ≤ (i : Int) ∧ (i : Int) < (n : Int))) = true := by
  rw [decide_eq_true (by omega)]; rfl
theorem app_w {s : List Int} {l : List Bool} (hb : s.length + l.length ≤ 1000000000000) : (set1_app_t s l).w fun r => r = (s ++ sel l 0, l) := by
  unfold set1_app_t
  refine w_lp (inv := fun z : Int × List Int => ∃ i : Nat, z.1 = i ∧ i ≤ l.length ∧ z.2.length ≤ s.length + i ∧ z.2 ++ sel (l.drop i) i = s ++ sel l 0) (μ := set1_app_meas0 s l) ⟨0, rfl, Nat.zero_le _, by simp, by simp⟩ (Nat.lt_succ_self _) ?_
  rintro ⟨_, x⟩ ⟨i, rfl, hi, hx, hs⟩
  simp only at hx hs
  refine w_br (fun hlt => ?_) (fun hge => ?_)
  · have hlt : i < l.length := by simpa using hlt
    have ew : IntKind.wrap .i64 ((i : Int) + 1) = ((i + 1 : Nat) : Int) := by rw [wi (by omega) (by omega)]; omega
    refine w_cn (cnd hlt) (w_br (fun hb1 => ?_) (fun hb1 => ?_))
    · rw [Int.toNat_natCast] at hb1
      refine w_an (?_ : (slices_AppendSeq_int_int_body_t i x).p) (w_lv fun y hy => ?_)
      · exact w_cn (decide_eq_true (by omega)) (w_lf trivial)
      · have hy : y = (true, x ++ [(i : Int)]) := hy
        subst hy
        refine w_br (fun h => by cases h) (fun _ => w_nx ?_)
        refine ⟨⟨i + 1, ew, hlt, by simp; omega, ?_⟩, ?_⟩
        · rw [sel_yes hlt hb1] at hs
          simp only [List.append_assoc, List.singleton_append]
          rw [← hs]; simp
        · simp only [set1_app_meas0, ew]; omega
    · rw [Int.toNat_natCast] at hb1
      refine w_nx ⟨⟨i + 1, ew, hlt, by show x.length ≤ _; omega, ?_⟩, ?_⟩
      · rw [sel_no hlt hb1] at hs; simpa using hs
      · simp only [set1_app_meas0, ew]; omega
  · have hge : l.length ≤ i := by simpa using hge
    rw [List.drop_eq_nil_of_le hge] at hs
    refine w_lf ?_
    show ((x, l) : List Int × List Bool) = _
    rw [← hs]; simp [sel]
theorem count_w {n : Int} {l : List Bool} (h0 : 0 ≤ n) (hb : n + l.length ≤ 1000000000000) : (set1_count_t n l).w fun r => r = (n + (sel l 0).length, l) := by
  unfold set1_count_t
  refine w_lp (inv := fun z : Int × Int => ∃ i : Nat, z.1 = i ∧ i ≤ l.length ∧ 0 ≤ z.2 ∧ z.2 ≤ n + i ∧ z.2 + (sel (l.drop i) i).length = n + (sel l 0).length) (μ := set1_count_meas0 n l) ⟨0, rfl, Nat.zero_le _, h0, by simp, by simp⟩ (Nat.lt_succ_self _) ?_
  rintro ⟨_, x⟩ ⟨i, rfl, hi, hx0, hx, hs⟩
  simp only at hx0 hx hs
  refine w_br (fun hlt => ?_) (fun hge => ?_)
  · have hlt : i < l.length := by simpa using hlt
    have ew : IntKind.wrap .i64 ((i : Int) + 1) = ((i + 1 : Nat) : Int) := by rw [wi (by omega) (by omega)]; omega
    refine w_cn (cnd hlt) (w_br (fun hb1 => ?_) (fun hb1 => ?_))
    · rw [Int.toNat_natCast] at hb1
      refine w_lv fun y hy => ?_
      have hy : y = (true, IntKind.wrap .i64 (x + 1)) := hy
      rw [wi (by omega) (by omega)] at hy
      subst hy
      refine w_br (fun h => by cases h) (fun _ => w_nx ?_)
      refine ⟨⟨i + 1, ew, hlt, by show 0 ≤ x + 1; omega, by show x + 1 ≤ _; omega, ?_⟩, ?_⟩
      · rw [sel_yes hlt hb1] at hs
        simp only [List.length_cons] at hs
        show x + 1 + ((sel (l.drop (i + 1)) ((i + 1 : Nat) : Int)).length : Int) = _
        have : ((i + 1 : Nat) : Int) = (i : Int) + 1 := by omega
        rw [this]; omega
      · simp only [set1_count_meas0, ew]; omega
    · rw [Int.toNat_natCast] at hb1
      refine w_nx ⟨⟨i + 1, ew, hlt, hx0, by show x ≤ _; omega, ?_⟩, ?_⟩
      · rw [sel_no hlt hb1] at hs; simpa using hs
      · simp only [set1_count_meas0, ew]; omega
  · have hge : l.length ≤ i := by simpa using hge
    rw [List.drop_eq_nil_of_le hge] at hs
    refine w_lf ?_
    show ((x, l) : Int × List Bool) = _
    rw [← hs]; simp [sel]
theorem pending_w {c : ApiPrecopy} (hb : c.Dirty.length ≤ 1000000000000) : precopy_Pending_pre c ∧ precopy_Pending c = sel c.Dirty 0 := by
  have h1 := Tree.pp (app_w (s := []) (l := c.Dirty) (by simpa using hb))
  have h2 : (slices_AppendSeq_int_int_t [] c.Dirty).w fun r => r = (sel c.Dirty 0, c.Dirty) := by
    unfold slices_AppendSeq_int_int_t
    refine w_an h1.1 (w_lv fun y hy => w_lf ?_)
    have hy : y = set1_app [] c.Dirty := hy
    have e : set1_app [] c.Dirty = (sel c.Dirty 0, c.Dirty) := h1.2
    rw [hy, e]
  have h2 := Tree.pp h2
  have h3 : (slices_Collect_int_t c.Dirty).w fun r => r = (sel c.Dirty 0, c.Dirty) := by
    unfold slices_Collect_int_t
    refine w_an h2.1 (w_lv fun y hy => w_lf ?_)
    have hy : y = slices_AppendSeq_int_int [] c.Dirty := hy
    have e : slices_AppendSeq_int_int [] c.Dirty = (sel c.Dirty 0, c.Dirty) := h2.2
    rw [hy, e]
  have h3 := Tree.pp h3
  have h4 : (precopy_Pending_t c).w fun r => r = sel c.Dirty 0 := by
    unfold precopy_Pending_t
    refine w_lv fun _ _ => w_an h3.1 (w_lv fun y hy => w_lf ?_)
    have hy : y = slices_Collect_int c.Dirty := hy
    have e : slices_Collect_int c.Dirty = (sel c.Dirty 0, c.Dirty) := h3.2
    rw [hy, e]
  exact Tree.pp h4
theorem counts_w {c : ApiPrecopy} (hb : c.Dirty.length ≤ 1000000000000) : precopy_count_pre c ∧ precopy_count c = (sel c.Dirty 0).length := by
  have h1 := Tree.pp (count_w (n := 0) (l := c.Dirty) (Int.le_refl _) (by omega))
  have h4 : (precopy_count_t c).w fun r => r = (sel c.Dirty 0).length := by
    unfold precopy_count_t
    refine w_lv fun _ _ => w_an h1.1 (w_lv fun y hy => w_lf ?_)
    have hy : y = set1_count 0 c.Dirty := hy
    have e : set1_count 0 c.Dirty = (0 + ((sel c.Dirty 0).length : Int), c.Dirty) := h1.2
    rw [hy, e]; simp
  exact Tree.pp h4
theorem pages_of {m : List Int} {P : Nat} (hl : m.length = 32 * P) (hp : P ≤ 32) : memory_Pages m = P := by
  simp only [memory_Pages, memory_Pages_t, Tree.m, hl]
  have e1 : Int.tmod ((32 * P : Nat) : Int) 32 = 0 := by rw [Int.tmod_eq_emod_of_nonneg (by omega)]; omega
  have e2 : Int.tdiv ((32 * P : Nat) : Int) 32 = P := by rw [Int.tdiv_eq_ediv_of_nonneg (by omega)]; omega
  rw [e1, e2, decide_eq_false (by omega), wi (by omega) (by omega)]; rfl
theorem pages_inv {m : List Int} {P : Nat} (h : memory_Pages m = P) (h1 : 1 ≤ P) : m.length = 32 * P ∧ P ≤ 32 := by
  simp only [memory_Pages, memory_Pages_t, Tree.m] at h
  rw [Int.tmod_eq_emod_of_nonneg (by omega), Int.tdiv_eq_ediv_of_nonneg (by omega)] at h
  cases hb : (((m.length : Int) % 32 != 0) : Bool) with
  | true => rw [hb] at h; simp only [cond_true] at h; omega
  | false =>
    rw [hb] at h
    simp only [cond_false] at h
    have hb : (m.length : Int) % 32 = 0 := by simpa using hb
    cases hc : decide ((m.length : Int) > 1024) with
    | true => rw [hc] at h; simp only [cond_true] at h; omega
    | false =>
      rw [hc] at h
      simp only [cond_false] at h
      have hc : (m.length : Int) ≤ 1024 := by simpa using hc
      rw [wi (by omega) (by omega)] at h
      omega
theorem page_pre {m : List Int} {P : Nat} (hl : m.length = 32 * P) (hp : P ≤ 32) {f : Int} (f0 : 0 ≤ f) (f1 : f < P) : memory_Page_pre m f := by
  show (memory_Page_t m f).p
  have hh : memory_hasPage m f = true := by
    simp only [memory_hasPage, memory_hasPage_t, Tree.m, letv, pages_of hl hp]
    rw [decide_eq_true (by omega : f ≥ 0), decide_eq_true f1]; rfl
  have e1 : IntKind.wrap .i64 (f * 32) = f * 32 := wi (by omega) (by omega)
  have e2 : IntKind.wrap .i64 (f * 32 + 32) = f * 32 + 32 := wi (by omega) (by omega)
  unfold memory_Page_t
  refine w_lv fun x hx => ?_
  rw [hh] at hx; subst hx
  refine w_br (fun h => by cases h) (fun _ => ?_)
  rw [e1, e2]
  refine w_cn (by rw [decide_eq_true (by rw [hl]; omega)]; rfl) (w_an ?_ (w_lv fun _ _ => w_lf trivial))
  show List.length _ ≤ 1000000000000
  simp; omega
def copies (m : List Int) (l : List Int) : List ApiPageCopy := l.map fun f => ⟨f, (memory_Page m f).1⟩
theorem round_w {m : List Int} {P : Nat} (hl : m.length = 32 * P) (hp : P ≤ 32) {d : List Bool} (hd : d.length = P) : (set1_round_t m [] d).w fun r => r = (m, copies m (sel d 0), d) := by
  unfold set1_round_t
  refine w_lp (inv := fun z : Int × List Int × List ApiPageCopy => ∃ i : Nat, z.1 = i ∧ i ≤ d.length ∧ z.2.1 = m ∧ z.2.2.length ≤ i ∧ z.2.2 ++ copies m (sel (d.drop i) i) = copies m (sel d 0)) (μ := set1_round_meas0 m [] d) ⟨0, rfl, Nat.zero_le _, rfl, by simp, by simp⟩ (Nat.lt_succ_self _) ?_
  rintro ⟨_, _, x⟩ ⟨i, rfl, hi, hm, hx, hs⟩
  simp only at hm hx hs
  subst hm
  refine w_br (fun hlt => ?_) (fun hge => ?_)
  · have hlt : i < d.length := by simpa using hlt
    have ew : IntKind.wrap .i64 ((i : Int) + 1) = ((i + 1 : Nat) : Int) := by rw [wi (by omega) (by omega)]; omega
    refine w_cn (cnd hlt) (w_br (fun hb1 => ?_) (fun hb1 => ?_))
    · rw [Int.toNat_natCast] at hb1
      refine w_an (?_ : (precopy_Round_body_t i _ x).p) (w_lv fun y hy => ?_)
      · exact w_an (page_pre hl hp (by omega) (by omega)) (w_lv fun _ _ => w_cn (decide_eq_true (by omega)) (w_lf trivial))
      · have hy : y = (true, _, x ++ [⟨(i : Int), (memory_Page _ i).1⟩]) := hy
        subst hy
        refine w_br (fun h => by cases h) (fun _ => w_nx ?_)
        refine ⟨⟨i + 1, ew, hlt, rfl, by simp; omega, ?_⟩, ?_⟩
        · rw [sel_yes hlt hb1] at hs
          simp only [List.append_assoc, List.singleton_append]
          rw [← hs]; simp [copies]
        · simp only [set1_round_meas0, ew]; omega
    · rw [Int.toNat_natCast] at hb1
      refine w_nx ⟨⟨i + 1, ew, hlt, rfl, by show x.length ≤ _; omega, ?_⟩, ?_⟩
      · rw [sel_no hlt hb1] at hs; simpa using hs
      · simp only [set1_round_meas0, ew]; omega
  · have hge : d.length ≤ i := by simpa using hge
    rw [List.drop_eq_nil_of_le hge] at hs
    refine w_lf ?_
    show ((_, x, d) : List Int × List ApiPageCopy × List Bool) = _
    rw [← hs]; simp [sel, copies]
def roundF (c : ApiPrecopy) (m : List Int) : ApiPrecopy × List ApiPageCopy :=
  if precopy_Valid c = true ∧ c.Round ≤ 10 ∧ memory_Pages m = c.Dirty.length then
    ({ Dirty := List.replicate c.Dirty.length false, Round := IntKind.wrap .i64 (c.Round + 1), Sent := IntKind.wrap .i64 (c.Sent + (sel c.Dirty 0).length) }, copies m (sel c.Dirty 0))
  else (c, [])
theorem valid_len {c : ApiPrecopy} (h : precopy_Valid c = true) : 1 ≤ c.Dirty.length ∧ c.Dirty.length ≤ 32 ∧ 0 ≤ c.Round ∧ c.Round ≤ 11 ∧ 0 ≤ c.Sent ∧ c.Sent ≤ 352 := by
  simp only [precopy_Valid, precopy_Valid_t, Tree.m, Bool.cond_false_right, Bool.and_eq_true, decide_eq_true_eq] at h
  omega
theorem valid_iff {c : ApiPrecopy} : precopy_Valid c = decide (1 ≤ c.Dirty.length ∧ c.Dirty.length ≤ 32 ∧ 0 ≤ c.Round ∧ c.Round ≤ 11 ∧ 0 ≤ c.Sent ∧ c.Sent ≤ 352) := by
  cases h : precopy_Valid c with
  | true => exact (decide_eq_true (valid_len h)).symm
  | false =>
    refine (decide_eq_false fun hh => ?_).symm
    have : precopy_Valid c = true := by
      simp only [precopy_Valid, precopy_Valid_t, Tree.m, Bool.cond_false_right, Bool.and_eq_true, decide_eq_true_eq]
      omega
    rw [h] at this; cases this
theorem pclone_w {c : ApiPrecopy} (hb : c.Dirty.length ≤ 1000000000000) : precopy_clone_pre c ∧ precopy_clone c = c := by
  refine ⟨?_, rfl⟩
  show (precopy_clone_t c).p
  exact w_an (show c.Dirty.length ≤ 140737488355328 by omega) (w_lv fun _ _ => w_lf trivial)
theorem rounds_w {c : ApiPrecopy} {m : List Int} (hb : c.Dirty.length ≤ 1000000000000) : precopy_Round_pre c m ∧ precopy_Round c m = roundF c m := by
  have h : (precopy_Round_t c m).w fun r => r = roundF c m := by
    unfold precopy_Round_t
    refine w_an (pclone_w hb).1 (w_lv fun x hx => ?_)
    have hx : x = precopy_clone c := hx
    rw [(pclone_w hb).2] at hx; subst hx
    refine w_lv fun v hv => ?_
    have hv : v = precopy_Valid x := hv
    refine w_br (fun h1 => w_lf ?_) (fun h1 => ?_)
    · have : precopy_Valid x = false := by rw [hv] at h1; simpa using h1
      simp [roundF, this]
    have hV : precopy_Valid x = true := by rw [hv] at h1; simpa using h1
    obtain ⟨v1, v2, v3, v4, v5, v6⟩ := valid_len hV
    refine w_br (fun h2 => w_lf ?_) (fun h2 => ?_)
    · have : ¬ x.Round ≤ 10 := by simpa using h2
      simp [roundF, this]
    have h2 : x.Round ≤ 10 := by simpa using h2
    refine w_lv fun p hp => ?_
    have hp : p = memory_Pages m := hp
    refine w_br (fun h3 => w_lf ?_) (fun h3 => ?_)
    · have : ¬ memory_Pages m = x.Dirty.length := by rw [hp] at h3; simpa using h3
      simp [roundF, this]
    have h3 : memory_Pages m = x.Dirty.length := by rw [hp] at h3; simpa using h3
    obtain ⟨l1, l2⟩ := pages_inv h3 v1
    have hr := Tree.pp (round_w l1 l2 rfl)
    refine w_lv fun _ _ => w_an hr.1 (w_lv fun y hy => w_cn ?_ (w_lf ?_))
    · rw [decide_eq_true (by omega)]; rfl
    · have hy : y = set1_round m [] x.Dirty := hy
      have e : set1_round m [] x.Dirty = (m, copies m (sel x.Dirty 0), x.Dirty) := hr.2
      rw [hy, e]
      simp [roundF, hV, h2, h3, copies]
  exact Tree.pp h
theorem stop_w {c : ApiPrecopy} {limit : Int} (hb : c.Dirty.length ≤ 1000000000000) : precopy_Stop_pre c limit ∧ precopy_Stop c limit = (precopy_Valid c && (decide (((sel c.Dirty 0).length : Int) ≤ limit) || decide (c.Round ≥ 10))) := by
  have h : (precopy_Stop_t c limit).w fun r => r = (precopy_Valid c && (decide (((sel c.Dirty 0).length : Int) ≤ limit) || decide (c.Round ≥ 10))) := by
    unfold precopy_Stop_t
    refine w_lv fun v hv => ?_
    have hv : v = precopy_Valid c := hv
    subst hv
    refine w_br (fun h1 => ?_) (fun h1 => w_lf ?_)
    · obtain ⟨g1, g2⟩ := counts_w hb
      refine w_an g1 (w_lv fun x hx => ?_)
      have hx : x = precopy_count c := hx
      rw [g2] at hx; subst hx
      rw [h1]
      refine w_br (fun h2 => w_lf ?_) (fun h2 => w_lf ?_)
      · rw [h2]; rfl
      · rw [h2]; simp
    · rw [h1]; rfl
  exact Tree.pp h
theorem down_w {c : ApiPrecopy} {rate : Int} (hb : c.Dirty.length ≤ 1000000000000) : precopy_Downtime_pre c rate ∧ precopy_Downtime c rate = if rate < 1 then 0 else if ((sel c.Dirty 0).length : Int) % rate > 0 then ((sel c.Dirty 0).length : Int) / rate + 1 else ((sel c.Dirty 0).length : Int) / rate := by
  have h : (precopy_Downtime_t c rate).w fun r => r = if rate < 1 then 0 else if ((sel c.Dirty 0).length : Int) % rate > 0 then ((sel c.Dirty 0).length : Int) / rate + 1 else ((sel c.Dirty 0).length : Int) / rate := by
    unfold precopy_Downtime_t
    refine w_br (fun h1 => w_lf ?_) (fun h1 => ?_)
    · rw [if_pos (by simpa using h1)]
    have h1 : 1 ≤ rate := by have : ¬ rate < 1 := by simpa using h1
                             omega
    obtain ⟨g1, g2⟩ := counts_w hb
    refine w_an g1 (w_lv fun x hx => ?_)
    have hx : x = precopy_count c := hx
    rw [g2] at hx; subst hx
    have hn := sel_length c.Dirty 0
    have e1 : Int.tmod ((sel c.Dirty 0).length : Int) rate = ((sel c.Dirty 0).length : Int) % rate := Int.tmod_eq_emod_of_nonneg (by omega)
    have e2 : Int.tdiv ((sel c.Dirty 0).length : Int) rate = ((sel c.Dirty 0).length : Int) / rate := Int.tdiv_eq_ediv_of_nonneg (by omega)
    have q0 : 0 ≤ ((sel c.Dirty 0).length : Int) / rate := Int.ediv_nonneg (by omega) (by omega)
    have q1 : ((sel c.Dirty 0).length : Int) / rate ≤ (sel c.Dirty 0).length := Int.ediv_le_self _ (by omega)
    rw [if_neg (by omega : ¬ rate < 1), e1, e2, wi (x := ((sel c.Dirty 0).length : Int) / rate) (by omega) (by omega), wi (by omega) (by omega)]
    refine w_cn (decide_eq_true (by omega)) (w_cn (decide_eq_true (by omega)) (w_br (fun h2 => w_lf ?_) (fun h2 => w_lf ?_)))
    · rw [if_pos (by simpa using h2)]
    · rw [if_neg (by simpa using h2)]
  exact Tree.pp h
theorem new_w {P : Nat} (h0 : 1 ≤ P) (h1 : P ≤ 32) : memory_New_pre P ∧ memory_New P = List.replicate (32 * P) 0 := by
  have h : (memory_New_t P).w fun r => r = List.replicate (32 * P) 0 := by
    unfold memory_New_t
    have e : IntKind.wrap .i64 ((P : Int) * 32) = (P : Int) * 32 := wi (by omega) (by omega)
    refine w_br (fun h => by simp at h; omega) (fun _ => w_br (fun h => by simp at h; omega) (fun _ => ?_))
    rw [e]
    refine w_cn (by rw [decide_eq_true (by omega)]; rfl) (w_lf ?_)
    congr 1; omega
  exact Tree.pp h
theorem begin_w {P : Nat} (h0 : 1 ≤ P) (h1 : P ≤ 32) : precopy_Begin_pre P ∧ precopy_Begin P = (⟨List.replicate P true, 0, 0⟩, true) := by
  have h : (precopy_Begin_t P).w fun r => r = (⟨List.replicate P true, 0, 0⟩, true) := by
    unfold precopy_Begin_t
    refine w_br (fun h => by simp at h; omega) (fun _ => w_br (fun h => by simp at h; omega) (fun _ => w_cn (by rw [decide_eq_true (by omega)]; rfl) ?_))
    refine w_lp (inv := fun z : Int × List Bool => ∃ i : Nat, z.1 = i ∧ i ≤ P ∧ z.2 = List.replicate i true ++ List.replicate (P - i) false) (μ := precopy_Begin_meas0 P) ⟨0, rfl, Nat.zero_le _, by simp⟩ (Nat.lt_succ_self _) ?_
    rintro ⟨_, x⟩ ⟨i, rfl, hi, hx⟩
    simp only at hx
    refine w_br (fun hlt => ?_) (fun hge => ?_)
    · have hlt : i < P := by simpa using hlt
      have ew : IntKind.wrap .i64 ((i : Int) + 1) = ((i + 1 : Nat) : Int) := by rw [wi (by omega) (by omega)]; omega
      have hl : x.length = P := by rw [hx]; simp; omega
      refine w_cn (by rw [hl]; exact cnd hlt) (w_nx ⟨⟨i + 1, ew, hlt, ?_⟩, ?_⟩)
      · show x.set (Int.toNat (i : Int)) true = _
        rw [hx, Int.toNat_natCast, List.set_append_right _ _ (by simp), show P - i = (P - (i + 1)) + 1 by omega, List.replicate_succ, List.replicate_succ']
        simp
      · simp only [precopy_Begin_meas0, ew]; omega
    · have hge : P ≤ i := by simpa using hge
      have : i = P := by omega
      subst this
      refine w_lf ?_
      show (({ Dirty := x, Round := (0 : Int), Sent := (0 : Int) } : ApiPrecopy), true) = _
      rw [hx]; simp
  exact Tree.pp h
def noteF : List Bool → List Int → List Bool
  | d, [] => d
  | d, f :: l => noteF (if 0 ≤ f ∧ f < d.length then d.set f.toNat true else d) l
theorem noteF_length : ∀ (l : List Int) (d : List Bool), (noteF d l).length = d.length
  | [], _ => rfl
  | f :: l, d => by simp only [noteF]; rw [noteF_length]; split <;> simp
theorem note_w {c : ApiPrecopy} {l : List Int} (hb : c.Dirty.length ≤ 1000000000000) (hl : l.length ≤ 1000000000000) : precopy_Note_pre c l ∧ precopy_Note c l = { c with Dirty := noteF c.Dirty l } := by
  have h : (precopy_Note_t c l).w fun r => r = { c with Dirty := noteF c.Dirty l } := by
    unfold precopy_Note_t
    refine w_an (pclone_w hb).1 (w_lv fun x hx => ?_)
    have hx : x = precopy_clone c := hx
    rw [(pclone_w hb).2] at hx; subst hx
    refine w_lp (inv := fun z : Int × List Bool => ∃ i : Nat, z.1 = i ∧ i ≤ l.length ∧ noteF z.2 (l.drop i) = noteF x.Dirty l) (μ := precopy_Note_meas0 x l) ⟨0, rfl, Nat.zero_le _, by simp⟩ (Nat.lt_succ_self _) ?_
    rintro ⟨_, d⟩ ⟨i, rfl, hi, hd⟩
    simp only at hd
    refine w_br (fun hlt => ?_) (fun hge => ?_)
    · have hlt : i < l.length := by simpa using hlt
      have ew : IntKind.wrap .i64 ((i : Int) + 1) = ((i + 1 : Nat) : Int) := by rw [wi (by omega) (by omega)]; omega
      have hdr : l.drop i = l.getD i 0 :: l.drop (i + 1) := by
        rw [List.drop_eq_getElem_cons hlt]; congr 1; simp [List.getD, hlt]
      rw [hdr, noteF] at hd
      have mx : precopy_Note_meas0 x l (IntKind.wrap .i64 ((i : Int) + 1), d) < precopy_Note_meas0 x l ((i : Int), d) := by simp only [precopy_Note_meas0, ew]; omega
      have skip : ¬ (0 ≤ l.getD i 0 ∧ l.getD i 0 < d.length) → (∃ j : Nat, IntKind.wrap .i64 ((i : Int) + 1) = j ∧ j ≤ l.length ∧ noteF d (l.drop j) = noteF x.Dirty l) := fun hn => by
        rw [if_neg hn] at hd
        exact ⟨i + 1, ew, hlt, hd⟩
      refine w_cn (cnd hlt) ?_
      refine w_br (fun h1 => ?_) (fun h1 => w_nx ⟨skip (fun h => of_decide_eq_false h1 h.1), mx⟩)
      have h1 : 0 ≤ l.getD i 0 := of_decide_eq_true h1
      refine w_br (fun h2 => ?_) (fun h2 => w_nx ⟨skip (fun h => of_decide_eq_false h2 h.2), mx⟩)
      have h2 : l.getD i 0 < d.length := of_decide_eq_true h2
      refine w_cn (Bool.and_eq_true_iff.2 ⟨rfl, decide_eq_true ⟨h1, h2⟩⟩) (w_nx ⟨⟨i + 1, ew, hlt, ?_⟩, ?_⟩)
      · rw [if_pos ⟨h1, h2⟩] at hd; exact hd
      · simp only [precopy_Note_meas0, ew]; omega
    · have hge : l.length ≤ i := by simpa using hge
      rw [List.drop_eq_nil_of_le hge, noteF] at hd
      refine w_lf ?_
      show ({ Dirty := d, Round := x.Round, Sent := x.Sent } : ApiPrecopy) = _
      rw [hd]
  exact Tree.pp h
end Go.Proofs.Ytfihpfnndbolpaa

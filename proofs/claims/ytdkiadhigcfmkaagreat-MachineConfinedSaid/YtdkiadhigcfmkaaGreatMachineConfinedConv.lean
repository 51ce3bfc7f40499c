/-
  GD: string(b); s == nil; min, max.
-/
import Derived.Test.YtdkiadhigcfmkaaGreatMachineConfinedCopy
import Derived.Laws.IdiomStrings
import Derived.Laws.BytesArg
import Derived.Laws.Cover3
namespace Go.GD
open Go
set_option linter.unusedVariables false
set_option linter.unusedSimpArgs false
theorem minVC_ok {mx : Bool} {x y : D} {K : D → Prop} (h : minVC mx x y K) : ∃ val, K val ∧ ∀ (P : Program) c w vx vy, Rep c w x vx → Rep c w y vy → ∃ u, ((mx = false → ∀ tys ty, (Builtin.min_ tys ty #[vx, vy]).run P w = .ok u w) ∧ (mx = true → ∀ tys ty, (Builtin.max_ tys ty #[vx, vy]).run P w = .ok u w)) ∧ Rep c w val u := by
  unfold minVC at h
  split at h
  · rename_i k a k' b
    simp only [cand_iff, decide_eq_true_eq] at h
    obtain ⟨rfl, h⟩ := h
    refine ⟨_, h, fun P c w vx vy hx hy => ⟨_, ⟨fun e tys ty => ?_, fun e tys ty => ?_⟩, rfl⟩⟩
    · subst e
      rw [Rep.int.1 hx, Rep.int.1 hy]
      simp [Builtin.min_, Builtin.min2]
    · subst e
      rw [Rep.int.1 hx, Rep.int.1 hy]
      simp [Builtin.max_, Builtin.max2]
  · exact h.elim
theorem nilVC_ok {P : Program} {T : Tab} (hT : TabOK P T) {t : TypeId} {es : Els} {K : D → Prop} (h : nilVC T t es K) : K (.nilq es) ∧ ∀ s fr c w vx vy, Rep c w (.sl s es fr) vx → Rep c w .nils vy → ∃ u, (∀ x y, (do eqGuard .eql t x y vx vy; binOp .eql t vx vy).run P w = .ok u w) ∧ Rep c w (.nilq es) u := by
  unfold nilVC at h
  split at h
  · rename_i e n _ _ _ _ _ ht
    have hk := kind_spec hT ht
    simp only at hk
    refine ⟨h, fun s fr c w vx vy hx hy => ?_⟩
    obtain ⟨a, cap, hv, hc, hes⟩ := hx
    rw [show vy = _ from hy, hv]
    refine ⟨.bool a.isNone, fun x y => ?_, a.isNone, rfl, fun e' => ?_⟩
    · have hg : (eqGuard .eql t x y (.slice a es.l.length cap) (.slice none 0 0)).run P w = .ok () w := rfl
      rw [Sem.run_bind, hg]
      simp only [Result.andThen_ok, binOp]
      simp only [run_equal_slice_nil w t e a es.l.length cap hk.1, Sem.run_bind, Result.andThen_ok, Sem.run_pure]
    · rcases hes with hes | ⟨b, off, arr, ty, fz, ha, _⟩
      · exact hes
      · subst ha; cases e'
  · exact h.elim
theorem bytes_news {I : Blocks} {w : World} {l : List Int} {news : List Value} (h : PElems I w (Els.ints .u8 l).l news.toArray 0 1) (hl : news.length = (Els.ints .u8 l).l.length * 1) : news = l.map (Value.int .u8) := by
  have hl' : news.length = l.length := by simpa [Els.len] using hl
  apply List.ext_getElem?
  intro i
  by_cases hi : i < l.length
  · obtain ⟨h1, h2⟩ := PElems_iff.1 h i (by simpa [Els.len] using hi)
    rw [Els.get_l _ (show i < (Els.ints .u8 l).len from hi)] at h2
    simp only [Els.get, pcells_nil, pcells_cons, prep_bool, prep_int, prep_str, prep_nilp, prep_nils, prep_emp, prep_sl, prep_all, prep_own, prep_ptr, prep_pa, prep_iptr, prep_dead, prep_nilq, prep_agg, prep_tup, and_true] at h2
    obtain ⟨v, hv, hp⟩ := h2
    simp only [Nat.zero_add, Nat.mul_one, Nat.add_zero, List.getElem?_toArray] at hv
    rw [hv, hp]
    simp [List.getD, hi]
  · rw [List.getElem?_eq_none (by omega), List.getElem?_eq_none (by simp; omega)]
theorem strVC_ok {P : Program} {T : Tab} (hT : TabOK P T) {s e d : TypeId} {n a1 a2 : Nat} {a3 : List CTy} {a4 : Option (List D)} {a5 : Bool} (hs : T.get s = some ⟨.slice e n, a1, a2, a3, a4, a5⟩) {x : D} {R : Rows} {K : D → Prop} (h : strVC T e d x R K) :
    ∃ val, K val ∧ ∀ c w v, Mem c w → AgreeR c R → Rep c w x v → Yld P (convert s d v) w c val := by
  unfold strVC at h
  split at h
  · rename_i he hd
    have hk1 := kind_spec hT hs
    have hk2 := kind_spec hT he
    have hk3 := kind_spec hT hd
    simp only at hk1 hk2 hk3
    split at h
    · rename_i sy es hsrc
      split at h
      rotate_left
      · exact h.elim
      rename_i l hto
      have hel := Els.toI_l hto
      simp only [cand_iff, Bool.or_eq_true] at h
      obtain ⟨h5, h⟩ := h
      have h5 : sy = 1 ∨ es.l = [] := h5.imp Nat.eq_of_beq_eq_true isNil_l
      refine ⟨_, h, fun c w v hm hA hr => ?_⟩
      have hsl : ∃ a cap, v = .slice a es.l.length cap := by
        cases x <;> simp only [srcOf] at hsrc <;> try (cases hsrc; done)
        case nils => cases hsrc; exact ⟨none, 0, hr⟩
        case emp => cases hsrc; obtain ⟨a, hr⟩ := hr; exact ⟨a, 0, hr⟩
        case sl => cases hsrc; obtain ⟨a, cap, hv, _⟩ := hr; exact ⟨a, cap, hv⟩
        case all r =>
          split at hsrc
          · rename_i ty' s' es' hR
            cases hsrc
            obtain ⟨row, g1, g2, hv⟩ := hr
            have := hA r row _ g1 hR
            subst this
            rcases hv with ⟨hV, a, hv⟩ | ⟨hV, cap, arr, hv, _⟩
            · have he := (hm.virt g1 hV).2.1
              simp only at he
              exact ⟨a, 0, by rw [he]; exact hv⟩
            · exact ⟨_, cap, hv⟩
          · cases hsrc
        case own r o m =>
          split at hsrc
          · rename_i ty' s' es' hR
            cases hsrc
            obtain ⟨row, g1, g2, g5, hv⟩ := hr
            have := hA r row _ g1 hR
            subst this
            simp only at g5
            have hlen : ((es'.drop o).take m).l.length = m := by rw [Els.take_l, Els.drop_l]; simp only [List.length_take, List.length_drop]; omega
            rw [hlen]
            rcases hv with ⟨h0, a, hv⟩ | ⟨hV, cap, arr, _, _, _, hv, _⟩
            · subst h0; exact ⟨a, 0, hv⟩
            · exact ⟨_, cap, hv⟩
          · cases hsrc
      obtain ⟨a, cap, hv⟩ := hsl
      subst hv
      obtain ⟨news, s1, s2, s3, s4⟩ := src_of (P := P) (by omega) hsrc h5 hm hA hr
      rw [hel] at s1 s4
      have hn := bytes_news s4 s1
      have hlen : es.l.length = l.length := by rw [hel]; simp [Els.len]
      have hf := s3 es.l.length (Nat.le_refl _) w rfl
      rw [List.take_of_length_le (by rw [hn, hlen]; simp)] at hf
      refine ⟨.string ⟨(bytesOf l).toArray⟩, ?_, rfl⟩
      rw [run_convert_bytes_string w s d e a es.l.length cap hk1.1 hk2 hk3]
      cases a with
      | none =>
        simp only [Builtin.firstCells, Sem.run_pure, Result.ok.injEq, and_true] at hf
        have h1 : news = [] := by
          have := congrArg Array.toList hf
          simpa using this.symm
        have he : l = [] := by rw [h1] at hn; simpa using hn.symm
        subst he
        simp only [Conv.bytesToString, Sem.run_pure, bytesOf, List.map_nil]
        rfl
      | some a =>
        simp only [Builtin.firstCells, Nat.mul_one] at hf
        rw [hn] at hf
        rw [run_bytesToString w a es.l.length cap _ hf, foldl_push_bytes]
        have he0 : ByteArray.empty.data = #[] := rfl
        rw [he0]
        simp [bytesOf]
    · exact h.elim
  · exact h.elim
end Go.GD

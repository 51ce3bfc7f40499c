/-
  GD: slices that the call makes.
-/
import Derived.Test.YtfihpfnndbolpaaPrecopyTellsEq
namespace Go.GD
open Go
set_option linter.unusedVariables false
set_option linter.unusedSimpArgs false
theorem ofVals_length : ∀ {vs : List Value} {ds : List D}, ofVals vs = some ds → ds.length = vs.length
  | [], ds, h => by simp [ofVals] at h; subst h; rfl
  | v :: vs, ds, h => by
    simp only [ofVals] at h
    split at h
    · rename_i d l h1 h2
      simp at h; subst h
      simp [ofVals_length h2]
    · cases h
theorem made_elems {I : Blocks} {w : World} {z : List D} {zs : Array Value} {sz n m : Nat} (hz : z.length = sz) (hs : zs.size = sz) (hr : ∀ j v, zs[j]? = some v → PRep I w (z.getD j .dead) v) (hm : n ≤ m) :
    PElems I w (List.replicate n z) (madeCells zs (m * sz)) 0 sz := by
  rw [PElems_iff]
  intro i hi
  have hi' : i < n := by simpa using hi
  have he : (List.replicate n z).getD i [] = z := by simp [List.getD, hi']
  rw [he]
  refine ⟨hz, ?_⟩
  rw [PCells_iff]
  intro j hj
  have hlt : i * sz + j < m * sz := by
    have := Nat.mul_le_mul_right sz (show i + 1 ≤ m by omega)
    rw [Nat.succ_mul] at this
    omega
  have hmod : (i * sz + j) % sz = j := by rw [Nat.add_comm, Nat.add_mul_mod_self_right, Nat.mod_eq_of_lt (by omega)]
  have hj' : j < zs.size := by omega
  refine ⟨zs[j], ?_, hr j _ (Array.getElem?_eq_getElem hj')⟩
  have hrg : (Array.range (m * sz))[i * sz + j]? = some (i * sz + j) := by rw [Array.getElem?_range, if_pos hlt]
  simp only [madeCells, Nat.zero_add, Array.getElem?_map, hrg, Option.map_some, hs, hmod]
  simp [hj']
theorem zero_plain {z : List D} {u : Value} (h : ofVals u.cells.toList = some z) (hp : z.all D.plain = true) (c : Ctx) (w : World) : ∀ j v, u.cells[j]? = some v → PRep c.I w (z.getD j .dead) v := by
  intro j v hv
  have hr := ofVals_rep h c w
  have hl := hr.length
  have h1 : u.cells.toList[j]? = some v := by simpa using hv
  have hlt : j < z.length := by rw [hl]; exact (List.getElem?_eq_some_iff.1 h1).1
  refine CRep.plain ?_ ((CReps_get.1 hr).2 j v h1)
  have hm : z.getD j .dead ∈ z := by
    simp only [List.getD, List.getElem?_eq_getElem hlt, Option.getD_some]
    exact List.getElem_mem _
  exact List.all_eq_true.1 hp _ hm
theorem all_rep {c : Ctx} {w : World} {k : Nat} {e : TypeId} {sz cap : Nat} {es : Els} {arr : Array Value} (h1 : es.l.length ≤ cap) (h2 : cap ≤ maxLen) (h3 : cap * sz = arr.size) :
    Rep (c.add k ⟨false, e, sz, es⟩ w.heap.size) (w.alloc (.cells arr e)) (.all k) (.slice (some ⟨w.heap.size, 0, none⟩) es.l.length cap) := by
  refine ⟨_, (Ctx.add_self _ _ _ _).1, rfl, .inr ⟨by simp [Ctx.add], cap, arr, ?_, h1, h2, ?_, h3⟩⟩
  · rw [(Ctx.add_self _ _ _ _).2]
  · rw [(Ctx.add_self _ _ _ _).2]; exact heap_new w _
theorem makeVC_ok {P : Program} {T : Tab} (hT : TabOK P T) {t : TypeId} {kl kc : IntKind} {n m : Int} {R : Rows} {K : D → Rows → Prop} (h : makeVC T t n m R K) :
    ∃ row val, K val (R ++ [some row]) ∧ ∀ c w, NewYld P (Instr.makeSlice t (.int kl n) (.int kc m)) w c R.length row val := by
  unfold makeVC at h
  split at h
  · rename_i e _ _ _ _ _ _ ht
    have hk := kind_spec hT ht
    simp only at hk
    split at h
    · rename_i kk sz by' cs z q he
      simp only [cand_iff, Bool.and_eq_true, decide_eq_true_eq, addR_iff] at h
      obtain ⟨⟨⟨⟨h0, hz⟩, hp⟩, g0, g1, g2, g3⟩, h⟩ := h
      have h0 : 0 < sz := Nat.le_of_ble_eq_true h0
      have hz := Nat.eq_of_beq_eq_true hz
      obtain ⟨i, u, hi, hu, hzz, hs, hb, hc, hzero⟩ := zero_spec hT he
      refine ⟨_, _, h, fun c w => ?_⟩
      have hr := run_make (P := P) w t e i u hk.1 hi hu kl kc n m g0 g1 (by rw [hb]; omega) g2
      rw [hs] at hr
      have hus : u.cells.size = sz := by have := ofVals_length hzz; simp at this; omega
      refine ⟨_, _, hr, ⟨h0, ?_⟩, fun _ _ => ?_⟩
      · simp only [Bool.false_eq_true, if_false, Els.repT_l]
        exact made_elems (n := n.toNat) (m := m.toNat) hz hus (zero_plain hzz hp c w) (by omega)
      · have := all_rep (c := c) (w := w) (k := R.length) (e := e) (sz := sz) (cap := m.toNat) (es := Els.repT e n.toNat z) (arr := madeCells u.cells (m.toNat * sz)) (by rw [Els.repT_l]; simp; omega) (by unfold maxLen; omega) (by simp [madeCells])
        rw [Els.repT_l] at this
        simpa using this
    · exact h.elim
  · exact h.elim
theorem fillSl_ok {n len : Nat} (h0 : 0 < n) {ev : Operand → D} : ∀ {parts : List (Nat × Operand)} {es : List (List D)} {K : List (List D) → Prop}, es.length = len → fillSl n len ev parts es K →
    ∃ es', K es' ∧ es'.length = len ∧ ∀ c w (ρ : Operand → Value) (cells : Array Value), cells.size = len * n → PElems c.I w es cells 0 n → (∀ p ∈ parts, Rep c w (ev p.2) (ρ p.2)) →
      ∃ cells', Instr.fill (fun i => some (i * n, n)) cells (parts.map fun p => (p.1, ρ p.2)) = some cells' ∧ cells'.size = len * n ∧ PElems c.I w es' cells' 0 n
  | [], es, K, hl, h => ⟨es, h, hl, fun c w ρ cells hs he _ => ⟨cells, rfl, hs, he⟩⟩
  | (i, x) :: ps, es, K, hl, h => by
    unfold fillSl at h
    simp only [cand_iff, Bool.and_eq_true] at h
    obtain ⟨⟨⟨⟨hv, hp⟩, hn⟩, hi⟩, h⟩ := h
    have hn := Nat.eq_of_beq_eq_true hn
    have hi : i < len := Nat.le_of_ble_eq_true hi
    obtain ⟨es', hK, hl', hr⟩ := fillSl_ok h0 (by simpa using hl) h
    refine ⟨es', hK, hl', fun c w ρ cells hs he hps => ?_⟩
    have hx := Rep.cells hv (hps (i, x) (by simp))
    have hlen : (ρ x).cells.size = n := by rw [← hn, hx.length]; simp
    have hroom : i * n + n ≤ cells.size := by
      have := Nat.mul_le_mul_right n (show i + 1 ≤ len by omega)
      rw [Nat.succ_mul] at this
      omega
    have hw := PElems_write (c := c) (w := w) (es := es) (arr := cells.toList) (off := 0) (i := i) (by simpa using he) (by omega) (by omega) hx hp (by simpa using hroom)
    have hover : overlay (es.getD i []) 0 (ev x).cells = (ev x).cells := by
      have hel := (PElems_iff.1 he i (by omega)).1
      apply List.ext_getElem?
      intro k
      rw [overlay_get (by omega)]
      by_cases hk : k < (ev x).cells.length
      · rw [if_pos (by omega)]; simp
      · rw [if_neg (by omega), List.getElem?_eq_none (by omega), List.getElem?_eq_none (by omega)]
    rw [hover] at hw
    have hcells : (overlayV cells.toList (i * n + 0) (ρ x).cells.toList).toArray = (ρ x).cells.zipIdx.foldl (fun cs (x : Value × Nat) => cs.setIfInBounds (i * n + x.2) x.1) cells := by
      rw [Nat.add_zero, ← fill_step (ρ x) (i * n) cells]
    rw [hcells] at hw
    obtain ⟨cells', k1, k2, k3⟩ := hr c w ρ _ (by rw [← hcells]; simp [overlayV_length, hs]) hw (fun p hp => hps p (by simp [hp]))
    refine ⟨cells', ?_, k2, k3⟩
    simp only [List.map_cons, Instr.fill]
    rw [if_neg (by simp; omega)]
    exact k1
theorem fillSl_det {n len : Nat} {ev : Operand → D} : ∀ {parts : List (Nat × Operand)} {es : List (List D)} {K : List (List D) → Prop}, fillSl n len ev parts es K →
    ∃ es', K es' ∧ ∀ (ev2 : Operand → D) (K2 : List (List D) → Prop), (∀ p ∈ parts, ev2 p.2 = ev p.2) → K2 es' → fillSl n len ev2 parts es K2
  | [], es, K, h => ⟨es, h, fun ev2 K2 _ h2 => h2⟩
  | (i, x) :: ps, es, K, h => by
    unfold fillSl at h
    simp only [cand_iff] at h
    obtain ⟨es', h1, h2⟩ := fillSl_det h.2
    refine ⟨es', h1, fun ev2 K2 he hk => ?_⟩
    unfold fillSl
    rw [he (i, x) (by simp)]
    simp only [cand_iff]
    exact ⟨h.1, h2 ev2 K2 (fun p hp => he p (by simp [hp])) hk⟩
theorem buildSl_det {T : Tab} {t : TypeId} {len : Nat} {parts : List (Nat × Operand)} {ev : Operand → D} {R : Rows} {K : D → Rows → Prop} (h : buildSlVC T t len parts ev R K) :
    ∃ val, K val R ∧ ∀ (ev2 : Operand → D) (R2 : Rows), (∀ p ∈ parts, ev2 p.2 = ev p.2) → buildSlVC T t len parts ev2 R2 fun d R' => d = val ∧ R' = R2 := by
  unfold buildSlVC at h ⊢
  split at h
  · split at h
    · simp only [cand_iff] at h ⊢
      obtain ⟨h0, h⟩ := h
      obtain ⟨es', hK, hd⟩ := fillSl_det h
      cases len with
      | zero => exact ⟨_, hK, fun ev2 R2 hev => ⟨h0, hd ev2 _ hev (by simp)⟩⟩
      | succ m => exact ⟨_, hK, fun ev2 R2 hev => ⟨h0, hd ev2 _ hev (by simp)⟩⟩
    · exact h.elim
  · exact h.elim
theorem buildSl_ok {P : Program} {T : Tab} (hT : TabOK P T) {t : TypeId} {len : Nat} {parts : List (Nat × Operand)} {ev : Operand → D} {R : Rows} {K : D → Rows → Prop} (h : buildSlVC T t len parts ev R K) :
    ∃ val, K val R ∧ ∀ c w (ρ : Operand → Value), c.base ≤ w.heap.size → (∀ p ∈ parts, Rep c w (ev p.2) (ρ p.2)) → ∃ u arr ty, (Instr.buildSlice t len (parts.map fun p => (p.1, ρ p.2)).toArray).run P w = .ok u (w.alloc (.cells arr ty)) ∧ (Mem c w → Rep (c.imm w.heap.size) (w.alloc (.cells arr ty)) val u) := by
  unfold buildSlVC at h
  split at h
  · rename_i e _ _ _ _ _ _ ht
    have hk := kind_spec hT ht
    simp only at hk
    split at h
    · rename_i kk sz by' cs z q he
      simp only [cand_iff, Bool.and_eq_true] at h
      obtain ⟨⟨⟨⟨h0, hz⟩, hle⟩, hp⟩, h⟩ := h
      have h0 : 0 < sz := Nat.le_of_ble_eq_true h0
      have hz := Nat.eq_of_beq_eq_true hz
      have hle := Nat.le_of_ble_eq_true hle
      obtain ⟨i, u, hi, hu, hzz, hs, hb, hc, hzero⟩ := zero_spec hT he
      obtain ⟨es', hK, hl', hr⟩ := fillSl_ok h0 (by simp) h
      have hus : u.cells.size = sz := by have := ofVals_length hzz; simp at this; omega
      have main : ∀ c w (ρ : Operand → Value), (∀ p ∈ parts, Rep c w (ev p.2) (ρ p.2)) → ∃ cells', (Instr.buildSlice t len (parts.map fun p => (p.1, ρ p.2)).toArray).run P w = .ok (.slice (some ⟨w.heap.size, 0, none⟩) len len) (w.alloc (.cells cells' e)) ∧ PElems c.I w es' cells' 0 sz := by
        intro c w ρ hps
        have hel := made_elems (I := c.I) (w := w) hz hus (zero_plain hzz hp c w) (Nat.le_refl len)
        obtain ⟨cells', k1, k2, k3⟩ := hr c w ρ (madeCells u.cells (len * sz)) (by simp [madeCells]) hel hps
        refine ⟨cells', ?_, k3⟩
        have hbig : ¬ len * sz > 2 ^ 24 := by omega
        have hcs : 0 < P.cellsOf e := by omega
        unfold Instr.buildSlice
        simp only [Sem.run_bind, run_underlying hk.1, Result.andThen_ok, run_size hcs, hc, Sem.run_ite, hbig, if_false, Sem.run_pure]
        by_cases hz0 : len * sz = 0
        · have hk1 : Instr.fill (fun i => some (i * sz, sz)) ((Array.range (len * sz)).map fun x => (#[] : Array Value)[x % (#[] : Array Value).size]!) (parts.map fun p => (p.1, ρ p.2)) = some cells' := by
            rw [← k1]; congr 1
            rw [hz0]; simp [madeCells]
          simp only [hz0, if_true] at hk1 ⊢
          rw [hk1]
          simp only [newRow, Sem.run_bind, run_newObj, Result.andThen_ok, Sem.run_pure]
          rfl
        · simp only [hz0, if_false, hzero, Result.andThen_ok]
          rw [show Instr.fill (fun i => some (i * sz, sz)) ((Array.range (len * sz)).map fun x => u.cells[x % u.cells.size]!) (parts.map fun p => (p.1, ρ p.2)) = some cells' from k1]
          simp only [newRow, Sem.run_bind, run_newObj, Result.andThen_ok, Sem.run_pure]
          rfl
      cases len with
      | zero =>
        refine ⟨_, hK, fun c w ρ _ hps => ?_⟩
        obtain ⟨cells', h1, _⟩ := main c w ρ hps
        exact ⟨_, cells', e, h1, fun _ => ⟨_, rfl, fun x hx => by cases hx; exact Nat.lt_of_lt_of_le (Nat.lt_succ_self _) (Nat.le_max_right _ _)⟩⟩
      | succ m =>
        refine ⟨_, hK, fun c w ρ hbase hps => ?_⟩
        obtain ⟨cells', h1, h2⟩ := main c w ρ hps
        refine ⟨_, cells', e, h1, fun hm => ?_⟩
        refine ⟨some ⟨w.heap.size, 0, none⟩, m + 1, by rw [Els.ofT_l, hl'], by rw [Els.ofT_l, hl']; exact Nat.le_refl _, .inr ⟨w.heap.size, 0, cells', e, (0, 0), rfl, .inr rfl, fun _ => hbase, heap_new w _, ?_⟩⟩
        rw [Els.ofT_l]
        exact PElems_mono (imm_grows hm _).I _ _ _ _ h2
    · exact h.elim
  · exact h.elim
end Go.GD

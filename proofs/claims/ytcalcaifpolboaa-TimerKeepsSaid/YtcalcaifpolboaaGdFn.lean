/-
  GD: code and functions.
-/
import Derived.Test.YtcalcaifpolboaaGdRun
namespace Go.GD
open Go
set_option linter.unusedVariables false

theorem SimS.know {N M : Nat} {c0 : Ctx} {w0 : World} {c : Ctx} {w : World} {st : St} {a : Act} (h : SimS N M c0 w0 c w st a) {x : Operand} {b : Bool} (hb : evOp st.env x = .bool b) : SimS N M c0 w0 c w (st.know x b) a := by
  cases x with
  | tmp t => exact ⟨h.mem, h.rows, fun s => by rw [know_look hb]; exact h.env s, h.size, h.defers, h.base0, h.own0, h.reach⟩
  | _ => exact h

theorem region_ok {P : Program} {T : Tab} (hT : TabOK P T) {G : List Model} (hG : AllOK P G) {N M : Nat} {id : Nat} {ops : Array Oper} {st : St} {Q : Ex → St → Prop} (h : opsVC T G N ops ops.toList st fun st => Q .normal st) : Tr P N M (.region id ops false) st Q := by
  intro c0 w0 c w a hs
  refine wp_region ?_
  have := ops_wp (P := P) (ops := ops) hT hG (Q := fun e a' w' => ∃ ex st' c', exOf e = some ex ∧ Q ex st' ∧ SimS N M c0 w0 c' w' st' a') (fun st c w a hK hs => ⟨_, st, c, rfl, hK, hs⟩) ops.toList 0 st c w a (by simp) h hs
  rwa [← List.range_eq_range', Array.length_toList] at this

/-- What is asked where a region draws its order. -/
def DrawOK (P : Program) : Prop := ∀ (T : Tab) (G : List Model) (N M id : Nat) (ops : Array Oper) (st : St) (Q : Ex → St → Prop), TabOK P T → AllOK P G → drawOK G ops = true → (opsVC T G N ops ops.toList st fun st => Q .normal st) → Tr P N M (.region id ops true) st Q

theorem codeVC_ok {P : Program} (hD : DrawOK P) {T : Tab} (hT : TabOK P T) {G : List Model} (hG : AllOK P G) {N M : Nat} {L : Code → St → (Ex → St → Prop) → Prop} (hL : ∀ code st Q, L code st Q → Tr P N M code st Q) : ∀ (code : Code) (st : St) (Q : Ex → St → Prop), codeVC T G N L code st Q → Tr P N M code st Q := by
  intro code
  induction code with
  | skip => exact fun st Q h c0 w0 c w a hs => wp_skip ⟨_, st, c, rfl, h, hs⟩
  | label l => exact fun st Q h c0 w0 c w a hs => wp_label ⟨_, st, c, rfl, h, hs⟩
  | region id ops draw =>
    intro st Q h
    simp only [codeVC, cand_iff] at h
    cases draw with
    | false => exact region_ok hT hG h.2
    | true => exact hD T G N M id ops st Q hT hG (by simpa using h.1) h.2
  | seq x y ihx ihy =>
    intro st Q h c0 w0 c w a hs
    simp only [codeVC] at h
    refine wp_seq (wp_mono (ihx st _ h c0 w0 c w a hs) fun e a' w' hq => ?_)
    obtain ⟨ex, st', c', he, hq, hs'⟩ := hq
    cases e <;> simp only [exOf, Option.some.injEq, reduceCtorEq] at he
    · subst he; exact ihy st' Q hq c0 w0 c' w' a' hs'
    · subst he; exact ⟨_, st', c', rfl, hq, hs'⟩
    · subst he; exact ⟨_, st', c', rfl, hq, hs'⟩
  | cond x y z ihy ihz =>
    intro st Q h c0 w0 c w a hs
    simp only [codeVC] at h
    split at h
    · rename_i b hb
      have hv := evOp_rep hs.env x
      rw [hb] at hv
      have hv := Rep.bool.1 hv
      cases b with
      | true => exact wp_cond_true hv (ihy _ Q h c0 w0 c w a (hs.know hb))
      | false => exact wp_cond_false hv (ihz _ Q h c0 w0 c w a (hs.know hb))
    · exact h.elim
  | block id x ih =>
    intro st Q h c0 w0 c w a hs
    simp only [codeVC] at h
    refine wp_block (wp_mono (ih st _ h c0 w0 c w a hs) fun e a' w' hq => ?_)
    obtain ⟨ex, st', c', he, hq, hs'⟩ := hq
    cases e <;> simp only [exOf, Option.some.injEq, reduceCtorEq] at he
    · subst he; exact ⟨_, st', c', rfl, hq, hs'⟩
    · rename_i i
      subst he
      simp only [Exit.inBlock]
      simp only at hq
      cases hb : Nat.beq i id with
      | true =>
        simp only [hb] at hq
        rw [if_pos (Nat.eq_of_beq_eq_true hb)]
        exact ⟨_, st', c', rfl, hq, hs'⟩
      | false =>
        simp only [hb] at hq
        rw [if_neg (fun e => by rw [e] at hb; simp at hb)]
        exact ⟨_, st', c', rfl, hq, hs'⟩
    · subst he; exact ⟨_, st', c', rfl, hq, hs'⟩
  | exit id => exact fun st Q h c0 w0 c w a hs => wp_exit ⟨_, st, c, rfl, h, hs⟩
  | ret => exact fun st Q h c0 w0 c w a hs => wp_ret ⟨_, st, c, rfl, h, hs⟩
  | loop x ih => exact fun st Q h => hL _ _ _ h
  | rangeFunc g ps x y _ _ => exact fun st Q h => hL _ _ _ h
  | scope x _ => exact fun st Q h => hL _ _ _ h
  | goto l => exact fun st Q h => hL _ _ _ h
  | refuse y => exact fun st Q h => hL _ _ _ h

/- what is handed back -/
/-- The caller's view behind the call. -/
def Ctx.out (c : Ctx) (ex : List Nat) (rows : List Row) : Ctx :=
  { ρ := fun i => match ex[i]? with | some r => c.ρ r | none => c.ρ i, R := fun i => rows[i]?, I := fun b => c.I b ∨ ∃ r row, c.R r = some row ∧ row.box = false ∧ outEx ex r = true ∧ c.ρ r = b, base := c.base }

theorem inEx_spec {ex : List Nat} {i r : Nat} (h : inEx ex i r = true) : ex[i]? = some r := by
  unfold inEx at h
  split at h
  · rename_i x hx; rw [hx, Nat.eq_of_beq_eq_true h]
  · cases h
theorem outEx_spec {ex : List Nat} {r : Nat} (h : outEx ex r = true) : r ∉ ex := by
  intro hm
  have := List.all_eq_true.1 h r hm
  simp at this

theorem retRows_get {ex : List Nat} {m : Nat} {R : Rows} : ∀ {rs : List Nat} {ps : List Row}, retRows ex m R rs ps → rs.length = ps.length ∧ ∀ (i r : Nat) (p : Row), rs[i]? = some r → ps[i]? = some p →
    ∃ row, R.getD r none = some row ∧ row.box = p.box ∧ row.ty = p.ty ∧ row.sz = p.sz ∧ (if p.box then ∃ e e', row.es = [e] ∧ p.es = [e'] ∧ retCs ex m R e e' else row.es = p.es)
  | [], [], _ => ⟨rfl, fun i r p h => by simp at h⟩
  | [], _ :: _, h => h.elim
  | _ :: _, [], h => h.elim
  | r :: rs, ⟨box, ty, sz, es⟩ :: ps, h => by
    simp only [retRows] at h
    obtain ⟨h1, h2⟩ := h
    obtain ⟨g1, g2⟩ := retRows_get h2
    refine ⟨by simp [g1], fun i q p hq hp => ?_⟩
    cases i with
    | succ i => exact g2 i q p (by simpa using hq) (by simpa using hp)
    | zero =>
      simp at hq hp
      subst hq; subst hp
      split at h1
      · rename_i box' ty' sz' es' hR
        simp only [cand_iff, Bool.and_eq_true] at h1
        obtain ⟨⟨⟨e1, e2⟩, e3⟩, h1⟩ := h1
        refine ⟨_, hR, by cases box <;> cases box' <;> simp_all, (Nat.eq_of_beq_eq_true e2).symm, (Nat.eq_of_beq_eq_true e3).symm, ?_⟩
        cases box with
        | false => simpa using h1
        | true =>
          simp only [if_true]
          simp only at h1
          split at h1
          · exact ⟨_, _, rfl, rfl, h1⟩
          · exact h1.elim
      · exact h1.elim

section
variable {c : Ctx} {w : World} {ex : List Nat} {m : Nat} {R : Rows} {rows : List Row}

theorem retC_rep (hm : Mem c w) (hR : ∀ r, c.R r = R.getD r none) (hrows : retRows ex m R ex rows) (hnew : ∀ r row, c.R r = some row → m ≤ r → c.base ≤ c.ρ r) {d p : D} {v : Value} (h : retC ex m R d p) (hr : CRep c w d v) : CRep (c.out ex rows) w p v := by
  have himm : ∀ b, c.I b → (c.out ex rows).I b ∧ w.heap[b]? = w.heap[b]? := fun b hb => ⟨.inl hb, rfl⟩
  obtain ⟨hl, hget⟩ := retRows_get hrows
  have rowOf : ∀ i r row, ex[i]? = some r → c.R r = some row → ∃ p, rows[i]? = some p ∧ row.box = p.box ∧ row.ty = p.ty ∧ row.sz = p.sz ∧ row.es.length = p.es.length ∧ (c.out ex rows).ρ i = c.ρ r := by
    intro i r row hi hrow
    have hlt := (List.getElem?_eq_some_iff.1 hi).1
    have hp : rows[i]? = some rows[i] := List.getElem?_eq_getElem (by omega)
    obtain ⟨row', g1, g2, g3, g4, g5⟩ := hget i r _ hi hp
    have : row' = row := by rw [hR, g1] at hrow; exact Option.some.inj hrow
    subst this
    refine ⟨_, hp, g2, g3, g4, ?_, by simp [Ctx.out, hi]⟩
    split at g5
    · obtain ⟨e, e', k1, k2, _⟩ := g5
      rw [k1, k2]; rfl
    · rw [g5]
  cases p <;> simp only [retC] at h
  case int k n =>
    split at h
    · simp only [cand_iff, decide_eq_true_eq] at h; obtain ⟨rfl, rfl⟩ := h; exact hr
    · exact h.elim
  case bool b =>
    split at h
    · subst h; exact hr
    · exact h.elim
  case str s =>
    split at h
    · subst h; exact hr
    · exact h.elim
  case nilp =>
    split at h
    · exact hr
    · exact h.elim
  case nils =>
    split at h
    · exact hr
    · exact h.elim
  case sl sz es fr =>
    split at h
    · subst h; exact ⟨none, 0, hr, Nat.le_refl _, .inl rfl⟩
    · rename_i sz' es' fr'
      simp only [cand_iff, Bool.or_eq_true, Bool.not_eq_true'] at h
      obtain ⟨hf, hs, rfl⟩ := h
      obtain ⟨a, cap, hv, hc, hes⟩ := hr
      refine ⟨a, cap, hv, hc, ?_⟩
      rcases hes with hes | ⟨b, off, arr, ty, fz, ha, hI, hf', hh, hE⟩
      · exact .inl hes
      · rcases hs with hs | rfl
        · exact .inl hs
        · exact .inr ⟨b, off, arr, ty, fz, ha, .inl hI, fun e => hf' (by rcases hf with hf | hf <;> simp_all), hh, PElems_mono himm _ _ _ _ hE⟩
    · rename_i r
      split at h
      · rename_i box ty sz' es' hRr
        simp only [cand_iff, Bool.and_eq_true, Bool.not_eq_true'] at h
        obtain ⟨⟨⟨⟨hb, hs⟩, ho⟩, hmr⟩, rfl⟩ := h
        have hs := Nat.eq_of_beq_eq_true hs
        have hmr := Nat.le_of_ble_eq_true hmr
        obtain ⟨row, cap, arr, g1, g2, hv, g3, g4, g5, g6⟩ := hr
        have : row = ⟨box, ty, sz', es'⟩ := by rw [hR, hRr] at g1; exact (Option.some.inj g1).symm
        subst this
        subst hs
        obtain ⟨arr', ha', hs', hx⟩ := hm.row r _ g1
        rw [g5] at ha'; cases ha'
        simp only [hb, Bool.false_eq_true, if_false] at hx
        exact ⟨_, cap, hv, g3, .inr ⟨_, 0, arr, _, _, rfl, .inr ⟨r, _, g1, hb, ho, rfl⟩, fun _ => hnew r _ g1 hmr, g5, PElems_mono himm _ _ _ _ hx⟩⟩
      · exact h.elim
    · rename_i r o n
      split at h
      · rename_i box ty sz' es' hRr
        simp only [cand_iff, Bool.and_eq_true, Bool.not_eq_true'] at h
        obtain ⟨⟨⟨⟨hb, hs⟩, ho⟩, hmr⟩, rfl⟩ := h
        have hs := Nat.eq_of_beq_eq_true hs
        have hmr := Nat.le_of_ble_eq_true hmr
        obtain ⟨row, cap, arr, g1, g2, g3, g4, g5, g6, hv⟩ := hr
        have : row = ⟨box, ty, sz', es'⟩ := by rw [hR, hRr] at g1; exact (Option.some.inj g1).symm
        subst this
        subst hs
        simp only at g5
        have hl' : ((es'.drop o).take n).length = n := by simp; omega
        obtain ⟨arr', ha', hs', hx⟩ := hm.row r _ g1
        rw [g6] at ha'; cases ha'
        simp only [hb, Bool.false_eq_true, if_false] at hx
        rcases hv with ⟨hv, g7⟩ | ⟨g7, a, hv⟩
        · have hE := PElems_take (n := n) (PElems_drop (l := o) hx)
          exact ⟨_, cap, by rw [hl']; exact hv, by omega, .inr ⟨_, o * sz', arr, _, _, rfl, .inr ⟨r, _, g1, hb, ho, rfl⟩, fun _ => hnew r _ g1 hmr, g6, PElems_mono himm _ _ _ _ (by simpa using hE)⟩⟩
        · have : n = 0 := by omega
          subst this
          exact ⟨a, cap, by simpa using hv, by simp, .inl (by simp)⟩
      · exact h.elim
    · exact h.elim
  case all i =>
    split at h
    · rename_i r
      simp only [cand_iff] at h
      obtain ⟨row, cap, arr, g1, g2, hv, g3, g4, g5, g6⟩ := hr
      obtain ⟨p, k1, k2, k3, k4, k5, k6⟩ := rowOf i r row (inEx_spec h.1) g1
      exact ⟨p, cap, arr, k1, by rw [← k2]; exact g2, by rw [hv, k5, k6], by rw [← k5]; exact g3, g4, by rw [k6, ← k3]; exact g5, by rw [← k4]; exact g6⟩
    · exact h.elim
  case own i o n =>
    split at h
    · rename_i r o' n'
      simp only [cand_iff] at h
      obtain ⟨hx, rfl, rfl⟩ := h
      obtain ⟨row, cap, arr, g1, g2, g3, g4, g5, g6, hv⟩ := hr
      obtain ⟨p, k1, k2, k3, k4, k5, k6⟩ := rowOf i r row (inEx_spec hx) g1
      exact ⟨p, cap, arr, k1, by rw [← k2]; exact g2, g3, g4, by rw [← k5]; exact g5, by rw [k6, ← k3]; exact g6, by rw [k6, ← k4]; exact hv⟩
    · exact h.elim

theorem retCs_rep (hm : Mem c w) (hR : ∀ r, c.R r = R.getD r none) (hrows : retRows ex m R ex rows) (hnew : ∀ r row, c.R r = some row → m ≤ r → c.base ≤ c.ρ r) : ∀ {ds ps : List D} {vs : List Value}, retCs ex m R ds ps → CReps c w ds vs → CReps (c.out ex rows) w ps vs
  | [], [], [], _, _ => trivial
  | [], [], _ :: _, _, h => h.elim
  | [], _ :: _, _, h, _ => h.elim
  | _ :: _, [], _, h, _ => h.elim
  | _ :: _, _ :: _, [], _, h => h.elim
  | d :: ds, p :: ps, v :: vs, h, hr => ⟨retC_rep hm hR hrows hnew h.1 hr.1, retCs_rep hm hR hrows hnew h.2 hr.2⟩
theorem retV_rep (hm : Mem c w) (hR : ∀ r, c.R r = R.getD r none) (hrows : retRows ex m R ex rows) (hnew : ∀ r row, c.R r = some row → m ≤ r → c.base ≤ c.ρ r) {d p : D} {v : Value} (h : retV ex m R d p) (hr : VRep c w d v) : VRep (c.out ex rows) w p v := by
  cases p with
  | agg ps =>
    simp only [retV] at h
    cases d <;> simp only at h
    obtain ⟨vs, hv, hx⟩ := hr
    exact ⟨vs, hv, retCs_rep hm hR hrows hnew h hx⟩
  | _ =>
    simp only [retV] at h
    simp only [VRep]
    cases d with
    | agg ds => simp only [retC] at h
    | _ => exact retC_rep hm hR hrows hnew h hr
theorem retVs_rep (hm : Mem c w) (hR : ∀ r, c.R r = R.getD r none) (hrows : retRows ex m R ex rows) (hnew : ∀ r row, c.R r = some row → m ≤ r → c.base ≤ c.ρ r) : ∀ {ds ps : List D} {vs : List Value}, retVs ex m R ds ps → VReps c w ds vs → VReps (c.out ex rows) w ps vs
  | [], [], [], _, _ => trivial
  | [], [], _ :: _, _, h => h.elim
  | [], _ :: _, _, h, _ => h.elim
  | _ :: _, [], _, h, _ => h.elim
  | _ :: _, _ :: _, [], _, h => h.elim
  | d :: ds, p :: ps, v :: vs, h, hr => ⟨retV_rep hm hR hrows hnew h.1 hr.1, retVs_rep hm hR hrows hnew h.2 hr.2⟩
theorem retD_rep (hm : Mem c w) (hR : ∀ r, c.R r = R.getD r none) (hrows : retRows ex m R ex rows) (hnew : ∀ r row, c.R r = some row → m ≤ r → c.base ≤ c.ρ r) {d p : D} {v : Value} (h : retD ex m R d p) (hr : Rep c w d v) : Rep (c.out ex rows) w p v := by
  cases p with
  | tup ps =>
    simp only [retD] at h
    cases d <;> simp only at h
    obtain ⟨vs, hv, hx⟩ := hr
    exact ⟨vs, hv, retVs_rep hm hR hrows hnew h hx⟩
  | dead => trivial
  | _ =>
    simp only [retD] at h
    simp only [Rep]
    cases d with
    | tup ds => simp only [retV, retC] at h
    | dead => simp only [retV, retC] at h
    | _ => exact retV_rep hm hR hrows hnew h hr

theorem retCs_cells (hm : Mem c w) (hR : ∀ r, c.R r = R.getD r none) (hrows : retRows ex m R ex rows) (hnew : ∀ r row, c.R r = some row → m ≤ r → c.base ≤ c.ρ r) : ∀ {ds ps : List D} {arr : Array Value} {off : Nat}, retCs ex m R ds ps → CCells c w ds arr off → CCells (c.out ex rows) w ps arr off
  | [], [], _, _, _, _ => trivial
  | [], _ :: _, _, _, h, _ => h.elim
  | _ :: _, [], _, _, h, _ => h.elim
  | d :: ds, p :: ps, arr, off, h, hr => ⟨by obtain ⟨⟨v, hv, hx⟩, _⟩ := hr; exact ⟨v, hv, retC_rep hm hR hrows hnew h.1 hx⟩, retCs_cells hm hR hrows hnew h.2 hr.2⟩
theorem retCs_length : ∀ {ds ps : List D}, retCs ex m R ds ps → ds.length = ps.length
  | [], [], _ => rfl
  | [], _ :: _, h => h.elim
  | _ :: _, [], h => h.elim
  | _ :: _, _ :: _, h => by simp [retCs_length h.2]

theorem out_mem (hm : Mem c w) (hR : ∀ r, c.R r = R.getD r none) (hrows : retRows ex m R ex rows) (hnew : ∀ r row, c.R r = some row → m ≤ r → c.base ≤ c.ρ r) (hnd : ex.Nodup) : Mem (c.out ex rows) w := by
  have himm : ∀ b, c.I b → (c.out ex rows).I b ∧ w.heap[b]? = w.heap[b]? := fun b hb => ⟨.inl hb, rfl⟩
  obtain ⟨hl, hget⟩ := retRows_get hrows
  have inv : ∀ i p, (c.out ex rows).R i = some p → ∃ r row, ex[i]? = some r ∧ c.R r = some row ∧ row.box = p.box ∧ row.ty = p.ty ∧ row.sz = p.sz ∧ (c.out ex rows).ρ i = c.ρ r ∧ (if p.box then ∃ e e', row.es = [e] ∧ p.es = [e'] ∧ retCs ex m R e e' else row.es = p.es) := by
    intro i p hp
    have hp' : rows[i]? = some p := hp
    have hlt := (List.getElem?_eq_some_iff.1 hp').1
    have hi : ex[i]? = some ex[i] := List.getElem?_eq_getElem (by omega)
    obtain ⟨row, g1, g2, g3, g4, g5⟩ := hget i _ p hi hp'
    exact ⟨_, row, hi, by rw [hR]; exact g1, g2, g3, g4, by simp [Ctx.out, hi], g5⟩
  refine ⟨fun i p hp => ?_, fun i j p q hp hq he => ?_, fun b hb => ?_⟩
  · obtain ⟨r, row, g1, g2, g3, g4, g5, g6, g7⟩ := inv i p hp
    obtain ⟨arr, ha, hs, hx⟩ := hm.row r row g2
    refine ⟨arr, by rw [g6, ← g4]; exact ha, by rw [← g5]; exact hs, ?_⟩
    split
    · rename_i hb
      rw [if_pos hb] at g7
      rw [if_pos (g3.trans hb)] at hx
      obtain ⟨e, e', k1, k2, k3⟩ := g7
      obtain ⟨e0, q1, q2, q3, q4⟩ := hx
      rw [k1] at q1; cases q1
      exact ⟨e', k2, by rw [← retCs_length k3, ← g5]; exact q2, by rw [← g5]; exact q3, retCs_cells hm hR hrows hnew k3 q4⟩
    · rename_i hb
      rw [if_neg hb] at g7
      rw [if_neg (by rw [g3]; exact hb)] at hx
      rw [← g7, ← g5]
      exact PElems_mono himm _ _ _ _ hx
  · obtain ⟨r, row, g1, g2, _, _, _, g6, _⟩ := inv i p hp
    obtain ⟨s, row', k1, k2, _, _, _, k6, _⟩ := inv j q hq
    rw [g6, k6] at he
    have : r = s := hm.inj r s _ _ g2 k2 he
    subst this
    exact (List.getElem?_inj (List.getElem?_eq_some_iff.1 g1).1 hnd).1 (g1.trans k1.symm)
  · rcases hb with hb | ⟨r, row, hr, hbx, ho, rfl⟩
    · refine ⟨(hm.imm b hb).1, fun i p hp => ?_⟩
      obtain ⟨r, row, g1, g2, _, _, _, g6, _⟩ := inv i p hp
      rw [g6]
      exact (hm.imm b hb).2 r row g2
    · refine ⟨hm.lt hr, fun i p hp => ?_⟩
      obtain ⟨s, row', g1, g2, _, _, _, g6, _⟩ := inv i p hp
      rw [g6]
      intro e
      have := hm.inj s r _ _ g2 hr e
      subst this
      exact outEx_spec ho (List.mem_of_getElem? g1)
end
end Go.GD

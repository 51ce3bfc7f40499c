/-
  GD: loops.
-/
import Derived.Test.YtcalcaifpolboaaGdDraw
import Derived.LoopN
namespace Go.GD
open Go
set_option linter.unusedVariables false

/-- A temporary's value, in the form that is wanted. -/
def foldD (ex : List Nat) (M : Nat) (R : Rows) (d p : D) : Prop :=
  match p with
  | .dead => True
  | .ptr i o f => match d with | .ptr r o' f' => cand (inEx ex i r) (o' = o ∧ f' = f) | _ => False
  | .iptr sz es i off => match d with | .iptr sz' es' i' off' => sz' = sz ∧ es' = es ∧ i' = i ∧ off' = off | _ => False
  | p => retD ex M R d p
def foldE (ex : List Nat) (M : Nat) (R : Rows) (env : List (Nat × D)) : List (Nat × D) → Prop
  | [] => True
  | (t, p) :: l => foldD ex M R (look env t) p ∧ foldE ex M R env l
def nodupB : List Nat → Bool
  | [] => true
  | x :: l => l.all (fun y => !(Nat.beq x y)) && nodupB l
def natsB : List Nat → List Nat → Bool
  | [], [] => true
  | x :: l, y :: m => Nat.beq x y && natsB l m
  | _, _ => false
def exOK (M : Nat) (ex : List Nat) : Bool := (natsB (ex.take M) (List.range M) && (ex.drop M).all fun r => Nat.ble M r) && nodupB (ex.drop M)
/-- A state, put into the form that is wanted: 'ex': the number that each row of the form had. -/
def fold (M : Nat) (ex : List Nat) (st : St) (env' : List (Nat × D)) (rows' : List Row) : Prop :=
  cand (exOK M ex) (foldE ex M st.rows st.env env' ∧ retRows ex M st.rows ex rows')

theorem nodupB_ok : ∀ {l : List Nat}, nodupB l = true → l.Nodup
  | [], _ => List.nodup_nil
  | x :: l, h => by
    simp only [nodupB, Bool.and_eq_true] at h
    refine List.nodup_cons.2 ⟨fun hm => ?_, nodupB_ok h.2⟩
    have := List.all_eq_true.1 h.1 x hm
    simp at this
theorem natsB_ok : ∀ {l m : List Nat}, natsB l m = true → l = m
  | [], [], _ => rfl
  | x :: l, y :: m, h => by
    simp only [natsB, Bool.and_eq_true] at h
    rw [Nat.eq_of_beq_eq_true h.1, natsB_ok h.2]
  | [], _ :: _, h => by cases h
  | _ :: _, [], h => by cases h
theorem exOK_ok {M : Nat} {ex : List Nat} (h : exOK M ex = true) : ex.Nodup ∧ (∀ i, i < M → ex[i]? = some i) ∧ ∀ i r, ex[i]? = some r → (i = r ∧ i < M) ∨ M ≤ r := by
  unfold exOK at h
  simp only [Bool.and_eq_true] at h
  obtain ⟨⟨h1, h2⟩, h3⟩ := h
  replace h1 := natsB_ok h1
  replace h2 : ∀ r ∈ ex.drop M, M ≤ r := fun r hr => Nat.le_of_ble_eq_true (List.all_eq_true.1 h2 r hr)
  replace h3 := nodupB_ok h3
  have he : ex = List.range M ++ ex.drop M := by rw [← h1, List.take_append_drop]
  generalize hq : ex.drop M = q at he h2 h3
  subst he
  refine ⟨?_, fun i hi => by rw [List.getElem?_append_left (by simpa using hi)]; simp [hi], fun i r hr => ?_⟩
  · rw [List.nodup_append]
    exact ⟨List.nodup_range, h3, fun x hx y hy => by simp at hx; have := h2 y hy; omega⟩
  · by_cases hlt : i < M
    · rw [List.getElem?_append_left (by simpa using hlt)] at hr
      simp [hlt] at hr
      exact .inl ⟨hr, hlt⟩
    · rw [List.getElem?_append_right (by simpa using hlt)] at hr
      exact .inr (h2 r (List.mem_of_getElem? hr))

theorem foldD_rep {c : Ctx} {w : World} {ex : List Nat} {m : Nat} {R : Rows} {rows : List Row} (hm : Mem c w) (hR : ∀ r, c.R r = R.getD r none) (hrows : retRows ex m R ex rows) (hnew : ∀ r row, c.R r = some row → m ≤ r → c.base ≤ c.ρ r) {d p : D} {v : Value} (h : foldD ex m R d p) (hr : Rep c w d v) : Rep (c.out ex rows) w p v := by
  have himm : ∀ b, c.I b → (c.out ex rows).I b ∧ w.heap[b]? = w.heap[b]? := fun b hb => ⟨.inl hb, rfl⟩
  cases p with
  | dead => trivial
  | ptr i o f =>
    simp only [foldD] at h
    split at h
    · rename_i r o' f'
      simp only [cand_iff] at h
      obtain ⟨hx, rfl, rfl⟩ := h
      obtain ⟨row, g1, g2, hv⟩ := hr
      have hi := inEx_spec hx
      obtain ⟨hl, hget⟩ := retRows_get hrows
      have hlt := (List.getElem?_eq_some_iff.1 hi).1
      have hp : rows[i]? = some rows[i] := List.getElem?_eq_getElem (by omega)
      obtain ⟨row', k1, k2, k3, k4, k5⟩ := hget i r _ hi hp
      have : row' = row := by rw [hR, k1] at g1; exact Option.some.inj g1
      subst this
      refine ⟨_, hp, ?_, by simp only [Ctx.out, hi]; rw [hv, k4]⟩
      split at k5
      · obtain ⟨e, e', q1, q2, _⟩ := k5
        rw [q1] at g2; rw [q2]; simpa using g2
      · rw [← k5]; exact g2
    · exact h.elim
  | iptr sz es i off =>
    simp only [foldD] at h
    split at h
    · obtain ⟨rfl, rfl, rfl, rfl⟩ := h
      obtain ⟨b, o, arr, ty, fz, h1, h2, h3, h4, h5⟩ := hr
      exact ⟨b, o, arr, ty, fz, h1, .inl h2, h3, h4, PElems_mono himm _ _ _ _ h5⟩
    · exact h.elim
  | _ =>
    simp only [foldD] at h
    exact retD_rep hm hR hrows hnew h hr

theorem foldE_rep {c : Ctx} {w : World} {ex : List Nat} {m : Nat} {R : Rows} {rows : List Row} (hm : Mem c w) (hR : ∀ r, c.R r = R.getD r none) (hrows : retRows ex m R ex rows) (hnew : ∀ r row, c.R r = some row → m ≤ r → c.base ≤ c.ρ r) {env : List (Nat × D)} {a : Act} (he : ∀ t, Rep c w (look env t) (a.tmps.getD t undef)) :
    ∀ {env' : List (Nat × D)}, foldE ex m R env env' → ∀ t, Rep (c.out ex rows) w (look env' t) (a.tmps.getD t undef)
  | [], _, t => trivial
  | (u, p) :: l, h, t => by
    have := foldE_rep hm hR hrows hnew he h.2 t
    rw [look_put]
    split
    · rename_i e
      subst e
      exact foldD_rep hm hR hrows hnew h.1 (he u)
    · exact this

theorem fold_ok {N M : Nat} {c0 : Ctx} {w0 : World} {c : Ctx} {w : World} {st : St} {a : Act} (hs : SimS N M c0 w0 c w st a) {ex : List Nat} {env' : List (Nat × D)} {rows' : List Row} (h : fold M ex st env' rows') : ∃ c', SimS N M c0 w0 c' w ⟨env', rows'.map some⟩ a := by
  unfold fold at h
  simp only [cand_iff] at h
  obtain ⟨hex, hE, hrows⟩ := h
  obtain ⟨hnd, hid, hinv⟩ := exOK_ok hex
  obtain ⟨hl, hget⟩ := retRows_get hrows
  have hb1 : c.base = c0.base := hs.reach.grows.base
  have hnewS : ∀ r row, c.R r = some row → M ≤ r → w0.heap.size ≤ c.ρ r := fun r row h1 h2 => by
    rcases hs.reach.rho r row h1 with ⟨⟨x, hx⟩, _⟩ | h3
    · have := hs.own0 r x hx; omega
    · exact h3
  have hnew : ∀ r row, c.R r = some row → M ≤ r → c.base ≤ c.ρ r := fun r row h1 h2 => by
    have := hnewS r row h1 h2
    have := hs.base0
    omega
  refine ⟨c.out ex rows', out_mem hs.mem hs.rows hrows hnew hnd, fun r => ?_, foldE_rep hs.mem hs.rows hrows hnew hs.env hE, hs.size, hs.defers, hs.base0, hs.own0, ⟨hs.reach.grows.base, fun b hbI => ?_, fun r row hr => ?_⟩, hs.reach.fr, fun b hbI => ?_, fun i p hp => ?_⟩
  · simp only [Ctx.out, List.getD, List.getElem?_map]
    cases rows'[r]? <;> rfl
  · obtain ⟨h1, h2⟩ := hs.reach.grows.I b hbI
    exact ⟨.inl h1, h2⟩
  · have hlt : r < M := hs.own0 r row hr
    obtain ⟨row1, g1, g2, g3, g4, g5, g6, g7⟩ := hs.reach.grows.R r row hr
    have hi := hid r hlt
    have hlt' := (List.getElem?_eq_some_iff.1 hi).1
    have hp : rows'[r]? = some rows'[r] := List.getElem?_eq_getElem (by omega)
    obtain ⟨row2, k1, k2, k3, k4, k5⟩ := hget r r _ hi hp
    have : row2 = row1 := by rw [hs.rows, k1] at g1; exact Option.some.inj g1
    subst this
    refine ⟨_, hp, k2.symm.trans g2, k3.symm.trans g3, k4.symm.trans g4, ?_, by simp [Ctx.out, hi, g6], g7⟩
    rw [← g5]
    split at k5
    · obtain ⟨e, e', q1, q2, _⟩ := k5
      rw [q1, q2]; rfl
    · rw [k5]
  · rcases hbI with h1 | ⟨r, row, hr, hbx, ho, rfl⟩
    · exact hs.reach.imm b h1
    · right
      have : M ≤ r := by
        by_cases hlt : r < M
        · exact (outEx_spec ho (List.mem_of_getElem? (hid r hlt))).elim
        · omega
      exact hnewS r row hr this
  · have hp' : rows'[i]? = some p := hp
    have hlt := (List.getElem?_eq_some_iff.1 hp').1
    have hi : ex[i]? = some ex[i] := List.getElem?_eq_getElem (by omega)
    obtain ⟨row2, k1, k2, k3, k4, k5⟩ := hget i _ _ hi hp'
    have hlive : c.R ex[i] = some row2 := by rw [hs.rows]; exact k1
    simp only [Ctx.out, hi]
    rcases hinv i _ hi with ⟨h1, h2⟩ | h1
    · rcases hs.reach.rho _ _ hlive with ⟨h3, h4⟩ | h3
      · left
        rw [← h1] at h3
        refine ⟨h3, h4.trans ?_⟩
        rw [← h1]
      · exact .inr h3
    · exact .inr (hnewS _ _ hlive h1)

theorem Tr.mono {P : Program} {N M : Nat} {code : Code} {st : St} {Q Q' : Ex → St → Prop} (hq : ∀ e st, Q e st → Q' e st) (h : Tr P N M code st Q) : Tr P N M code st Q' :=
  fun c0 w0 c w a hs => wp_mono (h c0 w0 c w a hs) fun e a' w' ⟨ex, st', c', h1, h2, h3⟩ => ⟨ex, st', c', h1, hq _ _ h2, h3⟩

/-- **A loop.** 'F': the state at each round's head; 'μ' falls. -/
theorem loop_ok {P : Program} {N M : Nat} {code : Code} {st : St} {Q : Ex → St → Prop} {α : Type} (F : α → List (Nat × D) × List Row) (Pre : α → Prop) (μ : α → Nat)
    (a0 : α) (ex0 : List Nat) (hp : Pre a0) (h0 : fold M ex0 st (F a0).1 (F a0).2)
    (round : ∀ a, Pre a → Tr P N M code ⟨(F a).1, (F a).2.map some⟩ fun e st' => match e with
      | .normal => ∃ b ex, Pre b ∧ μ b < μ a ∧ fold M ex st' (F b).1 (F b).2
      | .exit i => Q (.exit i) st'
      | .ret => Q .ret st') : Tr P N M (.loop code) st Q := by
  intro c0 w0 c w a hs
  have key : ∀ (n : Nat) (x : α), Pre x → μ x < n → ∀ (c : Ctx) (w : World) (a : Act), SimS N M c0 w0 c w ⟨(F x).1, (F x).2.map some⟩ a →
      Code.rounds P code (fun e a' w' => ∃ ex st' c', exOf e = some ex ∧ Q ex st' ∧ SimS N M c0 w0 c' w' st' a') n a w := by
    intro n
    induction n with
    | zero => intro x _ h; omega
    | succ n ih =>
      intro x hx hlt c w a hs
      rw [rounds_succ]
      refine wp_mono (round x hx c0 w0 c w a hs) fun e a' w' hq => ?_
      obtain ⟨ex, st', c', he, hq, hs'⟩ := hq
      cases e <;> simp only [exOf, Option.some.injEq, reduceCtorEq] at he
      · subst he
        obtain ⟨b, ex, h1, h2, h3⟩ := hq
        obtain ⟨c'', hs''⟩ := fold_ok hs' h3
        exact ih b h1 (by omega) c'' w' a' hs''
      · subst he; exact ⟨_, st', c', rfl, hq, hs'⟩
      · subst he; exact ⟨_, st', c', rfl, hq, hs'⟩
  obtain ⟨c', hs'⟩ := fold_ok hs h0
  exact wp_loop_rounds _ (key (μ a0 + 1) a0 hp (by omega) c' w a hs')

/-- A state may be put into another form at any time. -/
theorem fold_tr {P : Program} {N M : Nat} {code : Code} {st : St} {Q : Ex → St → Prop} {ex : List Nat} {env' : List (Nat × D)} {rows' : List Row} (h : fold M ex st env' rows') (ht : Tr P N M code ⟨env', rows'.map some⟩ Q) : Tr P N M code st Q := by
  intro c0 w0 c w a hs
  obtain ⟨c', hs'⟩ := fold_ok hs h
  exact ht c0 w0 c' w a hs'
end Go.GD

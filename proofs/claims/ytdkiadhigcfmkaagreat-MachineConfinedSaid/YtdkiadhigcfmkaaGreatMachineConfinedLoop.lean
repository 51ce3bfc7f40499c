/-
  GD: loops.
-/
import Derived.Test.YtdkiadhigcfmkaaGreatMachineConfinedDraw
import Derived.LoopN
namespace Go.GD
open Go
set_option linter.unusedVariables false
set_option linter.unusedSimpArgs false
def foldD (ex : List Nat) (M : Nat) (R : Rows) (d p : D) : Prop :=
  match p with
  | .dead => True
  | .ptr i o f => match d with | .ptr r o' f' => cand (inEx ex i r) (o' = o ∧ f' = f) | _ => False
  | .iptr sz es i off => match d with | .iptr sz' es' i' off' => sz' = sz ∧ Els.Eq es' es ∧ i' = i ∧ off' = off | _ => False
  | p => retD ex M R d p
def foldE (ex : List Nat) (M : Nat) (R : Rows) (env : List (Nat × D)) : List (Nat × D) → Prop
  | [] => True
  | (t, p) :: l => foldD ex M R (look env t) p ∧ foldE ex M R env l
def fold (M : Nat) (ex : List Nat) (st : St) (env' : List (Nat × D)) (rows' : List Row) : Prop :=
  cand (exOK M ex) (foldE ex M st.rows st.env env' ∧ retRows ex M st.rows ex rows')
theorem foldD_rep {c : Ctx} {w : World} {ex : List Nat} {m : Nat} {R : Rows} {rows : List Row} (hm : Mem c w) (hR : ∀ r, c.R r = R.getD r none) (hrows : retRows ex m R ex rows) (hnew : ∀ r row, c.R r = some row → ¬ c.V r → m ≤ r → c.base ≤ c.ρ r) {d p : D} {v : Value} (h : foldD ex m R d p) (hr : Rep c w d v) : Rep (c.out ex rows) w p v := by
  have himm : ∀ b, c.I b → (c.out ex rows).I b ∧ w.heap[b]? = w.heap[b]? := fun b hb => ⟨.inl hb, rfl⟩
  cases p with
  | dead => trivial
  | ptr i o f =>
    simp only [foldD] at h
    split at h
    · rename_i r o' f'
      simp only [cand_iff] at h
      obtain ⟨hx, rfl, rfl⟩ := h
      obtain ⟨row, g1, gV, g2, hv⟩ := hr
      have hi := inEx_spec hx
      obtain ⟨hl, hget⟩ := retRows_get hrows
      have hlt := (List.getElem?_eq_some_iff.1 hi).1
      have hp : rows[i]? = some rows[i] := List.getElem?_eq_getElem (by omega)
      rcases hget i r _ hi hp with ⟨row', k1, k2, k3, k4, k5⟩ | ⟨k1, _⟩
      · have : row' = row := by rw [hR, k1] at g1; exact Option.some.inj g1
        subst this
        refine ⟨_, hp, by simp [Ctx.out, hi, g1, gV], ?_, by simp only [Ctx.out, hi]; rw [hv, k4]⟩
        split at k5
        · obtain ⟨e, e', q1, q2, _⟩ := k5
          rw [q1] at g2; rw [q2]; exact g2
        · rw [← k5]; exact g2
      · rw [hR, k1] at g1; cases g1
    · exact h.elim
  | iptr sz es i off =>
    simp only [foldD] at h
    split at h
    · obtain ⟨rfl, he, rfl, rfl⟩ := h
      have he := Els.Eq_l he
      obtain ⟨b, o, arr, ty, fz, h1, h2, h3, h4, h5⟩ := hr
      rw [he] at h3 h5
      exact ⟨b, o, arr, ty, fz, h1, .inl h2, h3, h4, PElems_mono himm _ _ _ _ h5⟩
    · exact h.elim
  | _ =>
    simp only [foldD] at h
    exact retD_rep hm hR hrows hnew h hr
theorem foldE_rep {c : Ctx} {w : World} {ex : List Nat} {m : Nat} {R : Rows} {rows : List Row} (hm : Mem c w) (hR : ∀ r, c.R r = R.getD r none) (hrows : retRows ex m R ex rows) (hnew : ∀ r row, c.R r = some row → ¬ c.V r → m ≤ r → c.base ≤ c.ρ r) {env : List (Nat × D)} {a : Act} (he : ∀ t, Rep c w (look env t) (a.tmps.getD t undef)) :
    ∀ {env' : List (Nat × D)}, foldE ex m R env env' → ∀ t, Rep (c.out ex rows) w (look env' t) (a.tmps.getD t undef)
  | [], _, t => trivial
  | (u, p) :: l, h, t => by
    have := foldE_rep hm hR hrows hnew he h.2 t
    rw [look_put]
    split
    · rename_i e
      subst e
      exact foldD_rep hm hR hrows hnew h.1 (he u)
    · exact this
theorem fold_ok {N M : Nat} {c0 : Ctx} {w0 : World} {c : Ctx} {w : World} {st : St} {a : Act} (hs : SimS N M c0 w0 c w st a) {ex : List Nat} {env' : List (Nat × D)} {rows' : List Row} (h : fold M ex st env' rows') : ∃ c', SimS N M c0 w0 c' w ⟨env', rows'.map some⟩ a := by
  unfold fold at h
  simp only [cand_iff] at h
  obtain ⟨hex, hE, hrows⟩ := h
  obtain ⟨hnew, hmem, hreach⟩ := out_ok hs hex hrows
  refine ⟨c.out ex rows', hmem, fun r => ?_, foldE_rep hs.mem hs.rows hrows hnew hs.env hE, hs.size, hs.defers, hs.base0, hs.own0, hreach⟩
  simp only [Ctx.out, List.getD, List.getElem?_map]
  cases rows'[r]? <;> rfl
theorem Tr.mono {P : Program} {N M : Nat} {code : Code} {st : St} {Q Q' : Ex → St → Prop} (hq : ∀ e st, Q e st → Q' e st) (h : Tr P N M code st Q) : Tr P N M code st Q' :=
  fun c0 w0 c w a hs => wp_mono (h c0 w0 c w a hs) fun e a' w' ⟨ex, st', c', h1, h2, h3⟩ => ⟨ex, st', c', h1, hq _ _ h2, h3⟩
theorem loop_ok {P : Program} {N M : Nat} {code : Code} {st : St} {Q : Ex → St → Prop} {α : Type} (F : α → List (Nat × D) × List Row) (Pre : α → Prop) (μ : α → Nat)
    (a0 : α) (ex0 : List Nat) (hp : Pre a0) (h0 : fold M ex0 st (F a0).1 (F a0).2)
    (round : ∀ a, Pre a → Tr P N M code ⟨(F a).1, (F a).2.map some⟩ fun e st' => match e with
      | .normal => ∃ b ex, Pre b ∧ μ b < μ a ∧ fold M ex st' (F b).1 (F b).2
      | .exit i => Q (.exit i) st'
      | .ret => Q .ret st') : Tr P N M (.loop code) st Q := by
  intro c0 w0 c w a hs
  have key : ∀ (n : Nat) (x : α), Pre x → μ x < n → ∀ (c : Ctx) (w : World) (a : Act), SimS N M c0 w0 c w ⟨(F x).1, (F x).2.map some⟩ a →
      Code.rounds P code (fun e a' w' => ∃ ex st' c', exOf e = some ex ∧ Q ex st' ∧ SimS N M c0 w0 c' w' st' a') n a w := by
    intro n
    induction n with
    | zero => intro x _ h; omega
    | succ n ih =>
      intro x hx hlt c w a hs
      rw [rounds_succ]
      refine wp_mono (round x hx c0 w0 c w a hs) fun e a' w' hq => ?_
      obtain ⟨ex, st', c', he, hq, hs'⟩ := hq
      cases e <;> simp only [exOf, Option.some.injEq, reduceCtorEq] at he
      · subst he
        obtain ⟨b, ex, h1, h2, h3⟩ := hq
        obtain ⟨c'', hs''⟩ := fold_ok hs' h3
        exact ih b h1 (by omega) c'' w' a' hs''
      · subst he; exact ⟨_, st', c', rfl, hq, hs'⟩
      · subst he; exact ⟨_, st', c', rfl, hq, hs'⟩
  obtain ⟨c', hs'⟩ := fold_ok hs h0
  exact wp_loop_rounds _ (key (μ a0 + 1) a0 hp (by omega) c' w a hs')
end Go.GD

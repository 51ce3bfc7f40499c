/-
  GD: a function's call, out of its condition.
-/
import Derived.Test.YtcalcaifpolboaaGdFn
namespace Go.GD
open Go
set_option linter.unusedVariables false

theorem VRep.toRep {c : Ctx} {w : World} {d : D} {v : Value} (h : VRep c w d v) : Rep c w d v := by
  cases d <;> first | exact h | trivial | exact h.elim
theorem Rep.toVRep {c : Ctx} {w : World} {d : D} {v : Value} (hv : d.isVal = true) (h : Rep c w d v) : VRep c w d v := by
  cases d <;> first | exact h | (simp [D.isVal] at hv)

theorem VReps.length {c : Ctx} {w : World} : ∀ {ds : List D} {vs : List Value}, VReps c w ds vs → ds.length = vs.length
  | [], [], _ => rfl
  | _ :: _, _ :: _, h => by simp [VReps.length h.2]
  | [], _ :: _, h => h.elim
  | _ :: _, [], h => h.elim

theorem look_argEnv : ∀ {ds : List D} {i t : Nat}, (∃ j, t = i + j ∧ j < ds.length ∧ look (argEnv ds i) t = ds.getD j .dead) ∨ look (argEnv ds i) t = .dead
  | [], i, t => .inr rfl
  | d :: ds, i, t => by
    simp only [argEnv, look_put]
    by_cases e : i = t
    · left; exact ⟨0, by omega, by simp, by rw [if_pos e]; rfl⟩
    · rw [if_neg e]
      rcases look_argEnv (ds := ds) (i := i + 1) (t := t) with ⟨j, h1, h2, h3⟩ | h
      · left; exact ⟨j + 1, by omega, by simpa using h2, by simpa using h3⟩
      · right; exact h

theorem args_rep {c : Ctx} {w : World} {ds : List D} {vs : List Value} (h : VReps c w ds vs) (n : Nat) (t : Nat) : Rep c w (look (argEnv ds 0) t) ((vs.toArray ++ Array.replicate n undef).getD t undef) := by
  rcases look_argEnv (ds := ds) (i := 0) (t := t) with ⟨j, h1, h2, h3⟩ | h1
  · obtain ⟨v, hv, hr⟩ := VReps_get h j h2
    rw [h3]
    have : t = j := by omega
    subst this
    have hx : (vs.toArray ++ Array.replicate n undef).getD t undef = v := by
      have hlt := (List.getElem?_eq_some_iff.1 hv).1
      have hvv := (List.getElem?_eq_some_iff.1 hv).2
      simp [Array.getElem?_append, hlt, hvv]
    rw [hx]
    exact hr.toRep
  · rw [h1]; trivial

theorem loadVC_ptr {T : Tab} {t : TypeId} {x : D} {R : Rows} {K : D → Rows → Prop} (h : loadVC T t x R K) {c : Ctx} {w : World} {v : Value} (hr : Rep c w x v) : ∃ a, v = .pointer (some a) := by
  unfold loadVC at h
  split at h
  · exact h.elim
  · cases x <;> simp only at h
    case ptr r i off => obtain ⟨_, _, _, hv⟩ := hr; exact ⟨_, hv⟩
    case pa r i off len k n => obtain ⟨_, _, _, _, hv⟩ := hr; exact ⟨_, hv⟩
    case iptr sz es i off => obtain ⟨_, _, _, _, _, hv, _⟩ := hr; exact ⟨_, hv⟩

def resOne (tmps : Array Value) : ResultVar → Sem Value
  | .tmp t => pure (tmps.getD t undef)
  | .cell a t => do loadVar t (← asAddr (tmps.getD a undef))

theorem resVC_ok {P : Program} {T : Tab} (hT : TabOK P T) {R : Rows} {env : List (Nat × D)} : ∀ {l : List ResultVar} {K : List D → Prop}, resVC T R env l K →
    ∃ ds, K ds ∧ ∀ c w (tmps : Array Value), Mem c w → AgreeR c R → (∀ t, Rep c w (look env t) (tmps.getD t undef)) → ∃ vs, (l.mapM (resOne tmps)).run P w = .ok vs w ∧ VReps c w ds vs
  | [], K, h => ⟨[], h, fun c w tmps _ _ _ => ⟨[], rfl, trivial⟩⟩
  | .tmp t :: l, K, h => by
    simp only [resVC, D.force_iff, cand_iff] at h
    obtain ⟨hv, h⟩ := h
    obtain ⟨ds, hK, hr⟩ := resVC_ok hT h
    refine ⟨_, hK, fun c w tmps hm hA he => ?_⟩
    obtain ⟨vs, h1, h2⟩ := hr c w tmps hm hA he
    refine ⟨tmps.getD t undef :: vs, ?_, (he t).toVRep hv, h2⟩
    simp only [List.mapM_cons, Sem.run_bind, resOne, Sem.run_pure, Result.andThen_ok, h1]
  | .cell a t :: l, K, h => by
    simp only [resVC] at h
    obtain ⟨val, hK0, hld⟩ := loadVC_ok hT h
    simp only [cand_iff] at hK0
    obtain ⟨hv, hK0⟩ := hK0
    obtain ⟨ds, hK, hr⟩ := resVC_ok hT hK0
    refine ⟨_, hK, fun c w tmps hm hA he => ?_⟩
    obtain ⟨vs, h1, h2⟩ := hr c w tmps hm hA he
    obtain ⟨u, hu, hx⟩ := hld c w _ hm hA (he a)
    obtain ⟨ad, had⟩ := loadVC_ptr h (he a)
    rw [had, run_loadAt] at hu
    refine ⟨u :: vs, ?_, hx.toVRep hv, h2⟩
    simp only [List.mapM_cons, Sem.run_bind, resOne, had, asAddr, Sem.run_pure, Result.andThen_ok, hu, h1]

/-- The one result, or the tuple of all. -/
def oneOr : List Value → Value
  | [v] => v
  | vs => .tuple vs.toArray

theorem results_run {P : Program} {fn : Func} {tmps : Array Value} {w : World} {vs : List Value} (h : (fn.results.toList.mapM (resOne tmps)).run P w = .ok vs w) : (results fn tmps).run P w = .ok (oneOr vs) w := by
  have h2 : (fn.results.mapM (resOne tmps)).run P w = .ok vs.toArray w := by
    rw [← Array.toArray_toList (xs := fn.results), List.mapM_toArray]
    simp only [Sem.run_map, h, Result.andThen_ok]
  have h3 : (results fn tmps) = (fn.results.mapM (resOne tmps)) >>= fun vs => pure (if h : vs.size = 1 then vs[0] else .tuple vs) := by
    unfold results
    congr 1
  rw [h3, Sem.run_bind, h2]
  simp only [Result.andThen_ok, Sem.run_pure]
  congr 1
  match vs with
  | [] => rfl
  | [v] => rfl
  | _ :: _ :: _ => rfl

theorem exsOf_cases (m : Nat) (d p : D) : exsOf m d p = List.range m ∨ ∃ r, exsOf m d p = List.range m ++ [r] := by
  unfold exsOf
  cases p <;> try exact .inl rfl
  cases d <;> try exact .inl rfl
  simp only
  split
  · exact .inr ⟨_, rfl⟩
  · exact .inl rfl

/-- **A function's call comes to what its condition promises.** -/
theorem fn_ok {P : Program} (hD : DrawOK P) {T : Tab} (hT : TabOK P T) {G : List Model} (hG : AllOK P G) {f : FuncId} {fn : Func} (hf : P.funcs[f]? = some fn) {args : List D} {rows : List Row} {res : D} {rows' : List Row}
    {L : Code → St → (Ex → St → Prop) → Prop} (hL : ∀ code st Q, L code st Q → Tr P fn.ntmps rows.length code st Q) (h : fnVC T G L fn args rows (retAll rows.length res rows')) : ACalls P f args rows res rows' := by
  intro c w vs hm hbase hR hargs
  unfold fnVC at h
  split at h
  · rename_i code hb
    have hs : SimS fn.ntmps rows.length c w c w ⟨argEnv args 0, rows.map some⟩ { tmps := vs.toArray ++ Array.replicate (fn.ntmps - vs.toArray.size) undef, defers := [] } :=
      ⟨hm, fun r => by
        rw [hR]
        simp only [List.getD, List.getElem?_map]
        cases rows[r]? <;> rfl, fun t => args_rep hargs _ t, by simp; omega, rfl, by omega, fun r row h => by rw [hR] at h; exact (List.getElem?_eq_some_iff.1 h).1, Reach.refl c w⟩
    refine calls_of_wp hf hb (wp_mono (codeVC_ok hD hT hG hL code _ _ h c w c w _ hs) fun e a' w' hq => ?_)
    obtain ⟨ex, st, c1, he, hq, hs1⟩ := hq
    have fin : (resVC T st.rows st.env fn.results.toList fun ds => match ds with | [d] => retAll rows.length res rows' d st.rows | ds => retAll rows.length res rows' (.tup ds) st.rows) →
        a'.defers = [] ∧ ∃ v, (results fn a'.tmps).run P w' = .ok v w' ∧ ∃ v' c', Ending.returned v = .returned v' ∧ NxtW c w c' w' ∧ (∀ r, c'.R r = rows'[r]?) ∧ Rep c' w' res v' := by
      intro hres
      refine ⟨hs1.defers, ?_⟩
      obtain ⟨ds, hK, hr⟩ := resVC_ok hT hres
      have hAg : AgreeR c1 st.rows := fun r row row' h1 h2 => by rw [hs1.rows, h2] at h1; exact (Option.some.inj h1).symm
      obtain ⟨us, hrun, hreps⟩ := hr c1 w' a'.tmps hs1.mem hAg hs1.env
      have hrun' := results_run hrun
      -- the one result, or the tuple
      obtain ⟨d, v, hret, hv, hrep⟩ : ∃ d v, retAll rows.length res rows' d st.rows ∧ oneOr us = v ∧ Rep c1 w' d v := by
        match ds, us, hreps with
        | [d], [u], hx => exact ⟨d, u, hK, rfl, hx.1.toRep⟩
        | [], [], hx => exact ⟨.tup [], _, hK, rfl, [], rfl, trivial⟩
        | d :: e :: ds, u :: v :: us, hx => exact ⟨.tup (d :: e :: ds), _, hK, rfl, _, rfl, hx⟩
        | [], _ :: _, hx => exact hx.elim
        | [_], [], hx => exact hx.elim
        | [_], _ :: _ :: _, hx => exact hx.2.elim
        | _ :: _ :: _, [], hx => exact hx.elim
        | _ :: _ :: _, [_], hx => exact hx.2.elim
      rw [hv] at hrun'
      refine ⟨v, hrun', v, c1.out (exsOf rows.length d res) rows', rfl, ?_, fun r => rfl, ?_⟩
      all_goals
        simp only [retAll, cand_iff] at hret
        obtain ⟨hok, hd, hrows⟩ := hret
        have hb1 : c1.base = w.heap.size := hs1.reach.grows.base.trans hbase
        have hnew : ∀ r row, c1.R r = some row → rows.length ≤ r → c1.base ≤ c1.ρ r := fun r row h1 h2 => by
          rcases hs1.reach.rho r row h1 with ⟨⟨x, hx⟩, _⟩ | h3
          · rw [hR, List.getElem?_eq_none h2] at hx; cases hx
          · omega
      · have hex : (exsOf rows.length d res).Nodup ∧ (∀ i, i < rows.length → (exsOf rows.length d res)[i]? = some i) ∧ ∀ i r, (exsOf rows.length d res)[i]? = some r → (i = r ∧ i < rows.length) ∨ rows.length ≤ r := by
          rcases exsOf_cases rows.length d res with e | ⟨r, e⟩
          · rw [e]
            refine ⟨List.nodup_range, fun i hi => by simp [hi], fun i r hi => .inl ?_⟩
            have := (List.getElem?_eq_some_iff.1 hi)
            obtain ⟨h1, h2⟩ := this
            simp at h1 h2; exact ⟨h2, h1⟩
          · rw [e] at hok ⊢
            have hmr : rows.length ≤ r := by
              simp only [okEx, List.drop_left' (List.length_range)] at hok
              exact Nat.le_of_ble_eq_true hok
            refine ⟨?_, fun i hi => by rw [List.getElem?_append_left (by simpa using hi)]; simp [hi], fun i s hi => ?_⟩
            · rw [List.nodup_append]
              exact ⟨List.nodup_range, by simp, fun x hx y hy => by simp at hx hy; omega⟩
            · by_cases hlt : i < rows.length
              · rw [List.getElem?_append_left (by simpa using hlt)] at hi
                simp [hlt] at hi
                exact .inl ⟨hi, hlt⟩
              · rw [List.getElem?_append_right (by simpa using hlt)] at hi
                simp at hi
                right
                have := (List.getElem?_eq_some_iff.1 hi)
                obtain ⟨h1, h2⟩ := this
                simp at h2; omega
        obtain ⟨hnd, hid, hinv⟩ := hex
        obtain ⟨hl, hget⟩ := retRows_get hrows
        refine ⟨out_mem hs1.mem hs1.rows hrows hnew hnd, ⟨hs1.reach.grows.base, fun b hbI => ?_, fun r row hr => ?_⟩, hs1.reach.fr, fun b hbI => ?_, fun i p hp => ?_⟩
        · obtain ⟨h1, h2⟩ := hs1.reach.grows.I b hbI
          exact ⟨.inl h1, h2⟩
        · have hlt : r < rows.length := by
            rw [hR] at hr; exact (List.getElem?_eq_some_iff.1 hr).1
          obtain ⟨row1, g1, g2, g3, g4, g5, g6, g7⟩ := hs1.reach.grows.R r row hr
          have hi := hid r hlt
          have hlt' := (List.getElem?_eq_some_iff.1 hi).1
          have hp : rows'[r]? = some rows'[r] := List.getElem?_eq_getElem (by omega)
          obtain ⟨row2, k1, k2, k3, k4, k5⟩ := hget r r _ hi hp
          have : row2 = row1 := by rw [hs1.rows, k1] at g1; exact Option.some.inj g1
          subst this
          refine ⟨_, hp, k2.symm.trans g2, k3.symm.trans g3, k4.symm.trans g4, ?_, by simp [Ctx.out, hi, g6], g7⟩
          rw [← g5]
          split at k5
          · obtain ⟨e, e', q1, q2, _⟩ := k5
            rw [q1, q2]; rfl
          · rw [k5]
        · rcases hbI with h1 | ⟨r, row, hr, hbx, ho, rfl⟩
          · exact hs1.reach.imm b h1
          · right
            have : rows.length ≤ r := by
              by_cases hlt : r < rows.length
              · exact (outEx_spec ho (List.mem_of_getElem? (hid r hlt))).elim
              · omega
            have := hnew r row hr this
            omega
        · have hp' : rows'[i]? = some p := hp
          have hlt := (List.getElem?_eq_some_iff.1 hp').1
          have hi : (exsOf rows.length d res)[i]? = some (exsOf rows.length d res)[i] := List.getElem?_eq_getElem (by omega)
          obtain ⟨row2, k1, k2, k3, k4, k5⟩ := hget i _ _ hi hp'
          have hlive : c1.R (exsOf rows.length d res)[i] = some row2 := by rw [hs1.rows]; exact k1
          rcases hinv i _ hi with ⟨h1, h2⟩ | h1
          · left
            have hx : c.R i = some rows[i] := by rw [hR]; exact List.getElem?_eq_getElem h2
            refine ⟨⟨_, hx⟩, ?_⟩
            obtain ⟨row1, g1, g2, g3, g4, g5, g6, g7⟩ := hs1.reach.grows.R i _ hx
            simp only [Ctx.out, hi]
            rw [← h1]; exact g6
          · right
            have := hnew _ _ hlive h1
            simp only [Ctx.out, hi]
            omega
      · exact retD_rep hs1.mem hs1.rows hrows hnew hd hrep
    cases e <;> simp only [exOf, Option.some.injEq, reduceCtorEq] at he
    · subst he; exact fin hq
    · subst he; exact hq.elim
    · subst he; exact fin hq
  · exact h.elim
end Go.GD

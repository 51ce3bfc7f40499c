/-
  GD: code and functions.
-/
import Derived.Test.YtcalcaifpolboaaGdCode
namespace Go.GD
open Go
set_option linter.unusedVariables false

/-- How memory has turned since the call began. -/
structure Reach (c0 : Ctx) (w0 : World) (c : Ctx) (w : World) : Prop where
  grows : Grows c0 w0 c w
  fr : Fr (fun b => ∃ r x, c0.R r = some x ∧ c0.ρ r = b) w0 w
  imm : ∀ b, c.I b → c0.I b ∨ w0.heap.size ≤ b
  rho : ∀ r row, c.R r = some row → ((∃ x, c0.R r = some x) ∧ c.ρ r = c0.ρ r) ∨ w0.heap.size ≤ c.ρ r

theorem Reach.refl (c : Ctx) (w : World) : Reach c w c w := ⟨Grows.refl c w, Fr.refl _ w, fun _ h => .inl h, fun _ row h => .inl ⟨⟨row, h⟩, rfl⟩⟩

theorem Reach.step {c0 c c' : Ctx} {w0 w w' : World} (h : Reach c0 w0 c w) (n : NxtW c w c' w') : Reach c0 w0 c' w' := by
  refine ⟨h.grows.trans n.grows, ⟨n.fr.os.trans h.fr.os, n.fr.tape.trans h.fr.tape, n.fr.output.trans h.fr.output, Nat.le_trans h.fr.size n.fr.size, fun b hb hx => ?_⟩, fun b hb => ?_, fun r row hr => ?_⟩
  · have hlt : b < w.heap.size := Nat.lt_of_lt_of_le hb h.fr.size
    refine (n.fr.heap b hlt fun ⟨r, x, hr, e⟩ => ?_).trans (h.fr.heap b hb hx)
    rcases h.rho r x hr with ⟨⟨y, hy⟩, e'⟩ | e'
    · exact hx ⟨r, y, hy, by rw [← e', e]⟩
    · omega
  · rcases n.imm b hb with h1 | h1
    · exact h.imm b h1
    · have := h.fr.size; exact .inr (by omega)
  · rcases n.rho r row hr with ⟨⟨x, hx⟩, e⟩ | e
    · rcases h.rho r x hx with ⟨h1, e'⟩ | e'
      · exact .inl ⟨h1, e.trans e'⟩
      · exact .inr (by omega)
    · have := h.fr.size; exact .inr (by omega)

/-- Memory and the temporaries bear a state. -/
structure SimS (N M : Nat) (c0 : Ctx) (w0 : World) (c : Ctx) (w : World) (st : St) (a : Act) : Prop where
  mem : Mem c w
  rows : ∀ r, c.R r = st.rows.getD r none
  env : ∀ t, Rep c w (look st.env t) (a.tmps.getD t undef)
  size : N ≤ a.tmps.size
  defers : a.defers = []
  base0 : c0.base ≤ w0.heap.size
  own0 : ∀ r row, c0.R r = some row → r < M
  reach : Reach c0 w0 c w

theorem SimS.base {N M : Nat} {c0 : Ctx} {w0 : World} {c : Ctx} {w : World} {st : St} {a : Act} (h : SimS N M c0 w0 c w st a) : c.base ≤ w.heap.size := by
  rw [h.reach.grows.base]; exact Nat.le_trans h.base0 h.reach.fr.size

theorem evOp_rep {c : Ctx} {w : World} {env : List (Nat × D)} {a : Act} (h : ∀ t, Rep c w (look env t) (a.tmps.getD t undef)) (x : Operand) : Rep c w (evOp env x) (a.eval x) := by
  cases x with
  | tmp t => exact h t
  | const v =>
    simp only [evOp, Act.eval]
    cases hv : ofVal v with
    | none => trivial
    | some d => exact ofVal_rep hv c w
  | global g => trivial
  | func f => trivial

def putEnv (env : List (Nat × D)) (dst : Option Tmp) (d : D) : List (Nat × D) := match dst with | none => env | some t => (t, d) :: env

theorem look_put (env : List (Nat × D)) (t : Nat) (d : D) (s : Nat) : look ((t, d) :: env) s = if t = s then d else look env s := by
  simp only [look]
  cases hb : Nat.beq t s with
  | true => rw [if_pos (Nat.eq_of_beq_eq_true hb)]
  | false => rw [if_neg (fun e => by rw [e] at hb; simp at hb)]

theorem putEnv_rep {c : Ctx} {w : World} {env : List (Nat × D)} {a : Act} {N : Nat} (hN : N ≤ a.tmps.size) {dst : Option Tmp} (hd : ∀ t, dst = some t → t < N) {d : D} {v : Value} (h : ∀ t, Rep c w (look env t) (a.tmps.getD t undef)) (hv : Rep c w d v) (t : Nat) :
    Rep c w (look (putEnv env dst d) t) ((a.put dst v).tmps.getD t undef) := by
  cases dst with
  | none => exact h t
  | some s =>
    have hs := hd s rfl
    simp only [putEnv, Act.put, look_put]
    by_cases e : s = t
    · subst e
      rw [if_pos rfl]
      have hlt : s < a.tmps.size := Nat.lt_of_lt_of_le hs hN
      simpa [Array.getD, hlt] using hv
    · rw [if_neg e]
      have := h t
      simpa [Array.getElem?_setIfInBounds_ne e] using this

/-- An operation, done: the value and the rows behind it. -/
def OpX (P : Program) (o : Oper) (ev : Operand → D) (R : Rows) (val : D) (R' : Rows) : Prop := if isStore o.op then OpW P o ev R val R' else OpN P o ev R val R'
theorem OpX.toW {P : Program} {o : Oper} {ev : Operand → D} {R : Rows} {val : D} {R' : Rows} (h : OpX P o ev R val R') : OpW P o ev R val R' := by
  unfold OpX at h
  split at h
  · exact h
  · exact h.toW

/-- An operation of a region, with its guard. -/
def GOp (P : Program) (ops : Array Oper) (o : Oper) (env : List (Nat × D)) (R : Rows) (val : D) (R' : Rows) : Prop :=
  match o.guard with
  | none => OpX P o (evOp env) R val R'
  | some (j, want) => ∃ g b, (ops[j]?).bind (·.dst) = some g ∧ look env g = .bool b ∧ (if b = want then OpX P o (evOp env) R val R' else val = .dead ∧ R' = R)

theorem put_ext {N : Nat} {st : St} {dst : Option Tmp} {d : D} {R : Rows} {K : St → Prop} (h : st.put N dst d R K) : (∀ t, dst = some t → t < N) ∧ K ⟨putEnv st.env dst d, R⟩ := by
  cases dst with
  | none => exact ⟨fun t h => (by cases h), h⟩
  | some t =>
    simp only [St.put, cand_iff] at h
    refine ⟨fun s hs => ?_, h.2⟩
    cases hs
    exact Nat.le_of_ble_eq_true h.1

theorem doVC_ext {P : Program} {T : Tab} (hT : TabOK P T) {G : List Model} (hG : AllOK P G) {N : Nat} {o : Oper} {st : St} {K : St → Prop} (h : doVC T G N o st K) :
    ∃ val R', (∀ t, o.dst = some t → t < N) ∧ K ⟨putEnv st.env o.dst val, R'⟩ ∧ OpX P o (evOp st.env) st.rows val R' := by
  unfold doVC at h
  split at h
  · rename_i cc x y ho
    split at h
    · rename_i b hb
      have go : ∀ z, z ∈ o.op.operands → (∀ c w (a : Act), Rep c w (evOp st.env cc) (a.eval cc) → (execOp a.eval o).run P w = .ok (.value (a.eval z)) w) → (evOp st.env z).force (fun d => st.put N o.dst d st.rows K) →
          ∃ val R', (∀ t, o.dst = some t → t < N) ∧ K ⟨putEnv st.env o.dst val, R'⟩ ∧ OpX P o (evOp st.env) st.rows val R' := by
        intro z hz hrun h
        rw [D.force_iff] at h
        obtain ⟨h1, h2⟩ := put_ext h
        refine ⟨_, _, h1, h2, ?_⟩
        unfold OpX
        rw [ho]
        simp only [isStore, Bool.false_eq_true, if_false]
        exact opN_of_yld fun c w a hm hA hev => ⟨_, hrun c w a (hev cc (by rw [ho]; simp [Op.operands])), hev z hz⟩
      cases b with
      | true =>
        refine go x (by rw [ho]; simp [Op.operands]) (fun c w a hc => ?_) h
        rw [hb] at hc
        simp only [execOp, ho, Rep.bool.1 hc, asBool, Sem.run_bind, Sem.run_pure, Result.andThen_ok, if_true]
      | false =>
        refine go y (by rw [ho]; simp [Op.operands]) (fun c w a hc => ?_) h
        rw [hb] at hc
        simp only [execOp, ho, Rep.bool.1 hc, asBool, Sem.run_bind, Sem.run_pure, Result.andThen_ok, Bool.false_eq_true, if_false]
    · exact h.elim
  · rename_i f args tys ho
    obtain ⟨dst, op, type, pos, after, guard⟩ := o
    simp only at ho
    subst ho
    obtain ⟨val, hK, hO⟩ := callVC_ok (dst := dst) (type := type) (pos := pos) (after := after) (guard := guard) (tys := tys) hG h
    obtain ⟨h1, h2⟩ := put_ext hK
    exact ⟨_, _, h1, h2, hO⟩
  · obtain ⟨val, R', hK, hO⟩ := opVC_ok hT o _ _ _ h
    obtain ⟨h1, h2⟩ := put_ext hK
    exact ⟨_, _, h1, h2, hO⟩

theorem know_look {st : St} {g : Nat} {b : Bool} (h : look st.env g = .bool b) (t : Nat) : look (st.know (.tmp g) b).env t = look st.env t := by
  simp only [St.know, look_put]
  split
  · rename_i e; subst e; exact h.symm
  · rfl
theorem evOp_congr {env env' : List (Nat × D)} (h : ∀ t, look env' t = look env t) : evOp env' = evOp env := by
  funext x; cases x <;> first | exact h _ | rfl

theorem opsVC_ext {P : Program} {T : Tab} (hT : TabOK P T) {G : List Model} (hG : AllOK P G) {N : Nat} {ops : Array Oper} {o : Oper} {l : List Oper} {st : St} {K : St → Prop} (h : opsVC T G N ops (o :: l) st K) :
    ∃ val R' env1, (∀ t, look env1 t = look st.env t) ∧ (∀ t, o.dst = some t → t < N) ∧ GOp P ops o st.env st.rows val R' ∧ opsVC T G N ops l ⟨putEnv env1 o.dst val, R'⟩ K := by
  simp only [opsVC] at h
  split at h
  · rename_i hg
    obtain ⟨val, R', h1, h2, h3⟩ := doVC_ext hT hG h
    exact ⟨val, R', st.env, fun _ => rfl, h1, by unfold GOp; rw [hg]; exact h3, h2⟩
  · rename_i j want hg
    split at h
    · rename_i g hd
      split at h
      · rename_i b hb
        have yes : ∀ b', b' = b → doVC T G N o (st.know (.tmp g) b') (fun st => opsVC T G N ops l st K) → b = want → ∃ val R' env1, (∀ t, look env1 t = look st.env t) ∧ (∀ t, o.dst = some t → t < N) ∧ GOp P ops o st.env st.rows val R' ∧ opsVC T G N ops l ⟨putEnv env1 o.dst val, R'⟩ K := by
          intro b' e hh hw
          subst e
          obtain ⟨val, R', h1, h2, h3⟩ := doVC_ext hT hG hh
          rw [evOp_congr (know_look hb)] at h3
          refine ⟨val, R', _, know_look hb, h1, ?_, h2⟩
          unfold GOp; rw [hg]
          exact ⟨g, _, hd, hb, by rw [if_pos hw]; exact h3⟩
        have no : ∀ b', b' = b → (st.know (.tmp g) b').put N o.dst .dead st.rows (fun st => opsVC T G N ops l st K) → b ≠ want → ∃ val R' env1, (∀ t, look env1 t = look st.env t) ∧ (∀ t, o.dst = some t → t < N) ∧ GOp P ops o st.env st.rows val R' ∧ opsVC T G N ops l ⟨putEnv env1 o.dst val, R'⟩ K := by
          intro b' e hh hw
          subst e
          obtain ⟨h1, h2⟩ := put_ext hh
          refine ⟨_, _, _, know_look hb, h1, ?_, h2⟩
          unfold GOp; rw [hg]
          exact ⟨g, _, hd, hb, by rw [if_neg hw]; exact ⟨rfl, rfl⟩⟩
        cases b <;> cases want <;> simp only [bcase] at h
        · exact yes _ rfl h rfl
        · exact no _ rfl h (by simp)
        · exact no _ rfl h (by simp)
        · exact yes _ rfl h rfl
      · exact h.elim
    · exact h.elim

theorem wanted_of {ops : Array Oper} {o : Oper} {c : Ctx} {w : World} {a : Act} {j g : Nat} {want b : Bool} (hg : o.guard = some (j, want)) (hd : (ops[j]?).bind (·.dst) = some g) (h : Rep c w (.bool b) (a.tmps.getD g undef)) :
    Region.wanted o (yielded ops a.tmps) = decide (b = want) := by
  have hv := Rep.bool.1 h
  have ht : a.tmps[g]? = some (.bool b) := by
    cases hx : a.tmps[g]? with
    | none => simp [hx, undef] at hv
    | some v => simp [hx] at hv; rw [hv]
  unfold Region.wanted
  simp only [hg, yielded, hd, Option.bind_some, ht]
  cases b <;> cases want <;> rfl

/-- One operation of a region, in the order of the text. -/
theorem gop_wp {P : Program} {ops : Array Oper} {N M : Nat} {c0 : Ctx} {w0 : World} {c : Ctx} {w : World} {st : St} {a : Act} {i : Nat} {o : Oper} {val : D} {R' : Rows} {env1 : List (Nat × D)} (hi : ops[i]? = some o)
    (hs : SimS N M c0 w0 c w st a) (h1 : ∀ t, look env1 t = look st.env t) (hd : ∀ t, o.dst = some t → t < N) (hG : GOp P ops o st.env st.rows val R') {K : Act → World → Prop} {Q : Exit → Act → World → Prop}
    (hK : ∀ a' w' c', SimS N M c0 w0 c' w' ⟨putEnv env1 o.dst val, R'⟩ a' → K a' w') : wpOp P ops Q i K a w := by
  have fin : ∀ (v : Value) (w' : World) (c' : Ctx), NxtW c w c' w' → (∀ r, c'.R r = R'.getD r none) → Rep c' w' val v → K (a.put o.dst v) w' := fun v w' c' hn hR hv => by
    refine hK _ _ c' ⟨hn.mem, hR, ?_, ?_, ?_, hs.base0, hs.own0, hs.reach.step hn⟩
    · exact putEnv_rep hs.size hd (fun t => by rw [h1]; exact Rep_mono hn.grows (hs.env t)) hv
    · cases ho : o.dst <;> simp [Act.put] <;> exact hs.size
    · cases ho : o.dst <;> simp [Act.put] <;> exact hs.defers
  have run : OpX P o (evOp st.env) st.rows val R' → o.wp P a w K Q := fun hX => hX.toW c w a hs.mem hs.base hs.rows (fun x _ => evOp_rep hs.env x) K Q fin
  have skip : val = .dead → R' = st.rows → K (a.put o.dst undef) w := fun e1 e2 => by
    refine hK _ _ c ⟨hs.mem, by rw [e2]; exact hs.rows, ?_, ?_, ?_, hs.base0, hs.own0, hs.reach⟩
    · exact putEnv_rep hs.size hd (fun t => by rw [h1]; exact hs.env t) (by rw [e1]; trivial)
    · cases ho : o.dst <;> simp [Act.put] <;> exact hs.size
    · cases ho : o.dst <;> simp [Act.put] <;> exact hs.defers
  unfold wpOp
  simp only [hi]
  unfold GOp at hG
  cases hg : o.guard with
  | none =>
    simp only [hg] at hG
    have hw : Region.wanted o (yielded ops a.tmps) = true := by simp [Region.wanted, hg]
    rw [if_pos hw]
    exact .inl (run hG)
  | some jw =>
    obtain ⟨j, want⟩ := jw
    simp only [hg] at hG
    obtain ⟨g, b, h2, h3, h4⟩ := hG
    have hr := hs.env g
    rw [h3] at hr
    have hw := wanted_of (o := o) hg h2 hr
    by_cases e : b = want
    · rw [if_pos e] at h4
      rw [if_pos (by rw [hw]; simpa using e)]
      exact .inl (run h4)
    · rw [if_neg e] at h4
      rw [if_neg (by rw [hw]; simpa using e)]
      exact skip h4.1 h4.2

theorem ops_wp {P : Program} {T : Tab} (hT : TabOK P T) {G : List Model} (hG : AllOK P G) {N M : Nat} {ops : Array Oper} {c0 : Ctx} {w0 : World} {K : St → Prop} {Q : Exit → Act → World → Prop} (hQ : ∀ st c w a, K st → SimS N M c0 w0 c w st a → Q .normal a w) :
    ∀ (l : List Oper) (k : Nat) (st : St) (c : Ctx) (w : World) (a : Act), ops.toList.drop k = l → opsVC T G N ops l st K → SimS N M c0 w0 c w st a → wpOps P ops Q (List.range' k l.length) a w
  | [], k, st, c, w, a, _, h, hs => hQ st c w a h hs
  | o :: l, k, st, c, w, a, hk, h, hs => by
    have hlt : k < ops.toList.length := by
      by_cases hlt : k < ops.toList.length
      · exact hlt
      · rw [List.drop_eq_nil_of_le (by omega)] at hk; cases hk
    rw [List.drop_eq_getElem_cons hlt] at hk
    have ho : ops[k]? = some o := by
      have := (List.cons.inj hk).1
      rw [← this]
      simp at hlt
      simp [hlt]
    obtain ⟨val, R', env1, h1, h2, h3, h4⟩ := opsVC_ext hT hG h
    simp only [List.length_cons, List.range'_succ]
    rw [wpOps_cons]
    exact gop_wp ho hs h1 h2 h3 fun a' w' c' hs' => ops_wp hT hG hQ l (k + 1) _ c' w' a' (List.cons.inj hk).2 h4 hs'

def exOf : Exit → Option Ex
  | .normal => some .normal
  | .exit i => some (.exit i)
  | .ret => some .ret
  | _ => none

/-- What is asked of code, said of memory. -/
def Tr (P : Program) (N M : Nat) (code : Code) (st : St) (Q : Ex → St → Prop) : Prop :=
  ∀ (c0 : Ctx) (w0 : World) (c : Ctx) (w : World) (a : Act), SimS N M c0 w0 c w st a →
    code.wp P (fun e a' w' => ∃ ex st' c', exOf e = some ex ∧ Q ex st' ∧ SimS N M c0 w0 c' w' st' a') a w

end Go.GD

/-
  GD: calls and code: what the condition says of a function holds of its call.
-/
import Derived.Test.YtcalcaifpolboaaGdOp
namespace Go.GD
open Go
set_option linter.unusedVariables false

/-- What a call of a Go function comes to: in whatever memory that bears the arguments and the rows. -/
def ACalls (P : Program) (f : FuncId) (args : List D) (rows : List Row) (res : D) (rows' : List Row) : Prop :=
  ∀ (c : Ctx) (w : World) (vs : List Value), Mem c w → c.base = w.heap.size → (∀ r, c.R r = rows[r]?) → VReps c w args vs →
    Calls P f vs.toArray w fun e w' => ∃ v c', e = .returned v ∧ NxtW c w c' w' ∧ (∀ r, c'.R r = rows'[r]?) ∧ Rep c' w' res v

/-- Its slices are new, and their cells are no slices. -/
def FF1 : D → Prop
  | .sl _ es fr => (es = [] ∨ fr = true) ∧ ∀ e ∈ es, ∀ d ∈ e, (match d with | .int _ _ => True | .bool _ => True | .str _ => True | .nils => True | .nilp => True | _ => False)
  | .int _ _ => True | .bool _ => True | .str _ => True | .nils => True | .nilp => True
  | _ => False
def FFs : List D → Prop
  | [] => True
  | d :: ds => FF1 d ∧ FFs ds
def FF2 : D → Prop
  | .agg cs => FFs cs
  | d => FF1 d
def FF2s : List D → Prop
  | [] => True
  | d :: ds => FF2 d ∧ FF2s ds
def FF : D → Prop
  | .tup ds => FF2s ds
  | d => FF2 d

/-- A model is met by the program. -/
structure ModelOK (P : Program) (x : Model) : Prop where
  enters : ∀ args w, (callFunc x.f args).run P w = .ok (.enter x.f args) w
  ok : ∀ args rows res rows', x.m args rows = .ok res rows' → ACalls P x.f args rows res rows' ∧ (x.flat = true → FF res)
  when : ∀ args rows p res rows', x.m args rows = .when p res rows' → p → ACalls P x.f args rows res rows' ∧ (x.flat = true → FF res)

def AllOK (P : Program) (G : List Model) : Prop := ∀ x ∈ G, ModelOK P x

theorem findM_ok {P : Program} : ∀ {G : List Model} {f : FuncId} {x : Model}, AllOK P G → findM G f = some x → ModelOK P x ∧ x.f = f
  | [], f, x, _, h => by simp [findM] at h
  | y :: l, f, x, hG, h => by
    simp only [findM] at h
    split at h
    · rename_i hb
      simp at h; subst h
      exact ⟨hG y (by simp), Nat.eq_of_beq_eq_true hb⟩
    · exact findM_ok (fun z hz => hG z (by simp [hz])) h

/- arguments by value -/
/-- The callee's view: no rows; whatever the caller's slices stand on is not written. -/
def Ctx.lend (c : Ctx) (w : World) (len : Bool) : Ctx :=
  { ρ := c.ρ, R := fun _ => none, I := fun b => c.I b ∨ (len = true ∧ ∃ r row, c.R r = some row ∧ row.box = false ∧ c.ρ r = b), base := w.heap.size }

theorem lend_mem {c : Ctx} {w : World} (hm : Mem c w) (len : Bool) : Mem (c.lend w len) w := by
  refine ⟨fun r row h => by simp [Ctx.lend] at h, fun r s x y h => by simp [Ctx.lend] at h, fun b hb => ⟨?_, fun r x h => by simp [Ctx.lend] at h⟩⟩
  rcases hb with hb | ⟨_, r, row, hr, _, rfl⟩
  · exact (hm.imm b hb).1
  · exact hm.lt hr

theorem conv1_ok {c : Ctx} {w : World} (hm : Mem c w) {R : Rows} (hA : AgreeR c R) {len : Bool} {d d' : D} {v : Value} (h : conv1 R d = some d') (hl : lends1 d = true → len = true) (hr : CRep c w d v) : CRep (c.lend w len) w d' v := by
  have himm : ∀ b, c.I b → (c.lend w len).I b ∧ w.heap[b]? = w.heap[b]? := fun b hb => ⟨.inl hb, rfl⟩
  cases d <;> simp only [conv1] at h <;> try (cases h; done)
  case bool b => cases h; exact hr
  case int k n => cases h; exact hr
  case str s => cases h; exact hr
  case nilp => cases h; exact hr
  case nils => cases h; exact ⟨none, 0, hr, Nat.le_refl _, .inl rfl⟩
  case sl sz es fr =>
    cases h
    obtain ⟨a, cap, hv, hc, hes⟩ := hr
    refine ⟨a, cap, hv, hc, ?_⟩
    rcases hes with hes | ⟨b, off, arr, ty, fz, ha, hI, hf, hh, hE⟩
    · exact .inl hes
    · exact .inr ⟨b, off, arr, ty, fz, ha, .inl hI, by simp, hh, PElems_mono himm _ _ _ _ hE⟩
  case all r =>
    split at h
    · rename_i row hR
      split at h
      · rename_i hb
        cases h
        obtain ⟨row', cap, arr, g1, g2, hv, g3, g4, g5, g6⟩ := hr
        have := hA r row' _ g1 hR
        subst this
        refine ⟨_, cap, hv, g3, ?_⟩
        obtain ⟨arr', ha', hs, hx⟩ := hm.row r _ g1
        rw [g5] at ha'; cases ha'
        simp only [hb, Bool.false_eq_true, if_false] at hx
        exact .inr ⟨_, 0, arr, _, _, rfl, .inr ⟨hl rfl, r, _, g1, hb, rfl⟩, by simp, g5, PElems_mono himm _ _ _ _ hx⟩
      · cases h
    · cases h
  case own r o n =>
    split at h
    · rename_i row hR
      split at h
      · rename_i hb
        cases h
        obtain ⟨row', cap, arr, g1, g2, g3, g4, g5, g6, hv⟩ := hr
        have := hA r row' _ g1 hR
        subst this
        have hlen : ((row'.es.drop o).take n).length = n := by simp; omega
        obtain ⟨arr', ha', hs, hx⟩ := hm.row r _ g1
        rw [g6] at ha'; cases ha'
        simp only [hb, Bool.false_eq_true, if_false] at hx
        rcases hv with ⟨hv, g7⟩ | ⟨g7, a, hv⟩
        · refine ⟨_, cap, by rw [hlen]; exact hv, by omega, .inr ⟨_, o * row'.sz, arr, _, _, rfl, .inr ⟨hl rfl, r, _, g1, hb, rfl⟩, by simp, g6, PElems_mono himm _ _ _ _ ?_⟩⟩
          have := PElems_take (n := n) (PElems_drop (l := o) hx)
          simpa using this
        · refine ⟨a, cap, by rw [hlen]; exact hv, by omega, .inl ?_⟩
          have : n = 0 := by omega
          subst this; simp
      · cases h
    · cases h

theorem convs_ok {c : Ctx} {w : World} (hm : Mem c w) {R : Rows} (hA : AgreeR c R) {len : Bool} : ∀ {ds ds' : List D} {vs : List Value}, convs R ds = some ds' → (ds.any lends1 = true → len = true) → CReps c w ds vs → CReps (c.lend w len) w ds' vs
  | [], ds', [], h, _, _ => by simp [convs] at h; subst h; trivial
  | [], _, _ :: _, _, _, hr => hr.elim
  | _ :: _, _, [], _, _, hr => hr.elim
  | d :: ds, ds', v :: vs, h, hl, hr => by
    simp only [convs] at h
    split at h
    · rename_i x xs h1 h2
      cases h
      simp only [List.any_cons, Bool.or_eq_true] at hl
      exact ⟨conv1_ok hm hA h1 (fun e => hl (.inl e)) hr.1, convs_ok hm hA h2 (fun e => hl (.inr e)) hr.2⟩
    · cases h

theorem conv_ok' {c : Ctx} {w : World} (hm : Mem c w) {R : Rows} (hA : AgreeR c R) {len : Bool} {d d' : D} {v : Value} (h : conv R d = some d') (hl : lends d = true → len = true) (hr : Rep c w d v) : VRep (c.lend w len) w d' v := by
  cases d with
  | agg cs =>
    simp only [conv, Option.map_eq_some_iff] at h
    obtain ⟨cs', h1, rfl⟩ := h
    obtain ⟨vs, hv, hx⟩ := hr
    exact ⟨vs, hv, convs_ok hm hA h1 hl hx⟩
  | tup ds => simp [conv, conv1] at h
  | dead => simp [conv, conv1] at h
  | _ =>
    simp only [conv] at h
    simp only [Rep, VRep] at hr
    have := conv1_ok hm hA h hl hr
    cases d' <;> first | exact this | exact this.elim

theorem convL_ok {c : Ctx} {w : World} (hm : Mem c w) {R : Rows} (hA : AgreeR c R) {len : Bool} {ρ : Operand → Value} {ev : Operand → D} : ∀ {xs : List Operand} {ds' : List D}, convL R (xs.map ev) = some ds' → ((xs.map ev).any lends = true → len = true) → (∀ x ∈ xs, Rep c w (ev x) (ρ x)) → VReps (c.lend w len) w ds' (xs.map ρ)
  | [], ds', h, _, _ => by simp [convL] at h; subst h; trivial
  | x :: xs, ds', h, hl, hr => by
    simp only [List.map_cons, convL] at h
    split at h
    · rename_i y ys h1 h2
      cases h
      simp only [List.map_cons, List.any_cons, Bool.or_eq_true] at hl
      exact ⟨conv_ok' hm hA h1 (fun e => hl (.inl e)) (hr x (by simp)), convL_ok hm hA h2 (fun e => hl (.inr e)) (fun z hz => hr z (by simp [hz]))⟩
    · cases h

/-- The caller's view behind a call. -/
def Ctx.behind (c : Ctx) (w : World) (c' : Ctx) : Ctx := { c with I := fun b => c.I b ∨ (c'.I b ∧ w.heap.size ≤ b) }

theorem scal_rep {I I' : Blocks} {w : World} {d : D} {v : Value} (hs : match d with | .int _ _ => True | .bool _ => True | .str _ => True | .nils => True | .nilp => True | _ => False) (h : PRep I w d v) : PRep I' w d v := by
  cases d <;> first | exact hs.elim | exact h
theorem scal_cells {I I' : Blocks} {w : World} : ∀ {cs : List D} {arr : Array Value} {off : Nat}, (∀ d ∈ cs, match d with | .int _ _ => True | .bool _ => True | .str _ => True | .nils => True | .nilp => True | _ => False) → PCells I w cs arr off → PCells I' w cs arr off
  | [], _, _, _, _ => by simp [PCells]
  | d :: cs, arr, off, hs, h => by
    simp only [PCells] at h ⊢
    obtain ⟨⟨v, hv, hp⟩, hr⟩ := h
    exact ⟨⟨v, hv, scal_rep (hs d (by simp)) hp⟩, scal_cells (fun e he => hs e (by simp [he])) hr⟩
theorem scal_elems {I I' : Blocks} {w : World} : ∀ {es : List (List D)} {arr : Array Value} {off sz : Nat}, (∀ e ∈ es, ∀ d ∈ e, match d with | .int _ _ => True | .bool _ => True | .str _ => True | .nils => True | .nilp => True | _ => False) → PElems I w es arr off sz → PElems I' w es arr off sz
  | [], _, _, _, _, _ => by simp [PElems]
  | e :: es, arr, off, sz, hs, h => by
    simp only [PElems] at h ⊢
    exact ⟨h.1, scal_cells (hs e (by simp)) h.2.1, scal_elems (fun f hf => hs f (by simp [hf])) h.2.2⟩

/-- A result seen by the caller. -/
theorem back1 {c c' : Ctx} {w w' : World} (hb : c.base ≤ w.heap.size) (hb' : c'.base = w.heap.size) (hR : ∀ r, c'.R r = none) {flat : Prop} (hI : flat ∨ ∀ b, c'.I b → c.I b ∨ w.heap.size ≤ b) {d : D} {v : Value} (hff : flat → FF1 d) (h : CRep c' w' d v) : CRep (c.behind w c') w' d v := by
  have mono : (∀ b, c'.I b → c.I b ∨ w.heap.size ≤ b) → ∀ b, c'.I b → (c.behind w c').I b ∧ w'.heap[b]? = w'.heap[b]? := fun hi b hbI => ⟨(hi b hbI).imp id fun h => ⟨hbI, h⟩, rfl⟩
  cases d with
  | sl sz es fr =>
    obtain ⟨a, cap, hv, hc, hes⟩ := h
    refine ⟨a, cap, hv, hc, ?_⟩
    rcases hes with hes | ⟨b, off, arr, ty, fz, ha, hbI, hf, hh, hE⟩
    · exact .inl hes
    · rcases hI with hfl | hi
      · obtain ⟨h1, h2⟩ := hff hfl
        rcases h1 with h1 | h1
        · exact .inl h1
        · have := hf h1
          exact .inr ⟨b, off, arr, ty, fz, ha, .inr ⟨hbI, by omega⟩, fun _ => by show c.base ≤ b; omega, hh, scal_elems h2 hE⟩
      · exact .inr ⟨b, off, arr, ty, fz, ha, (mono hi b hbI).1, fun e => by have := hf e; show c.base ≤ b; omega, hh, PElems_mono (mono hi) _ _ _ _ hE⟩
  | all r => obtain ⟨row, _, _, hr, _⟩ := h; rw [hR] at hr; cases hr
  | own r o n => obtain ⟨row, _, _, hr, _⟩ := h; rw [hR] at hr; cases hr
  | ptr r i off => obtain ⟨row, hr, _⟩ := h; rw [hR] at hr; cases hr
  | pa r i off len k n => obtain ⟨_, row, hr, _⟩ := h; rw [hR] at hr; cases hr
  | iptr sz es i off =>
    obtain ⟨b, o, arr, ty, fz, hv, hbI, hi', hh, hE⟩ := h
    rcases hI with hfl | hi
    · exact (hff hfl).elim
    · exact ⟨b, o, arr, ty, fz, hv, (mono hi b hbI).1, hi', hh, PElems_mono (mono hi) _ _ _ _ hE⟩
  | _ => exact h
theorem backs {c c' : Ctx} {w w' : World} (hb : c.base ≤ w.heap.size) (hb' : c'.base = w.heap.size) (hR : ∀ r, c'.R r = none) {flat : Prop} (hI : flat ∨ ∀ b, c'.I b → c.I b ∨ w.heap.size ≤ b) : ∀ {ds : List D} {vs : List Value}, (flat → FFs ds) → CReps c' w' ds vs → CReps (c.behind w c') w' ds vs
  | [], [], _, _ => trivial
  | _ :: _, _ :: _, hff, h => ⟨back1 hb hb' hR hI (fun e => (hff e).1) h.1, backs hb hb' hR hI (fun e => (hff e).2) h.2⟩
  | [], _ :: _, _, h => h.elim
  | _ :: _, [], _, h => h.elim
theorem back2 {c c' : Ctx} {w w' : World} (hb : c.base ≤ w.heap.size) (hb' : c'.base = w.heap.size) (hR : ∀ r, c'.R r = none) {flat : Prop} (hI : flat ∨ ∀ b, c'.I b → c.I b ∨ w.heap.size ≤ b) {d : D} {v : Value} (hff : flat → FF2 d) (h : VRep c' w' d v) : VRep (c.behind w c') w' d v := by
  cases d with
  | agg cs => obtain ⟨vs, hv, hr⟩ := h; exact ⟨vs, hv, backs hb hb' hR hI hff hr⟩
  | _ => simp only [VRep, FF2] at h hff ⊢; exact back1 hb hb' hR hI hff h
theorem back2s {c c' : Ctx} {w w' : World} (hb : c.base ≤ w.heap.size) (hb' : c'.base = w.heap.size) (hR : ∀ r, c'.R r = none) {flat : Prop} (hI : flat ∨ ∀ b, c'.I b → c.I b ∨ w.heap.size ≤ b) : ∀ {ds : List D} {vs : List Value}, (flat → FF2s ds) → VReps c' w' ds vs → VReps (c.behind w c') w' ds vs
  | [], [], _, _ => trivial
  | _ :: _, _ :: _, hff, h => ⟨back2 hb hb' hR hI (fun e => (hff e).1) h.1, back2s hb hb' hR hI (fun e => (hff e).2) h.2⟩
  | [], _ :: _, _, h => h.elim
  | _ :: _, [], _, h => h.elim
theorem back {c c' : Ctx} {w w' : World} (hb : c.base ≤ w.heap.size) (hb' : c'.base = w.heap.size) (hR : ∀ r, c'.R r = none) {flat : Prop} (hI : flat ∨ ∀ b, c'.I b → c.I b ∨ w.heap.size ≤ b) {d : D} {v : Value} (hff : flat → FF d) (h : Rep c' w' d v) : Rep (c.behind w c') w' d v := by
  cases d with
  | tup ds => obtain ⟨vs, hv, hr⟩ := h; exact ⟨vs, hv, back2s hb hb' hR hI hff hr⟩
  | dead => trivial
  | _ => simp only [Rep, FF] at h hff ⊢; exact back2 hb hb' hR hI hff h

theorem behind_nxt {c c' : Ctx} {w w' : World} (hm : Mem c w) (hm' : Mem c' w') (hfr : Fr (fun _ => False) w w') (R : Rows) : Nxt c w R R (c.behind w c') w' := by
  have hg : Grows c w (c.behind w c') w' := ⟨rfl, fun b hb => ⟨.inl hb, hfr.heap b (hm.imm b hb).1 (fun h => h)⟩, fun r row hr => ⟨row, hr, rfl, rfl, rfl, rfl, rfl, fun arr ha => ⟨arr, by rw [hfr.heap _ (hm.lt hr) (fun h => h)]; exact ha, rfl⟩⟩⟩
  refine ⟨⟨fun r row hr => RowRep_mono hg rfl (hfr.heap _ (hm.lt hr) (fun h => h)) (hm.row r row hr), hm.inj, fun b hb => ?_⟩, hg, hfr, fun b hb => ?_, fun r => by rw [if_neg (by omega)]; rfl, fun _ _ => rfl, fun r h1 h2 => by omega⟩
  · rcases hb with hb | ⟨hb, hge⟩
    · exact ⟨Nat.lt_of_lt_of_le (hm.imm b hb).1 hfr.size, (hm.imm b hb).2⟩
    · exact ⟨(hm'.imm b hb).1, fun r x hr => by have := hm.lt hr; show c.ρ r ≠ b; omega⟩
  · rcases hb with hb | ⟨_, hge⟩
    · exact .inl hb
    · exact .inr hge

theorem callVC_ok {P : Program} {G : List Model} (hG : AllOK P G) {dst : Option Tmp} {f : FuncId} {args : Array Operand} {tys : Array TypeId} {type : TypeId} {pos : String} {after : Array Edge} {guard : Option (Nat × Bool)} {ev : Operand → D} {R : Rows} {K : D → Rows → Prop}
    (h : callVC G f (args.toList.map ev) R K) : ∃ val, K val R ∧ OpN P ⟨dst, .call ⟨.value (.func f), args, tys⟩, type, pos, after, guard⟩ ev R val R := by
  unfold callVC at h
  split at h
  · rename_i x hx
    obtain ⟨hok, hf⟩ := findM_ok hG hx
    split at h
    · split at h
      · rename_i as has
        simp only [cand_iff, Bool.or_eq_true, Bool.not_eq_true'] at h
        obtain ⟨hfl, h⟩ := h
        have main : ∀ res, K res R → ACalls P x.f as [] res [] → (x.flat = true → FF res) → ∃ val, K val R ∧ OpN P ⟨dst, .call ⟨.value (.func f), args, tys⟩, type, pos, after, guard⟩ ev R val R := by
          intro res hK hA hff
          refine ⟨res, hK, ⟨[], by simp⟩, fun c w a hm hb hAg _ hev K' Q hK' => ?_⟩
          let len := (args.toList.map ev).any lends
          have hargs := convL_ok (ρ := a.eval) (len := len) hm hAg has (fun e => e) (fun y hy => hev y (by simp [Op.operands, Call.operands]; exact .inr (by simpa using hy)))
          have hcall := hA (c.lend w len) w _ (lend_mem hm len) rfl (fun r => by simp [Ctx.lend]) hargs
          have hrun : (execOp a.eval (⟨dst, .call ⟨.value (.func f), args, tys⟩, type, pos, after, guard⟩ : Oper)).run P w = .ok (.enter f (args.toList.map a.eval).toArray) w := by
            simp only [execOp, resolve, Act.eval, Deferred.ofValue, Sem.run_bind, Sem.run_pure, Result.andThen_ok, invoke, Array.empty_append, Array.append_empty]
            rw [← hf, hok.enters, ← List.map_toArray, Array.toArray_toList]
          unfold Oper.wp
          rw [hrun]
          show Calls P f _ w _
          rw [← hf]
          refine hcall.mono fun e w' hpost => ?_
          obtain ⟨v, c', he, hnx, hR', hres⟩ := hpost
          subst he
          have hfr : Fr (fun _ => False) w w' := hnx.fr.mono fun b _ ⟨r, y, hr, _⟩ => by simp [Ctx.lend] at hr
          have hbase : c'.base = w.heap.size := hnx.grows.base
          refine hK' v w' (c.behind w c') (behind_nxt hm hnx.mem hfr R) (back hb hbase (fun r => by rw [hR']; simp) (flat := len = true) ?_ (fun e => ?_) hres)
          · cases hl : len with
            | true => exact .inl rfl
            | false =>
              refine .inr fun b hbI => ?_
              rcases hnx.imm b hbI with h1 | h1
              · rcases h1 with h1 | ⟨h1, _⟩
                · exact .inl h1
                · rw [hl] at h1; cases h1
              · exact .inr h1
          · rcases hfl with h1 | h1
            · exact hff h1
            · have : len = false := h1
              rw [this] at e; cases e
        split at h
        · rename_i res hm
          rw [D.force_iff] at h
          obtain ⟨h1, h2⟩ := hok.ok _ _ _ _ hm
          exact main res h h1 h2
        · rename_i p res hm
          rw [D.force_iff] at h
          obtain ⟨h1, h2⟩ := hok.when _ _ _ _ _ hm h.1
          exact main res h.2 h1 h2
        · exact h.elim
      · exact h.elim
    · exact h.elim
  · exact h.elim
end Go.GD

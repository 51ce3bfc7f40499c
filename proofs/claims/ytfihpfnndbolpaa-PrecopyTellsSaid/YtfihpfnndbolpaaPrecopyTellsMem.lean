/-
  GD: memory bears a state: how that is handed on.
-/
import Derived.Test.YtfihpfnndbolpaaPrecopyTellsVc
namespace Go.GD
open Go
set_option linter.unusedVariables false
set_option linter.unusedSimpArgs false
mutual
theorem PRep_monoC {I I' : Blocks} {w w' : World} (h : ∀ b arr ty fz, I b → w.heap[b]? = some (.cells arr ty fz) → I' b ∧ w'.heap[b]? = some (.cells arr ty fz)) : ∀ (d : D) (v : Value), PRep I w d v → PRep I' w' d v
  | _, _, .bool b => .bool b
  | _, _, .int k n => .int k n
  | _, _, .str s => .str s
  | _, _, .nilp => .nilp
  | _, _, .nils => .nils
  | _, _, .emp a => .emp a
  | _, _, .sl0 sz es fr a cap h0 => .sl0 sz es fr a cap h0
  | _, _, .sl1 sz es fr cap hc b off arr ty fz hI hh hE => .sl1 sz es fr cap hc b off arr ty fz (h b arr ty fz hI hh).1 (h b arr ty fz hI hh).2 (PElems_monoC h es.l arr off sz hE)
theorem PCells_monoC {I I' : Blocks} {w w' : World} (h : ∀ b arr ty fz, I b → w.heap[b]? = some (.cells arr ty fz) → I' b ∧ w'.heap[b]? = some (.cells arr ty fz)) : ∀ (cs : List D) (arr : Array Value) (off : Nat), PCells I w cs arr off → PCells I' w' cs arr off
  | _, _, _, .nil arr off => .nil arr off
  | _, _, _, .cons c cs arr off v hv hp hr => .cons c cs arr off v hv (PRep_monoC h c v hp) (PCells_monoC h cs arr (off + 1) hr)
theorem PElems_monoC {I I' : Blocks} {w w' : World} (h : ∀ b arr ty fz, I b → w.heap[b]? = some (.cells arr ty fz) → I' b ∧ w'.heap[b]? = some (.cells arr ty fz)) : ∀ (es : List (List D)) (arr : Array Value) (off sz : Nat), PElems I w es arr off sz → PElems I' w' es arr off sz
  | _, _, _, _, .nil arr off sz => .nil arr off sz
  | _, _, _, _, .cons e es arr off sz hl hc hr => .cons e es arr off sz hl (PCells_monoC h e arr off hc) (PElems_monoC h es arr (off + sz) sz hr)
end
theorem monoC {I I' : Blocks} {w w' : World} (h : ∀ b, I b → I' b ∧ w'.heap[b]? = w.heap[b]?) (b : Nat) (arr : Array Value) (ty : TypeId) (fz : Nat × Nat) (hI : I b) (hh : w.heap[b]? = some (.cells arr ty fz)) : I' b ∧ w'.heap[b]? = some (.cells arr ty fz) := ⟨(h b hI).1, (h b hI).2.trans hh⟩
theorem PElems_mono {I I' : Blocks} {w w' : World} (h : ∀ b, I b → I' b ∧ w'.heap[b]? = w.heap[b]?) (es : List (List D)) (arr : Array Value) (off sz : Nat) (hp : PElems I w es arr off sz) : PElems I' w' es arr off sz := PElems_monoC (monoC h) es arr off sz hp
structure Grows (c : Ctx) (w : World) (c' : Ctx) (w' : World) : Prop where
  base : c'.base = c.base
  top : c.top ≤ c'.top
  I : ∀ b, c.I b → c'.I b ∧ w'.heap[b]? = w.heap[b]?
  R : ∀ r row, c.R r = some row → ∃ row', c'.R r = some row' ∧ row'.box = row.box ∧ row'.ty = row.ty ∧ row'.sz = row.sz ∧ row'.es.l.length = row.es.l.length ∧ c'.ρ r = c.ρ r ∧ (c'.V r ↔ c.V r) ∧
    (¬ c.V r → ∀ arr, w.heap[c.ρ r]? = some (.cells arr row.ty (0, 0)) → ∃ arr', w'.heap[c.ρ r]? = some (.cells arr' row.ty (0, 0)) ∧ arr'.size = arr.size)
structure Grows0 (c : Ctx) (w : World) (c' : Ctx) (w' : World) : Prop where
  base : c'.base = c.base
  top : c.top ≤ c'.top
  I : ∀ b arr ty fz, c.I b → w.heap[b]? = some (.cells arr ty fz) → c'.I b ∧ w'.heap[b]? = some (.cells arr ty fz)
  R : ∀ r row, c.R r = some row → ∃ row', c'.R r = some row' ∧ row'.box = row.box ∧ row'.ty = row.ty ∧ row'.sz = row.sz ∧ row'.es.l.length = row.es.l.length ∧ c'.ρ r = c.ρ r ∧ (c'.V r ↔ c.V r) ∧
    (¬ c.V r → ∀ arr, w.heap[c.ρ r]? = some (.cells arr row.ty (0, 0)) → ∃ arr', w'.heap[c.ρ r]? = some (.cells arr' row.ty (0, 0)) ∧ arr'.size = arr.size)
theorem Grows.to0 {c c' : Ctx} {w w' : World} (h : Grows c w c' w') : Grows0 c w c' w' := ⟨h.base, h.top, monoC h.I, h.R⟩
theorem FnV_mono {c c' : Ctx} {w w' : World} (h : ∀ b, c.I b → c'.I b ∧ w'.heap[b]? = w.heap[b]?) {f : Nat} {us : List Value} {v : Value} (hf : FnV c w f us v) : FnV c' w' f us v := by
  rcases hf with hf | ⟨h1, l, rec, h2, h3, h4, h5⟩
  · exact .inl hf
  · exact .inr ⟨h1, l, rec, h2, (h l h3).1, (h l h3).2.trans h4, h5⟩
theorem Grows.refl (c : Ctx) (w : World) : Grows c w c w :=
  ⟨rfl, Nat.le_refl _, fun _ h => ⟨h, rfl⟩, fun _ row h => ⟨row, h, rfl, rfl, rfl, rfl, rfl, Iff.rfl, fun _ arr h => ⟨arr, h, rfl⟩⟩⟩
theorem Grows.trans {c c' c'' : Ctx} {w w' w'' : World} (h : Grows c w c' w') (g : Grows c' w' c'' w'') : Grows c w c'' w'' := by
  refine ⟨g.base.trans h.base, Nat.le_trans h.top g.top, fun b hb => ⟨(g.I b (h.I b hb).1).1, (g.I b (h.I b hb).1).2.trans (h.I b hb).2⟩, fun r row hr => ?_⟩
  obtain ⟨row', h1, h2, h3, h4, h5, h6, hV, h7⟩ := h.R r row hr
  obtain ⟨row'', g1, g2, g3, g4, g5, g6, gV, g7⟩ := g.R r row' h1
  refine ⟨row'', g1, g2.trans h2, g3.trans h3, g4.trans h4, g5.trans h5, g6.trans h6, gV.trans hV, fun nv arr ha => ?_⟩
  obtain ⟨arr', ha', hs⟩ := h7 nv arr ha
  obtain ⟨arr'', ha'', hs'⟩ := g7 (fun e => nv (hV.1 e)) arr' (by rw [h6, h3]; exact ha')
  exact ⟨arr'', by rw [h6, h3] at ha''; exact ha'', hs'.trans hs⟩
theorem CRep_monoC {c c' : Ctx} {w w' : World} (h : Grows0 c w c' w') : ∀ {d : D} {v : Value}, (∀ f cs, d ≠ .clo f cs) → CRep c w d v → CRep c' w' d v := by
  intro d v hne hd
  cases d with
  | sl sz es fr =>
    simp only [CRep] at hd ⊢
    obtain ⟨a, cap, hv, hc, hes⟩ := hd
    refine ⟨a, cap, hv, hc, ?_⟩
    rcases hes with hes | ⟨b, off, arr, ty, fz, ha, hI, hf, hh, hE⟩
    · exact .inl hes
    · exact .inr ⟨b, off, arr, ty, fz, ha, (h.I b arr ty fz hI hh).1, fun e => by rw [h.base]; exact hf e, (h.I b arr ty fz hI hh).2, PElems_monoC h.I _ arr off sz hE⟩
  | all r =>
    simp only [CRep] at hd ⊢
    obtain ⟨row, hr, hb, hd⟩ := hd
    obtain ⟨row', g1, g2, g3, g4, g5, g6, gV, g7⟩ := h.R r row hr
    refine ⟨row', g1, g2.trans hb, ?_⟩
    rcases hd with ⟨hV, hv⟩ | ⟨hV, cap, arr, hv, h1, h2, h3, h4⟩
    · obtain ⟨a, hv, ho⟩ := hv
      exact .inl ⟨gV.2 hV, a, hv, ho.mono h.top⟩
    · obtain ⟨arr', ha', hs⟩ := g7 hV arr h3
      exact .inr ⟨fun e => hV (gV.1 e), cap, arr', by rw [hv, g5, g6], by rw [g5]; exact h1, h2, by rw [g6, g3]; exact ha', by rw [g4, hs]; exact h4⟩
  | emp =>
    obtain ⟨a, hv, ho⟩ := hd
    exact ⟨a, hv, ho.mono h.top⟩
  | own r o n =>
    simp only [CRep] at hd ⊢
    obtain ⟨row, hr, hb, ho, hd⟩ := hd
    obtain ⟨row', g1, g2, g3, g4, g5, g6, gV, g7⟩ := h.R r row hr
    refine ⟨row', g1, g2.trans hb, by rw [g5]; exact ho, ?_⟩
    rcases hd with ⟨h0, a, hv, ho'⟩ | ⟨hV, cap, arr, h1, h2, h3, h4, h5⟩
    · exact .inl ⟨h0, a, hv, ho'.mono h.top gV g6⟩
    · obtain ⟨arr', ha', hs⟩ := g7 hV arr h3
      exact .inr ⟨fun e => hV (gV.1 e), cap, arr', h1, h2, by rw [g6, g3]; exact ha', by rw [g4, g6]; exact h4, by rw [g4, hs]; exact h5⟩
  | ptr r i off =>
    simp only [CRep] at hd ⊢
    obtain ⟨row, hr, hV, hi, hv⟩ := hd
    obtain ⟨row', g1, g2, g3, g4, g5, g6, gV, g7⟩ := h.R r row hr
    exact ⟨row', g1, fun e => hV (gV.1 e), by rw [g5]; exact hi, by rw [hv, g6, g4]⟩
  | pa r i off len k n =>
    simp only [CRep] at hd ⊢
    obtain ⟨hn, row, hr, hV, hi, hv⟩ := hd
    obtain ⟨row', g1, g2, g3, g4, g5, g6, gV, g7⟩ := h.R r row hr
    exact ⟨hn, row', g1, fun e => hV (gV.1 e), by rw [g5]; exact hi, by rw [hv, g6, g4]⟩
  | iptr sz es i off =>
    simp only [CRep] at hd ⊢
    obtain ⟨b, o, arr, ty, fz, hv, hI, hi, hh, hE⟩ := hd
    exact ⟨b, o, arr, ty, fz, hv, (h.I b arr ty fz hI hh).1, hi, (h.I b arr ty fz hI hh).2, PElems_monoC h.I _ arr o sz hE⟩
  | selfp r =>
    rcases hd with hd | ⟨row, hr, hV, hi, hv⟩
    · exact .inl hd
    · obtain ⟨row', g1, g2, g3, g4, g5, g6, gV, g7⟩ := h.R r row hr
      exact .inr ⟨row', g1, fun e => hV (gV.1 e), by rw [g5]; exact hi, by rw [hv, g6, g4]⟩
  | clo f cs => exact absurd rfl (hne f cs)
  | _ => exact hd
theorem CRep_mono0 {c c' : Ctx} {w w' : World} (h : Grows c w c' w') {d : D} {v : Value} (hne : ∀ f cs, d ≠ .clo f cs) (hd : CRep c w d v) : CRep c' w' d v := CRep_monoC h.to0 hne hd
theorem caps_ren {c c' : Ctx} {w w' : World} {S : Nat → Prop} {f : Nat → Nat} {keep : Bool} {Fk : Nat → Prop} (g : ∀ d v, (∀ f cs, d ≠ .clo f cs) → (∀ r ∈ lends1 d, S r) → CRep c w d v → CRep c' w' (d.ren1 f keep) v) (gF : ∀ k ws v, Fk k → FnV c w k ws v → FnV c' w' k ws v) :
    ∀ {cs : List Cap} {us : List Value}, (∀ k ps, Cap.fn k ps ∈ cs → Fk k) → (∀ r ∈ capL cs, S r) → CapReps c w cs us → CapReps c' w' (cs.map (Cap.ren f keep)) us
  | [], [], _, _, _ => trivial
  | x :: cs, u :: us, hF, hS, ⟨h1, h2⟩ => by
    refine ⟨?_, caps_ren g gF (fun k ps hm => hF k ps (by simp [hm])) (fun r hr => hS r (by simp [capL, hr])) h2⟩
    have hS1 : ∀ r ∈ capL1 x, S r := fun r hr => hS r (by simp [capL, hr])
    cases x with
    | fn k ps =>
      obtain ⟨ws, hv, hw⟩ := h1
      refine ⟨ws, gF k ws u (hF k ps (by simp)) hv, ?_⟩
      have hS2 : ∀ p ∈ ps, S p.1 := fun p hp => hS1 _ (by simp only [capL1, List.mem_map]; exact ⟨p, hp, rfl⟩)
      clear hv hS1 hS h2 hF
      induction ps generalizing ws with
      | nil => cases ws <;> exact hw
      | cons p ps ih =>
        cases ws with
        | nil => exact hw.elim
        | cons v ws => exact ⟨g (.ptr p.1 p.2.1 p.2.2) v (fun _ _ e => by cases e) (fun r hr => by simp [lends1] at hr; subst hr; exact hS2 p (by simp)) hw.1, ih ws hw.2 (fun q hq => hS2 q (by simp [hq]))⟩
    | ptr r i off => exact g (.ptr r i off) u (fun _ _ e => by cases e) hS1 h1
    | int k n => exact h1
    | arr r => exact g (.all r) u (fun _ _ e => by cases e) hS1 h1
    | sl a b fr => exact g (.sl a b fr) u (fun _ _ e => by cases e) (fun r hr => by simp [lends1] at hr) h1
  | [], _ :: _, _, _, h => h.elim
  | _ :: _, [], _, _, h => h.elim
theorem ren1_same {d : D} (h : ∀ f cs, d ≠ .clo f cs) : d.ren1 (fun r => r) true = d := by cases d <;> first | (simp [D.ren1]; done) | exact absurd rfl (h _ _)
theorem capRen_id : ∀ {cs : List Cap}, cs.map (Cap.ren (fun r => r) true) = cs
  | [] => rfl
  | x :: l => by
    simp only [List.map_cons, capRen_id (cs := l)]
    congr 1
    cases x <;> simp [Cap.ren]
theorem caps_lift0 {c c' : Ctx} {w w' : World} {S : Nat → Prop} {Fk : Nat → Prop} (g : ∀ d v, (∀ f cs, d ≠ .clo f cs) → (∀ r ∈ lends1 d, S r) → CRep c w d v → CRep c' w' d v) (gF : ∀ k ws v, Fk k → FnV c w k ws v → FnV c' w' k ws v) {cs : List Cap} {us : List Value} (hF : ∀ k ps, Cap.fn k ps ∈ cs → Fk k) (hS : ∀ r ∈ capL cs, S r) (h : CapReps c w cs us) : CapReps c' w' cs us := by
  have := caps_ren (f := fun r => r) (keep := true) (fun d v h1 h2 h3 => by rw [ren1_same h1]; exact g d v h1 h2 h3) gF hF hS h
  rwa [capRen_id] at this
theorem caps_lift {c c' : Ctx} {w w' : World} {S : Nat → Prop} (g : ∀ d v, (∀ f cs, d ≠ .clo f cs) → (∀ r ∈ lends1 d, S r) → CRep c w d v → CRep c' w' d v) (gF : ∀ b, c.I b → c'.I b ∧ w'.heap[b]? = w.heap[b]?) {cs : List Cap} {us : List Value} (hS : ∀ r ∈ capL cs, S r) (h : CapReps c w cs us) : CapReps c' w' cs us :=
  caps_lift0 (Fk := fun _ => True) g (fun _ _ _ _ => FnV_mono gF) (fun _ _ _ => trivial) hS h
theorem CRep_mono {c c' : Ctx} {w w' : World} (h : Grows c w c' w') {d : D} {v : Value} (hd : CRep c w d v) : CRep c' w' d v := by
  by_cases e : ∃ f cs, d = .clo f cs
  · obtain ⟨f, cs, rfl⟩ := e
    obtain ⟨us, hv, hu⟩ := hd
    exact ⟨us, FnV_mono h.I hv, caps_lift (S := fun _ => True) (fun d v h1 _ h2 => CRep_mono0 h h1 h2) h.I (fun _ _ => trivial) hu⟩
  · exact CRep_mono0 h (fun f cs e' => e ⟨f, cs, e'⟩) hd
def fnsC : List Cap → List Nat
  | [] => []
  | .fn f _ :: l => f :: fnsC l
  | _ :: l => fnsC l
def fns1 : D → List Nat | .clo f cs => f :: fnsC cs | _ => []
def fnsL : List D → List Nat
  | [] => []
  | d :: l => fns1 d ++ fnsL l
def fnsD : D → List Nat | .agg cs => fnsL cs | d => fns1 d
def fnsT : List D → List Nat
  | [] => []
  | d :: l => fnsD d ++ fnsT l
def fnsV : D → List Nat | .tup ds => fnsT ds | d => fnsD d
def fnsR : List Row → List Nat
  | [] => []
  | ⟨true, _, _, .gen [e]⟩ :: l => fnsL e ++ fnsR l
  | _ :: l => fnsR l
def fnsRs : Rows → List Nat
  | [] => []
  | some r :: l => fnsR [r] ++ fnsRs l
  | none :: l => fnsRs l
def noYs (l : List Nat) : Bool := l.all fun f => Nat.blt f YB
theorem noYs_mem {l : List Nat} (h : noYs l = true) {k : Nat} (hk : k ∈ l) : k < YB := Nat.le_of_ble_eq_true (List.all_eq_true.1 h k hk)
theorem fnsC_mem : ∀ {cs : List Cap} {k : Nat} {ps : List (Nat × Nat × Nat)}, Cap.fn k ps ∈ cs → k ∈ fnsC cs
  | x :: l, k, ps, hm => by
    rcases List.mem_cons.1 hm with e | e
    · subst e; simp [fnsC]
    · have := fnsC_mem e
      cases x <;> simp [fnsC, this]
  | [], _, _, hm => by simp at hm
section
variable {c c' : Ctx} {w w' : World} (h : Grows0 c w c' w') {Fk : Nat → Prop} (gF : ∀ k ws v, Fk k → FnV c w k ws v → FnV c' w' k ws v)
include h gF
theorem CRep_pass {d : D} {v : Value} (hn : ∀ k ∈ fns1 d, Fk k) (hd : CRep c w d v) : CRep c' w' d v := by
  by_cases e : ∃ f cs, d = .clo f cs
  · obtain ⟨f, cs, rfl⟩ := e
    obtain ⟨us, hv, hu⟩ := hd
    exact ⟨us, gF _ _ _ (hn f (by simp [fns1])) hv, caps_lift0 (S := fun _ => True) (Fk := Fk) (fun d v h1 _ h2 => CRep_monoC h h1 h2) gF (fun k ps hm => hn k (by simp [fns1, fnsC_mem hm])) (fun _ _ => trivial) hu⟩
  · exact CRep_monoC h (fun f cs e' => e ⟨f, cs, e'⟩) hd
theorem CReps_pass : ∀ {ds : List D} {vs : List Value}, (∀ k ∈ fnsL ds, Fk k) → CReps c w ds vs → CReps c' w' ds vs
  | [], [], _, _ => trivial
  | _ :: _, _ :: _, hn, ⟨h1, h2⟩ => ⟨CRep_pass h gF (fun k hk => hn k (by simp [fnsL, hk])) h1, CReps_pass (fun k hk => hn k (by simp [fnsL, hk])) h2⟩
  | [], _ :: _, _, h => h.elim
  | _ :: _, [], _, h => h.elim
theorem VRep_pass {d : D} {v : Value} (hn : ∀ k ∈ fnsD d, Fk k) (hd : VRep c w d v) : VRep c' w' d v := by
  cases d with
  | agg cs => obtain ⟨vs, hv, hr⟩ := hd; exact ⟨vs, hv, CReps_pass h gF hn hr⟩
  | _ => simp only [VRep] at hd ⊢; exact CRep_pass h gF hn hd
theorem VReps_pass : ∀ {ds : List D} {vs : List Value}, (∀ k ∈ fnsT ds, Fk k) → VReps c w ds vs → VReps c' w' ds vs
  | [], [], _, _ => trivial
  | _ :: _, _ :: _, hn, ⟨h1, h2⟩ => ⟨VRep_pass h gF (fun k hk => hn k (by simp [fnsT, hk])) h1, VReps_pass (fun k hk => hn k (by simp [fnsT, hk])) h2⟩
  | [], _ :: _, _, h => h.elim
  | _ :: _, [], _, h => h.elim
theorem Rep_pass {d : D} {v : Value} (hn : ∀ k ∈ fnsV d, Fk k) (hd : Rep c w d v) : Rep c' w' d v := by
  cases d with
  | tup ds => obtain ⟨vs, hv, hr⟩ := hd; exact ⟨vs, hv, VReps_pass h gF hn hr⟩
  | dead => trivial
  | _ => simp only [Rep] at hd ⊢; exact VRep_pass h gF hn hd
theorem CCells_pass : ∀ {ds : List D} {arr : Array Value} {off : Nat}, (∀ k ∈ fnsL ds, Fk k) → CCells c w ds arr off → CCells c' w' ds arr off
  | [], _, _, _, _ => trivial
  | _ :: _, _, _, hn, ⟨⟨v, hv, h1⟩, h2⟩ => ⟨⟨v, hv, CRep_pass h gF (fun k hk => hn k (by simp [fnsL, hk])) h1⟩, CCells_pass (fun k hk => hn k (by simp [fnsL, hk])) h2⟩
end
theorem CReps_mono {c c' : Ctx} {w w' : World} (h : Grows c w c' w') : ∀ {ds : List D} {vs : List Value}, CReps c w ds vs → CReps c' w' ds vs
  | [], [], _ => trivial
  | _ :: _, _ :: _, ⟨h1, h2⟩ => ⟨CRep_mono h h1, CReps_mono h h2⟩
theorem VRep_mono {c c' : Ctx} {w w' : World} (h : Grows c w c' w') : ∀ {d : D} {v : Value}, VRep c w d v → VRep c' w' d v := by
  intro d v hd
  cases d with
  | agg cs => obtain ⟨vs, hv, hr⟩ := hd; exact ⟨vs, hv, CReps_mono h hr⟩
  | _ => simp only [VRep] at hd ⊢; exact CRep_mono h hd
theorem VReps_mono {c c' : Ctx} {w w' : World} (h : Grows c w c' w') : ∀ {ds : List D} {vs : List Value}, VReps c w ds vs → VReps c' w' ds vs
  | [], [], _ => trivial
  | _ :: _, _ :: _, ⟨h1, h2⟩ => ⟨VRep_mono h h1, VReps_mono h h2⟩
theorem Rep_mono {c c' : Ctx} {w w' : World} (h : Grows c w c' w') : ∀ {d : D} {v : Value}, Rep c w d v → Rep c' w' d v := by
  intro d v hd
  cases d with
  | tup ds => obtain ⟨vs, hv, hr⟩ := hd; exact ⟨vs, hv, VReps_mono h hr⟩
  | dead => trivial
  | _ => simp only [Rep] at hd ⊢; exact VRep_mono h hd
theorem CCells_mono {c c' : Ctx} {w w' : World} (h : Grows c w c' w') : ∀ {ds : List D} {arr : Array Value} {off : Nat}, CCells c w ds arr off → CCells c' w' ds arr off
  | [], _, _, _ => trivial
  | _ :: _, _, _, ⟨⟨v, hv, h1⟩, h2⟩ => ⟨⟨v, hv, CRep_mono h h1⟩, CCells_mono h h2⟩
structure Mem (c : Ctx) (w : World) : Prop where
  row : ∀ r row, c.R r = some row → RowRep c w r row
  inj : ∀ r s x y, c.R r = some x → c.R s = some y → ¬ c.V r → ¬ c.V s → c.ρ r = c.ρ s → r = s
  imm : ∀ b, c.I b → b < w.heap.size ∧ ∀ r x, c.R r = some x → ¬ c.V r → c.ρ r ≠ b
  top : c.top ≤ w.heap.size
theorem Mem_pass {c : Ctx} {w w' : World} {I : Blocks} (hm : Mem c w) (h : Grows0 c w { c with I := I } w') (hh : ∀ r x, c.R r = some x → ¬ c.V r → w'.heap[c.ρ r]? = w.heap[c.ρ r]?) {Fk : Nat → Prop} (gF : ∀ k ws v, Fk k → FnV c w k ws v → FnV { c with I := I } w' k ws v)
    (hn : ∀ r x, c.R r = some x → ∀ k ∈ fnsR [x], Fk k) (hI : ∀ b, I b → b < w'.heap.size ∧ ∀ r x, c.R r = some x → ¬ c.V r → c.ρ r ≠ b) (hs : w.heap.size ≤ w'.heap.size) : Mem { c with I := I } w' := by
  refine ⟨fun r row hr => ?_, hm.inj, fun b hb => hI b hb, Nat.le_trans hm.top hs⟩
  rcases hm.row r row hr with g | ⟨g0, arr, g1, g2, g3⟩
  · exact .inl g
  · refine .inr ⟨g0, arr, (hh r row hr g0).trans g1, g2, ?_⟩
    split at g3
    · rename_i hb
      rw [if_pos hb]
      obtain ⟨e, k1, k2, k3, k4⟩ := g3
      refine ⟨e, k1, k2, k3, CCells_pass h gF (fun k hk => hn r row hr k ?_) k4⟩
      obtain ⟨bx, ty, sz, es⟩ := row
      simp only at hb k1
      subst hb; subst k1
      simpa [fnsR] using hk
    · rename_i hb
      rw [if_neg hb]
      exact PElems_monoC h.I _ _ _ _ g3
theorem Mem.real {c : Ctx} {w : World} (h : Mem c w) {r : Nat} {row : Row} (hr : c.R r = some row) (hV : ¬ c.V r) : RowIn c w r row := by
  rcases h.row r row hr with h1 | h1
  · exact (hV h1.1).elim
  · exact h1.2
theorem Mem.virt {c : Ctx} {w : World} (h : Mem c w) {r : Nat} {row : Row} (hr : c.R r = some row) (hV : c.V r) : row.box = false ∧ row.es.l = [] ∧ 0 < row.sz := by
  rcases h.row r row hr with h1 | h1
  · exact h1.2
  · exact (h1.1 hV).elim
theorem Mem.lt {c : Ctx} {w : World} (h : Mem c w) {r : Nat} {row : Row} (hr : c.R r = some row) (hV : ¬ c.V r) : c.ρ r < w.heap.size := by
  obtain ⟨arr, ha, _⟩ := h.real hr hV
  by_cases hlt : c.ρ r < w.heap.size
  · exact hlt
  · rw [Array.getElem?_eq_none (by omega)] at ha; cases ha
structure Fr (X : Blocks) (w w' : World) : Prop where
  os : w'.os = w.os
  tape : w'.tape = w.tape
  output : w'.output = w.output
  size : w.heap.size ≤ w'.heap.size
  heap : ∀ b, b < w.heap.size → ¬ X b → w'.heap[b]? = w.heap[b]?
theorem Fr.refl (X : Blocks) (w : World) : Fr X w w := ⟨rfl, rfl, rfl, Nat.le_refl _, fun _ _ _ => rfl⟩
theorem Fr.trans {X : Blocks} {w w' w'' : World} (h : Fr X w w') (g : Fr X w' w'') : Fr X w w'' :=
  ⟨g.os.trans h.os, g.tape.trans h.tape, g.output.trans h.output, Nat.le_trans h.size g.size, fun b hb hx => (g.heap b (Nat.lt_of_lt_of_le hb h.size) hx).trans (h.heap b hb hx)⟩
theorem Fr.mono {X Y : Blocks} {w w' : World} (h : Fr X w w') (hxy : ∀ b, b < w.heap.size → X b → Y b) : Fr Y w w' :=
  ⟨h.os, h.tape, h.output, h.size, fun b hb hy => h.heap b hb fun hx => hy (hxy b hb hx)⟩
end Go.GD

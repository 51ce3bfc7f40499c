/-
  A part of the proof.
-/
import Derived.Test.YtdkiadhigcfmkaaGreatMachineConfinedZl
import Derived.Test.YtdkiadhigcfmkaaGreatMachineConfinedLaws
import Derived.Test.YtdkiadhigcfmkaaGreatMachineConfinedNews
import Derived.Test.YtdkiadhigcfmkaaGreatMachineConfinedZm
namespace Go.Proofs.YtdkiadhigcfmkaaGreat
open Go Go.GD
set_option linter.unusedVariables false
set_option linter.unusedSimpArgs false
set_option maxRecDepth 100000
structure Stepped (m0 : List Int) (x y : ApiMachine) : Prop where
  ok : okS 8 y
  cm : CM m0 y.Mem
  kept : kc x.Cpu y.Cpu
  con : y.Console = x.Console
  tim : y.Timer = x.Timer
  dsk : y.Disk = x.Disk
  nic : y.Nic = x.Nic
  bal : y.Balloon = x.Balloon
  hlt : y.Halted = x.Halted
theorem step_cm {m0 : List Int} {x : ApiMachine} (hx : okS 8 x) (hm : CM m0 x.Mem) (h0 : x.Cpu.Csr.a0 = 4) (h6 : x.Cpu.Csr.a6 = 4) : (machine_Step_t x 0).w (fun r => Stepped m0 x r.1) := by
  have hcl : slices_Clone_uint32_uint32 x.Mem = x.Mem := rfl
  have us : US x.Cpu := ⟨hx.cpu, by show (iand .u32 x.Cpu.Csr.a0 1 != 0) = false; rw [h0]; decide, by rw [h0]; decide, h6⟩
  unfold machine_Step_t
  refine w_an (clone_w hm.ok) (w_lv fun l hl => ?_)
  rw [hcl] at hl; subst hl
  refine w_call (runsP_w (m := ⟨_, _, _, _, _, _, x.Balloon, _, _, _⟩) hx.given) fun x1 _ => w_br (fun _ => ⟨hx, hm, kc_refl _, rfl, rfl, rfl, rfl, rfl, rfl⟩) (fun _ => w_an (Tree.pp (beginP_w hx)).1 (w_lv fun x2 h2 => ?_))
  have hb : x2 = { x with Waiting := false } := by
    rw [h2]
    show (machine_begin_t x).m = _
    unfold machine_begin_t
    simp only [Tree.m, h0]
    rfl
  subst hb
  have ex := Tree.pp (exec_cm hm us)
  have ok := Tree.pp (execP_w hx.cpu hm.ok)
  refine w_an ex.1 (w_lv fun x3 h3 => ?_)
  have e1 : kc x.Cpu x3.1 ∧ CM m0 x3.2.1 ∧ x3.2.2.Kind = 0 := by rw [h3]; exact ex.2
  have e2 : okCpu x3.1 ∧ okMem 8 x3.2.1 ∧ U x3.2.2.Value := by rw [h3]; exact ok.2
  obtain ⟨k1, k2, k3⟩ := e1
  have no : ∀ {k : Int} {p : Prop}, k ≠ 0 → (x3.2.2.Kind == k) = true → p := fun hk hh => absurd ((eq_of_beq hh).symm.trans k3) hk
  exact w_br (fun hh => no (by decide) hh) (fun _ => w_br (fun hh => no (by decide) hh) (fun _ => w_br (fun hh => no (by decide) hh) (fun _ => w_br (fun hh => no (by decide) hh) (fun _ => ⟨⟨e2.1, e2.2.1, hx.disk, hx.nic, hx.target, hx.given⟩, k2, k1, rfl, rfl, rfl, rfl, rfl, rfl⟩))))
end Go.Proofs.YtdkiadhigcfmkaaGreat
namespace Go.Proofs.YtdkiadhigcfmkaaGreat
open Go Go.GD
set_option linter.unusedVariables false
set_option linter.unusedSimpArgs false
set_option maxRecDepth 100000
theorem ent_back {j : Nat} {x : Int} (h : ent (tab0 j) x) : iandn .u32 x 24 = tab0 j := by
  unfold tab0 at *
  split at h
  · rw [if_pos (by assumption)]; rcases h with rfl | rfl | rfl | rfl <;> decide
  · rw [if_neg (by assumption)]
    split at h
    · rw [if_pos (by assumption)]; rcases h with rfl | rfl | rfl | rfl <;> decide
    · rw [if_neg (by assumption)]; rcases h with rfl | rfl | rfl | rfl <;> decide
theorem pages_8 {m : List Int} (h : m.length = 256) : ref1_Pages m = 8 := by
  simp only [ref1_Pages, ref1_Pages_t, Tree.m, h]
  rfl
theorem same_part {m0 m : List Int} (h0 : m0.length = 256) (h : CM m0 m) {p : Nat} (hp : p < 8) (h4 : p ≠ 4) (h6 : p ≠ 6) :
    List.take 32 (List.drop (p * 32) m0) = List.take 32 (List.drop (p * 32) m) := by
  have hl : m.length = 256 := by have := h.ok.len; omega
  apply List.ext_getElem
  · simp; omega
  · intro i h1 h2
    simp only [List.length_take, List.length_drop] at h1 h2
    simp only [List.getElem_take, List.getElem_drop]
    have := h.same (p * 32 + i) (by omega)
    rw [List.getD_eq_getElem?_getD, List.getD_eq_getElem?_getD, List.getElem?_eq_getElem (by omega), List.getElem?_eq_getElem (by omega)] at this
    exact this.symm
theorem changed_cm {m0 m : List Int} (h0 : m0.length = 256) (h : CM m0 m) : (ref1_Changed_t m0 m).w (fun c => c.length ≤ 8 ∧ ∀ p ∈ c, p = 4 ∨ p = 6) := by
  have hl : m.length = 256 := by have := h.ok.len; omega
  unfold ref1_Changed_t
  refine w_br (fun hb => ?_) (fun _ => ?_)
  · rw [h0, hl] at hb; exact absurd hb (by decide)
  refine w_lp (inv := fun v0 : Int × List Int => 0 ≤ v0.1 ∧ v0.1 ≤ 8 ∧ (v0.2.length : Int) ≤ v0.1 ∧ ∀ p ∈ v0.2, p = 4 ∨ p = 6) (μ := ref1_Changed_meas0 m0 m) ⟨by decide, by decide, by decide, fun p hp => by cases hp⟩ (Nat.lt_succ_self _) (fun v0 ⟨i1, i2, i3, i4⟩ => ?_)
  refine w_lv fun x0 hx0 => ?_
  rw [pages_8 h0] at hx0; subst hx0
  refine w_br (fun hb => ?_) (fun _ => ⟨by show v0.2.length ≤ 8; omega, i4⟩)
  have hb := of_decide_eq_true hb
  have e1 : IntKind.i64.wrap (v0.1 + 1) = v0.1 + 1 := by rw [IntKind.wrap_i64]; omega
  have e2 : IntKind.i64.wrap (v0.1 * 32) = v0.1 * 32 := by rw [IntKind.wrap_i64]; omega
  have e3 : IntKind.i64.wrap ((v0.1 + 1) * 32) = (v0.1 + 1) * 32 := by rw [IntKind.wrap_i64]; omega
  have hm : ∀ l : List Int, ref1_Changed_meas0 m0 m (v0.1 + 1, l) < ref1_Changed_meas0 m0 m v0 := fun l => by
    show (m0.length - (v0.1 + 1)).toNat < (m0.length - v0.1).toNat
    omega
  have hc : ∀ n : Int, n = 256 → (Nat.beq 1 1 && Nat.blt 0 1 && decide (0 ≤ IntKind.i64.wrap (v0.1 * 32) ∧ IntKind.i64.wrap (v0.1 * 32) ≤ IntKind.i64.wrap (IntKind.i64.wrap (v0.1 + 1) * 32) ∧ IntKind.i64.wrap (IntKind.i64.wrap (v0.1 + 1) * 32) ≤ n)) = true := fun n hn => by
    rw [e1, e2, e3]; simp [Nat.blt]; omega
  have ek : (IntKind.i64.wrap (IntKind.i64.wrap (v0.1 + 1) * 32)).toNat - (IntKind.i64.wrap (v0.1 * 32)).toNat = 32 := by rw [e1, e2, e3]; omega
  have ed : (IntKind.i64.wrap (v0.1 * 32)).toNat = v0.1.toNat * 32 := by rw [e2]; omega
  refine w_cn (hc _ (by omega)) (w_cn (hc _ (by omega)) ?_)
  refine w_an (by show _ ≤ 1000000000000; simp only [List.length_take, ek]; omega) (w_lv fun x1 hx1 => w_br (fun hn => ?_) (fun _ => ?_))
  · have hp : v0.1 = 4 ∨ v0.1 = 6 := by
      rcases Classical.em (v0.1 = 4 ∨ v0.1 = 6) with h46 | h46
      · exact h46
      · rw [ek, ed, same_part h0 h (by omega) (by omega) (by omega), words_self _ (by simp only [List.length_take]; omega)] at hx1
        rw [hx1] at hn; cases hn
    refine w_cn (decide_eq_true (by omega)) (w_nx ?_)
    show (_ ∧ _ ∧ _ ∧ _) ∧ _
    rw [e1]
    refine ⟨⟨by show 0 ≤ v0.1 + 1; omega, by show v0.1 + 1 ≤ 8; omega, by show ((v0.2 ++ [v0.1]).length : Int) ≤ v0.1 + 1; simp only [List.length_append, List.length_singleton]; omega, fun p hp' => ?_⟩, hm _⟩
    rcases List.mem_append.1 hp' with h' | h'
    · exact i4 p h'
    · rw [List.mem_singleton.1 h']; exact hp
  · refine w_nx ?_
    show (_ ∧ _ ∧ _ ∧ _) ∧ _
    rw [e1]
    exact ⟨⟨by show 0 ≤ v0.1 + 1; omega, by show v0.1 + 1 ≤ 8; omega, by show (v0.2.length : Int) ≤ v0.1 + 1; omega, i4⟩, hm _⟩
end Go.Proofs.YtdkiadhigcfmkaaGreat
namespace Go.Proofs.YtdkiadhigcfmkaaGreat
open Go Go.GD
set_option linter.unusedVariables false
set_option linter.unusedSimpArgs false
set_option maxRecDepth 100000
instance U_dec (x : Int) : Decidable (U x) := inferInstanceAs (Decidable (_ ∧ _))
theorem start_ok : okS 8 (ref7_New 8 4 []).1 :=
  ⟨⟨of_decide_eq_true (by kernel_rfl), of_decide_eq_true (by kernel_rfl), of_decide_eq_true (by kernel_rfl)⟩, ⟨by kernel_rfl, by omega, by omega, of_decide_eq_true (by kernel_rfl)⟩,
   ⟨of_decide_eq_true (by kernel_rfl), of_decide_eq_true (by kernel_rfl), of_decide_eq_true (by kernel_rfl), of_decide_eq_true (by kernel_rfl)⟩, ⟨of_decide_eq_true (by kernel_rfl), of_decide_eq_true (by kernel_rfl), of_decide_eq_true (by kernel_rfl), of_decide_eq_true (by kernel_rfl)⟩, of_decide_eq_true (by kernel_rfl), of_decide_eq_true (by kernel_rfl)⟩
theorem start_a7 : (ref7_New 8 4 []).1.Cpu.Csr.a7 = 0 := by kernel_rfl
theorem start_hlt : (ref7_New 8 4 []).1.Halted = false := by kernel_rfl
theorem encode_U (i : ApiInst) : U (ref1_Encode i).1 := by
  refine Tree.post (ref1_Encode_t i) (W := fun r => U r.1) ?_
  unfold ref1_Encode_t
  exact w_lv fun _ _ => w_br (fun _ => U_0) (fun _ => U_or _ _)
theorem code_U (l : List Int) (hl : l.length * 8 ≤ reachBytes) : ∀ w ∈ make_Code l, U w := by
  have hl' : l.length * 8 ≤ 140737488351232 := hl
  refine (Tree.pp (W := fun r => ∀ w ∈ r, U w) (t := make_Code_t l) ?_).2
  unfold make_Code_t
  refine w_lp (inv := fun v0 => make_Code_inv0 l v0 ∧ ∀ w ∈ v0.2, U w) (μ := make_Code_meas0 l) ⟨⟨by omega, by simp, by simp⟩, fun w hw => by cases hw⟩ (Nat.lt_succ_self _) (fun v0 ⟨⟨h1, h2, h3⟩, hu⟩ => ?_)
  have next : v0.1 < l.length → ∀ x : Int, U x → (make_Code_inv0 l (IntKind.wrap IntKind.i64 (v0.1 + 1), v0.2 ++ [x]) ∧ ∀ w ∈ v0.2 ++ [x], U w) ∧ make_Code_meas0 l (IntKind.wrap IntKind.i64 (v0.1 + 1), v0.2 ++ [x]) < make_Code_meas0 l v0 := fun h x ux => by
    have hw : IntKind.i64.wrap (v0.1 + 1) = v0.1 + 1 := by rw [IntKind.wrap_i64]; omega
    rw [hw]
    refine ⟨⟨⟨?_, ?_, ?_⟩, fun w hw' => ?_⟩, ?_⟩
    · show 0 ≤ v0.1 + 1; omega
    · show v0.1 + 1 ≤ l.length; omega
    · show ((v0.2 ++ [x]).length : Int) = v0.1 + 1; simp; omega
    · rcases List.mem_append.1 hw' with h' | h'
      · exact hu w h'
      · rw [List.mem_singleton.1 h']; exact ux
    · show (l.length - (v0.1 + 1)).toNat < (l.length - v0.1).toNat; omega
  refine w_br (fun h => ?_) (fun _ => hu)
  have h := of_decide_eq_true h
  have hb : (Nat.beq 1 1 && Nat.blt 0 1 && decide (0 ≤ v0.1 ∧ v0.1 < (l.length : Int))) = true := by simp [Nat.blt]; omega
  have hc : decide (4 * (v0.2.length + 1) ≤ 140737488355328) = true := decide_eq_true (by omega)
  refine w_cn hb (w_br (fun _ => w_cn hb (w_cn hc (next h _ (U_wrap _)))) (fun _ => w_cn hb (w_an (inst_pre _) (w_lv fun x0 _ => w_lv fun x1 e1 => w_cn hc (next h _ (by rw [e1]; exact encode_U _))))))
theorem at_pre {l : List Int} (hl : l.length * 8 ≤ reachBytes) (i : Int) : make_At_pre l i := by
  have hl' : l.length * 8 ≤ 140737488351232 := hl
  unfold make_At_pre Tree.p make_At_t
  refine w_br (fun _ => trivial) (fun h => ?_)
  have h0 : (l.length : Int) ≠ 0 := by intro e; rw [e] at h; exact absurd h (by decide)
  refine w_an (round_pre h0) (w_lv fun x hx => w_cn ?_ trivial)
  have := round_range (n := i) (k := l.length) (by omega) (by omega)
  rw [hx]
  simp [Nat.blt]; omega
end Go.Proofs.YtdkiadhigcfmkaaGreat
namespace Go.Proofs.YtdkiadhigcfmkaaGreat
open Go Go.GD
set_option linter.unusedVariables false
set_option linter.unusedSimpArgs false
set_option maxRecDepth 100000
theorem ix_ok {i n : Int} (h0 : 0 ≤ i) (h : i < n) : (Nat.beq 1 1 && Nat.blt 0 1 && decide (0 ≤ i ∧ i < n)) = true := by simp [Nat.blt]; omega
theorem w64 {x : Int} (h0 : 0 ≤ x) (h : x < 4611686018427387904) : IntKind.i64.wrap x = x := by rw [IntKind.wrap_i64]; omega
theorem eqs_no {p : Prop} {a b : List D} (h : eqs a b = false) (e : a = b) (r : eqs b b = true) : p := by rw [e, r] at h; cases h
def mem1 (m x : List Int) : List Int := List.take (Int.toNat 160) (List.set (List.set m (Int.toNat 129) 1285) (Int.toNat 130) 1539) ++ List.take (Min.min x.length (Int.toNat 192 - Int.toNat 160)) x ++ List.drop (Int.toNat 160 + Min.min x.length (Int.toNat 192 - Int.toNat 160)) (List.set (List.set m (Int.toNat 129) 1285) (Int.toNat 130) 1539)
theorem mem1_ok {m x : List Int} (h : m.length = 256) (hu : ∀ w ∈ m, U w) (hx : ∀ w ∈ x, U w) : okMem 8 (mem1 m x) := by
  have hs : ∀ w ∈ List.set (List.set m (Int.toNat 129) 1285) (Int.toNat 130) 1539, U w := set_U (set_U hu (by decide) _) (by decide) _
  refine ⟨?_, by omega, by omega, fun w hw => ?_⟩
  · simp only [mem1, List.length_append, List.length_take, List.length_drop, List.length_set, h]
    have : Int.toNat 160 = 160 := rfl
    have : Int.toNat 192 = 192 := rfl
    omega
  · rcases List.mem_append.1 hw with h1 | h1
    · rcases List.mem_append.1 h1 with h2 | h2
      · exact hs w (List.mem_of_mem_take h2)
      · exact hx w (List.mem_of_mem_take h2)
    · exact hs w (List.mem_of_mem_drop h1)
theorem mem1_tab {m x : List Int} (h : m.length = 256) (hz : ∀ j : Nat, 128 ≤ j → j < 160 → m.getD j 0 = 0) {j : Nat} (h1 : 128 ≤ j) (h2 : j < 160) : (mem1 m x).getD j 0 = tab0 j := by
  have e1 : Int.toNat 160 = 160 := rfl
  have hl : (List.take 160 (List.set (List.set m 129 1285) 130 1539)).length = 160 := by simp [h]
  have : (mem1 m x).getD j 0 = (List.set (List.set m 129 1285) 130 1539).getD j 0 := by
    simp only [mem1, e1, List.getD_eq_getElem?_getD, List.append_assoc]
    rw [List.getElem?_append_left (by simp [h]; omega)]
    rw [List.getElem?_take_of_lt h2]
    rfl
  rw [this, getD_set', getD_set', hz j h1 h2]
  simp only [List.length_set, h]
  unfold tab0
  by_cases q : j = 129
  · subst q; rfl
  · by_cases q2 : j = 130
    · subst q2; rfl
    · rw [if_neg (by omega), if_neg (by omega), if_neg q, if_neg q2]
structure Run0 (s x : ApiMachine) : Prop where
  ok : okS 8 x
  cm : CM s.Mem x.Mem
  kept : kc { X := s.Cpu.X, Pc := 128, Csr := { a0 := 4, a1 := 1020, a2 := s.Cpu.Csr.a2, a3 := s.Cpu.Csr.a3, a4 := s.Cpu.Csr.a4, a5 := s.Cpu.Csr.a5, a6 := 4, a7 := s.Cpu.Csr.a7 } } x.Cpu
  con : x.Console = s.Console
  tim : x.Timer = s.Timer
  dsk : x.Disk = s.Disk
  nic : x.Nic = s.Nic
  bal : x.Balloon = s.Balloon
  hlt : x.Halted = s.Halted
theorem Run0.step {s x y : ApiMachine} (h : Run0 s x) (h0 : x.Cpu.Csr.a0 = 4) (g : Stepped s.Mem x y) : Run0 s y :=
  ⟨g.ok, g.cm, ⟨g.kept.1.trans h.kept.1, g.kept.2.1.trans h.kept.2.1, g.kept.2.2.1.trans h.kept.2.2.1, g.kept.2.2.2.elim (fun e => .inl (e.trans h0)) .inr⟩,
   g.con.trans h.con, g.tim.trans h.tim, g.dsk.trans h.dsk, g.nic.trans h.nic, g.bal.trans h.bal, g.hlt.trans h.hlt⟩
theorem confined (l regs : List Int) (steps : Int) (hl : l.length * 8 ≤ reachBytes) (hr : regs.length * 8 ≤ reachBytes) : law12_MachineConfined_pre l regs steps ∧ law12_MachineConfined l regs steps = true := by
  have aw : ∀ x, x = law12_awake → x = true := fun x e => e.trans awake_true
  refine Tree.pp (W := fun r => r = true) ?_
  unfold law12_MachineConfined_t
  refine w_br (fun _ => w_an awake_pre (w_lv aw)) fun hb0 => w_br (fun _ => w_an awake_pre (w_lv aw)) fun hb1 => w_br (fun _ => w_an awake_pre (w_lv aw)) fun hb2 => w_an (ref7_New_can _ _ _) (w_lv fun x3 e3 => ?_)
  have hs1 := of_decide_eq_false hb1
  have hs2 := of_decide_eq_false hb2
  have ok0 := start_ok
  have s7 := start_a7
  have sh := start_hlt
  rw [← e3] at ok0 s7 sh
  clear e3
  refine w_lp (inv := fun v : Int × List Int => 0 ≤ v.1 ∧ v.1 ≤ 256 ∧ v.2.length = 256 ∧ ∀ w ∈ v.2, U w) (μ := law12_MachineConfined_meas0 l regs steps) ⟨show (0 : Int) ≤ 0 by decide, show (0 : Int) ≤ 256 by decide, ok0.mem.len, ok0.mem.u⟩ (Nat.lt_succ_self _) fun v0 ⟨a1, a2, a3, a4⟩ => ?_
  refine w_br (fun hb => ?_) (fun _ => ?_)
  · have hb := of_decide_eq_true hb
    refine w_cn (ix_ok a1 hb) (w_nx ?_)
    show (_ ∧ _ ∧ _ ∧ _) ∧ (_ : Nat) < _
    have e : IntKind.i64.wrap (v0.1 + 1) = v0.1 + 1 := w64 (by omega) (by omega)
    exact ⟨⟨by rw [e]; omega, by rw [e]; omega, by rw [List.length_set]; exact a3, set_U a4 (U_wrap _) _⟩, by show (256 - IntKind.i64.wrap (v0.1 + 1)).toNat < (256 - v0.1).toNat; rw [e]; omega⟩
  refine w_lp (inv := fun v : Int × List Int => 0 ≤ v.1 ∧ v.1 ≤ 32 ∧ v.2.length = 256 ∧ (∀ w ∈ v.2, U w) ∧ ∀ j : Nat, 128 ≤ j → (j : Int) < 128 + v.1 → v.2.getD j 0 = 0) (μ := law12_MachineConfined_meas1 l regs steps) ⟨show (0 : Int) ≤ 0 by decide, show (0 : Int) ≤ 32 by decide, a3, a4, fun j q1 q2 => by simp only at q2; omega⟩ (Nat.lt_succ_self _) fun v1 ⟨b1, b2, b3, b4, b5⟩ => ?_
  refine w_br (fun hb => ?_) (fun hb => ?_)
  · have hb := of_decide_eq_true hb
    have e : IntKind.i64.wrap (v1.1 + 1) = v1.1 + 1 := w64 (by omega) (by omega)
    have e' : IntKind.i64.wrap (128 + v1.1) = 128 + v1.1 := w64 (by omega) (by omega)
    refine w_cn (by rw [e']; exact ix_ok (by omega) (by omega)) (w_nx ?_)
    show (_ ∧ _ ∧ _ ∧ _ ∧ _) ∧ (_ : Nat) < _
    refine ⟨⟨by rw [e]; omega, by rw [e]; omega, by rw [List.length_set]; exact b3, set_U b4 U_0 _, fun j q1 q2 => ?_⟩, by show (32 - IntKind.i64.wrap (v1.1 + 1)).toNat < (32 - v1.1).toNat; rw [e]; omega⟩
    rw [e] at q2
    show (List.set v1.2 (IntKind.i64.wrap (128 + v1.1)).toNat 0).getD j 0 = 0
    rw [e', getD_set']
    split
    · rfl
    · rename_i hn
      exact b5 j q1 (by
        rcases Classical.em ((j : Int) = 128 + v1.1) with q | q
        · exact absurd ⟨by omega, by omega⟩ hn
        · omega)
  have hb := of_decide_eq_false hb
  refine w_cn (ix_ok (by decide) (by omega)) (w_cn (ix_ok (by decide) (by rw [List.length_set]; omega)) (w_cn ?_ ?_))
  · rw [List.length_set, List.length_set, b3]; rfl
  refine w_an (code_pre l hl) (w_lv fun x4 e4 => ?_)
  have hm := mem1_ok b3 b4 (x := x4) (by rw [e4]; exact code_U l hl)
  have ht : ∀ j : Nat, 128 ≤ j → j < 160 → (mem1 v1.2 x4).getD j 0 = tab0 j := fun j q1 q2 => mem1_tab b3 (fun j q1 q2 => b5 j q1 (by omega)) q1 q2
  refine w_lp (inv := fun v : Int × ApiMachine => 1 ≤ v.1 ∧ v.1 ≤ 16 ∧ v.2.Mem = mem1 v1.2 x4 ∧ okS 8 v.2 ∧ v.2.Cpu.Csr.a7 = 0 ∧ v.2.Halted = false) (μ := law12_MachineConfined_meas2 l regs steps) ⟨show (1 : Int) ≤ 1 by decide, show (1 : Int) ≤ 16 by decide, rfl, ⟨ok0.cpu, hm, ok0.disk, ok0.nic, ok0.target, ok0.given⟩, s7, sh⟩ (Nat.lt_succ_self _) fun v2 ⟨c1, c2, c3, c4, c5, c6⟩ => ?_
  refine w_br (fun hb => ?_) (fun hb => ?_)
  · have hb := of_decide_eq_true hb
    have e : IntKind.i64.wrap (v2.1 + 1) = v2.1 + 1 := w64 (by omega) (by omega)
    refine w_an (at_pre hr _) (w_lv fun x5 _ => w_an (round_pre (by decide)) (w_lv fun x6 _ => w_cn (rc ⟨by omega, hb⟩) (w_nx ?_)))
    show (_ ∧ _ ∧ _ ∧ _ ∧ _ ∧ _) ∧ (_ : Nat) < _
    exact ⟨⟨by rw [e]; omega, by rw [e]; omega, c3, ⟨⟨okX_set c4.cpu.x (U_wrap _) _, c4.cpu.pc, c4.cpu.csr⟩, c4.mem, c4.disk, c4.nic, c4.target, c4.given⟩, c5, c6⟩, by show (16 - IntKind.i64.wrap (v2.1 + 1)).toNat < (16 - v2.1).toNat; rw [e]; omega⟩
  have hlen : v2.2.Mem.length = 256 := by have := c4.mem.len; omega
  have htab : ∀ j : Nat, 128 ≤ j → j < 160 → v2.2.Mem.getD j 0 = tab0 j := by rw [c3]; exact ht
  have csr : ∀ w ∈ A8.l { a0 := 4, a1 := 1020, a2 := v2.2.Cpu.Csr.a2, a3 := v2.2.Cpu.Csr.a3, a4 := v2.2.Cpu.Csr.a4, a5 := v2.2.Cpu.Csr.a5, a6 := 4, a7 := v2.2.Cpu.Csr.a7 : A8 Int }, U w := by
    have := c4.cpu
    intro w hw
    simp only [A8.l, List.mem_cons, List.not_mem_nil, or_false] at hw
    rcases hw with rfl | rfl | rfl | rfl | rfl | rfl | rfl | rfl
    · decide
    · decide
    · exact this.a2
    · exact this.a3
    · exact this.a4
    · exact this.a5
    · decide
    · exact this.a7
  refine w_lp (inv := fun v : Int × ApiMachine => 0 ≤ v.1 ∧ Run0 v2.2 v.2) (μ := law12_MachineConfined_meas3 l regs steps) ⟨show (0 : Int) ≤ 0 by decide, ⟨⟨c4.cpu.x, show U 128 by decide, csr⟩, c4.mem, c4.disk, c4.nic, c4.target, c4.given⟩, ⟨c4.mem, fun _ _ => rfl, fun j q1 q2 => .inl (htab j q1 q2)⟩, kc_refl _, rfl, rfl, rfl, rfl, rfl, rfl⟩ (Nat.lt_succ_self _) fun v3 ⟨d1, d2⟩ => ?_
  refine w_br (fun hb => w_br (fun hst => ?s) (fun _ => ?_)) (fun _ => ?_)
  case s =>
    have hb := of_decide_eq_true hb
    have h0 : v3.2.Cpu.Csr.a0 = 4 := by
      rcases d2.kept.2.2.2 with h | h
      · exact h
      · have h' : (iand .u32 v3.2.Cpu.Csr.a0 1 != 0) = true := h
        rw [bne, hst] at h'; cases h'
    have st := Tree.pp (step_cm d2.ok d2.cm h0 (d2.kept.2.1))
    refine w_an st.1 (w_lv fun x7 e7 => ?_)
    have g : Stepped v2.2.Mem v3.2 x7.1 := by rw [e7]; exact st.2
    have gl : x7.1.Mem.length = 256 := by have := g.ok.mem.len; omega
    have ch := Tree.pp (changed_cm hlen g.cm)
    refine w_br (fun hh => ?_) (fun _ => w_an ch.1 (w_lv fun x8 e8 => ?_))
    · rw [gl, hlen] at hh; exact absurd hh (by decide)
    obtain ⟨f1, f2⟩ : x8.length ≤ 8 ∧ ∀ p ∈ x8, p = 4 ∨ p = 6 := by rw [e8]; exact ch.2
    refine w_lp (inv := fun v : Int => 0 ≤ v ∧ v ≤ x8.length) (μ := law12_MachineConfined_meas4 l regs steps) ⟨by omega, by omega⟩ (Nat.lt_succ_self _) fun v4 ⟨h1, h2⟩ => ?_
    refine w_br (fun hb4 => ?_) (fun _ => ?_)
    · have hb4 := of_decide_eq_true hb4
      have e : IntKind.i64.wrap (v4 + 1) = v4 + 1 := w64 (by omega) (by omega)
      have nx : (0 ≤ IntKind.i64.wrap (v4 + 1) ∧ IntKind.i64.wrap (v4 + 1) ≤ x8.length) ∧ law12_MachineConfined_meas4 l regs steps (IntKind.i64.wrap (v4 + 1)) < law12_MachineConfined_meas4 l regs steps v4 := by
        rw [e]
        exact ⟨⟨by omega, by omega⟩, by show (1000 - (v4 + 1)).toNat < (1000 - v4).toNat; omega⟩
      have hv : x8.getD v4.toNat 0 = 4 ∨ x8.getD v4.toNat 0 = 6 := by
        have hlt : v4.toNat < x8.length := by omega
        have : x8.getD v4.toNat 0 = x8[v4.toNat] := by simp [List.getD, hlt]
        rw [this]; exact f2 _ (List.getElem_mem hlt)
      refine w_cn (ix_ok h1 hb4) (w_br (fun n4 => w_cn (ix_ok h1 hb4) (w_br (fun n6 => ?_) (fun _ => w_nx nx))) (fun _ => w_nx nx))
      rcases hv with hv | hv
      · rw [hv] at n4; exact absurd n4 (by decide)
      · rw [hv] at n6; exact absurd n6 (by decide)
    refine w_lp (inv := fun v : Int => 128 ≤ v ∧ v ≤ 160) (μ := law12_MachineConfined_meas5 l regs steps) ⟨by omega, by omega⟩ (Nat.lt_succ_self _) fun v5 ⟨h3, h4⟩ => ?_
    refine w_br (fun hb5 => ?_) (fun _ => w_nx ?_)
    · have hb5 := of_decide_eq_true hb5
      have e : IntKind.i64.wrap (v5 + 1) = v5 + 1 := w64 (by omega) (by omega)
      refine w_cn (ix_ok (by omega) (by omega)) (w_cn (ix_ok (by omega) (by omega)) (w_br (fun hn => ?_) (fun _ => w_nx ?_)))
      · rw [ent_back (g.cm.tab v5.toNat (by omega) (by omega)), htab v5.toNat (by omega) (by omega)] at hn
        exact absurd hn (by simp)
      · show (_ ∧ _) ∧ (_ : Nat) < _
        exact ⟨⟨by rw [e]; omega, by rw [e]; omega⟩, by show (160 - IntKind.i64.wrap (v5 + 1)).toNat < (160 - v5).toNat; rw [e]; omega⟩
    show (_ ∧ _) ∧ (_ : Nat) < _
    have e : IntKind.i64.wrap (v3.1 + 1) = v3.1 + 1 := w64 (by omega) (by omega)
    exact ⟨⟨by rw [e]; omega, d2.step h0 g⟩, by show (60 - IntKind.i64.wrap (v3.1 + 1)).toNat < (60 - v3.1).toNat; rw [e]; omega⟩
  all_goals (
    refine w_br (fun _ => ?_) (fun h => eqs_no h (by rw [d2.con]) (by simp [eqs, eq1]))
    refine w_br (fun _ => ?_) (fun h => eqs_no h (by rw [d2.tim]) (by simp [eqs, eq1]))
    refine w_br (fun _ => ?_) (fun h => eqs_no h (by rw [d2.dsk]) (by simp [eqs, eq1]))
    refine w_br (fun _ => ?_) (fun h => eqs_no h (by rw [d2.nic]) (by simp [eqs, eq1]))
    refine w_br (fun _ => ?_) (fun h => eqs_no h (by rw [d2.bal]) (by simp [eqs, eq1]))
    refine w_br (fun _ => ?_) (fun h => absurd h (by rw [d2.kept.2.1]; show ¬ ((4 : Int) == 4) = false; decide))
    refine w_br (fun _ => ?_) (fun h => absurd h (by rw [d2.kept.1]; show ¬ ((1020 : Int) == 1020) = false; decide))
    refine w_br (fun _ => ?_) (fun h => absurd h (by rw [d2.kept.2.2.1]; show ¬ (v2.2.Cpu.Csr.a7 == 0) = false; rw [c5]; decide))
    refine w_br (fun _ => w_an awake_pre (w_lv aw)) (fun h => absurd h (by rw [d2.hlt, c6]; decide)))
end Go.Proofs.YtdkiadhigcfmkaaGreat

/-
  A part of the proof.
-/
import Derived.Test.YtdkiadhigcfmkaaGreatMachineDmaLaws2
import Derived.Test.YtdkiadhigcfmkaaGreatMachineDmaNews
import Derived.Test.YtdkiadhigcfmkaaGreatMachineDmaZg
import Derived.Test.YtdkiadhigcfmkaaGreatMachineDmaZt
import Derived.Test.YtdkiadhigcfmkaaGreatMachineDmaFe
namespace Go.Proofs.YtdkiadhigcfmkaaGreat
open Go Go.GD
set_option linter.unusedVariables false
set_option linter.unusedSimpArgs false
set_option maxRecDepth 100000
theorem encode_U (i : ApiInst) : U (ref1_Encode i).1 := by
  refine Tree.post (ref1_Encode_t i) (W := fun r => U r.1) ?_
  unfold ref1_Encode_t
  exact w_lv fun _ _ => w_br (fun _ => U_0) (fun _ => U_or _ _)
theorem code_w (l : List Int) (hl : l.length * 8 ≤ reachBytes) : (make_Code_t l).w (fun r => (r.length : Int) = l.length ∧ ∀ w ∈ r, U w) := by
  have hl' : l.length * 8 ≤ 140737488351232 := hl
  have app : ∀ {r : List Int} {x : Int}, (∀ w ∈ r, U w) → U x → ∀ w ∈ r ++ [x], U w := fun hr hx w hw => by
    rw [List.mem_append] at hw
    rcases hw with hw | hw
    · exact hr w hw
    · rw [List.mem_singleton.1 hw]; exact hx
  unfold make_Code_t
  refine w_lp (inv := fun z => make_Code_inv0 l z ∧ ∀ w ∈ z.2, U w) (μ := make_Code_meas0 l) ⟨⟨by omega, by simp, by simp⟩, by simp⟩ (Nat.lt_succ_self _) (fun v0 hv => ?_)
  obtain ⟨⟨h1, h2, h3⟩, h4⟩ := hv
  refine w_br (fun h => ?_) (fun h => ?_)
  · have h := of_decide_eq_true h
    have next : ∀ x : Int, U x → (make_Code_inv0 l (IntKind.wrap IntKind.i64 (v0.1 + 1), v0.2 ++ [x]) ∧ ∀ w ∈ v0.2 ++ [x], U w) ∧ make_Code_meas0 l (IntKind.wrap IntKind.i64 (v0.1 + 1), v0.2 ++ [x]) < make_Code_meas0 l v0 := fun x hx => by
      have hw : IntKind.i64.wrap (v0.1 + 1) = v0.1 + 1 := by rw [IntKind.wrap_i64]; omega
      rw [hw]
      refine ⟨⟨⟨?_, ?_, ?_⟩, app h4 hx⟩, ?_⟩
      · show 0 ≤ v0.1 + 1; omega
      · show v0.1 + 1 ≤ l.length; omega
      · show ((v0.2 ++ [x]).length : Int) = v0.1 + 1; simp; omega
      · show (l.length - (v0.1 + 1)).toNat < (l.length - v0.1).toNat; omega
    have hb : (Nat.beq 1 1 && Nat.blt 0 1 && decide (0 ≤ v0.1 ∧ v0.1 < (l.length : Int))) = true := by simp [Nat.blt]; omega
    have hc : decide (4 * (v0.2.length + 1) ≤ 140737488355328) = true := decide_eq_true (by omega)
    exact w_cn hb (w_br (fun _ => w_cn hb (w_cn hc (next _ (U_wrap _)))) (fun _ => w_cn hb (w_an (inst_pre _) (w_lv fun x0 _ => w_lv fun x1 hx => w_cn hc (next _ (by rw [hx]; exact encode_U _))))))
  · have h := of_decide_eq_false h
    exact ⟨by show (v0.2.length : Int) = l.length; omega, h4⟩
end Go.Proofs.YtdkiadhigcfmkaaGreat
namespace Go.Proofs.YtdkiadhigcfmkaaGreat
open Go Go.GD
set_option linter.unusedVariables false
set_option linter.unusedSimpArgs false
set_option maxRecDepth 100000
theorem limited_w (steps : Int) : 0 ≤ ref19_limited steps ∧ ref19_limited steps ≤ 4000 := by
  refine Tree.post (ref19_limited_t steps) (W := fun r => 0 ≤ r ∧ r ≤ 4000) ?_
  unfold ref19_limited_t
  refine w_lf ?_
  constructor <;> (repeat' split) <;> omega
theorem recAdvance_w {P : Nat} {r : ApiRecorder} (h : okR P r) (steps : Int) {clock : Int} (hc : U clock) (hl : r.Log.length ≤ 900000) (hq : r.Queue.length ≤ 16) (hu : ∀ q ∈ r.Queue, U q.N) :
    (ref19_Advance_t r steps clock).w (fun x => okR P x.1 ∧ x.1.Log.length ≤ r.Log.length + 8016 ∧ (x.1.Queue = r.Queue ∨ x.1.Queue = []) ∧ x.2.length ≤ 4000) := by
  unfold ref19_Advance_t
  refine w_call (own_w h (by omega) (by omega)) fun x0 hx => ?_
  obtain ⟨k1, k2, k3⟩ := hx
  refine w_lv fun x1 _ => w_br (fun _ => ⟨k1, by rw [k2]; omega, .inl k3, Nat.zero_le _⟩) (fun _ => ?_)
  have hcl : U (if clock > x0.Clock then clock else x0.Clock) := by split <;> first | exact hc | exact k1.clock
  refine w_lp (inv := fun z => 0 ≤ z.1 ∧ z.1 ≤ r.Queue.length ∧ okR P z.2 ∧ (z.2.Log.length : Int) ≤ r.Log.length + z.1 ∧ z.2.Queue = r.Queue) (μ := ref19_Advance_meas0 r steps clock) ⟨by omega, by omega, ⟨k1.m, hcl⟩, by rw [k2]; omega, k3⟩ (Nat.lt_succ_self _) (fun z hz => ?_)
  obtain ⟨z1, z2, z3, z4, z5⟩ := hz
  refine w_br (fun hb => ?_) (fun hb => ?_)
  · have hb := of_decide_eq_true hb
    rw [z5] at hb
    have hm : (List.getD z.2.Queue (Int.toNat z.1) (RK.dflt RK.apiEvent)) ∈ r.Queue := by
      rw [z5]
      have hlt : z.1.toNat < r.Queue.length := by omega
      rw [List.getD_eq_getElem?_getD, List.getElem?_eq_getElem hlt]
      exact List.getElem_mem hlt
    refine w_cn (by rw [z5]; simp [Nat.blt]; omega) (w_call (offer_w z3 (hu _ hm) (by omega)) fun x hx => w_nx ?_)
    obtain ⟨a1, a2, a3⟩ := hx
    show (0 ≤ IntKind.i64.wrap (z.1 + 1) ∧ IntKind.i64.wrap (z.1 + 1) ≤ r.Queue.length ∧ okR P x ∧ (x.Log.length : Int) ≤ r.Log.length + IntKind.i64.wrap (z.1 + 1) ∧ x.Queue = r.Queue) ∧ (x.Queue.length - IntKind.i64.wrap (z.1 + 1)).toNat < (z.2.Queue.length - z.1).toNat
    have ew : IntKind.i64.wrap (z.1 + 1) = z.1 + 1 := by rw [IntKind.wrap_i64]; omega
    rw [ew, a3, z5]
    exact ⟨⟨by omega, by omega, a1, by omega, rfl⟩, by omega⟩
  · refine w_lp (inv := fun y => 0 ≤ y.1 ∧ y.1 ≤ 4000 ∧ okR P y.2.1 ∧ (y.2.1.Log.length : Int) ≤ r.Log.length + r.Queue.length + 2 * y.1 ∧ y.2.1.Queue = [] ∧ (y.2.2.length : Int) ≤ y.1) (μ := ref19_Advance_meas1 r steps clock z) ⟨by omega, by omega, ⟨z3.m, z3.clock⟩, by simp; omega, rfl, by simp⟩ (Nat.lt_succ_self _) (fun y hy => ?_)
    obtain ⟨y1, y2, y3, y4, y5, y6⟩ := hy
    have ew : IntKind.i64.wrap (y.1 + 1) = y.1 + 1 := by rw [IntKind.wrap_i64]; omega
    refine w_lv fun x3 hx3 => w_br (fun hb => ?_) (fun _ => ⟨y3, by show y.2.1.Log.length ≤ _; omega, .inr y5, by show y.2.2.length ≤ _; omega⟩)
    have hb := of_decide_eq_true hb
    have lim := (limited_w steps).2
    rw [← hx3] at lim
    refine w_lv fun x4 _ => w_br (fun _ => w_call (offer_w (e := ⟨_, _, _⟩) y3 U_0 (by omega)) fun x5 h5 => ?_) (fun _ => ?_)
    · obtain ⟨q1, q2, q3⟩ := h5
      have q3 := q3.trans y5
      refine w_call (stuck_w _) fun s1 _ => w_br (fun _ => ⟨q1, by show x5.Log.length ≤ _; omega, .inr q3, by show y.2.2.length ≤ _; omega⟩) (fun _ => w_call (readsClock_w q1.m.cpu q1.m.mem) fun s2 _ => w_br (fun _ => w_cn (decide_eq_true (by omega)) (w_call (advance_w (r := ⟨x5.Machine, x5.Clock, x5.Log ++ [_], x5.Queue⟩) ⟨q1.m, q1.clock⟩ q1.clock) fun o ho => ?_)) (fun _ => w_call (advance_w q1 q1.clock) fun o ho => ?_))
      · obtain ⟨a1, ⟨⟨a2, a3⟩, a4, a5⟩⟩ := ho
        have e4 : o.2.Log.length = x5.Log.length + 1 := by rw [a4]; simp
        have a5 : o.2.Queue = [] := a5.trans q3
        refine w_cn (decide_eq_true (by omega)) (w_nx ?_)
        show (0 ≤ IntKind.i64.wrap (y.1 + 1) ∧ IntKind.i64.wrap (y.1 + 1) ≤ 4000 ∧ okR P _ ∧ (o.2.Log.length : Int) ≤ r.Log.length + r.Queue.length + 2 * IntKind.i64.wrap (y.1 + 1) ∧ o.2.Queue = [] ∧ ((y.2.2 ++ o.1).length : Int) ≤ IntKind.i64.wrap (y.1 + 1)) ∧ (4000 - IntKind.i64.wrap (y.1 + 1)).toNat < (4000 - y.1).toNat
        rw [ew, a5, List.length_append]
        exact ⟨⟨by omega, by omega, ⟨a2, U_wrap _⟩, by omega, rfl, by omega⟩, by omega⟩
      · obtain ⟨a1, ⟨⟨a2, a3⟩, a4, a5⟩⟩ := ho
        have e4 : o.2.Log.length = x5.Log.length := by rw [a4]
        have a5 : o.2.Queue = [] := a5.trans q3
        refine w_cn (decide_eq_true (by omega)) (w_nx ?_)
        show (0 ≤ IntKind.i64.wrap (y.1 + 1) ∧ IntKind.i64.wrap (y.1 + 1) ≤ 4000 ∧ okR P _ ∧ (o.2.Log.length : Int) ≤ r.Log.length + r.Queue.length + 2 * IntKind.i64.wrap (y.1 + 1) ∧ o.2.Queue = [] ∧ ((y.2.2 ++ o.1).length : Int) ≤ IntKind.i64.wrap (y.1 + 1)) ∧ (4000 - IntKind.i64.wrap (y.1 + 1)).toNat < (4000 - y.1).toNat
        rw [ew, a5, List.length_append]
        exact ⟨⟨by omega, by omega, ⟨a2, U_wrap _⟩, by omega, rfl, by omega⟩, by omega⟩
    · refine w_call (stuck_w _) fun s1 _ => w_br (fun _ => ⟨y3, by show y.2.1.Log.length ≤ _; omega, .inr y5, by show y.2.2.length ≤ _; omega⟩) (fun _ => w_call (readsClock_w y3.m.cpu y3.m.mem) fun s2 _ => w_br (fun _ => w_cn (decide_eq_true (by omega)) (w_call (advance_w (r := ⟨y.2.1.Machine, y.2.1.Clock, y.2.1.Log ++ [_], y.2.1.Queue⟩) ⟨y3.m, y3.clock⟩ y3.clock) fun o ho => ?_)) (fun _ => w_call (advance_w y3 y3.clock) fun o ho => ?_))
      · obtain ⟨a1, ⟨⟨a2, a3⟩, a4, a5⟩⟩ := ho
        have e4 : o.2.Log.length = y.2.1.Log.length + 1 := by rw [a4]; simp
        have a5 : o.2.Queue = [] := a5.trans y5
        refine w_cn (decide_eq_true (by omega)) (w_nx ?_)
        show (0 ≤ IntKind.i64.wrap (y.1 + 1) ∧ IntKind.i64.wrap (y.1 + 1) ≤ 4000 ∧ okR P _ ∧ (o.2.Log.length : Int) ≤ r.Log.length + r.Queue.length + 2 * IntKind.i64.wrap (y.1 + 1) ∧ o.2.Queue = [] ∧ ((y.2.2 ++ o.1).length : Int) ≤ IntKind.i64.wrap (y.1 + 1)) ∧ (4000 - IntKind.i64.wrap (y.1 + 1)).toNat < (4000 - y.1).toNat
        rw [ew, a5, List.length_append]
        exact ⟨⟨by omega, by omega, ⟨a2, U_wrap _⟩, by omega, rfl, by omega⟩, by omega⟩
      · obtain ⟨a1, ⟨⟨a2, a3⟩, a4, a5⟩⟩ := ho
        have e4 : o.2.Log.length = y.2.1.Log.length := by rw [a4]
        have a5 : o.2.Queue = [] := a5.trans y5
        refine w_cn (decide_eq_true (by omega)) (w_nx ?_)
        show (0 ≤ IntKind.i64.wrap (y.1 + 1) ∧ IntKind.i64.wrap (y.1 + 1) ≤ 4000 ∧ okR P _ ∧ (o.2.Log.length : Int) ≤ r.Log.length + r.Queue.length + 2 * IntKind.i64.wrap (y.1 + 1) ∧ o.2.Queue = [] ∧ ((y.2.2 ++ o.1).length : Int) ≤ IntKind.i64.wrap (y.1 + 1)) ∧ (4000 - IntKind.i64.wrap (y.1 + 1)).toNat < (4000 - y.1).toNat
        rw [ew, a5, List.length_append]
        exact ⟨⟨by omega, by omega, ⟨a2, U_wrap _⟩, by omega, rfl, by omega⟩, by omega⟩
end Go.Proofs.YtdkiadhigcfmkaaGreat
namespace Go.Proofs.YtdkiadhigcfmkaaGreat
open Go Go.GD
set_option linter.unusedVariables false
set_option linter.unusedSimpArgs false
set_option maxRecDepth 100000
section
variable {P : Nat} {m : ApiMachine} (h : okM P m)
include h
theorem min_w (port : Int) {clock : Int} (hc : U clock) : (ref7_in_t m port clock).w (fun x => U x.1 ∧ okM P x.2 ∧ x.2.Count = m.Count) := by
  have k := (⟨h, rfl⟩ : okM P m ∧ m.Count = m.Count)
  obtain ⟨h1, h2, h3, h4, h5⟩ := h
  unfold ref7_in_t
  exact w_br (fun _ => w_lv fun x hx => ⟨hx ▸ consoleIn_w _ _, ⟨⟨h1, h2, h3, h4, h5⟩, rfl⟩⟩) (fun _ => w_br (fun _ => ⟨hc, k⟩) (fun _ => w_br (fun _ => w_lv fun x hx => ⟨hx ▸ timerIn_w _, k⟩) (fun _ => w_br (fun _ => w_lv fun x hx => ⟨hx ▸ diskIn_w h3 _, k⟩) (fun _ => w_br (fun _ => w_lv fun x hx => ⟨hx ▸ nicIn_w h4 _, k⟩) (fun _ => w_lv fun x hx => ⟨hx ▸ balloonIn_w h5.1 _, k⟩)))))
theorem mout_w (port : Int) {v : Int} (hv : U v) : (ref7_out_t m port v).w (fun x => x.1.length ≤ 1 ∧ okM P x.2 ∧ x.2.Count = m.Count) := by
  have k := (⟨h, rfl⟩ : okM P m ∧ m.Count = m.Count)
  obtain ⟨h1, h2, h3, h4, h5⟩ := h
  unfold ref7_out_t
  exact w_br (fun _ => ⟨Nat.le_refl _, k⟩) (fun _ => w_br (fun _ => ⟨Nat.zero_le _, k⟩) (fun _ => w_br (fun _ => w_lv fun _ _ => ⟨Nat.zero_le _, ⟨⟨h1, h2, h3, h4, h5⟩, rfl⟩⟩) (fun _ => w_br (fun _ => w_call (diskOut_w h2 h3 _ hv _) fun x hx => ⟨hx.2, ⟨⟨h1, h2, hx.1, h4, h5⟩, rfl⟩⟩) (fun _ => w_br (fun _ => w_call (nicOut_w h2 h4 _ hv _) fun x hx => ⟨hx.2, ⟨⟨h1, h2, h3, hx.1, h5⟩, rfl⟩⟩) (fun _ => w_call (give_w h2 h5 _ hv) fun x hx => ⟨Nat.zero_le _, ⟨⟨h1, hx.2, h3, h4, hx.1⟩, rfl⟩⟩)))))
theorem madvance_w {clock : Int} (hc : U clock) : (ref7_Advance_t m clock).w (fun x => x.1.length ≤ 1 ∧ okM P x.2 ∧ x.2.Count = IntKind.wrap .u64 (m.Count + 1)) := by
  obtain ⟨h1, h2, h3, h4, h5⟩ := h
  unfold ref7_Advance_t
  refine w_call (interrupted_w h1) fun x0 c0 => w_call (do_w c0 h2) fun x1 hx => ?_
  obtain ⟨c1, v1, m1⟩ := hx
  refine w_br (fun _ => w_free (min_w (m := ⟨_, _, _, _, _, _, _, _, _, _⟩) ⟨c1, m1, h3, h4, h5⟩ _ hc) fun x2 hx => ?_) (fun _ => w_br (fun _ => w_call (mout_w (m := ⟨_, _, _, _, _, _, _, _, _, _⟩) ⟨c1, m1, h3, h4, h5⟩ _ v1) fun x4 hx => ?_) (fun _ => ?_))
  · obtain ⟨u, ⟨k1, k2, k3, k4, k5⟩, k6⟩ := hx
    exact w_call (set_w k1 _ u) fun x3 h3 => ⟨Nat.zero_le _, ⟨h3, k2, k3, k4, k5⟩, congrArg (fun n => IntKind.wrap .u64 (n + 1)) k6⟩
  · obtain ⟨u, ⟨k1, k2, k3, k4, k5⟩, k6⟩ := hx
    exact ⟨u, ⟨k1, k2, k3, k4, k5⟩, congrArg (fun n => IntKind.wrap .u64 (n + 1)) k6⟩
  · repeat' (first
      | exact ⟨Nat.zero_le _, ⟨c1, m1, h3, h4, h5⟩, rfl⟩
      | refine w_br (fun _ => ?_) (fun _ => ?_))
theorem own7_w : (ref7_Own_t m).w (fun x => okM P x ∧ x.Count = m.Count) := by
  obtain ⟨h1, h2, h3, h4, h5⟩ := h
  unfold ref7_Own_t
  exact w_call (copy_w h2) fun x hx => ⟨⟨h1, by rw [hx]; exact h2, h3, h4, h5⟩, rfl⟩
end
theorem U_all (n : Nat) : ∀ w ∈ List.replicate n (0 : Int), U w := fun w hw => by rw [(List.mem_replicate.1 hw).2]; exact U_0
theorem zero_ok : okM 0 ⟨⟨⟨0, 0, 0, 0, 0, 0, 0, 0, 0, 0, 0, 0, 0, 0, 0, 0⟩, 0, ⟨0, 0, 0, 0, 0, 0, 0, 0⟩⟩, [], ⟨[]⟩, ⟨false, 0, false⟩, ⟨0, 0, 0, 0, 0, 0, 0, []⟩, ⟨0, 0, false, 0, false, 0⟩, ⟨0, 0⟩, 0, false, false⟩ :=
  ⟨⟨U_all 16, U_0, U_all 8⟩, ⟨rfl, by omega, by omega, fun w hw => by cases hw⟩, ⟨U_0, U_0, U_0, U_0⟩, ⟨U_0, U_0, U_0, U_0⟩, ⟨U_0, U_0⟩⟩
theorem runN_w {P : Nat} {m : ApiMachine} (h : okM P m) (hc : 0 ≤ m.Count) : (ref7_Run_N_t m [] 87).w (fun x => ∃ Q, okM Q x.1) := by
  have z : ∃ Q, okM Q _ := ⟨0, zero_ok⟩
  unfold ref7_Run_N_t
  refine w_lv fun x0 _ => w_br (fun _ => z) fun _ => w_br (fun _ => z) fun _ => w_br (fun _ => z) fun _ => w_an (show ref7_Ordered_pre [] by show ([] : List ApiEntry).length ≤ 1000000000000; decide) (w_lv fun x1 _ => w_br (fun _ => z) fun _ => w_call (own7_w h) fun x2 hx => ?_)
  refine w_lp (inv := fun v : ApiMachine × List ApiOutput => okM P v.1 ∧ 0 ≤ v.1.Count ∧ v.2.length + (87 - v.1.Count).toNat ≤ 87) (μ := ref7_Run_N_meas0 m [] 87) ⟨hx.1, by rw [hx.2]; exact hc, by rw [hx.2]; show 0 + _ ≤ 87; omega⟩ (Nat.lt_succ_self _) fun v0 ⟨a1, a2, a3⟩ => ?_
  refine w_br (fun hb => w_br (fun _ => ?_) (fun _ => ⟨P, a1⟩)) (fun _ => ⟨P, a1⟩)
  have hb := of_decide_eq_true hb
  refine w_lp (inv := fun _ => True) (μ := ref7_Run_N_meas1 m [] 87 v0) trivial (Nat.lt_succ_self _) fun v1 _ => ?_
  refine w_br (fun _ => ⟨P, a1⟩) fun _ => w_call (idle_w _) fun x3 _ => w_br (fun _ => ⟨P, a1⟩) fun _ => w_call (reads_w a1.cpu a1.mem) fun x4 _ => w_br (fun _ => z) fun _ => w_call (madvance_w a1 U_0) fun x5 h5 => ?_
  obtain ⟨b1, b2, b3⟩ := h5
  refine w_cn (decide_eq_true (by omega)) (w_nx ?_)
  have e : x5.2.Count = v0.1.Count + 1 := by rw [b3, IntKind.wrap_u64]; omega
  show (_ ∧ _ ∧ _) ∧ (_ : Nat) < _
  refine ⟨⟨b2, by show 0 ≤ x5.2.Count; omega, by show (v0.2 ++ x5.1).length + (87 - x5.2.Count).toNat ≤ 87; rw [List.length_append]; omega⟩, by show (87 - x5.2.Count).toNat < (87 - v0.1.Count).toNat; omega⟩
end Go.Proofs.YtdkiadhigcfmkaaGreat
namespace Go.Proofs.YtdkiadhigcfmkaaGreat
open Go Go.GD
set_option linter.unusedVariables false
set_option maxRecDepth 100000
set_option synthInstance.maxHeartbeats 2000000
set_option synthInstance.maxSize 100000
noncomputable section
instance ref1_lines_ck (src : (List UInt8)) : Ck (ref1_lines_pre src) := ckT (t := ref1_lines_t src) (by delta ref1_lines_t; infer_instance)
instance ref1_tokens_ck (s : (List UInt8)) : Ck (ref1_tokens_pre s) := ckT (t := ref1_tokens_t s) (by delta ref1_tokens_t; infer_instance)
instance ref1_digits_ck (n : Int) : Ck (ref1_digits_pre n) := let d : Decidable (ref1_digits_pre n) := (by delta ref1_digits_pre; infer_instance); ⟨@decide _ d, @of_decide_eq_true _ d⟩
instance ref1_Decimal_ck (n : Int) : Ck (ref1_Decimal_pre n) := ckT (t := ref1_Decimal_t n) (by delta ref1_Decimal_t; infer_instance)
instance ref1_reg_ck (r : Int) : Ck (ref1_reg_pre r) := ckT (t := ref1_reg_t r) (by delta ref1_reg_t; infer_instance)
instance ref1_name_ck (s : (List UInt8)) : Ck (ref1_name_pre s) := ckT (t := ref1_name_t s) (by delta ref1_name_t; infer_instance)
instance ref1_Mnemonic_ck (op : Int) : Ck (ref1_Mnemonic_pre op) := ckT (t := ref1_Mnemonic_t op) (by delta ref1_Mnemonic_t; infer_instance)
instance ref1_operation_ck (s : (List UInt8)) : Ck (ref1_operation_pre s) := ckT (t := ref1_operation_t s) (by delta ref1_operation_t; infer_instance)
instance ref1_pattern_ck (what : (List UInt8)) : Ck (ref1_pattern_pre what) := ckT (t := ref1_pattern_t what) (by delta ref1_pattern_t; infer_instance)
instance ref1_number_ck (s : (List UInt8)) : Ck (ref1_number_pre s) := ckT (t := ref1_number_t s) (by delta ref1_number_t; infer_instance)
instance ref1_matched_ck (l : (List Vmfleetref1Token)) (p : (List UInt8)) : Ck (ref1_matched_pre l p) := ckT (t := ref1_matched_t l p) (by delta ref1_matched_t; infer_instance)
instance ref1_parsed_ck (s : (List UInt8)) : Ck (ref1_parsed_pre s) := ckT (t := ref1_parsed_t s) (by delta ref1_parsed_t; infer_instance)
instance ref1_address_ck (l : (List ApiSymbol)) (label : (List UInt8)) : Ck (ref1_address_pre l label) := let d : Decidable (ref1_address_pre l label) := (by delta ref1_address_pre; infer_instance); ⟨@decide _ d, @of_decide_eq_true _ d⟩
instance ref1_read_ck (src : (List UInt8)) : Ck (ref1_read_pre src) := ckT (t := ref1_read_t src) (by delta ref1_read_t; infer_instance)
instance ref1_inst_ck (st : Vmfleetref1Statement) (v : Int) : Ck (ref1_inst_pre st v) := ckT (t := ref1_inst_t st v) (by delta ref1_inst_t; infer_instance)
instance ref1_Assemble_ck (src : (List UInt8)) : Ck (ref1_Assemble_pre src) := ckT (t := ref1_Assemble_t src) (by delta ref1_Assemble_t; infer_instance)
theorem asm_pre : ref1_Assemble_pre ((108 : UInt8) :: (tblZe0 ++ tblZe1 ++ (tblZe2 ++ tblZe3) ++ (tblZe4 ++ tblZe5 ++ (tblZe6 ++ tblZe7)) ++ (tblZe8 ++ tblZe9 ++ (tblZe10 ++ tblZe11) ++ (tblZe12 ++ tblZe13 ++ (tblZe14 ++ tblZe15))))) := ck inferInstance (by kernel_rfl)
def inU (x : Int) : Bool := decide (0 ≤ x) && decide (x < 4294967296)
theorem asm_gen (l : List Int) (h : (Nat.ble l.length 160 && List.all l inU) = true) : l.length ≤ 160 ∧ ∀ w ∈ l, U w := by
  rw [Bool.and_eq_true] at h
  refine ⟨Nat.le_of_ble_eq_true h.1, fun w hw => ?_⟩
  have := List.all_eq_true.1 h.2 w hw
  simp only [inU, Bool.and_eq_true, decide_eq_true_eq] at this
  exact this
theorem asm_ok : (ref1_Assemble (List.append (List.append (List.append (List.append tblZe16 tblZe1) (List.append tblZe2 tblZe3)) (List.append (List.append tblZe4 tblZe5) (List.append tblZe6 tblZe7))) (List.append (List.append (List.append tblZe8 tblZe9) (List.append tblZe10 tblZe11)) (List.append (List.append tblZe12 tblZe13) (List.append tblZe14 tblZe15))))).1.length ≤ 160 ∧ ∀ w ∈ (ref1_Assemble (List.append (List.append (List.append (List.append tblZe16 tblZe1) (List.append tblZe2 tblZe3)) (List.append (List.append tblZe4 tblZe5) (List.append tblZe6 tblZe7))) (List.append (List.append (List.append tblZe8 tblZe9) (List.append tblZe10 tblZe11)) (List.append (List.append tblZe12 tblZe13) (List.append tblZe14 tblZe15))))).1, U w := asm_gen _ (by kernel_rfl)
end
end Go.Proofs.YtdkiadhigcfmkaaGreat
namespace Go.Proofs.YtdkiadhigcfmkaaGreat
open Go Go.GD
set_option linter.unusedVariables false
set_option linter.unusedSimpArgs false
set_option maxRecDepth 100000
theorem new_w (i : List Int) (hu : ∀ w ∈ i, U w) (hl : i.length ≤ 256) : (ref7_New_t 8 4 i).w (fun x => okM 8 x.1 ∧ x.1.Count = 0) := by
  unfold ref7_New_t
  refine w_br (fun h => absurd h (by decide)) fun _ => w_br (fun h => absurd h (by decide)) fun _ => w_br (fun h => absurd h (by decide)) fun _ => w_br (fun h => absurd h (by decide)) fun _ => w_br (fun h => ?_) fun _ => w_lv fun x0 e0 => w_an (memory_New_can _) (w_lv fun x1 e1 => ?_)
  · have h := of_decide_eq_true h
    rw [show IntKind.i64.wrap (8 * 32) = 256 by decide] at h
    omega
  have hx : x1 = List.replicate 256 0 := by rw [e1]; kernel_rfl
  have c0 : okCpu x0 := by rw [e0]; exact ⟨by
    intro w hw
    simp only [ref1_Reset, ref1_Reset_t, Tree.m, A16.l, List.mem_cons, List.not_mem_nil, or_false, or_self] at hw
    rw [hw]; exact U_0, U_0, by
    intro w hw
    simp only [ref1_Reset, ref1_Reset_t, Tree.m, A8.l, List.mem_cons, List.not_mem_nil, or_false, or_self] at hw
    rcases hw with rfl | rfl
    · exact ⟨by omega, by omega⟩
    · exact U_0⟩
  have hz : ∀ w ∈ x1, U w := by rw [hx]; exact U_all 256
  have hn : x1.length = 256 := by rw [hx, List.length_replicate]
  refine ⟨⟨c0, ⟨?_, by omega, by omega, fun w hw => ?_⟩, ⟨U_0, U_0, U_0, U_0⟩, ⟨U_0, U_0, U_0, U_0⟩, ⟨U_0, U_0⟩⟩, rfl⟩
  · simp only [List.length_append, List.length_take, List.length_drop, hn]; omega
  · rcases List.mem_append.1 hw with h1 | h1
    · exact hu w (List.mem_of_mem_take h1)
    · exact hz w (List.mem_of_mem_drop h1)
theorem machine_w (kind : Int) (l : List Int) (hl : l.length * 8 ≤ reachBytes) : (make_Machine_t kind l).w (fun x => ∃ Q, okM Q x) := by
  have hl' : l.length * 8 ≤ 140737488351232 := hl
  unfold make_Machine_t
  refine w_an (round_pre (by decide)) (w_lv fun x0 _ => w_br (fun _ => w_an asm_pre (w_lv fun x1 e1 => ?_)) (fun _ => ?_))
  · obtain ⟨q1, q2⟩ : x1.1.length ≤ 160 ∧ ∀ w ∈ x1.1, U w := by rw [e1]; exact asm_ok
    refine w_lp (inv := fun v : List Int => v.length ≤ 160 ∧ ∀ w ∈ v, U w) (μ := make_Machine_meas0 kind l) ⟨q1, q2⟩ (Nat.lt_succ_self _) fun v0 ⟨a1, a2⟩ => ?_
    refine w_br (fun hb => ?_) (fun _ => ?_)
    · have hb := of_decide_eq_true hb
      refine w_cn (decide_eq_true (by omega)) (w_nx ?_)
      show (_ ∧ _) ∧ (_ : Nat) < _
      refine ⟨⟨by rw [List.length_append, List.length_singleton]; omega, fun w hw => ?_⟩, by show 160 - (v0 ++ [0]).length < 160 - v0.length; rw [List.length_append, List.length_singleton]; omega⟩
      rcases List.mem_append.1 hw with h1 | h1
      · exact a2 w h1
      · rw [List.mem_singleton.1 h1]; exact U_0
    · refine w_call (code_w l hl) fun x2 ⟨b1, b2⟩ => w_cn (decide_eq_true (by omega)) ?_
      have hu : ∀ w ∈ v0 ++ x2, U w := fun w hw => (List.mem_append.1 hw).elim (a2 w) (b2 w)
      refine w_br (fun hb => ?_) (fun hb => ?_)
      · have hb := of_decide_eq_true hb
        refine w_cn (by simp [Nat.blt]; rw [List.length_append] at hb; omega) (w_call (new_w _ (fun w hw => hu w (List.mem_of_mem_drop (List.mem_of_mem_take hw))) (by rw [List.length_take]; exact Nat.le_trans (Nat.min_le_left _ _) (by decide))) fun x3 ⟨c1, c2⟩ => w_br (fun _ => w_call (runN_w c1 (by omega)) fun x4 hx => hx) (fun _ => ⟨8, c1⟩))
      · have hb := of_decide_eq_false hb
        exact w_call (new_w _ hu (by omega)) fun x3 ⟨c1, c2⟩ => w_br (fun _ => w_call (runN_w c1 (by omega)) fun x4 hx => hx) (fun _ => ⟨8, c1⟩)
  · refine w_call (code_w l hl) fun x2 ⟨b1, b2⟩ => w_cn (decide_eq_true (by omega)) ?_
    refine w_br (fun hb => ?_) (fun hb => ?_)
    · have hb := of_decide_eq_true hb
      refine w_cn (by simp [Nat.blt]; omega) (w_call (new_w _ (fun w hw => b2 w (List.mem_of_mem_drop (List.mem_of_mem_take hw))) (by rw [List.length_take]; exact Nat.le_trans (Nat.min_le_left _ _) (by decide))) fun x3 ⟨c1, c2⟩ => w_br (fun _ => w_call (runN_w c1 (by omega)) fun x4 hx => hx) (fun _ => ⟨8, c1⟩))
    · have hb := of_decide_eq_false hb
      exact w_call (new_w _ b2 (by omega)) fun x3 ⟨c1, c2⟩ => w_br (fun _ => w_call (runN_w c1 (by omega)) fun x4 hx => hx) (fun _ => ⟨8, c1⟩)
end Go.Proofs.YtdkiadhigcfmkaaGreat
namespace Go.Proofs.YtdkiadhigcfmkaaGreat
open Go Go.GD
set_option linter.unusedVariables false
set_option linter.unusedSimpArgs false
set_option maxRecDepth 100000
theorem step_w {P : Nat} {r : ApiRecorder} (h : okR P r) (n : Int) (hl : r.Log.length ≤ 900000) (hq : r.Queue.length ≤ 16) (hu : ∀ q ∈ r.Queue, U q.N) :
    (make_Step_t r n).w (fun x => okR P x.1 ∧ x.1.Log.length ≤ r.Log.length + 8016 ∧ (x.1.Queue.length ≤ 16 ∧ ∀ q ∈ x.1.Queue, U q.N) ∧ x.2.length ≤ 4000) := by
  unfold make_Step_t
  refine w_lv fun x0 _ => w_br (fun _ => w_call (event_w n) fun e he => w_call (arrive_w h e (by omega) hq hu he) fun x hx => ?_) (fun _ => w_an (round_pre (by decide)) (w_lv fun x3 _ => w_call (recAdvance_w h _ (U_wrap _) hl hq hu) fun x hx => ?_))
  · obtain ⟨a1, a2, a3, a4⟩ := hx
    exact ⟨a1, by rw [a2]; omega, ⟨a3, a4⟩, Nat.zero_le _⟩
  · obtain ⟨a1, a2, a3, a4⟩ := hx
    refine ⟨a1, a2, ?_, a4⟩
    rcases a3 with a3 | a3
    · rw [a3]; exact ⟨hq, hu⟩
    · rw [a3]; exact ⟨Nat.zero_le _, fun q hq => by cases hq⟩
theorem play_w {P : Nat} {m : ApiMachine} (h : okM P m) (l : List Int) (hl : l.length ≤ 30) : (make_Play_t m l).w (fun x => okR P x.1) := by
  unfold make_Play_t
  have nr : (ref19_NewRecorder_t m).w (fun x => okR P x ∧ x.Log = [] ∧ x.Queue = []) := by
    unfold ref19_NewRecorder_t
    exact w_call (own7_w h) fun x hx => ⟨⟨hx.1, U_0⟩, rfl, rfl⟩
  refine w_call nr fun x0 ⟨n1, n2, n3⟩ => ?_
  refine w_lp (inv := fun v : Int × ApiRecorder × List ApiOutput => 0 ≤ v.1 ∧ v.1 ≤ l.length ∧ okR P v.2.1 ∧ (v.2.1.Log.length : Int) ≤ 8016 * v.1 ∧ (v.2.1.Queue.length ≤ 16 ∧ ∀ q ∈ v.2.1.Queue, U q.N) ∧ (v.2.2.length : Int) ≤ 4000 * v.1) (μ := make_Play_meas0 m l) ⟨Int.le_refl _, by show (0 : Int) ≤ l.length; omega, n1, by rw [n2]; exact Int.le_refl _, by rw [n3]; exact ⟨Nat.zero_le _, fun q hq => by cases hq⟩, Int.le_refl _⟩ (Nat.lt_succ_self _) fun v0 ⟨a1, a2, a3, a4, ⟨a5, a6⟩, a7⟩ => ?_
  refine w_br (fun hb => ?_) (fun _ => a3)
  have hb := of_decide_eq_true hb
  refine w_cn (by simp [Nat.blt]; omega) (w_call (step_w a3 _ (by omega) a5 a6) fun x1 ⟨b1, b2, b3, b4⟩ => w_cn (decide_eq_true (by omega)) (w_nx ?_))
  have e : IntKind.i64.wrap (v0.1 + 1) = v0.1 + 1 := by rw [IntKind.wrap_i64]; omega
  show (_ ∧ _ ∧ _ ∧ _ ∧ _ ∧ _) ∧ (_ : Nat) < _
  refine ⟨⟨by rw [e]; omega, by rw [e]; omega, b1, by rw [e]; show (x1.1.Log.length : Int) ≤ _; omega, b3, by rw [e, List.length_append]; omega⟩, by show (l.length - IntKind.i64.wrap (v0.1 + 1)).toNat < (l.length - v0.1).toNat; rw [e]; omega⟩
theorem reached_w (kind : Int) (l acts : List Int) (hl : l.length * 8 ≤ reachBytes) (ha : acts.length ≤ 30) : (make_Reached_t kind l acts).w (fun x => ∃ Q, okM Q x) := by
  unfold make_Reached_t
  exact w_call (machine_w kind l hl) fun x0 ⟨Q, h⟩ => w_call (play_w h acts ha) fun x1 hx => ⟨Q, hx.m⟩
end Go.Proofs.YtdkiadhigcfmkaaGreat
namespace Go.Proofs.YtdkiadhigcfmkaaGreat
open Go Go.GD
set_option linter.unusedVariables false
set_option linter.unusedSimpArgs false
set_option maxRecDepth 100000
def out (f : Int) (m m' : List Int) : Prop := ∀ j : Nat, ¬ (f * 32 ≤ j ∧ (j : Int) < f * 32 + 32) → m'.getD j 0 = m.getD j 0
theorem out_refl (f : Int) (m : List Int) : out f m m := fun _ _ => rfl
theorem getDset (l : List Int) (i j : Nat) (v : Int) (h : i ≠ j) : (l.set i v).getD j 0 = l.getD j 0 := by
  simp only [List.getD_eq_getElem?_getD, List.getElem?_set_ne h]
theorem mpages_eq {P : Nat} {m : List Int} (h : okMem P m) : memory_Pages m = P := by
  obtain ⟨h1, h2, h3, _⟩ := h
  simp only [memory_Pages, memory_Pages_t, Tree.m]
  have e : (m.length : Int) = 32 * P := by omega
  rw [e]
  have e1 : (Int.tmod (32 * (P : Int)) 32 != 0) = false := by simp [Int.mul_tmod_right]
  have e2 : decide ((32 * (P : Int)) > 1024) = false := decide_eq_false (by omega)
  rw [e1, e2]
  simp only [cond_false]
  rw [Int.mul_tdiv_cancel_left _ (by decide), IntKind.wrap_i64]; omega
theorem has_eq {P : Nat} {m : List Int} (h : okMem P m) (f : Int) : memory_hasPage m f = true → 0 ≤ f ∧ f < P := by
  have hp := mpages_eq h
  simp only [memory_hasPage, memory_hasPage_t, Tree.m, letv, hp]
  cases h1 : decide (f ≥ 0)
  · intro h; cases h
  · intro h; exact ⟨of_decide_eq_true h1, of_decide_eq_true h⟩
theorem setPage_w {P : Nat} {m : List Int} (h : okMem P m) (f : Int) (s : List UInt8) : (memory_SetPage_t m f s).w (fun r => okMem P r.1 ∧ out f m r.1 ∧ (r.2 = false → r.1 = m)) := by
  have hcl : slices_Clone_uint32_uint32 m = m := rfl
  have h2 := h.p2
  unfold memory_SetPage_t
  refine w_an (clone_w h) (w_lv fun x0 hx0 => w_lv fun x1 hx1 => ?_)
  rw [hcl] at hx0; subst hx0
  refine w_br (fun _ => ⟨h, out_refl _ _, fun _ => rfl⟩) fun hb => w_br (fun _ => ⟨h, out_refl _ _, fun _ => rfl⟩) fun hs => ?_
  have hb : x1 = true := by simpa using hb
  obtain ⟨f0, f1⟩ := has_eq h f (hx1.symm.trans hb)
  have hs : (s.length : Int) = 128 := by simpa using hs
  refine w_lp (inv := fun z : Int × List Int => 0 ≤ z.1 ∧ z.1 ≤ 32 ∧ okMem P z.2 ∧ out f x0 z.2) (μ := memory_SetPage_meas0 x0 f s) ⟨show (0 : Int) ≤ 0 by decide, show (0 : Int) ≤ 32 by decide, h, out_refl _ _⟩ (Nat.lt_succ_self _) fun z ⟨z1, z2, z3, z4⟩ => ?_
  refine w_br (fun hb => ?_) (fun _ => ⟨z3, z4, fun h => by cases h⟩)
  have hb := of_decide_eq_true hb
  have e1 : IntKind.i64.wrap (4 * z.1) = 4 * z.1 := by rw [IntKind.wrap_i64]; omega
  have e2 : IntKind.i64.wrap (IntKind.i64.wrap (4 * z.1) + 4) = 4 * z.1 + 4 := by rw [IntKind.wrap_i64, IntKind.wrap_i64]; omega
  have e3 : IntKind.i64.wrap (IntKind.i64.wrap (f * 32) + z.1) = f * 32 + z.1 := by rw [IntKind.wrap_i64, IntKind.wrap_i64]; omega
  have hl := z3.len
  have hlen : (List.take (Int.toNat (IntKind.i64.wrap (IntKind.i64.wrap (4 * z.1) + 4)) - Int.toNat (IntKind.i64.wrap (4 * z.1))) (List.drop (Int.toNat (IntKind.i64.wrap (4 * z.1))) s)).length = 4 := by
    rw [e2, e1, List.length_take, List.length_drop]; omega
  refine w_cn (decide_eq_true (by rw [e2, e1]; omega)) ?_
  refine w_cn (decide_eq_true (by rw [hlen]; decide)) (w_cn (decide_eq_true (by rw [hlen]; decide)) (w_cn (decide_eq_true (by rw [hlen]; decide)) (w_cn (decide_eq_true (by rw [hlen]; decide)) (w_cn (by rw [e3]; simp [Nat.blt]; omega) (w_nx ?_)))))
  show (_ ∧ _ ∧ okMem P (List.set _ _ _) ∧ out f x0 (List.set _ _ _)) ∧ (_ : Nat) < _
  have ew : IntKind.i64.wrap (z.1 + 1) = z.1 + 1 := by rw [IntKind.wrap_i64]; omega
  rw [e3]
  refine ⟨⟨by rw [ew]; omega, by rw [ew]; omega, ⟨by rw [List.length_set]; exact hl, z3.p1, z3.p2, set_U z3.u (U_or _ _) _⟩, fun j hj => ?_⟩, by show (32 - IntKind.i64.wrap (z.1 + 1)).toNat < (32 - z.1).toNat; rw [ew]; omega⟩
  rw [getDset _ _ _ _ (by omega)]
  exact z4 j hj
theorem text_w (w : List Int) (h : w.length ≤ 32) : (memory_text_t w).w (fun r => r.length = 4 * w.length) := by
  have e0 : IntKind.i64.wrap (4 * (w.length : Int)) = 4 * w.length := by rw [IntKind.wrap_i64]; omega
  unfold memory_text_t
  refine w_cn (by rw [e0]; simp [Nat.blt, D.plain]; omega) ?_
  refine w_lp (inv := fun z : Int × List Int => 0 ≤ z.1 ∧ z.1 ≤ w.length ∧ (z.2.length : Int) = 4 * z.1) (μ := memory_text_meas0 w) ⟨by decide, by show (0 : Int) ≤ w.length; omega, rfl⟩ (Nat.lt_succ_self _) fun z ⟨z1, z2, z3⟩ => ?_
  refine w_br (fun hb => ?_) (fun hb => ?_)
  · have hb := of_decide_eq_true hb
    have ew : IntKind.i64.wrap (z.1 + 1) = z.1 + 1 := by rw [IntKind.wrap_i64]; omega
    refine w_cn (by simp [Nat.blt]; omega) (w_cn (decide_eq_true (by omega)) (w_nx ?_))
    show (_ ∧ _ ∧ _) ∧ (_ : Nat) < _
    refine ⟨⟨by rw [ew]; omega, by rw [ew]; omega, by rw [ew, List.length_append]; simp only [List.length_cons, List.length_nil]; omega⟩, by show (w.length - IntKind.i64.wrap (z.1 + 1)).toNat < (w.length - z.1).toNat; rw [ew]; omega⟩
  · have hb := of_decide_eq_false hb
    show (bytesOf z.2).length = _
    rw [bytesOf_len]; omega
theorem mpage_w {P : Nat} {m : List Int} (h : okMem P m) (f : Int) : (memory_Page_t m f).w (fun r => 0 ≤ f → f < P → r.1.length = 128) := by
  have hl := h.len
  have h2 := h.p2
  unfold memory_Page_t
  refine w_lv fun x0 hx0 => w_br (fun hb => fun f0 f1 => ?_) (fun hb => ?_)
  · have hp := mpages_eq h
    have hb : x0 = false := by simpa using hb
    rw [hb] at hx0
    simp only [memory_hasPage, memory_hasPage_t, Tree.m, letv, hp] at hx0
    rw [decide_eq_true f0] at hx0
    exact absurd f1 (of_decide_eq_false hx0.symm)
  · have hb : x0 = true := by simpa using hb
    obtain ⟨f0, f1⟩ := has_eq h f (hx0.symm.trans hb)
    have e1 : IntKind.i64.wrap (f * 32) = f * 32 := by rw [IntKind.wrap_i64]; omega
    have e2 : IntKind.i64.wrap (IntKind.i64.wrap (f * 32) + 32) = f * 32 + 32 := by rw [IntKind.wrap_i64, IntKind.wrap_i64]; omega
    have hlen : (List.take (Int.toNat (IntKind.i64.wrap (IntKind.i64.wrap (f * 32) + 32)) - Int.toNat (IntKind.i64.wrap (f * 32))) (List.drop (Int.toNat (IntKind.i64.wrap (f * 32))) m)).length = 32 := by
      rw [e2, e1, List.length_take, List.length_drop]; omega
    refine w_cn (by rw [e2, e1]; simp [Nat.blt]; omega) ?_
    refine w_an (by show List.length _ ≤ 1000000000000; rw [hlen]; decide) (w_lv fun x1 h1 => ?_)
    have h1 : x1.length = 4 * (List.take (Int.toNat (IntKind.i64.wrap (IntKind.i64.wrap (f * 32) + 32)) - Int.toNat (IntKind.i64.wrap (f * 32))) (List.drop (Int.toNat (IntKind.i64.wrap (f * 32))) m)).length := by rw [h1]; exact (Tree.pp (text_w _ (Nat.le_of_eq hlen))).2
    intro _ _
    show x1.length = 128
    rw [h1, hlen]
end Go.Proofs.YtdkiadhigcfmkaaGreat
namespace Go.Proofs.YtdkiadhigcfmkaaGreat
open Go Go.GD
set_option linter.unusedVariables false
set_option linter.unusedSimpArgs false
set_option maxRecDepth 100000
theorem u64_lt {f : Int} (hf : U f) {P : Nat} (hP : P ≤ 32) (h : decide (IntKind.u64.wrap f < IntKind.u64.wrap (P : Int)) = true) : 0 ≤ f ∧ f < P := by
  have h := of_decide_eq_true h
  obtain ⟨h1, h2⟩ := hf
  rw [IntKind.wrap_u64, IntKind.wrap_u64, Int.emod_eq_of_lt h1 (by omega), Int.emod_eq_of_lt (by omega) (by omega)] at h
  exact ⟨h1, h⟩
theorem complete_w {P : Nat} {m : List Int} (h : okMem P m) {d : ApiDisk} (hd : okDisk d) (e : ApiEvent) : (disk_Complete_t d m e).w (fun r => okDisk r.1 ∧ okMem P r.2.1 ∧ out d.OpFrame m r.2.1 ∧ (r.2.2 = false → r.2.1 = m) ∧ (∀ p, disk_May d p = true → disk_May r.1 p = true)) := by
  have hcl : slices_Clone_uint32_uint32 m = m := rfl
  have keep : ∀ b : Bool, okDisk d ∧ okMem P m ∧ out d.OpFrame m m ∧ (b = false → m = m) ∧ (∀ p, disk_May d p = true → disk_May d p = true) := fun b => ⟨hd, h, out_refl _ _, fun _ => rfl, fun _ h => h⟩
  have blk : ∀ {p : Int}, disk_May d p = true → decide (d.Blocks > 64) = false := fun {p} hm => by
    cases hb : decide (d.Blocks > 64)
    · rfl
    · have : disk_May d p = false := by simp only [disk_May, disk_May_t, Tree.m]; rw [hb]; rfl
      rw [this] at hm; cases hm
  have m2 : ∀ p, disk_May d p = true → disk_May { Blocks := d.Blocks, Block := d.Block, Frame := d.Frame, State := 2, Cmd := 0, OpBlock := 0, OpFrame := 0, OpData := [] } p = true := fun p hm => by
    simp only [disk_May, disk_May_t, Tree.m]; rw [blk hm]; rfl
  have m3 : ∀ p, disk_May d p = true → disk_May { Blocks := d.Blocks, Block := d.Block, Frame := d.Frame, State := 3, Cmd := 0, OpBlock := 0, OpFrame := 0, OpData := [] } p = true := fun p hm => by
    simp only [disk_May, disk_May_t, Tree.m]; rw [blk hm]; rfl
  unfold disk_Complete_t
  refine w_br (fun _ => w_an (clone_w h) (w_lv fun x hx => by rw [hcl] at hx; subst hx; exact keep _)) fun _ => w_br (fun _ => w_an (clone_w h) (w_lv fun x hx => by rw [hcl] at hx; subst hx; exact keep _)) fun _ => w_br (fun _ => w_an (clone_w h) (w_lv fun x hx => by rw [hcl] at hx; subst hx; exact keep _)) fun _ => w_an (clone_w h) (w_lv fun x3 hx3 => ?_)
  rw [hcl] at hx3; subst hx3
  have fin : ∀ {m' : List Int}, okMem P m' → out d.OpFrame x3 m' → (Tree.br (e.N == 1) (.lf (({ Blocks := d.Blocks, Block := d.Block, Frame := d.Frame, State := 2, Cmd := 0, OpBlock := 0, OpFrame := 0, OpData := [] } : ApiDisk), m', true)) (.lf (({ Blocks := d.Blocks, Block := d.Block, Frame := d.Frame, State := 3, Cmd := 0, OpBlock := 0, OpFrame := 0, OpData := [] } : ApiDisk), m', true))).w (fun r => okDisk r.1 ∧ okMem P r.2.1 ∧ out d.OpFrame x3 r.2.1 ∧ (r.2.2 = false → r.2.1 = x3) ∧ (∀ p, disk_May d p = true → disk_May r.1 p = true)) := fun hm ho =>
    w_br (fun _ => ⟨⟨hd.block, hd.frame, U_0, U_0⟩, hm, ho, (fun h => by cases h), m2⟩) (fun _ => ⟨⟨hd.block, hd.frame, U_0, U_0⟩, hm, ho, (fun h => by cases h), m3⟩)
  have nod : (Tree.br (!decide (e.Data = [])) (.lf (d, x3, false)) (Tree.br (e.N == 1) (.lf (({ Blocks := d.Blocks, Block := d.Block, Frame := d.Frame, State := 2, Cmd := 0, OpBlock := 0, OpFrame := 0, OpData := [] } : ApiDisk), x3, true)) (.lf (({ Blocks := d.Blocks, Block := d.Block, Frame := d.Frame, State := 3, Cmd := 0, OpBlock := 0, OpFrame := 0, OpData := [] } : ApiDisk), x3, true)))).w (fun r => okDisk r.1 ∧ okMem P r.2.1 ∧ out d.OpFrame x3 r.2.1 ∧ (r.2.2 = false → r.2.1 = x3) ∧ (∀ p, disk_May d p = true → disk_May r.1 p = true)) :=
    w_br (fun _ => keep _) (fun _ => fin h (out_refl _ _))
  refine w_br (fun _ => w_br (fun _ => w_lv fun x4 hx4 => w_br (fun _ => keep _) fun hb => ?_) (fun _ => nod)) (fun _ => nod)
  have hp := mpages_eq h
  have hb : x4 = true := by simpa using hb
  rw [hb] at hx4
  simp only [disk_isPage, disk_isPage_t, Tree.m, letv, hp] at hx4
  obtain ⟨f0, f1⟩ := u64_lt hd.opFrame h.p2 hx4.symm
  have ef : IntKind.i64.wrap d.OpFrame = d.OpFrame := by have := h.p2; rw [IntKind.wrap_i64]; omega
  refine w_call (setPage_w h _ _) fun x5 ⟨h5, o5, k5⟩ => ?_
  rw [ef] at o5
  exact w_br (fun hf => ⟨hd, h5, o5, fun _ => k5 (by simpa using hf), fun _ h => h⟩) (fun _ => fin h5 o5)
theorem receive_w {P : Nat} {m : List Int} (h : okMem P m) {n : ApiNic} (hn : okNic n) (frame : List UInt8) : (nic_Receive_t n m frame).w (fun r => okNic r.1 ∧ okMem P r.2.1 ∧ out n.Buffer m r.2.1 ∧ (r.2.2 = false → r.2.1 = m) ∧ (∀ p, nic_May n p = true → nic_May r.1 p = true)) := by
  have hcl : slices_Clone_uint32_uint32 m = m := rfl
  have keep : okNic n ∧ okMem P m ∧ out n.Buffer m m ∧ (false = false → m = m) ∧ (∀ p, nic_May n p = true → nic_May n p = true) := ⟨hn, h, out_refl _ _, fun _ => rfl, fun _ h => h⟩
  unfold nic_Receive_t
  refine w_br (fun _ => w_an (clone_w h) (w_lv fun x hx => by rw [hcl] at hx; subst hx; exact keep)) fun hpo => w_br (fun _ => w_an (clone_w h) (w_lv fun x hx => by rw [hcl] at hx; subst hx; exact keep)) fun l1 => w_br (fun _ => w_an (clone_w h) (w_lv fun x hx => by rw [hcl] at hx; subst hx; exact keep)) fun l2 => w_lv fun x3 hx3 => w_br (fun _ => w_an (clone_w h) (w_lv fun x hx => by rw [hcl] at hx; subst hx; exact keep)) fun hb => ?_
  have l1 := of_decide_eq_false l1
  have l2 := of_decide_eq_false l2
  have hp := mpages_eq h
  have hb : x3 = true := by simpa using hb
  rw [hb] at hx3
  simp only [nic_isPage, nic_isPage_t, Tree.m, letv, hp] at hx3
  obtain ⟨f0, f1⟩ := u64_lt hn.buffer h.p2 hx3.symm
  have ef : IntKind.i64.wrap n.Buffer = n.Buffer := by have := h.p2; rw [IntKind.wrap_i64]; omega
  refine w_call (mpage_w h _) fun x5 h5 => ?_
  rw [ef] at h5
  have h5 := h5 f0 f1
  have hmax : (maxLen : Nat) = 9223372036854775807 := rfl
  refine w_cn (decide_eq_true (by omega)) (w_cn (decide_eq_true (by simp only [List.length_take, List.length_drop, hmax]; omega)) (w_call (setPage_w h _ _) fun x6 ⟨h6, o6, _⟩ => ?_))
  rw [ef] at o6
  have hg : IntKind.u32.wrap (frame.length : Int) = frame.length := by rw [IntKind.wrap_u32]; omega
  refine ⟨⟨hn.frame, hn.len, U_0, U_wrap _⟩, h6, o6, (fun h => by cases h), fun p _ => ?_⟩
  simp only [nic_May, nic_May_t, Tree.m]
  rw [hg, decide_eq_true (show (frame.length : Int) ≥ 1 by omega), decide_eq_true (show (frame.length : Int) ≤ 128 by omega)]
  rfl
theorem ctype_w (c : ApiConsole) (b : Int) : (console_Type_t c b).w (fun r => console_May c = true → console_May r.1 = true) := by
  have hmax : (maxLen : Nat) = 9223372036854775807 := rfl
  unfold console_Type_t
  refine w_br (fun _ => fun h => h) (fun hb => ?_)
  have hb := of_decide_eq_false hb
  refine w_cn (decide_eq_true (by rw [hmax]; omega)) ?_
  intro _
  show decide (((c.Keys ++ [_]).length : Int) ≤ 16) = true
  rw [List.length_append, List.length_singleton]
  exact decide_eq_true (by omega)
theorem fire_may (t : ApiTimer) (h : timer_May t = true) : timer_May (timer_Fire t).1 = true := by
  simp only [timer_Fire, timer_Fire_t, Tree.m]
  cases ha : t.Armed
  · exact h
  · rfl
end Go.Proofs.YtdkiadhigcfmkaaGreat
namespace Go.Proofs.YtdkiadhigcfmkaaGreat
open Go Go.GD
set_option linter.unusedVariables false
set_option linter.unusedSimpArgs false
set_option maxRecDepth 100000
theorem dev_eq (m : ApiMachine) : machine_mayDevices m = (console_May m.Console && (timer_May m.Timer && (disk_May m.Disk (memory_Pages m.Mem) && (nic_May m.Nic (memory_Pages m.Mem) && balloon_May m.Balloon (memory_Pages m.Mem))))) := by
  simp only [machine_mayDevices, machine_mayDevices_t, Tree.m, letv]
  cases console_May m.Console <;> cases timer_May m.Timer <;> cases disk_May m.Disk (memory_Pages m.Mem) <;> cases nic_May m.Nic (memory_Pages m.Mem) <;> rfl
theorem bal_eq {b c : ApiBalloon} (h : c.Given = b.Given) (p : Int) : balloon_May c p = balloon_May b p := by
  simp only [balloon_May, balloon_May_t, Tree.m, h]
theorem cnd {a x y : Bool} (h : x = true → y = true) : (bif a then false else x) = true → (bif a then false else y) = true := by cases a <;> simp_all
def chain (b1 b2 b3 b4 b5 b6 b7 w h dev : Bool) : Bool := bif b1 then false else bif b2 then false else bif b3 then false else bif b4 then false else bif b5 then false else bif b6 then false else bif b7 then false else bif w then (bif h then false else dev) else dev
theorem chain_mono {b1 b2 b3 b4 b5 b6 b7 w h d d' : Bool} (hd : d = true → d' = true) : chain b1 b2 b3 b4 b5 b6 b7 w h d = true → chain b1 b2 b3 b4 b5 b6 b7 w h d' = true := by
  refine cnd (cnd (cnd (cnd (cnd (cnd (cnd ?_))))))
  cases w
  · exact hd
  · cases h
    · exact hd
    · exact fun h => h
def mayC (p : Int) (c : ApiCpu) (ct : Int) (w h dev : Bool) : Bool := chain (p == 0) (c.X.a0 != 0) (decide (c.Csr.a0 > 31)) (decide (c.Csr.a7 > 31)) (decide (c.Csr.a6 > 255)) (Int.tmod c.Csr.a1 4 != 0) (decide (ct > 1152921504606846976)) w h dev
theorem mayC_mono {p : Int} {c : ApiCpu} {ct : Int} {w h d d' : Bool} (hd : d = true → d' = true) (g : mayC p c ct w h d = true) : mayC p c ct w h d' = true := chain_mono hd g
theorem may_eq (m : ApiMachine) : machine_May m = mayC (memory_Pages m.Mem) m.Cpu m.Count m.Waiting m.Halted (machine_mayDevices m) := rfl
theorem may_keep {m n : ApiMachine} (hp : memory_Pages n.Mem = memory_Pages m.Mem) (hcpu : n.Cpu = m.Cpu) (hct : n.Count = m.Count) (hw : n.Waiting = m.Waiting) (hh : n.Halted = m.Halted)
    (hc : console_May m.Console = true → console_May n.Console = true) (ht : timer_May m.Timer = true → timer_May n.Timer = true) (hd : ∀ p, disk_May m.Disk p = true → disk_May n.Disk p = true) (hn : ∀ p, nic_May m.Nic p = true → nic_May n.Nic p = true) (hb : n.Balloon.Given = m.Balloon.Given) (h : machine_May m = true) : machine_May n = true := by
  have dev : machine_mayDevices m = true → machine_mayDevices n = true := fun h => by
    rw [dev_eq] at h ⊢
    simp only [Bool.and_eq_true] at h ⊢
    rw [hp, bal_eq hb]
    exact ⟨hc h.1, ht h.2.1, hd _ h.2.2.1, hn _ h.2.2.2.1, h.2.2.2.2⟩
  rw [may_eq] at h ⊢
  rw [hp, hcpu, hct, hw, hh]
  exact mayC_mono dev h
theorem applyL_w {P : Nat} {m : ApiMachine} (h : okM P m) {e : ApiEvent} (he : U e.N) : (machine_Apply_L_t m e).w (fun r => r.2.2 = m.Mem ∧ okM P r.1 ∧ r.1.Cpu = m.Cpu ∧ r.1.Halted = m.Halted ∧ (machine_May m = true → machine_May r.1 = true) ∧ (r.1.Mem = m.Mem ∨ (r.2.1 = true ∧ (e.Kind = 4 ∧ out m.Disk.OpFrame m.Mem r.1.Mem ∨ e.Kind = 5 ∧ out m.Nic.Buffer m.Mem r.1.Mem)))) := by
  obtain ⟨h1, h2, h3, h4, h5⟩ := h
  have hcl : slices_Clone_uint32_uint32 m.Mem = m.Mem := rfl
  have pg : ∀ {m' : List Int}, okMem P m' → memory_Pages m' = memory_Pages m.Mem := fun h => by rw [mpages_eq h, mpages_eq h2]
  have keep : m.Mem = m.Mem ∧ okM P m ∧ m.Cpu = m.Cpu ∧ m.Halted = m.Halted ∧ (machine_May m = true → machine_May m = true) ∧ (m.Mem = m.Mem ∨ (false = true ∧ (e.Kind = 4 ∧ out m.Disk.OpFrame m.Mem m.Mem ∨ e.Kind = 5 ∧ out m.Nic.Buffer m.Mem m.Mem))) := ⟨rfl, ⟨h1, h2, h3, h4, h5⟩, rfl, rfl, fun h => h, .inl rfl⟩
  unfold machine_Apply_L_t
  refine w_an (clone_w h2) (w_lv fun l hl => ?_)
  rw [hcl] at hl; subst hl
  refine w_call (mayP_w (m := ⟨_, _, _, _, _, _, m.Balloon, _, _, _⟩) h5.2) fun x1 _ => w_br (fun _ => keep) fun _ => w_br (fun _ => keep) fun _ => ?_
  refine w_br (fun _ => w_br (fun _ => w_br (fun _ => w_lv fun x hx => ?_) (fun _ => keep)) (fun _ => keep)) fun _ => w_br (fun _ => w_br (fun _ => w_br (fun _ => w_call (ctype_w _ _) fun x hx => ?_) (fun _ => keep)) (fun _ => keep)) fun _ => w_br (fun hk => w_call (complete_w h2 h3 e) fun x hx => ?_) fun _ => w_br (fun hk => w_br (fun _ => w_call (receive_w h2 h4 _) fun x hx => ?_) (fun _ => keep)) fun _ => w_br (fun _ => w_br (fun _ => ?_) (fun _ => keep)) (fun _ => keep)
  · exact ⟨rfl, ⟨h1, h2, h3, h4, h5⟩, rfl, rfl, may_keep rfl rfl rfl rfl rfl (fun h => h) (fun h => by rw [hx]; exact fire_may _ h) (fun _ h => h) (fun _ h => h) rfl, .inl rfl⟩
  · exact ⟨rfl, ⟨h1, h2, h3, h4, h5⟩, rfl, rfl, may_keep rfl rfl rfl rfl rfl hx (fun h => h) (fun _ h => h) (fun _ h => h) rfl, .inl rfl⟩
  · obtain ⟨a1, a2, a3, a4, a5⟩ := hx
    refine ⟨rfl, ⟨h1, a2, a1, h4, h5⟩, rfl, rfl, may_keep (pg a2) rfl rfl rfl rfl (fun h => h) (fun h => h) a5 (fun _ h => h) rfl, ?_⟩
    cases hb : x.2.2
    · exact .inl (a4 hb)
    · exact .inr ⟨rfl, .inl ⟨eq_of_beq hk, a3⟩⟩
  · obtain ⟨a1, a2, a3, a4, a5⟩ := hx
    refine ⟨rfl, ⟨h1, a2, h3, a1, h5⟩, rfl, rfl, may_keep (pg a2) rfl rfl rfl rfl (fun h => h) (fun h => h) (fun _ h => h) a5 rfl, ?_⟩
    cases hb : x.2.2
    · exact .inl (a4 hb)
    · exact .inr ⟨rfl, .inr ⟨eq_of_beq hk, a3⟩⟩
  · exact ⟨rfl, ⟨h1, h2, h3, h4, ⟨he, h5.2⟩⟩, rfl, rfl, may_keep rfl rfl rfl rfl rfl (fun h => h) (fun h => h) (fun _ h => h) (fun _ h => h) rfl, .inl rfl⟩
theorem applyL_v {P : Nat} {m : ApiMachine} (h : okM P m) {e : ApiEvent} (he : U e.N) : machine_Apply_L_pre m e ∧ ((machine_Apply_L m e).2.2 = m.Mem ∧ okM P (machine_Apply_L m e).1 ∧ (machine_Apply_L m e).1.Cpu = m.Cpu ∧ (machine_Apply_L m e).1.Halted = m.Halted ∧ (machine_May m = true → machine_May (machine_Apply_L m e).1 = true) ∧ ((machine_Apply_L m e).1.Mem = m.Mem ∨ ((machine_Apply_L m e).2.1 = true ∧ (e.Kind = 4 ∧ out m.Disk.OpFrame m.Mem (machine_Apply_L m e).1.Mem ∨ e.Kind = 5 ∧ out m.Nic.Buffer m.Mem (machine_Apply_L m e).1.Mem)))) := Tree.pp (applyL_w h he)
end Go.Proofs.YtdkiadhigcfmkaaGreat
namespace Go.Proofs.YtdkiadhigcfmkaaGreat
open Go Go.GD
set_option linter.unusedVariables false
set_option linter.unusedSimpArgs false
set_option maxRecDepth 100000
theorem same_out {P : Nat} {f : Int} {m m' : List Int} (h0 : okMem P m) (h : okMem P m') (ho : out f m m') {p : Nat} (hp : p < P) (hf : (p : Int) ≠ f) :
    List.take 32 (List.drop (p * 32) m) = List.take 32 (List.drop (p * 32) m') := by
  have hl := h0.len
  have hl' := h.len
  apply List.ext_getElem
  · simp; omega
  · intro i h1 h2
    simp only [List.length_take, List.length_drop] at h1 h2
    simp only [List.getElem_take, List.getElem_drop]
    have := ho (p * 32 + i) (by omega)
    rw [List.getD_eq_getElem?_getD, List.getD_eq_getElem?_getD, List.getElem?_eq_getElem (by omega), List.getElem?_eq_getElem (by omega)] at this
    exact this.symm
theorem changed_out {P : Nat} {f : Int} {m m' : List Int} (h0 : okMem P m) (h : okMem P m') (ho : out f m m') : (ref1_Changed_t m m').w (fun c => c = [] ∨ (c = [f] ∧ 0 ≤ f)) := by
  have hl := h0.len
  have hl' := h.len
  have h2 := h0.p2
  unfold ref1_Changed_t
  refine w_br (fun hb => ?_) (fun _ => ?_)
  · rw [hl, hl'] at hb; simp at hb
  refine w_lp (inv := fun v0 : Int × List Int => 0 ≤ v0.1 ∧ v0.1 ≤ P ∧ (v0.2 = [] ∨ (v0.2 = [f] ∧ 0 ≤ f ∧ f < v0.1))) (μ := ref1_Changed_meas0 m m') ⟨show (0 : Int) ≤ 0 by decide, show (0 : Int) ≤ P by omega, .inl rfl⟩ (Nat.lt_succ_self _) (fun v0 ⟨i1, i2, i3⟩ => ?_)
  refine w_lv fun x0 hx0 => ?_
  rw [pages_eq h0] at hx0; subst hx0
  refine w_br (fun hb => ?_) (fun _ => ?_)
  · have hb := of_decide_eq_true hb
    have e1 : IntKind.i64.wrap (v0.1 + 1) = v0.1 + 1 := by rw [IntKind.wrap_i64]; omega
    have e2 : IntKind.i64.wrap (v0.1 * 32) = v0.1 * 32 := by rw [IntKind.wrap_i64]; omega
    have e3 : IntKind.i64.wrap ((v0.1 + 1) * 32) = (v0.1 + 1) * 32 := by rw [IntKind.wrap_i64]; omega
    have hm : ∀ l : List Int, ref1_Changed_meas0 m m' (v0.1 + 1, l) < ref1_Changed_meas0 m m' v0 := fun l => by
      show (m.length - (v0.1 + 1)).toNat < (m.length - v0.1).toNat
      omega
    have hc : ∀ n : Int, n = 32 * P → (Nat.beq 1 1 && Nat.blt 0 1 && decide (0 ≤ IntKind.i64.wrap (v0.1 * 32) ∧ IntKind.i64.wrap (v0.1 * 32) ≤ IntKind.i64.wrap (IntKind.i64.wrap (v0.1 + 1) * 32) ∧ IntKind.i64.wrap (IntKind.i64.wrap (v0.1 + 1) * 32) ≤ n)) = true := fun n hn => by
      rw [e1, e2, e3]; simp [Nat.blt]; omega
    have ek : (IntKind.i64.wrap (IntKind.i64.wrap (v0.1 + 1) * 32)).toNat - (IntKind.i64.wrap (v0.1 * 32)).toNat = 32 := by rw [e1, e2, e3]; omega
    have ed : (IntKind.i64.wrap (v0.1 * 32)).toNat = v0.1.toNat * 32 := by rw [e2]; omega
    refine w_cn (hc _ (by omega)) (w_cn (hc _ (by omega)) ?_)
    refine w_an (by show _ ≤ 1000000000000; simp only [List.length_take, ek]; omega) (w_lv fun x1 hx1 => w_br (fun hn => ?_) (fun _ => ?_))
    · have hp : v0.1 = f := by
        rcases Classical.em (v0.1 = f) with h46 | h46
        · exact h46
        · rw [ek, ed, same_out h0 h ho (by omega) (by omega), words_self _ (by simp only [List.length_take]; omega)] at hx1
          rw [hx1] at hn; cases hn
      have i3 : v0.2 = [] := by
        rcases i3 with h | ⟨_, _, h⟩
        · exact h
        · omega
      refine w_cn (decide_eq_true (by rw [i3]; decide)) (w_nx ?_)
      show (_ ∧ _ ∧ _) ∧ _
      rw [e1]
      exact ⟨⟨by show 0 ≤ v0.1 + 1; omega, by show v0.1 + 1 ≤ P; omega, .inr ⟨by show v0.2 ++ [v0.1] = [f]; rw [i3, hp]; rfl, by omega, by show f < v0.1 + 1; omega⟩⟩, hm _⟩
    · refine w_nx ?_
      show (_ ∧ _ ∧ _) ∧ _
      rw [e1]
      exact ⟨⟨by show 0 ≤ v0.1 + 1; omega, by show v0.1 + 1 ≤ P; omega, i3.imp (fun h => h) (fun ⟨a, b, c⟩ => ⟨a, b, by show f < v0.1 + 1; omega⟩)⟩, hm _⟩
  · rcases i3 with h | ⟨a, b, c⟩
    · exact .inl h
    · exact .inr ⟨a, b⟩
theorem few_acts {l acts : List Int} {x0 : Bool} (hx0 : x0 = make_Few l acts) (hb : (!x0) = false) : acts.length ≤ 30 := by
  have hb : x0 = true := by simpa using hb
  rw [hb] at hx0
  simp only [make_Few, make_Few_t, Tree.m] at hx0
  cases h1 : decide ((l.length : Int) ≤ 40) <;> rw [h1] at hx0
  · cases hx0
  · have := of_decide_eq_true hx0.symm
    omega
theorem u32_id {x : Int} (h : U x) : IntKind.u32.wrap x = x := by obtain ⟨h1, h2⟩ := h; rw [IntKind.wrap_u32]; omega
theorem dma (kind : Int) (l acts : List Int) (n : Int) (hl : l.length * 8 ≤ reachBytes) : law12_MachineDma_pre kind l acts n ∧ law12_MachineDma kind l acts n = true := by
  have aw : ∀ x, x = law12_awake → x = true := fun x e => e.trans awake_true
  refine Tree.pp (W := fun r => r = true) ?_
  unfold law12_MachineDma_t
  refine w_lv fun x0 hx0 => w_br (fun _ => w_an awake_pre (w_lv aw)) fun hb => ?_
  refine w_call (reached_w kind l acts hl (few_acts hx0 hb)) fun x2 ⟨Q, hQ⟩ => w_call (event_w n) fun x3 he => ?_
  obtain ⟨p1, a1, a2, a3, a4, a5, a6⟩ := applyL_v hQ he
  refine w_an p1 (w_lv fun x4 h4 => ?_)
  rw [← h4] at a1 a2 a3 a4 a6
  have hc : ∃ f : Int, out f x2.Mem x4.1.Mem ∧ (0 ≤ f → x4.2.1 = true ∧ (x3.Kind = 4 ∧ f = x2.Disk.OpFrame ∨ x3.Kind = 5 ∧ f = x2.Nic.Buffer)) := by
    rcases a6 with h | ⟨h, ⟨h1, h2⟩ | ⟨h1, h2⟩⟩
    · exact ⟨-1, by rw [h]; exact out_refl _ _, fun h => by omega⟩
    · exact ⟨_, h2, fun _ => ⟨h, .inl ⟨h1, rfl⟩⟩⟩
    · exact ⟨_, h2, fun _ => ⟨h, .inr ⟨h1, rfl⟩⟩⟩
  obtain ⟨f, ho, hf⟩ := hc
  have ch := Tree.pp (changed_out hQ.mem a2.mem ho)
  rw [← a1] at ch
  refine w_an ch.1 (w_lv fun x5 h5 => ?_)
  have c5 : x5 = [] ∨ (x5 = [f] ∧ 0 ≤ f) := by rw [h5]; exact ch.2
  refine w_br (fun hh => ?_) (fun _ => w_br (fun hh => ?_) (fun _ => w_br (fun hh => ?_) (fun _ => ?_)))
  · rw [a1, hQ.mem.len, a2.mem.len] at hh; simp at hh
  · have hh := of_decide_eq_true hh
    rcases c5 with h | ⟨h, _⟩ <;> rw [h] at hh <;> simp at hh
  · rw [a3] at hh; simp [eqs, eq1] at hh
  rcases c5 with h | ⟨h, f0⟩
  · subst h
    exact w_br (fun _ => w_an awake_pre (w_lv aw)) (fun h => by cases h)
  · subst h
    obtain ⟨g1, g2⟩ := hf f0
    refine w_br (fun h => by cases h) (fun _ => ?_)
    rw [g1]
    rcases g2 with ⟨k, e⟩ | ⟨k, e⟩
    · rw [k]
      refine w_br (fun _ => w_cn rfl (w_br (fun h => by cases h) (fun _ => w_br (fun _ => w_br (fun _ => w_an awake_pre (w_lv aw)) (fun h => ?_)) (fun h => by cases h)))) (fun h => by cases h)
      rw [show List.getD [f] (Int.toNat 0) 0 = f from rfl, e, u32_id hQ.disk.opFrame] at h
      simp at h
    · rw [k]
      refine w_br (fun h => by cases h) (fun _ => w_br (fun _ => w_cn rfl (w_br (fun _ => w_br (fun _ => w_an awake_pre (w_lv aw)) (fun h => ?_)) (fun h => by cases h))) (fun h => by cases h))
      rw [show List.getD [f] (Int.toNat 0) 0 = f from rfl, e, u32_id hQ.nic.buffer] at h
      simp at h
end Go.Proofs.YtdkiadhigcfmkaaGreat

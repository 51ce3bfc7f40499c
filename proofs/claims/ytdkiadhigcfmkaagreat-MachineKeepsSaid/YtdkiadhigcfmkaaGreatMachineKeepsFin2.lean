/-
  A part of the proof.
-/
import Derived.Test.YtdkiadhigcfmkaaGreatMachineKeepsLaws2
import Derived.Test.YtdkiadhigcfmkaaGreatMachineKeepsNews
import Derived.Test.YtdkiadhigcfmkaaGreatMachineKeepsZg
import Derived.Test.YtdkiadhigcfmkaaGreatMachineKeepsZt
import Derived.Test.YtdkiadhigcfmkaaGreatMachineKeepsFe
namespace Go.Proofs.YtdkiadhigcfmkaaGreat
open Go Go.GD
set_option linter.unusedVariables false
set_option linter.unusedSimpArgs false
set_option maxRecDepth 100000
theorem Zbe (i : Q0j) : U (Q10 i).1 := by
  refine Tree.post (Qc0 i) (W := fun r => U r.1) ?_
  unfold Qc0
  exact w_lv fun _ _ => w_br (fun _ => U_0) (fun _ => U_or _ _)
theorem code_w (l : List Int) (hl : l.length * 8 ≤ reachBytes) : (Q7x l).w (fun r => (r.length : Int) = l.length ∧ ∀ w ∈ r, U w) := by
  have hl' : l.length * 8 ≤ 140737488351232 := hl
  have app : ∀ {r : List Int} {x : Int}, (∀ w ∈ r, U w) → U x → ∀ w ∈ r ++ [x], U w := fun hr hx w hw => by
    rw [List.mem_append] at hw
    rcases hw with hw | hw
    · exact hr w hw
    · rw [List.mem_singleton.1 hw]; exact hx
  unfold Q7x
  refine w_lp (inv := fun z => Qae l z ∧ ∀ w ∈ z.2, U w) (μ := Q3j l) ⟨⟨by omega, by simp, by simp⟩, by simp⟩ (Nat.lt_succ_self _) (fun v0 hv => ?_)
  obtain ⟨⟨h1, h2, h3⟩, h4⟩ := hv
  refine w_br (fun h => ?_) (fun h => ?_)
  · have h := of_decide_eq_true h
    have next : ∀ x : Int, U x → (Qae l (IntKind.wrap IntKind.i64 (v0.1 + 1), v0.2 ++ [x]) ∧ ∀ w ∈ v0.2 ++ [x], U w) ∧ Q3j l (IntKind.wrap IntKind.i64 (v0.1 + 1), v0.2 ++ [x]) < Q3j l v0 := fun x hx => by
      have hw : IntKind.i64.wrap (v0.1 + 1) = v0.1 + 1 := by rw [IntKind.wrap_i64]; omega
      rw [hw]
      refine ⟨⟨⟨?_, ?_, ?_⟩, app h4 hx⟩, ?_⟩
      · show 0 ≤ v0.1 + 1; omega
      · show v0.1 + 1 ≤ l.length; omega
      · show ((v0.2 ++ [x]).length : Int) = v0.1 + 1; simp; omega
      · show (l.length - (v0.1 + 1)).toNat < (l.length - v0.1).toNat; omega
    have hb : (Nat.beq 1 1 && Nat.blt 0 1 && decide (0 ≤ v0.1 ∧ v0.1 < (l.length : Int))) = true := by simp [Nat.blt]; omega
    have hc : decide (4 * (v0.2.length + 1) ≤ 140737488355328) = true := decide_eq_true (by omega)
    exact w_cn hb (w_br (fun _ => w_cn hb (w_cn hc (next _ (Q0m _)))) (fun _ => w_cn hb (w_an (Z3b _) (w_lv fun x0 _ => w_lv fun x1 hx => w_cn hc (next _ (by rw [hx]; exact Zbe _))))))
  · have h := of_decide_eq_false h
    exact ⟨by show (v0.2.length : Int) = l.length; omega, h4⟩
end Go.Proofs.YtdkiadhigcfmkaaGreat
namespace Go.Proofs.YtdkiadhigcfmkaaGreat
open Go Go.GD
set_option linter.unusedVariables false
set_option linter.unusedSimpArgs false
set_option maxRecDepth 100000
theorem limited_w (steps : Int) : 0 ≤ Qby steps ∧ Qby steps ≤ 4000 := by
  refine Tree.post (Q8v steps) (W := fun r => 0 ≤ r ∧ r ≤ 4000) ?_
  unfold Q8v
  refine w_lf ?_
  constructor <;> (repeat' split) <;> omega
theorem Z6a {P : Nat} {r : Q01} (h : okR P r) (steps : Int) {clock : Int} (hc : U clock) (hl : r.Log.length ≤ 900000) (hq : r.Queue.length ≤ 16) (hu : ∀ q ∈ r.Queue, U q.N) :
    (Q69 r steps clock).w (fun x => okR P x.1 ∧ x.1.Log.length ≤ r.Log.length + 8016 ∧ (x.1.Queue = r.Queue ∨ x.1.Queue = []) ∧ x.2.length ≤ 4000) := by
  unfold Q69
  refine Q0c (own_w h (by omega) (by omega)) fun x0 hx => ?_
  obtain ⟨k1, k2, k3⟩ := hx
  refine w_lv fun x1 _ => w_br (fun _ => ⟨k1, by rw [k2]; omega, .inl k3, Nat.zero_le _⟩) (fun _ => ?_)
  have hcl : U (if clock > x0.Clock then clock else x0.Clock) := by split <;> first | exact hc | exact k1.clock
  refine w_lp (inv := fun z => 0 ≤ z.1 ∧ z.1 ≤ r.Queue.length ∧ okR P z.2 ∧ (z.2.Log.length : Int) ≤ r.Log.length + z.1 ∧ z.2.Queue = r.Queue) (μ := Qde r steps clock) ⟨by omega, by omega, ⟨k1.m, hcl⟩, by rw [k2]; omega, k3⟩ (Nat.lt_succ_self _) (fun z hz => ?_)
  obtain ⟨z1, z2, z3, z4, z5⟩ := hz
  refine w_br (fun hb => ?_) (fun hb => ?_)
  · have hb := of_decide_eq_true hb
    rw [z5] at hb
    have hm : (List.getD z.2.Queue (Int.toNat z.1) (RK.dflt RK.apiEvent)) ∈ r.Queue := by
      rw [z5]
      have hlt : z.1.toNat < r.Queue.length := by omega
      rw [List.getD_eq_getElem?_getD, List.getElem?_eq_getElem hlt]
      exact List.getElem_mem hlt
    refine w_cn (by rw [z5]; simp [Nat.blt]; omega) (Q0c (offer_w z3 (hu _ hm) (by omega)) fun x hx => w_nx ?_)
    obtain ⟨a1, a2, a3⟩ := hx
    show (0 ≤ IntKind.i64.wrap (z.1 + 1) ∧ IntKind.i64.wrap (z.1 + 1) ≤ r.Queue.length ∧ okR P x ∧ (x.Log.length : Int) ≤ r.Log.length + IntKind.i64.wrap (z.1 + 1) ∧ x.Queue = r.Queue) ∧ (x.Queue.length - IntKind.i64.wrap (z.1 + 1)).toNat < (z.2.Queue.length - z.1).toNat
    have ew : IntKind.i64.wrap (z.1 + 1) = z.1 + 1 := by rw [IntKind.wrap_i64]; omega
    rw [ew, a3, z5]
    exact ⟨⟨by omega, by omega, a1, by omega, rfl⟩, by omega⟩
  · refine w_lp (inv := fun y => 0 ≤ y.1 ∧ y.1 ≤ 4000 ∧ okR P y.2.1 ∧ (y.2.1.Log.length : Int) ≤ r.Log.length + r.Queue.length + 2 * y.1 ∧ y.2.1.Queue = [] ∧ (y.2.2.length : Int) ≤ y.1) (μ := Qdu r steps clock z) ⟨by omega, by omega, ⟨z3.m, z3.clock⟩, by simp; omega, rfl, by simp⟩ (Nat.lt_succ_self _) (fun y hy => ?_)
    obtain ⟨y1, y2, y3, y4, y5, y6⟩ := hy
    have ew : IntKind.i64.wrap (y.1 + 1) = y.1 + 1 := by rw [IntKind.wrap_i64]; omega
    refine w_lv fun x3 hx3 => w_br (fun hb => ?_) (fun _ => ⟨y3, by show y.2.1.Log.length ≤ _; omega, .inr y5, by show y.2.2.length ≤ _; omega⟩)
    have hb := of_decide_eq_true hb
    have lim := (limited_w steps).2
    rw [← hx3] at lim
    refine w_lv fun x4 _ => w_br (fun _ => Q0c (offer_w (e := ⟨_, _, _⟩) y3 U_0 (by omega)) fun x5 h5 => ?_) (fun _ => ?_)
    · obtain ⟨q1, q2, q3⟩ := h5
      have q3 := q3.trans y5
      refine Q0c (Za0 _) fun s1 _ => w_br (fun _ => ⟨q1, by show x5.Log.length ≤ _; omega, .inr q3, by show y.2.2.length ≤ _; omega⟩) (fun _ => Q0c (Qsg q1.m.cpu q1.m.mem) fun s2 _ => w_br (fun _ => w_cn (decide_eq_true (by omega)) (Q0c (Qng (r := ⟨x5.Machine, x5.Clock, x5.Log ++ [_], x5.Queue⟩) ⟨q1.m, q1.clock⟩ q1.clock) fun o ho => ?_)) (fun _ => Q0c (Qng q1 q1.clock) fun o ho => ?_))
      · obtain ⟨a1, ⟨⟨a2, a3⟩, a4, a5⟩⟩ := ho
        have e4 : o.2.Log.length = x5.Log.length + 1 := by rw [a4]; simp
        have a5 : o.2.Queue = [] := a5.trans q3
        refine w_cn (decide_eq_true (by omega)) (w_nx ?_)
        show (0 ≤ IntKind.i64.wrap (y.1 + 1) ∧ IntKind.i64.wrap (y.1 + 1) ≤ 4000 ∧ okR P _ ∧ (o.2.Log.length : Int) ≤ r.Log.length + r.Queue.length + 2 * IntKind.i64.wrap (y.1 + 1) ∧ o.2.Queue = [] ∧ ((y.2.2 ++ o.1).length : Int) ≤ IntKind.i64.wrap (y.1 + 1)) ∧ (4000 - IntKind.i64.wrap (y.1 + 1)).toNat < (4000 - y.1).toNat
        rw [ew, a5, List.length_append]
        exact ⟨⟨by omega, by omega, ⟨a2, Q0m _⟩, by omega, rfl, by omega⟩, by omega⟩
      · obtain ⟨a1, ⟨⟨a2, a3⟩, a4, a5⟩⟩ := ho
        have e4 : o.2.Log.length = x5.Log.length := by rw [a4]
        have a5 : o.2.Queue = [] := a5.trans q3
        refine w_cn (decide_eq_true (by omega)) (w_nx ?_)
        show (0 ≤ IntKind.i64.wrap (y.1 + 1) ∧ IntKind.i64.wrap (y.1 + 1) ≤ 4000 ∧ okR P _ ∧ (o.2.Log.length : Int) ≤ r.Log.length + r.Queue.length + 2 * IntKind.i64.wrap (y.1 + 1) ∧ o.2.Queue = [] ∧ ((y.2.2 ++ o.1).length : Int) ≤ IntKind.i64.wrap (y.1 + 1)) ∧ (4000 - IntKind.i64.wrap (y.1 + 1)).toNat < (4000 - y.1).toNat
        rw [ew, a5, List.length_append]
        exact ⟨⟨by omega, by omega, ⟨a2, Q0m _⟩, by omega, rfl, by omega⟩, by omega⟩
    · refine Q0c (Za0 _) fun s1 _ => w_br (fun _ => ⟨y3, by show y.2.1.Log.length ≤ _; omega, .inr y5, by show y.2.2.length ≤ _; omega⟩) (fun _ => Q0c (Qsg y3.m.cpu y3.m.mem) fun s2 _ => w_br (fun _ => w_cn (decide_eq_true (by omega)) (Q0c (Qng (r := ⟨y.2.1.Machine, y.2.1.Clock, y.2.1.Log ++ [_], y.2.1.Queue⟩) ⟨y3.m, y3.clock⟩ y3.clock) fun o ho => ?_)) (fun _ => Q0c (Qng y3 y3.clock) fun o ho => ?_))
      · obtain ⟨a1, ⟨⟨a2, a3⟩, a4, a5⟩⟩ := ho
        have e4 : o.2.Log.length = y.2.1.Log.length + 1 := by rw [a4]; simp
        have a5 : o.2.Queue = [] := a5.trans y5
        refine w_cn (decide_eq_true (by omega)) (w_nx ?_)
        show (0 ≤ IntKind.i64.wrap (y.1 + 1) ∧ IntKind.i64.wrap (y.1 + 1) ≤ 4000 ∧ okR P _ ∧ (o.2.Log.length : Int) ≤ r.Log.length + r.Queue.length + 2 * IntKind.i64.wrap (y.1 + 1) ∧ o.2.Queue = [] ∧ ((y.2.2 ++ o.1).length : Int) ≤ IntKind.i64.wrap (y.1 + 1)) ∧ (4000 - IntKind.i64.wrap (y.1 + 1)).toNat < (4000 - y.1).toNat
        rw [ew, a5, List.length_append]
        exact ⟨⟨by omega, by omega, ⟨a2, Q0m _⟩, by omega, rfl, by omega⟩, by omega⟩
      · obtain ⟨a1, ⟨⟨a2, a3⟩, a4, a5⟩⟩ := ho
        have e4 : o.2.Log.length = y.2.1.Log.length := by rw [a4]
        have a5 : o.2.Queue = [] := a5.trans y5
        refine w_cn (decide_eq_true (by omega)) (w_nx ?_)
        show (0 ≤ IntKind.i64.wrap (y.1 + 1) ∧ IntKind.i64.wrap (y.1 + 1) ≤ 4000 ∧ okR P _ ∧ (o.2.Log.length : Int) ≤ r.Log.length + r.Queue.length + 2 * IntKind.i64.wrap (y.1 + 1) ∧ o.2.Queue = [] ∧ ((y.2.2 ++ o.1).length : Int) ≤ IntKind.i64.wrap (y.1 + 1)) ∧ (4000 - IntKind.i64.wrap (y.1 + 1)).toNat < (4000 - y.1).toNat
        rw [ew, a5, List.length_append]
        exact ⟨⟨by omega, by omega, ⟨a2, Q0m _⟩, by omega, rfl, by omega⟩, by omega⟩
end Go.Proofs.YtdkiadhigcfmkaaGreat
namespace Go.Proofs.YtdkiadhigcfmkaaGreat
open Go Go.GD
set_option linter.unusedVariables false
set_option linter.unusedSimpArgs false
set_option maxRecDepth 100000
section
variable {P : Nat} {m : Q00} (h : okM P m)
include h
theorem min_w (port : Int) {clock : Int} (hc : U clock) : (Qn3 m port clock).w (fun x => U x.1 ∧ okM P x.2 ∧ x.2.Count = m.Count) := by
  have k := (⟨h, rfl⟩ : okM P m ∧ m.Count = m.Count)
  obtain ⟨h1, h2, h3, h4, h5, h7⟩ := h
  unfold Qn3
  exact w_br (fun _ => w_lv fun x hx => ⟨hx ▸ Qxi _ _, ⟨⟨h1, h2, h3, h4, h5, h7⟩, rfl⟩⟩) (fun _ => w_br (fun _ => ⟨hc, k⟩) (fun _ => w_br (fun _ => w_lv fun x hx => ⟨hx ▸ Z5n _, k⟩) (fun _ => w_br (fun _ => w_lv fun x hx => ⟨hx ▸ Zc h3 _, k⟩) (fun _ => w_br (fun _ => w_lv fun x hx => ⟨hx ▸ nicIn_w h4 _, k⟩) (fun _ => w_lv fun x hx => ⟨hx ▸ Qua h5.1 _, k⟩)))))
theorem mout_w (port : Int) {v : Int} (hv : U v) : (Qg5 m port v).w (fun x => x.1.length ≤ 1 ∧ okM P x.2 ∧ x.2.Count = m.Count) := by
  have k := (⟨h, rfl⟩ : okM P m ∧ m.Count = m.Count)
  obtain ⟨h1, h2, h3, h4, h5, h7⟩ := h
  unfold Qg5
  exact w_br (fun _ => ⟨Nat.le_refl _, k⟩) (fun _ => w_br (fun _ => ⟨Nat.zero_le _, k⟩) (fun _ => w_br (fun _ => w_lv fun _ _ => ⟨Nat.zero_le _, ⟨⟨h1, h2, h3, h4, h5, h7⟩, rfl⟩⟩) (fun _ => w_br (fun _ => Q0c (Z55 h2 h3 _ hv _) fun x hx => ⟨hx.2, ⟨⟨h1, h2, hx.1, h4, h5, h7⟩, rfl⟩⟩) (fun _ => w_br (fun _ => Q0c (Zcd h2 h4 _ hv _) fun x hx => ⟨hx.2, ⟨⟨h1, h2, h3, hx.1, h5, h7⟩, rfl⟩⟩) (fun _ => Q0c (give_w h2 h5 _ hv) fun x hx => ⟨Nat.zero_le _, ⟨⟨h1, hx.2, h3, h4, hx.1, h7⟩, rfl⟩⟩)))))
theorem Ze {clock : Int} (hc : U clock) : (Q7l m clock).w (fun x => x.1.length ≤ 1 ∧ okM P x.2 ∧ x.2.Count = IntKind.wrap .u64 (m.Count + 1)) := by
  obtain ⟨h1, h2, h3, h4, h5, h7⟩ := h
  unfold Q7l
  refine Q0c (Qh8 h1) fun x0 c0 => Q0c (do_w c0 h2) fun x1 hx => ?_
  obtain ⟨c1, v1, m1⟩ := hx
  refine w_br (fun _ => Z7x (min_w (m := ⟨_, _, _, _, _, _, _, _, _, _⟩) ⟨c1, m1, h3, h4, h5, h7⟩ _ hc) fun x2 hx => ?_) (fun _ => w_br (fun _ => Q0c (mout_w (m := ⟨_, _, _, _, _, _, _, _, _, _⟩) ⟨c1, m1, h3, h4, h5, h7⟩ _ v1) fun x4 hx => ?_) (fun _ => ?_))
  · obtain ⟨u, ⟨k1, k2, k3, k4, k5, k7⟩, k6⟩ := hx
    exact Q0c (Qza k1 _ u) fun x3 h3 => ⟨Nat.zero_le _, ⟨h3, k2, k3, k4, k5, w0 _⟩, congrArg (fun n => IntKind.wrap .u64 (n + 1)) k6⟩
  · obtain ⟨u, ⟨k1, k2, k3, k4, k5, k7⟩, k6⟩ := hx
    exact ⟨u, ⟨k1, k2, k3, k4, k5, w0 _⟩, congrArg (fun n => IntKind.wrap .u64 (n + 1)) k6⟩
  · repeat' (first
      | exact ⟨Nat.zero_le _, ⟨c1, m1, h3, h4, h5, w0 _⟩, rfl⟩
      | refine w_br (fun _ => ?_) (fun _ => ?_))
theorem own7_w : (Q9c m).w (fun x => okM P x ∧ x.Count = m.Count) := by
  obtain ⟨h1, h2, h3, h4, h5, h7⟩ := h
  unfold Q9c
  exact Q0c (copy_w h2) fun x hx => ⟨⟨h1, by rw [hx]; exact h2, h3, h4, h5, h7⟩, rfl⟩
end
theorem U_all (n : Nat) : ∀ w ∈ List.replicate n (0 : Int), U w := fun w hw => by rw [(List.mem_replicate.1 hw).2]; exact U_0
end Go.Proofs.YtdkiadhigcfmkaaGreat
namespace Go.Proofs.YtdkiadhigcfmkaaGreat
open Go Go.GD
set_option linter.unusedVariables false
set_option maxRecDepth 100000
set_option synthInstance.maxHeartbeats 2000000
set_option synthInstance.maxSize 100000
noncomputable section
instance ref1_lines_ck (src : (List UInt8)) : Ck (Qf7 src) := ckT (t := Qb3 src) (by delta Qb3; infer_instance)
instance ref1_tokens_ck (s : (List UInt8)) : Ck (Qdg s) := ckT (t := Q8w s) (by delta Q8w; infer_instance)
instance ref1_digits_ck (n : Int) : Ck (Q1z n) := let d : Decidable (Q1z n) := (by delta Q1z; infer_instance); ⟨@decide _ d, @of_decide_eq_true _ d⟩
instance ref1_Decimal_ck (n : Int) : Ck (Qbh n) := ckT (t := Q4d n) (by delta Q4d; infer_instance)
instance ref1_reg_ck (r : Int) : Ck (Qj9 r) := ckT (t := Q9o r) (by delta Q9o; infer_instance)
instance ref1_name_ck (s : (List UInt8)) : Ck (Qc7 s) := ckT (t := Qda s) (by delta Qda; infer_instance)
instance Zex (op : Int) : Ck (Q9j op) := ckT (t := Q65 op) (by delta Q65; infer_instance)
instance Zeq (s : (List UInt8)) : Ck (Q20 s) := ckT (t := Q5f s) (by delta Q5f; infer_instance)
instance ref1_pattern_ck (what : (List UInt8)) : Ck (Q3w what) := ckT (t := Q7a what) (by delta Q7a; infer_instance)
instance ref1_number_ck (s : (List UInt8)) : Ck (Qcs s) := ckT (t := Q95 s) (by delta Q95; infer_instance)
instance ref1_matched_ck (l : (List Q0e)) (p : (List UInt8)) : Ck (Q3x l p) := ckT (t := Q7j l p) (by delta Q7j; infer_instance)
instance ref1_parsed_ck (s : (List UInt8)) : Ck (Qe2 s) := ckT (t := Q8l s) (by delta Q8l; infer_instance)
instance ref1_address_ck (l : (List Q1f)) (label : (List UInt8)) : Ck (Q22 l label) := let d : Decidable (Q22 l label) := (by delta Q22; infer_instance); ⟨@decide _ d, @of_decide_eq_true _ d⟩
instance ref1_read_ck (src : (List UInt8)) : Ck (Qgn src) := ckT (t := Qcv src) (by delta Qcv; infer_instance)
instance ref1_inst_ck (st : Q07) (v : Int) : Ck (Q6i st v) := ckT (t := Qcw st v) (by delta Qcw; infer_instance)
instance Zew (src : (List UInt8)) : Ck (Q6m src) := ckT (t := Q60 src) (by delta Q60; infer_instance)
theorem asm_pre : Q6m ((108 : UInt8) :: (tblZe0 ++ Z0b ++ (Z04 ++ Z0n) ++ (Qzu ++ Z0k ++ (Z1b ++ Z14)) ++ (Z1l ++ Z1n ++ (Qq2 ++ Qpk) ++ (Qpe ++ Qpj ++ (Qqy ++ Qqk))))) := ck inferInstance (by kernel_rfl)
def inU (x : Int) : Bool := decide (0 ≤ x) && decide (x < 4294967296)
theorem asm_gen (l : List Int) (h : (Nat.ble l.length 160 && List.all l inU) = true) : l.length ≤ 160 ∧ ∀ w ∈ l, U w := by
  rw [Bool.and_eq_true] at h
  refine ⟨Nat.le_of_ble_eq_true h.1, fun w hw => ?_⟩
  have := List.all_eq_true.1 h.2 w hw
  simp only [inU, Bool.and_eq_true, decide_eq_true_eq] at this
  exact this
theorem asm_ok : (Q57 (List.append (List.append (List.append (List.append Z3f Z0b) (List.append Z04 Z0n)) (List.append (List.append Qzu Z0k) (List.append Z1b Z14))) (List.append (List.append (List.append Z1l Z1n) (List.append Qq2 Qpk)) (List.append (List.append Qpe Qpj) (List.append Qqy Qqk))))).1.length ≤ 160 ∧ ∀ w ∈ (Q57 (List.append (List.append (List.append (List.append Z3f Z0b) (List.append Z04 Z0n)) (List.append (List.append Qzu Z0k) (List.append Z1b Z14))) (List.append (List.append (List.append Z1l Z1n) (List.append Qq2 Qpk)) (List.append (List.append Qpe Qpj) (List.append Qqy Qqk))))).1, U w := asm_gen _ (by kernel_rfl)
end
end Go.Proofs.YtdkiadhigcfmkaaGreat
namespace Go.Proofs.YtdkiadhigcfmkaaGreat
open Go Go.GD
set_option linter.unusedVariables false
set_option linter.unusedSimpArgs false
set_option maxRecDepth 100000
theorem new_w (i : List Int) (hu : ∀ w ∈ i, U w) (hl : i.length ≤ 256) : (Q6f 8 4 i).w (fun x => okM 8 x.1 ∧ x.1.Count = 0) := by
  unfold Q6f
  refine w_br (fun h => absurd h (by decide)) fun _ => w_br (fun h => absurd h (by decide)) fun _ => w_br (fun h => absurd h (by decide)) fun _ => w_br (fun h => absurd h (by decide)) fun _ => w_br (fun h => ?_) fun _ => w_lv fun x0 e0 => w_an (Qff _) (w_lv fun x1 e1 => ?_)
  · have h := of_decide_eq_true h
    rw [show IntKind.i64.wrap (8 * 32) = 256 by decide] at h
    omega
  have hx : x1 = List.replicate 256 0 := by rw [e1]; kernel_rfl
  have c0 : Q1v x0 := by rw [e0]; exact ⟨by
    intro w hw
    simp only [Qkl, Qev, Tree.m, A16.l, List.mem_cons, List.not_mem_nil, or_false, or_self] at hw
    rw [hw]; exact U_0, U_0, by
    intro w hw
    simp only [Qkl, Qev, Tree.m, A8.l, List.mem_cons, List.not_mem_nil, or_false, or_self] at hw
    rcases hw with rfl | rfl
    · exact ⟨by omega, by omega⟩
    · exact U_0⟩
  have hz : ∀ w ∈ x1, U w := by rw [hx]; exact U_all 256
  have hn : x1.length = 256 := by rw [hx, List.length_replicate]
  refine ⟨⟨c0, ⟨?_, by omega, by omega, fun w hw => ?_⟩, ⟨U_0, U_0, U_0, U_0⟩, ⟨U_0, U_0, U_0, U_0⟩, ⟨U_0, U_0⟩, Int.le_refl _⟩, rfl⟩
  · simp only [List.length_append, List.length_take, List.length_drop, hn]; omega
  · rcases List.mem_append.1 hw with h1 | h1
    · exact hu w (List.mem_of_mem_take h1)
    · exact hz w (List.mem_of_mem_drop h1)
end Go.Proofs.YtdkiadhigcfmkaaGreat
namespace Go.Proofs.YtdkiadhigcfmkaaGreat
open Go Go.GD
set_option linter.unusedVariables false
set_option linter.unusedSimpArgs false
set_option maxRecDepth 100000
theorem step_w {P : Nat} {r : Q01} (h : okR P r) (n : Int) (hl : r.Log.length ≤ 900000) (hq : r.Queue.length ≤ 16) (hu : ∀ q ∈ r.Queue, U q.N) :
    (Qd3 r n).w (fun x => okR P x.1 ∧ x.1.Log.length ≤ r.Log.length + 8016 ∧ (x.1.Queue.length ≤ 16 ∧ ∀ q ∈ x.1.Queue, U q.N) ∧ x.2.length ≤ 4000) := by
  unfold Qd3
  refine w_lv fun x0 _ => w_br (fun _ => Q0c (event_w n) fun e he => Q0c (arrive_w h e (by omega) hq hu he) fun x hx => ?_) (fun _ => w_an (Q2u (by decide)) (w_lv fun x3 _ => Q0c (Z6a h _ (Q0m _) hl hq hu) fun x hx => ?_))
  · obtain ⟨a1, a2, a3, a4⟩ := hx
    exact ⟨a1, by rw [a2]; omega, ⟨a3, a4⟩, Nat.zero_le _⟩
  · obtain ⟨a1, a2, a3, a4⟩ := hx
    refine ⟨a1, a2, ?_, a4⟩
    rcases a3 with a3 | a3
    · rw [a3]; exact ⟨hq, hu⟩
    · rw [a3]; exact ⟨Nat.zero_le _, fun q hq => by cases hq⟩
theorem play_w {P : Nat} {m : Q00} (h : okM P m) (l : List Int) (hl : l.length ≤ 30) : (Qe m l).w (fun x => okR P x.1) := by
  unfold Qe
  have nr : (Q39 m).w (fun x => okR P x ∧ x.Log = [] ∧ x.Queue = []) := by
    unfold Q39
    exact Q0c (own7_w h) fun x hx => ⟨⟨hx.1, U_0⟩, rfl, rfl⟩
  refine Q0c nr fun x0 ⟨n1, n2, n3⟩ => ?_
  refine w_lp (inv := fun v : Int × Q01 × List Q09 => 0 ≤ v.1 ∧ v.1 ≤ l.length ∧ okR P v.2.1 ∧ (v.2.1.Log.length : Int) ≤ 8016 * v.1 ∧ (v.2.1.Queue.length ≤ 16 ∧ ∀ q ∈ v.2.1.Queue, U q.N) ∧ (v.2.2.length : Int) ≤ 4000 * v.1) (μ := Qi8 m l) ⟨Int.le_refl _, by show (0 : Int) ≤ l.length; omega, n1, by rw [n2]; exact Int.le_refl _, by rw [n3]; exact ⟨Nat.zero_le _, fun q hq => by cases hq⟩, Int.le_refl _⟩ (Nat.lt_succ_self _) fun v0 ⟨a1, a2, a3, a4, ⟨a5, a6⟩, a7⟩ => ?_
  refine w_br (fun hb => ?_) (fun _ => a3)
  have hb := of_decide_eq_true hb
  refine w_cn (by simp [Nat.blt]; omega) (Q0c (step_w a3 _ (by omega) a5 a6) fun x1 ⟨b1, b2, b3, b4⟩ => w_cn (decide_eq_true (by omega)) (w_nx ?_))
  have e : IntKind.i64.wrap (v0.1 + 1) = v0.1 + 1 := by rw [IntKind.wrap_i64]; omega
  show (_ ∧ _ ∧ _ ∧ _ ∧ _ ∧ _) ∧ (_ : Nat) < _
  refine ⟨⟨by rw [e]; omega, by rw [e]; omega, b1, by rw [e]; show (x1.1.Log.length : Int) ≤ _; omega, b3, by rw [e, List.length_append]; omega⟩, by show (l.length - IntKind.i64.wrap (v0.1 + 1)).toNat < (l.length - v0.1).toNat; rw [e]; omega⟩
theorem Qr1 (a : List Int) (ha : a.length ≤ 1000000000000) : Q26 a a = true := by
  simp only [Q26, Q1j, Tree.m]
  have h0 : ((a.length : Int) != (a.length : Int)) = false := by simp
  rw [h0, cond_false]
  refine run_ind (P := fun v : Int => 0 ≤ v ∧ v ≤ a.length) (R := fun b => b = true) (μ := Q1a a a) (fun v ⟨h1, h2⟩ => ?_) _ _ ⟨by omega, by omega⟩ (Nat.lt_succ_self _)
  cases h : decide (v < (a.length : Int))
  · rfl
  · have h := of_decide_eq_true h
    have h3 : (List.getD a (Int.toNat v) (0 : Int) != List.getD a (Int.toNat v) (0 : Int)) = false := by simp
    rw [h3]
    have hw : IntKind.i64.wrap (v + 1) = v + 1 := by rw [IntKind.wrap_i64]; omega
    simp only [cond_true, cond_false, hw]
    refine ⟨⟨by omega, by omega⟩, ?_⟩
    show (_ : Nat) < _
    unfold Q1a
    omega
theorem msame_w (a : Q00) (ha : a.Mem.length ≤ 1000000000000) : (Q5h a a).w (fun b => b = true) := by
  unfold Q5h
  repeat' (first
    | refine w_br (fun _ => ?_) (fun h => absurd h (by simp [eqs, eq1]; done))
    | exact w_an ha (w_lv fun x hx => by rw [hx]; exact Qr1 _ ha)
    | exact w_an ha (w_lv fun x hx => w_br (fun _ => by rw [hx]; exact Qr1 _ ha) (fun h => by rw [hx, Qr1 _ ha] at h; cases h))
    | exact rfl)
end Go.Proofs.YtdkiadhigcfmkaaGreat
namespace Go.Proofs.YtdkiadhigcfmkaaGreat
open Go Go.GD
set_option linter.unusedVariables false
set_option linter.unusedSimpArgs false
set_option maxRecDepth 100000
def out (f : Int) (m m' : List Int) : Prop := ∀ j : Nat, ¬ (f * 32 ≤ j ∧ (j : Int) < f * 32 + 32) → m'.getD j 0 = m.getD j 0
theorem Qkg (f : Int) (m : List Int) : out f m m := fun _ _ => rfl
theorem getDset (l : List Int) (i j : Nat) (v : Int) (h : i ≠ j) : (l.set i v).getD j 0 = l.getD j 0 := by
  simp only [List.getD_eq_getElem?_getD, List.getElem?_set_ne h]
theorem Q4n {P : Nat} {m : List Int} (h : Q19 P m) : Q0r m = P := by
  obtain ⟨h1, h2, h3, _⟩ := h
  simp only [Q0r, Q5g, Tree.m]
  have e : (m.length : Int) = 32 * P := by omega
  rw [e]
  have e1 : (Int.tmod (32 * (P : Int)) 32 != 0) = false := by simp [Int.mul_tmod_right]
  have e2 : decide ((32 * (P : Int)) > 1024) = false := decide_eq_false (by omega)
  rw [e1, e2]
  simp only [cond_false]
  rw [Int.mul_tdiv_cancel_left _ (by decide), IntKind.wrap_i64]; omega
theorem has_eq {P : Nat} {m : List Int} (h : Q19 P m) (f : Int) : Q5o m f = true → 0 ≤ f ∧ f < P := by
  have hp := Q4n h
  simp only [Q5o, Q7n, Tree.m, letv, hp]
  cases h1 : decide (f ≥ 0)
  · intro h; cases h
  · intro h; exact ⟨of_decide_eq_true h1, of_decide_eq_true h⟩
theorem Qvx {P : Nat} {m : List Int} (h : Q19 P m) (f : Int) (s : List UInt8) : (Q3u m f s).w (fun r => Q19 P r.1 ∧ out f m r.1 ∧ (r.2 = false → r.1 = m)) := by
  have hcl : Q04 m = m := rfl
  have h2 := h.p2
  unfold Q3u
  refine w_an (Q72 h) (w_lv fun x0 hx0 => w_lv fun x1 hx1 => ?_)
  rw [hcl] at hx0; subst hx0
  refine w_br (fun _ => ⟨h, Qkg _ _, fun _ => rfl⟩) fun hb => w_br (fun _ => ⟨h, Qkg _ _, fun _ => rfl⟩) fun hs => ?_
  have hb : x1 = true := by simpa using hb
  obtain ⟨f0, f1⟩ := has_eq h f (hx1.symm.trans hb)
  have hs : (s.length : Int) = 128 := by simpa using hs
  refine w_lp (inv := fun z : Int × List Int => 0 ≤ z.1 ∧ z.1 ≤ 32 ∧ Q19 P z.2 ∧ out f x0 z.2) (μ := Qbt x0 f s) ⟨show (0 : Int) ≤ 0 by decide, show (0 : Int) ≤ 32 by decide, h, Qkg _ _⟩ (Nat.lt_succ_self _) fun z ⟨z1, z2, z3, z4⟩ => ?_
  refine w_br (fun hb => ?_) (fun _ => ⟨z3, z4, fun h => by cases h⟩)
  have hb := of_decide_eq_true hb
  have e1 : IntKind.i64.wrap (4 * z.1) = 4 * z.1 := by rw [IntKind.wrap_i64]; omega
  have e2 : IntKind.i64.wrap (IntKind.i64.wrap (4 * z.1) + 4) = 4 * z.1 + 4 := by rw [IntKind.wrap_i64, IntKind.wrap_i64]; omega
  have e3 : IntKind.i64.wrap (IntKind.i64.wrap (f * 32) + z.1) = f * 32 + z.1 := by rw [IntKind.wrap_i64, IntKind.wrap_i64]; omega
  have hl := z3.len
  have hlen : (List.take (Int.toNat (IntKind.i64.wrap (IntKind.i64.wrap (4 * z.1) + 4)) - Int.toNat (IntKind.i64.wrap (4 * z.1))) (List.drop (Int.toNat (IntKind.i64.wrap (4 * z.1))) s)).length = 4 := by
    rw [e2, e1, List.length_take, List.length_drop]; omega
  refine w_cn (decide_eq_true (by rw [e2, e1]; omega)) ?_
  refine w_cn (decide_eq_true (by rw [hlen]; decide)) (w_cn (decide_eq_true (by rw [hlen]; decide)) (w_cn (decide_eq_true (by rw [hlen]; decide)) (w_cn (decide_eq_true (by rw [hlen]; decide)) (w_cn (by rw [e3]; simp [Nat.blt]; omega) (w_nx ?_)))))
  show (_ ∧ _ ∧ Q19 P (List.set _ _ _) ∧ out f x0 (List.set _ _ _)) ∧ (_ : Nat) < _
  have ew : IntKind.i64.wrap (z.1 + 1) = z.1 + 1 := by rw [IntKind.wrap_i64]; omega
  rw [e3]
  refine ⟨⟨by rw [ew]; omega, by rw [ew]; omega, ⟨by rw [List.length_set]; exact hl, z3.p1, z3.p2, Z1x z3.u (U_or _ _) _⟩, fun j hj => ?_⟩, by show (32 - IntKind.i64.wrap (z.1 + 1)).toNat < (32 - z.1).toNat; rw [ew]; omega⟩
  rw [getDset _ _ _ _ (by omega)]
  exact z4 j hj
theorem text_w (w : List Int) (h : w.length ≤ 32) : (Q6h w).w (fun r => r.length = 4 * w.length) := by
  have e0 : IntKind.i64.wrap (4 * (w.length : Int)) = 4 * w.length := by rw [IntKind.wrap_i64]; omega
  unfold Q6h
  refine w_cn (by rw [e0]; simp [Nat.blt, D.plain]; omega) ?_
  refine w_lp (inv := fun z : Int × List Int => 0 ≤ z.1 ∧ z.1 ≤ w.length ∧ (z.2.length : Int) = 4 * z.1) (μ := Q6j w) ⟨by decide, by show (0 : Int) ≤ w.length; omega, rfl⟩ (Nat.lt_succ_self _) fun z ⟨z1, z2, z3⟩ => ?_
  refine w_br (fun hb => ?_) (fun hb => ?_)
  · have hb := of_decide_eq_true hb
    have ew : IntKind.i64.wrap (z.1 + 1) = z.1 + 1 := by rw [IntKind.wrap_i64]; omega
    refine w_cn (by simp [Nat.blt]; omega) (w_cn (decide_eq_true (by omega)) (w_nx ?_))
    show (_ ∧ _ ∧ _) ∧ (_ : Nat) < _
    refine ⟨⟨by rw [ew]; omega, by rw [ew]; omega, by rw [ew, List.length_append]; simp only [List.length_cons, List.length_nil]; omega⟩, by show (w.length - IntKind.i64.wrap (z.1 + 1)).toNat < (w.length - z.1).toNat; rw [ew]; omega⟩
  · have hb := of_decide_eq_false hb
    show (bytesOf z.2).length = _
    rw [Qmd]; omega
theorem Z9b {P : Nat} {m : List Int} (h : Q19 P m) (f : Int) : (Q6y m f).w (fun r => 0 ≤ f → f < P → r.1.length = 128) := by
  have hl := h.len
  have h2 := h.p2
  unfold Q6y
  refine w_lv fun x0 hx0 => w_br (fun hb => fun f0 f1 => ?_) (fun hb => ?_)
  · have hp := Q4n h
    have hb : x0 = false := by simpa using hb
    rw [hb] at hx0
    simp only [Q5o, Q7n, Tree.m, letv, hp] at hx0
    rw [decide_eq_true f0] at hx0
    exact absurd f1 (of_decide_eq_false hx0.symm)
  · have hb : x0 = true := by simpa using hb
    obtain ⟨f0, f1⟩ := has_eq h f (hx0.symm.trans hb)
    have e1 : IntKind.i64.wrap (f * 32) = f * 32 := by rw [IntKind.wrap_i64]; omega
    have e2 : IntKind.i64.wrap (IntKind.i64.wrap (f * 32) + 32) = f * 32 + 32 := by rw [IntKind.wrap_i64, IntKind.wrap_i64]; omega
    have hlen : (List.take (Int.toNat (IntKind.i64.wrap (IntKind.i64.wrap (f * 32) + 32)) - Int.toNat (IntKind.i64.wrap (f * 32))) (List.drop (Int.toNat (IntKind.i64.wrap (f * 32))) m)).length = 32 := by
      rw [e2, e1, List.length_take, List.length_drop]; omega
    refine w_cn (by rw [e2, e1]; simp [Nat.blt]; omega) ?_
    refine w_an (by show List.length _ ≤ 1000000000000; rw [hlen]; decide) (w_lv fun x1 h1 => ?_)
    have h1 : x1.length = 4 * (List.take (Int.toNat (IntKind.i64.wrap (IntKind.i64.wrap (f * 32) + 32)) - Int.toNat (IntKind.i64.wrap (f * 32))) (List.drop (Int.toNat (IntKind.i64.wrap (f * 32))) m)).length := by rw [h1]; exact (Tree.pp (text_w _ (Nat.le_of_eq hlen))).2
    intro _ _
    show x1.length = 128
    rw [h1, hlen]
end Go.Proofs.YtdkiadhigcfmkaaGreat
namespace Go.Proofs.YtdkiadhigcfmkaaGreat
open Go Go.GD
set_option linter.unusedVariables false
set_option linter.unusedSimpArgs false
set_option maxRecDepth 100000
theorem Zc8 {f : Int} (hf : U f) {P : Nat} (hP : P ≤ 32) (h : decide (IntKind.u64.wrap f < IntKind.u64.wrap (P : Int)) = true) : 0 ≤ f ∧ f < P := by
  have h := of_decide_eq_true h
  obtain ⟨h1, h2⟩ := hf
  rw [IntKind.wrap_u64, IntKind.wrap_u64, Int.emod_eq_of_lt h1 (by omega), Int.emod_eq_of_lt (by omega) (by omega)] at h
  exact ⟨h1, h⟩
theorem Zdv {P : Nat} {m : List Int} (h : Q19 P m) {d : Q0d} (hd : Q6d d) (e : Q0i) : (Q6 d m e).w (fun r => Q6d r.1 ∧ Q19 P r.2.1 ∧ out d.OpFrame m r.2.1 ∧ (r.2.2 = false → r.2.1 = m) ∧ (∀ p, Q12 d p = true → Q12 r.1 p = true)) := by
  have hcl : Q04 m = m := rfl
  have keep : ∀ b : Bool, Q6d d ∧ Q19 P m ∧ out d.OpFrame m m ∧ (b = false → m = m) ∧ (∀ p, Q12 d p = true → Q12 d p = true) := fun b => ⟨hd, h, Qkg _ _, fun _ => rfl, fun _ h => h⟩
  have blk : ∀ {p : Int}, Q12 d p = true → decide (d.Blocks > 64) = false := fun {p} hm => by
    cases hb : decide (d.Blocks > 64)
    · rfl
    · have : Q12 d p = false := by simp only [Q12, Q4v, Tree.m]; rw [hb]; rfl
      rw [this] at hm; cases hm
  have m2 : ∀ p, Q12 d p = true → Q12 { Blocks := d.Blocks, Block := d.Block, Frame := d.Frame, State := 2, Cmd := 0, OpBlock := 0, OpFrame := 0, OpData := [] } p = true := fun p hm => by
    simp only [Q12, Q4v, Tree.m]; rw [blk hm]; rfl
  have m3 : ∀ p, Q12 d p = true → Q12 { Blocks := d.Blocks, Block := d.Block, Frame := d.Frame, State := 3, Cmd := 0, OpBlock := 0, OpFrame := 0, OpData := [] } p = true := fun p hm => by
    simp only [Q12, Q4v, Tree.m]; rw [blk hm]; rfl
  unfold Q6
  refine w_br (fun _ => w_an (Q72 h) (w_lv fun x hx => by rw [hcl] at hx; subst hx; exact keep _)) fun _ => w_br (fun _ => w_an (Q72 h) (w_lv fun x hx => by rw [hcl] at hx; subst hx; exact keep _)) fun _ => w_br (fun _ => w_an (Q72 h) (w_lv fun x hx => by rw [hcl] at hx; subst hx; exact keep _)) fun _ => w_an (Q72 h) (w_lv fun x3 hx3 => ?_)
  rw [hcl] at hx3; subst hx3
  have fin : ∀ {m' : List Int}, Q19 P m' → out d.OpFrame x3 m' → (Tree.br (e.N == 1) (.lf (({ Blocks := d.Blocks, Block := d.Block, Frame := d.Frame, State := 2, Cmd := 0, OpBlock := 0, OpFrame := 0, OpData := [] } : Q0d), m', true)) (.lf (({ Blocks := d.Blocks, Block := d.Block, Frame := d.Frame, State := 3, Cmd := 0, OpBlock := 0, OpFrame := 0, OpData := [] } : Q0d), m', true))).w (fun r => Q6d r.1 ∧ Q19 P r.2.1 ∧ out d.OpFrame x3 r.2.1 ∧ (r.2.2 = false → r.2.1 = x3) ∧ (∀ p, Q12 d p = true → Q12 r.1 p = true)) := fun hm ho =>
    w_br (fun _ => ⟨⟨hd.block, hd.frame, U_0, U_0⟩, hm, ho, (fun h => by cases h), m2⟩) (fun _ => ⟨⟨hd.block, hd.frame, U_0, U_0⟩, hm, ho, (fun h => by cases h), m3⟩)
  have nod : (Tree.br (!decide (e.Data = [])) (.lf (d, x3, false)) (Tree.br (e.N == 1) (.lf (({ Blocks := d.Blocks, Block := d.Block, Frame := d.Frame, State := 2, Cmd := 0, OpBlock := 0, OpFrame := 0, OpData := [] } : Q0d), x3, true)) (.lf (({ Blocks := d.Blocks, Block := d.Block, Frame := d.Frame, State := 3, Cmd := 0, OpBlock := 0, OpFrame := 0, OpData := [] } : Q0d), x3, true)))).w (fun r => Q6d r.1 ∧ Q19 P r.2.1 ∧ out d.OpFrame x3 r.2.1 ∧ (r.2.2 = false → r.2.1 = x3) ∧ (∀ p, Q12 d p = true → Q12 r.1 p = true)) :=
    w_br (fun _ => keep _) (fun _ => fin h (Qkg _ _))
  refine w_br (fun _ => w_br (fun _ => w_lv fun x4 hx4 => w_br (fun _ => keep _) fun hb => ?_) (fun _ => nod)) (fun _ => nod)
  have hp := Q4n h
  have hb : x4 = true := by simpa using hb
  rw [hb] at hx4
  simp only [Q9g, Qcd, Tree.m, letv, hp] at hx4
  obtain ⟨f0, f1⟩ := Zc8 hd.opFrame h.p2 hx4.symm
  have ef : IntKind.i64.wrap d.OpFrame = d.OpFrame := by have := h.p2; rw [IntKind.wrap_i64]; omega
  refine Q0c (Qvx h _ _) fun x5 ⟨h5, o5, k5⟩ => ?_
  rw [ef] at o5
  exact w_br (fun hf => ⟨hd, h5, o5, fun _ => k5 (by simpa using hf), fun _ h => h⟩) (fun _ => fin h5 o5)
theorem receive_w {P : Nat} {m : List Int} (h : Q19 P m) {n : Q0l} (hn : Qfe n) (frame : List UInt8) : (Q8z n m frame).w (fun r => Qfe r.1 ∧ Q19 P r.2.1 ∧ out n.Buffer m r.2.1 ∧ (r.2.2 = false → r.2.1 = m) ∧ (∀ p, Q5 n p = true → Q5 r.1 p = true)) := by
  have hcl : Q04 m = m := rfl
  have keep : Qfe n ∧ Q19 P m ∧ out n.Buffer m m ∧ (false = false → m = m) ∧ (∀ p, Q5 n p = true → Q5 n p = true) := ⟨hn, h, Qkg _ _, fun _ => rfl, fun _ h => h⟩
  unfold Q8z
  refine w_br (fun _ => w_an (Q72 h) (w_lv fun x hx => by rw [hcl] at hx; subst hx; exact keep)) fun hpo => w_br (fun _ => w_an (Q72 h) (w_lv fun x hx => by rw [hcl] at hx; subst hx; exact keep)) fun l1 => w_br (fun _ => w_an (Q72 h) (w_lv fun x hx => by rw [hcl] at hx; subst hx; exact keep)) fun l2 => w_lv fun x3 hx3 => w_br (fun _ => w_an (Q72 h) (w_lv fun x hx => by rw [hcl] at hx; subst hx; exact keep)) fun hb => ?_
  have l1 := of_decide_eq_false l1
  have l2 := of_decide_eq_false l2
  have hp := Q4n h
  have hb : x3 = true := by simpa using hb
  rw [hb] at hx3
  simp only [Q9v, Qf0, Tree.m, letv, hp] at hx3
  obtain ⟨f0, f1⟩ := Zc8 hn.buffer h.p2 hx3.symm
  have ef : IntKind.i64.wrap n.Buffer = n.Buffer := by have := h.p2; rw [IntKind.wrap_i64]; omega
  refine Q0c (Z9b h _) fun x5 h5 => ?_
  rw [ef] at h5
  have h5 := h5 f0 f1
  have hmax : (maxLen : Nat) = 9223372036854775807 := rfl
  refine w_cn (decide_eq_true (by omega)) (w_cn (decide_eq_true (by simp only [List.length_take, List.length_drop, hmax]; omega)) (Q0c (Qvx h _ _) fun x6 ⟨h6, o6, _⟩ => ?_))
  rw [ef] at o6
  have hg : IntKind.u32.wrap (frame.length : Int) = frame.length := by rw [IntKind.wrap_u32]; omega
  refine ⟨⟨hn.frame, hn.len, U_0, Q0m _⟩, h6, o6, (fun h => by cases h), fun p _ => ?_⟩
  simp only [Q5, Qiz, Tree.m]
  rw [hg, decide_eq_true (show (frame.length : Int) ≥ 1 by omega), decide_eq_true (show (frame.length : Int) ≤ 128 by omega)]
  rfl
theorem ctype_w (c : Q0b) (b : Int) : (Q7k c b).w (fun r => Q1k c = true → Q1k r.1 = true) := by
  have hmax : (maxLen : Nat) = 9223372036854775807 := rfl
  unfold Q7k
  refine w_br (fun _ => fun h => h) (fun hb => ?_)
  have hb := of_decide_eq_false hb
  refine w_cn (decide_eq_true (by rw [hmax]; omega)) ?_
  intro _
  show decide (((c.Keys ++ [_]).length : Int) ≤ 16) = true
  rw [List.length_append, List.length_singleton]
  exact decide_eq_true (by omega)
theorem fire_may (t : Q0h) (h : Q3f t = true) : Q3f (Qjz t).1 = true := by
  simp only [Qjz, Qj6, Tree.m]
  cases ha : t.Armed
  · exact h
  · rfl
end Go.Proofs.YtdkiadhigcfmkaaGreat
namespace Go.Proofs.YtdkiadhigcfmkaaGreat
open Go Go.GD
set_option linter.unusedVariables false
set_option linter.unusedSimpArgs false
set_option maxRecDepth 100000
theorem dev_eq (m : Q00) : Q0s m = (Q1k m.Console && (Q3f m.Timer && (Q12 m.Disk (Q0r m.Mem) && (Q5 m.Nic (Q0r m.Mem) && Q1w m.Balloon (Q0r m.Mem))))) := by
  simp only [Q0s, Q1c, Tree.m, letv]
  cases Q1k m.Console <;> cases Q3f m.Timer <;> cases Q12 m.Disk (Q0r m.Mem) <;> cases Q5 m.Nic (Q0r m.Mem) <;> rfl
theorem bal_eq {b c : Q06} (h : c.Given = b.Given) (p : Int) : Q1w c p = Q1w b p := by
  simp only [Q1w, Q2x, Tree.m, h]
theorem cnd {a x y : Bool} (h : x = true → y = true) : (bif a then false else x) = true → (bif a then false else y) = true := by cases a <;> simp_all
def chain (b1 b2 b3 b4 b5 b6 b7 w h dev : Bool) : Bool := bif b1 then false else bif b2 then false else bif b3 then false else bif b4 then false else bif b5 then false else bif b6 then false else bif b7 then false else bif w then (bif h then false else dev) else dev
theorem Zei {b1 b2 b3 b4 b5 b6 b7 w h d d' : Bool} (hd : d = true → d' = true) : chain b1 b2 b3 b4 b5 b6 b7 w h d = true → chain b1 b2 b3 b4 b5 b6 b7 w h d' = true := by
  refine cnd (cnd (cnd (cnd (cnd (cnd (cnd ?_))))))
  cases w
  · exact hd
  · cases h
    · exact hd
    · exact fun h => h
def mayC (p : Int) (c : Q03) (ct : Int) (w h dev : Bool) : Bool := chain (p == 0) (c.X.a0 != 0) (decide (c.Csr.a0 > 31)) (decide (c.Csr.a7 > 31)) (decide (c.Csr.a6 > 255)) (Int.tmod c.Csr.a1 4 != 0) (decide (ct > 1152921504606846976)) w h dev
theorem mayC_mono {p : Int} {c : Q03} {ct : Int} {w h d d' : Bool} (hd : d = true → d' = true) (g : mayC p c ct w h d = true) : mayC p c ct w h d' = true := Zei hd g
theorem may_eq (m : Q00) : Q0v m = mayC (Q0r m.Mem) m.Cpu m.Count m.Waiting m.Halted (Q0s m) := rfl
theorem Qnj {m n : Q00} (hp : Q0r n.Mem = Q0r m.Mem) (hcpu : n.Cpu = m.Cpu) (hct : n.Count = m.Count) (hw : n.Waiting = m.Waiting) (hh : n.Halted = m.Halted)
    (hc : Q1k m.Console = true → Q1k n.Console = true) (ht : Q3f m.Timer = true → Q3f n.Timer = true) (hd : ∀ p, Q12 m.Disk p = true → Q12 n.Disk p = true) (hn : ∀ p, Q5 m.Nic p = true → Q5 n.Nic p = true) (hb : n.Balloon.Given = m.Balloon.Given) (h : Q0v m = true) : Q0v n = true := by
  have dev : Q0s m = true → Q0s n = true := fun h => by
    rw [dev_eq] at h ⊢
    simp only [Bool.and_eq_true] at h ⊢
    rw [hp, bal_eq hb]
    exact ⟨hc h.1, ht h.2.1, hd _ h.2.2.1, hn _ h.2.2.2.1, h.2.2.2.2⟩
  rw [may_eq] at h ⊢
  rw [hp, hcpu, hct, hw, hh]
  exact mayC_mono dev h
end Go.Proofs.YtdkiadhigcfmkaaGreat
namespace Go.Proofs.YtdkiadhigcfmkaaGreat
open Go Go.GD
set_option linter.unusedVariables false
set_option linter.unusedSimpArgs false
set_option maxRecDepth 100000
section
variable {P : Nat} {m : List Int} (h : Q19 P m)
include h
theorem dpage {f : Int} (hf : U f) {b : Bool} (hx : b = Q9g m f) (hb : b = true) : 0 ≤ f ∧ f < P := by
  have hp := Q4n h
  rw [hb] at hx
  simp only [Q9g, Qcd, Tree.m, letv, hp] at hx
  exact Zc8 hf h.p2 hx.symm
theorem npage {f : Int} (hf : U f) {b : Bool} (hx : b = Q9v m f) (hb : b = true) : 0 ≤ f ∧ f < P := by
  have hp := Q4n h
  rw [hb] at hx
  simp only [Q9v, Qf0, Tree.m, letv, hp] at hx
  exact Zc8 hf h.p2 hx.symm
def keepD (P : Nat) (d d' : Q0d) : Prop := Q6d d' ∧ (Q12 d P = true → Q12 d' P = true)
theorem issue_w {d : Q0d} (hd : Q6d d) {cmd : Int} (hc : cmd = 1 ∨ cmd = 2) (at0 : Int) : (Q83 d m cmd at0).w (fun r => keepD P d r.1 ∧ r.2.length ≤ 1) := by
  have h2 := h.p2
  have st3 : (d.State != 0) = false → keepD P d { Blocks := d.Blocks, Block := d.Block, Frame := d.Frame, State := 3, Cmd := d.Cmd, OpBlock := d.OpBlock, OpFrame := d.OpFrame, OpData := d.OpData } := fun hs => by
    have hs : d.State = 0 := by simpa using hs
    refine ⟨⟨hd.block, hd.frame, hd.opBlock, hd.opFrame⟩, fun hm => ?_⟩
    simp only [Q12, Q4v, Tree.m, hs] at hm ⊢
    exact hm
  have blk : Q12 d P = true → decide (d.Blocks > 64) = false := fun hm => by
    cases hb : decide (d.Blocks > 64)
    · rfl
    · have : Q12 d P = false := by simp only [Q12, Q4v, Tree.m]; rw [hb]; rfl
      rw [this] at hm; cases hm
  unfold Q83
  refine w_br (fun _ => ⟨⟨hd, fun h => h⟩, Nat.zero_le _⟩) fun hs => w_br (fun _ => ⟨st3 hs, Nat.zero_le _⟩) fun hb => w_lv fun x0 hx => w_br (fun _ => ⟨st3 hs, Nat.zero_le _⟩) fun hp => ?_
  have hb := of_decide_eq_false hb
  obtain ⟨f0, f1⟩ := dpage h hd.frame hx (by simpa using hp)
  have ef : IntKind.i64.wrap d.Frame = d.Frame := by rw [IntKind.wrap_i64]; omega
  have e1 : decide (d.Block < d.Blocks) = true := decide_eq_true (by omega)
  have e2 : decide (IntKind.i64.wrap d.Frame < (P : Int)) = true := by rw [ef]; exact decide_eq_true f1
  refine w_br (fun hcm => Q0c (Z9b h _) fun x1 h1 => ?_) (fun hcm => ?_)
  · rw [ef] at h1
    have h1 := h1 f0 f1
    have hcm := eq_of_beq hcm
    subst hcm
    refine w_lv fun x2 _ => ⟨⟨⟨hd.block, hd.frame, hd.block, hd.frame⟩, fun hm => ?_⟩, Nat.le_refl _⟩
    simp only [Q12, Q4v, Q8p, Q6g, Tree.m, letv, blk hm, e1, e2, h1]
    rfl
  · have hc : cmd = 1 := by
      rcases hc with h | h
      · exact h
      · rw [h] at hcm; exact absurd hcm (by decide)
    subst hc
    refine w_lv fun x2 _ => ⟨⟨⟨hd.block, hd.frame, hd.block, hd.frame⟩, fun hm => ?_⟩, Nat.le_refl _⟩
    simp only [Q12, Q4v, Q8p, Q6g, Tree.m, letv, blk hm, e1, e2]
    rfl
theorem diskP_w {d : Q0d} (hd : Q6d d) (port : Int) {v : Int} (hv : U v) (at0 : Int) : (Qch d m port v at0).w (fun r => keepD P d r.1 ∧ r.2.length ≤ 1) := by
  have keep : keepD P d d := ⟨hd, fun h => h⟩
  have e1 : ∀ {k : Int}, (v == k) = true → IntKind.i64.wrap v = k := fun hk => by
    have := eq_of_beq hk
    obtain ⟨a, b⟩ := hv
    rw [IntKind.wrap_i64]; omega
  unfold Qch
  refine w_br (fun _ => ⟨⟨⟨hv, hd.frame, hd.opBlock, hd.opFrame⟩, fun h => h⟩, Nat.zero_le _⟩) fun _ => w_br (fun _ => ⟨⟨⟨hd.block, hv, hd.opBlock, hd.opFrame⟩, fun h => h⟩, Nat.zero_le _⟩) fun _ => w_br (fun _ => w_br (fun hk => Q0c (issue_w h hd (.inl (e1 hk)) _) fun x hx => hx) fun _ => w_br (fun hk => Q0c (issue_w h hd (.inr (e1 hk)) _) fun x hx => hx) fun _ => w_br (fun _ => w_lv fun x hx => w_br (fun hb => ?_) (fun _ => ⟨keep, Nat.zero_le _⟩)) (fun _ => ⟨keep, Nat.zero_le _⟩)) (fun _ => ⟨keep, Nat.zero_le _⟩)
  refine ⟨⟨⟨hd.block, hd.frame, hd.opBlock, hd.opFrame⟩, fun hm => ?_⟩, Nat.zero_le _⟩
  rw [hb] at hx
  simp only [Qef, Qfh, Tree.m] at hx
  cases h2 : d.State == 2
  · rw [h2] at hx
    have h3 : d.State = 3 := eq_of_beq hx.symm
    simp only [Q12, Q4v, Tree.m, h3] at hm ⊢
    exact hm
  · have h3 : d.State = 2 := eq_of_beq h2
    simp only [Q12, Q4v, Tree.m, h3] at hm ⊢
    exact hm
def keepN (P : Nat) (n n' : Q0l) : Prop := Qfe n' ∧ (Q5 n P = true → Q5 n' P = true)
theorem send_w {n : Q0l} (hn : Qfe n) (at0 : Int) : (Qci n m at0).w (fun r => r.length ≤ 1) := by
  have h2 := h.p2
  unfold Qci
  refine w_br (fun _ => Nat.zero_le _) fun l1 => w_br (fun _ => Nat.zero_le _) fun l2 => w_lv fun x0 hx => w_br (fun _ => Nat.zero_le _) fun hp => Q0c (Z9b h _) fun x1 h1 => ?_
  have l1 := of_decide_eq_false l1
  have l2 := of_decide_eq_false l2
  obtain ⟨f0, f1⟩ := npage h hn.frame hx (by simpa using hp)
  have ef : IntKind.i64.wrap n.Frame = n.Frame := by rw [IntKind.wrap_i64]; omega
  rw [ef] at h1
  have h1 := h1 f0 f1
  exact w_cn (decide_eq_true (by omega)) (Nat.le_refl _)
theorem nicP_w {n : Q0l} (hn : Qfe n) (port : Int) {v : Int} (hv : U v) (at0 : Int) : (Qg0 n m port v at0).w (fun r => keepN P n r.1 ∧ r.2.length ≤ 1) := by
  have h2 := h.p2
  have keep : keepN P n n := ⟨hn, fun h => h⟩
  unfold Qg0
  refine w_br (fun _ => ⟨⟨⟨hv, hn.len, hn.buffer, hn.got⟩, fun h => h⟩, Nat.zero_le _⟩) fun _ => w_br (fun _ => ⟨⟨⟨hn.frame, hv, hn.buffer, hn.got⟩, fun h => h⟩, Nat.zero_le _⟩) fun _ => w_br (fun _ => w_br (fun _ => Q0c (send_w h hn _) fun x hx => ⟨keep, hx⟩) fun _ => w_br (fun _ => w_lv fun x hx => w_br (fun hb => w_br (fun np => w_br (fun nr => ?_) (fun _ => ⟨keep, Nat.zero_le _⟩)) (fun _ => ⟨keep, Nat.zero_le _⟩)) (fun _ => ⟨keep, Nat.zero_le _⟩)) fun _ => w_br (fun _ => ?_) (fun _ => ⟨keep, Nat.zero_le _⟩)) (fun _ => ⟨keep, Nat.zero_le _⟩)
  · obtain ⟨f0, f1⟩ := npage h hn.frame hx hb
    have np : n.Posted = false := by simpa using np
    have nr : n.Received = false := by simpa using nr
    have e2 : decide (IntKind.i64.wrap n.Frame ≥ (P : Int)) = false := decide_eq_false (by rw [IntKind.wrap_i64]; omega)
    refine ⟨⟨⟨hn.frame, hn.len, hn.frame, hn.got⟩, fun hm => ?_⟩, Nat.zero_le _⟩
    simp only [Q5, Qiz, Tree.m, np, nr, e2] at hm ⊢
    cases hb : (n.Buffer != 0)
    · rw [hb] at hm; exact hm
    · rw [hb] at hm; cases hm
  · refine ⟨⟨⟨hn.frame, hn.len, hn.buffer, U_0⟩, fun hm => ?_⟩, Nat.zero_le _⟩
    simp only [Q5, Qiz, Tree.m] at hm ⊢
    revert hm
    cases n.Posted <;> cases n.Received <;> cases decide (IntKind.i64.wrap n.Buffer ≥ (P : Int)) <;> cases (n.Buffer != 0) <;> simp
end
theorem arm_may (t : Q0h) (v : Int) : Q3f (Qp4 t v) = true := by
  simp only [Qp4, Qlt, Q3f, Qlq, Tree.m]
  cases h : (v != 0)
  · have : v = 0 := by simpa using h
    subst this; rfl
  · rfl
end Go.Proofs.YtdkiadhigcfmkaaGreat
namespace Go.Proofs.YtdkiadhigcfmkaaGreat
open Go Go.GD
set_option linter.unusedVariables false
set_option linter.unusedSimpArgs false
set_option maxRecDepth 100000
theorem Zc4 {a : Int} (k : Nat) (hk : k ≤ 32) : ishr .u32 a k = a / 2 ^ k := by
  unfold ishr
  have e : min (k : Int).toNat IntKind.u32.bits = k := by show min (k : Int).toNat 32 = k; omega
  have hp : (0 : Int) < 2 ^ k := Int.pow_pos (by decide)
  rw [e, Int.fdiv_eq_ediv_of_nonneg _ (Int.le_of_lt hp)]
def Zdm (x : Int) (n : Nat) : Prop := x < 2 ^ n ∧ (n = 0 ∨ (2 : Int) ^ (n - 1) ≤ x)
theorem Z24 {x q : Int} {n k : Nat} (hq : q = x / 2 ^ k) (h0 : 0 < q) (h : Zdm q n) : Zdm x (n + k) := by
  have hp : (0 : Int) < 2 ^ k := Int.pow_pos (by decide)
  obtain ⟨h1, h2⟩ := h
  have hn : n ≠ 0 := fun e => by subst e; simp at h1; omega
  refine ⟨?_, .inr ?_⟩
  · rw [Int.pow_add]
    have : x < (x / 2 ^ k + 1) * 2 ^ k := Int.lt_ediv_add_one_mul_self x hp
    have h3 : (x / 2 ^ k + 1) * 2 ^ k ≤ 2 ^ n * 2 ^ k := Int.mul_le_mul_of_nonneg_right (by omega) (Int.le_of_lt hp)
    omega
  · have h2 := h2.resolve_left hn
    have e : n + k - 1 = (n - 1) + k := by omega
    rw [e, Int.pow_add]
    have h3 : (2 : Int) ^ (n - 1) * 2 ^ k ≤ q * 2 ^ k := Int.mul_le_mul_of_nonneg_right h2 (Int.le_of_lt hp)
    have h4 : q * 2 ^ k ≤ x := by rw [hq]; exact Int.ediv_mul_le x (Int.ne_of_gt hp)
    omega
theorem isLen_le {x : Int} {n p : Nat} (h : Zdm x n) (hx : x < 2 ^ p) : n ≤ p := by
  obtain ⟨h1, h2⟩ := h
  rcases h2 with h2 | h2
  · omega
  · rcases Nat.lt_or_ge p n with hlt | hge
    · have : (2 : Int) ^ p ≤ 2 ^ (n - 1) := by
        have := Nat.pow_le_pow_right (show 0 < 2 by omega) (show p ≤ n - 1 by omega)
        exact_mod_cast this
      omega
    · exact hge
theorem Zav {x : Int} {n p : Nat} (h : Zdm x n) (hn : n ≤ p) : x < 2 ^ p := by
  have : (2 : Int) ^ n ≤ 2 ^ p := by
    have := Nat.pow_le_pow_right (show 0 < 2 by omega) hn
    exact_mod_cast this
  exact Int.lt_of_lt_of_le h.1 this
def lenChk (i : Nat) : Bool := match (Q11 (i : Int)) with
  | .ofNat n => decide ((i : Int) < 2 ^ n) && (Nat.beq n 0 || decide ((2 : Int) ^ (n - 1) ≤ i)) && decide (n ≤ 8)
  | _ => false
theorem Qn8 {q : Int} (h0 : 0 ≤ q) (h1 : q < 256) : ∃ n : Nat, Q11 q = n ∧ Zdm q n ∧ n ≤ 8 := by
  have all : List.all (List.range 256) lenChk = true := by kernel_rfl
  have := List.all_eq_true.1 all q.toNat (List.mem_range.2 (by omega))
  have hq : ((q.toNat : Nat) : Int) = q := by omega
  unfold lenChk at this
  rw [hq] at this
  split at this
  · rename_i n hn
    simp only [Bool.and_eq_true, Bool.or_eq_true, decide_eq_true_eq] at this
    refine ⟨n, hn, ⟨this.1.1, ?_⟩, this.2⟩
    rcases this.1.2 with h | h
    · exact .inl (Nat.eq_of_beq_eq_true h)
    · exact .inr h
  · cases this
theorem len_24 {x : Int} (h : U x) (hx : 16777216 ≤ x) : Q11 x = 24 + Q11 (x / 16777216) := by
  obtain ⟨h0, h1⟩ := h
  have s16 : ishr .u32 x 16 = x / 65536 := Zc4 16 (by omega)
  have s24 : ishr .u32 (x / 65536) 8 = x / 16777216 := by rw [show ((8 : Int)) = ((8 : Nat) : Int) from rfl, Zc4 8 (by omega)]; omega
  have d1 : decide (x ≥ 65536) = true := decide_eq_true (by omega)
  have d2 : decide (x / 65536 ≥ 256) = true := decide_eq_true (by omega)
  have d3 : decide (x / 16777216 ≥ 65536) = false := decide_eq_false (by omega)
  have d4 : decide (x / 16777216 ≥ 256) = false := decide_eq_false (by omega)
  have u : IntKind.u8.wrap (x / 16777216) = x / 16777216 := by rw [IntKind.wrap_u8]; omega
  simp only [Q11, Q1m, Tree.m, s16, s24, d1, d2, d3, d4, u, cond_true, cond_false]
  generalize (List.getD _ (Int.toNat (x / 16777216)) (0 : UInt8)) = b
  have hb := UInt8.toNat_lt b
  rw [IntKind.wrap_i64, IntKind.wrap_i64, IntKind.wrap_i64, IntKind.wrap_i64]
  omega
theorem len_16 {x : Int} (h0 : 65536 ≤ x) (h1 : x < 16777216) : Q11 x = 16 + Q11 (x / 65536) := by
  have s16 : ishr .u32 x 16 = x / 65536 := Zc4 16 (by omega)
  have d1 : decide (x ≥ 65536) = true := decide_eq_true (by omega)
  have d2 : decide (x / 65536 ≥ 256) = false := decide_eq_false (by omega)
  have d3 : decide (x / 65536 ≥ 65536) = false := decide_eq_false (by omega)
  have u : IntKind.u8.wrap (x / 65536) = x / 65536 := by rw [IntKind.wrap_u8]; omega
  simp only [Q11, Q1m, Tree.m, s16, d1, d2, d3, u, cond_true, cond_false]
  generalize (List.getD _ (Int.toNat (x / 65536)) (0 : UInt8)) = b
  have hb := UInt8.toNat_lt b
  rw [IntKind.wrap_i64, IntKind.wrap_i64, IntKind.wrap_i64]
  omega
theorem len_8 {x : Int} (h0 : 256 ≤ x) (h1 : x < 65536) : Q11 x = 8 + Q11 (x / 256) := by
  have s8 : ishr .u32 x 8 = x / 256 := Zc4 8 (by omega)
  have d1 : decide (x ≥ 65536) = false := decide_eq_false (by omega)
  have d2 : decide (x ≥ 256) = true := decide_eq_true (by omega)
  have d3 : decide (x / 256 ≥ 65536) = false := decide_eq_false (by omega)
  have d4 : decide (x / 256 ≥ 256) = false := decide_eq_false (by omega)
  have u : IntKind.u8.wrap (x / 256) = x / 256 := by rw [IntKind.wrap_u8]; omega
  simp only [Q11, Q1m, Tree.m, s8, d1, d2, d3, d4, u, cond_true, cond_false]
  generalize (List.getD _ (Int.toNat (x / 256)) (0 : UInt8)) = b
  have hb := UInt8.toNat_lt b
  rw [IntKind.wrap_i64, IntKind.wrap_i64, IntKind.wrap_i64, IntKind.wrap_i64]
  omega
theorem Zdq {x : Int} (h : U x) : ∃ n : Nat, Q11 x = n ∧ Zdm x n := by
  obtain ⟨h0, h1⟩ := h
  rcases Int.lt_or_le x 256 with a | a
  · obtain ⟨n, e, l, _⟩ := Qn8 h0 a
    exact ⟨n, e, l⟩
  · rcases Int.lt_or_le x 65536 with b | b
    · obtain ⟨n, e, l, _⟩ := Qn8 (q := x / 256) (by omega) (by omega)
      exact ⟨n + 8, by rw [len_8 a b, e]; omega, Z24 (k := 8) rfl (by omega) l⟩
    · rcases Int.lt_or_le x 16777216 with c | c
      · obtain ⟨n, e, l, _⟩ := Qn8 (q := x / 65536) (by omega) (by omega)
        exact ⟨n + 16, by rw [len_16 b c, e]; omega, Z24 (k := 16) rfl (by omega) l⟩
      · obtain ⟨n, e, l, _⟩ := Qn8 (q := x / 16777216) (by omega) (by omega)
        exact ⟨n + 24, by rw [len_24 ⟨h0, h1⟩ c, e]; omega, Z24 (k := 24) rfl (by omega) l⟩
theorem Z34 {b : Q06} (h : U b.Given) {P : Nat} : Q1w b P = true ↔ b.Given < 2 ^ P := by
  obtain ⟨n, e, l⟩ := Zdq h
  have hp : (if (0 : Int) > (P : Int) then (0 : Int) else P) = P := by rw [if_neg (by omega)]
  simp only [Q1w, Q2x, Tree.m, letv, e, hp, decide_eq_true_eq]
  constructor
  · intro h; exact Zav l (by omega)
  · intro h; have := isLen_le l h; omega
end Go.Proofs.YtdkiadhigcfmkaaGreat
namespace Go.Proofs.YtdkiadhigcfmkaaGreat
open Go Go.GD
set_option linter.unusedVariables false
set_option linter.unusedSimpArgs false
set_option maxRecDepth 100000
theorem Z28 {a : Int} (h : U a) {P : Nat} (h1 : a < 2 ^ P) : (BitVec.ofInt 32 a).toNat < 2 ^ P := by
  obtain ⟨a0, a1⟩ := h
  rw [BitVec.toNat_ofInt, Int.emod_eq_of_lt a0 (by omega)]
  have : ((2 ^ P : Nat) : Int) = (2 : Int) ^ P := by exact_mod_cast rfl
  omega
theorem or_lt {a b : Int} (ha : U a) (hb : U b) {P : Nat} (hP : P ≤ 32) (h1 : a < 2 ^ P) (h2 : b < 2 ^ P) : ior .u32 a b < 2 ^ P := by
  have e : (BitVec.ofInt 32 a ||| BitVec.ofInt 32 b).toNat < 2 ^ P := by
    rw [BitVec.toNat_or]
    exact Nat.or_lt_two_pow (Z28 ha h1) (Z28 hb h2)
  have hc : ((2 ^ P : Nat) : Int) = (2 : Int) ^ P := by exact_mod_cast rfl
  have l := (BitVec.ofInt 32 a ||| BitVec.ofInt 32 b).isLt
  show IntKind.wrap .u32 ((BitVec.ofInt 32 a ||| BitVec.ofInt 32 b).toNat : Int) < 2 ^ P
  rw [IntKind.wrap_u32]
  omega
theorem andn_lt {a b : Int} (ha : U a) {P : Nat} (h1 : a < 2 ^ P) : Qky .u32 a b < 2 ^ P := by
  have e : (BitVec.ofInt 32 a &&& ~~~ BitVec.ofInt 32 b).toNat < 2 ^ P := by
    rw [BitVec.toNat_and]
    exact Nat.lt_of_le_of_lt Nat.and_le_left (Z28 ha h1)
  have hc : ((2 ^ P : Nat) : Int) = (2 : Int) ^ P := by exact_mod_cast rfl
  have l := (BitVec.ofInt 32 a &&& ~~~ BitVec.ofInt 32 b).isLt
  show IntKind.wrap .u32 ((BitVec.ofInt 32 a &&& ~~~ BitVec.ofInt 32 b).toNat : Int) < 2 ^ P
  rw [IntKind.wrap_u32]
  omega
theorem shl_one {v : Int} (h0 : 0 ≤ v) (h1 : v < 32) : ishl .u32 1 v = 2 ^ v.toNat := by
  have e : min v.toNat IntKind.u32.bits = v.toNat := by show min v.toNat 32 = v.toNat; omega
  obtain ⟨n, rfl⟩ : ∃ n : Nat, v = n := ⟨v.toNat, by omega⟩
  have hn : n < 32 := by omega
  have hlt : (2 : Nat) ^ n < 4294967296 := by
    have := Nat.pow_lt_pow_right (show 1 < 2 by omega) hn
    simpa using this
  have hc : ((2 ^ n : Nat) : Int) = (2 : Int) ^ n := by exact_mod_cast rfl
  unfold ishl
  rw [e, IntKind.wrap_u32, Int.one_mul, Int.toNat_natCast, ← hc]
  clear hc e
  generalize (2 : Nat) ^ n = z at *
  omega
def keepB (P : Nat) (b b' : Q06) : Prop := okB b' ∧ (Q1w b P = true → Q1w b' P = true)
theorem Zd5 {P : Nat} {m : List Int} (h : Q19 P m) {b : Q06} (hb : okB b) (port : Int) {v : Int} (hv : U v) : (Q6w b m port v).w (fun r => keepB P b r.1 ∧ Q19 P r.2) := by
  have hcl : Q04 m = m := rfl
  have h2 := h.p2
  have hp := Q4n h
  have keep : (Tree.an (Q05 m) (.lv (Q04 m) fun x => .lf (b, x))).w (fun r => keepB P b r.1 ∧ Q19 P r.2) := w_an (Q72 h) (w_lv fun x hx => by rw [hcl] at hx; subst hx; exact ⟨⟨hb, fun h => h⟩, h⟩)
  unfold Q6w
  refine w_br (fun _ => keep) fun hlt => w_cn (decide_eq_true hv.1) (w_br (fun _ => w_lv fun x1 hx => w_br (fun hpg => w_br (fun _ => w_an ⟨by decide, by decide, by decide⟩ (w_lv fun x2 _ => Q0c (Qvx h _ _) fun x3 ⟨h3, _⟩ => ?_)) (fun _ => keep)) (fun _ => keep)) (fun _ => w_br (fun _ => w_an (Q72 h) (w_lv fun x hx => ?_)) (fun _ => keep)))
  · have hlt := of_decide_eq_false hlt
    have hpg := of_decide_eq_true hpg
    rw [hx, hp] at hpg
    obtain ⟨v0, v1⟩ := hv
    have ev : IntKind.i64.wrap v = v := by rw [IntKind.wrap_i64]; omega
    rw [ev] at hpg
    refine ⟨⟨⟨hb.1, Q0m _⟩, fun hm => ?_⟩, h3⟩
    rw [Z34 hb.2] at hm
    rw [Z34 (Q0m _)]
    have hs : ishl .u32 1 v < 2 ^ P := by
      rw [shl_one v0 (by omega)]
      have := Nat.pow_lt_pow_right (show 1 < 2 by omega) (show v.toNat < P by omega)
      exact_mod_cast this
    exact or_lt hb.2 (Q0m _) h2 hm hs
  · rw [hcl] at hx; subst hx
    refine ⟨⟨⟨hb.1, Q0m _⟩, fun hm => ?_⟩, h⟩
    rw [Z34 hb.2] at hm
    rw [Z34 (Q0m _)]
    exact andn_lt hb.2 hm
end Go.Proofs.YtdkiadhigcfmkaaGreat
namespace Go.Proofs.YtdkiadhigcfmkaaGreat
open Go Go.GD
set_option linter.unusedVariables false
set_option linter.unusedSimpArgs false
set_option maxRecDepth 100000
structure kept (P : Nat) (m n : Q00) : Prop where
  ok : okS P n
  dev : Q0s m = true → Q0s n = true
  cpu : n.Cpu = m.Cpu
  cnt : n.Count = m.Count
  wait : n.Waiting = m.Waiting
  halt : n.Halted = m.Halted
theorem Z7c {P : Nat} {m : Q00} (h : okS P m) : kept P m m := ⟨h, fun h => h, rfl, rfl, rfl, rfl⟩
theorem Qkj {P : Nat} {m n : Q00} (hm : Q19 P m.Mem) (hn : Q19 P n.Mem) (hc : Q1k m.Console = true → Q1k n.Console = true) (ht : Q3f m.Timer = true → Q3f n.Timer = true)
    (hd : Q12 m.Disk P = true → Q12 n.Disk P = true) (hk : Q5 m.Nic P = true → Q5 n.Nic P = true) (hb : Q1w m.Balloon P = true → Q1w n.Balloon P = true) (h : Q0s m = true) : Q0s n = true := by
  rw [dev_eq] at h ⊢
  rw [Q4n hm] at h
  rw [Q4n hn]
  simp only [Bool.and_eq_true] at h ⊢
  exact ⟨hc h.1, ht h.2.1, hd h.2.2.1, hk h.2.2.2.1, hb h.2.2.2.2⟩
theorem Z9o {P : Nat} {m : Q00} (h : okS P m) (port : Int) {v : Int} (hv : U v) (at0 : Int) : (Q27 m port v at0).w (fun r => kept P m r.1 ∧ r.2.length ≤ 1) := by
  have k := Z7c h
  obtain ⟨h1, h2, h3, h4, h5, h6⟩ := h
  have id : ∀ {p : Prop}, p → p := fun h => h
  have D : ∀ (x : Q0d × List Q09), (keepD P m.Disk x.1 ∧ x.2.length ≤ 1) → kept P m { Cpu := m.Cpu, Mem := m.Mem, Console := m.Console, Timer := m.Timer, Disk := x.1, Nic := m.Nic, Balloon := m.Balloon, Count := m.Count, Waiting := m.Waiting, Halted := m.Halted } ∧ x.2.length ≤ 1 := fun x hx =>
    ⟨⟨⟨h1, h2, hx.1.1, h4, h5, h6⟩, Qkj h2 h2 id id hx.1.2 id id, rfl, rfl, rfl, rfl⟩, hx.2⟩
  have N : ∀ (x : Q0l × List Q09), (keepN P m.Nic x.1 ∧ x.2.length ≤ 1) → kept P m { Cpu := m.Cpu, Mem := m.Mem, Console := m.Console, Timer := m.Timer, Disk := m.Disk, Nic := x.1, Balloon := m.Balloon, Count := m.Count, Waiting := m.Waiting, Halted := m.Halted } ∧ x.2.length ≤ 1 := fun x hx =>
    ⟨⟨⟨h1, h2, h3, hx.1.1, h5, h6⟩, Qkj h2 h2 id id id hx.1.2 id, rfl, rfl, rfl, rfl⟩, hx.2⟩
  have B : ∀ (x : Q06 × List Int), (keepB P m.Balloon x.1 ∧ Q19 P x.2) → kept P m { Cpu := m.Cpu, Mem := x.2, Console := m.Console, Timer := m.Timer, Disk := m.Disk, Nic := m.Nic, Balloon := x.1, Count := m.Count, Waiting := m.Waiting, Halted := m.Halted } ∧ ([] : List Q09).length ≤ 1 := fun x hx =>
    ⟨⟨⟨h1, hx.2, h3, h4, hx.1.1.1, hx.1.1.2⟩, Qkj h2 hx.2 id id id id hx.1.2, rfl, rfl, rfl, rfl⟩, Nat.zero_le _⟩
  unfold Q27
  repeat' (first
    | exact ⟨k, Nat.le_refl _⟩
    | exact ⟨k, Nat.zero_le _⟩
    | exact w_lv fun x hx => ⟨⟨⟨h1, h2, h3, h4, h5, h6⟩, Qkj h2 h2 id (fun _ => by rw [hx]; exact arm_may _ _) id id id, rfl, rfl, rfl, rfl⟩, Nat.zero_le _⟩
    | exact Q0c (diskP_w h2 h3 _ hv _) fun x hx => D x hx
    | exact Q0c (nicP_w h2 h4 _ hv _) fun x hx => N x hx
    | exact Q0c (Zd5 h2 ⟨h5, h6⟩ _ hv) fun x hx => B x hx
    | refine w_br (fun _ => ?_) (fun _ => ?_))
theorem Z1f (c : Q0b) (port : Int) : (Q89 c port).w (fun r => U r.2 ∧ (Q1k c = true → Q1k r.1 = true)) := by
  have u1 : U 4294967295 := ⟨by omega, by omega⟩
  unfold Q89
  refine w_br (fun _ => w_br (fun _ => ⟨u1, fun h => h⟩) (fun hb => w_cn ?_ (w_cn ?_ ⟨Q0m _, fun hm => ?_⟩))) (fun _ => w_br (fun _ => ⟨Q0m _, fun h => h⟩) (fun _ => ⟨U_0, fun h => h⟩))
  · have hb := of_decide_eq_false hb
    have : 0 < c.Keys.length := List.length_pos_iff.2 hb
    simp [Nat.blt]; omega
  · have hb := of_decide_eq_false hb
    have : 0 < c.Keys.length := List.length_pos_iff.2 hb
    exact decide_eq_true (by omega)
  · have hm : decide ((c.Keys.length : Int) ≤ 16) = true := hm
    have hm := of_decide_eq_true hm
    show decide (((List.take _ (List.drop _ c.Keys)).length : Int) ≤ 16) = true
    refine decide_eq_true ?_
    rw [List.length_take, List.length_drop]; omega
theorem Zdc {P : Nat} {m : Q00} (h : okS P m) (port : Int) {clock : Int} (hc : U clock) : (Q2 m port clock).w (fun r => kept P m r.1 ∧ U r.2) := by
  have k := Z7c h
  obtain ⟨h1, h2, h3, h4, h5, h6⟩ := h
  have id : ∀ {p : Prop}, p → p := fun h => h
  have ti : ∀ t, U (Z39 t) := fun t => by
    refine Tree.post (Qki t) (W := U) ?_
    unfold Qki
    exact w_br (fun _ => ⟨by omega, by omega⟩) (fun _ => U_0)
  have di : ∀ p, U (Qw9 m.Disk p) := fun p => by
    refine Tree.post (Qp3 m.Disk p) (W := U) ?_
    unfold Qp3
    exact w_br (fun _ => h3.block) (fun _ => w_br (fun _ => h3.frame) (fun _ => w_br (fun _ => Q0m _) (fun _ => U_0)))
  have ni : ∀ p, U (Z76 m.Nic p) := fun p => by
    refine Tree.post (Qu5 m.Nic p) (W := U) ?_
    unfold Qu5
    exact w_br (fun _ => h4.frame) (fun _ => w_br (fun _ => h4.got) (fun _ => w_br (fun _ => w_br (fun _ => w_br (fun _ => Q0m _) (fun _ => Q0m _)) (fun _ => w_br (fun _ => Q0m _) (fun _ => U_0))) (fun _ => U_0)))
  have bi : ∀ p, (Q87 m.Balloon p).w U := fun p => by
    unfold Q87
    exact w_br (fun _ => h5) (fun _ => w_br (fun _ => Q0c (Zb0 h6) fun _ _ => Q0m _) (fun _ => U_0))
  have C : ∀ (x : Q0b × Int), (U x.2 ∧ (Q1k m.Console = true → Q1k x.1 = true)) → kept P m { Cpu := m.Cpu, Mem := m.Mem, Console := x.1, Timer := m.Timer, Disk := m.Disk, Nic := m.Nic, Balloon := m.Balloon, Count := m.Count, Waiting := m.Waiting, Halted := m.Halted } ∧ U x.2 := fun x hx =>
    ⟨⟨⟨h1, h2, h3, h4, h5, h6⟩, Qkj h2 h2 hx.2 id id id id, rfl, rfl, rfl, rfl⟩, hx.1⟩
  unfold Q2
  repeat' (first
    | exact ⟨k, hc⟩
    | exact ⟨k, U_0⟩
    | exact Q0c (Z1f _ _) fun x hx => C x hx
    | exact Z7x (Z1f _ _) fun x hx => C x hx
    | exact w_lv fun x hx => ⟨k, by rw [hx]; exact ti _⟩
    | exact w_lv fun x hx => ⟨k, by rw [hx]; exact di _⟩
    | exact w_lv fun x hx => ⟨k, by rw [hx]; exact ni _⟩
    | exact Q0c (bi _) fun x hx => ⟨k, hx⟩
    | refine w_br (fun _ => ?_) (fun _ => ?_))
end Go.Proofs.YtdkiadhigcfmkaaGreat
namespace Go.Proofs.YtdkiadhigcfmkaaGreat
open Go Go.GD
set_option linter.unusedVariables false
set_option linter.unusedSimpArgs false
set_option maxRecDepth 100000
structure Q5v (c : Q03) : Prop where
  x0 : c.X.a0 = 0
  st : c.Csr.a0 ≤ 31
  en : c.Csr.a7 ≤ 31
  rt : c.Csr.a6 ≤ 255
  ve : Int.tmod c.Csr.a1 4 = 0
theorem Q5v.pc {c : Q03} (h : Q5v c) (p : Int) : Q5v { X := c.X, Pc := p, Csr := c.Csr } := ⟨h.x0, h.st, h.en, h.rt, h.ve⟩
theorem and31 (a : Int) : iand .u32 a 31 ≤ 31 := by
  have e : (BitVec.ofInt 32 a &&& BitVec.ofInt 32 31).toNat ≤ 31 := by
    rw [BitVec.toNat_and]
    exact Nat.le_trans Nat.and_le_right (by decide)
  show IntKind.wrap .u32 ((BitVec.ofInt 32 a &&& BitVec.ofInt 32 31).toNat : Int) ≤ 31
  rw [IntKind.wrap_u32]; omega
theorem and255' (a : Int) : iand .u32 a 255 ≤ 255 := by have := and255 a; omega
theorem andn3 (a : Int) : Int.tmod (Qky .u32 a 3) 4 = 0 := by
  have e : (BitVec.ofInt 32 a &&& ~~~ BitVec.ofInt 32 3).toNat % 4 = 0 := by
    rw [BitVec.toNat_and, show (~~~ BitVec.ofInt 32 3).toNat = 4294967292 by decide]
    have := Nat.and_mod_two_pow (a := (BitVec.ofInt 32 a).toNat) (b := 4294967292) (n := 2)
    simpa using this
  have l := (BitVec.ofInt 32 a &&& ~~~ BitVec.ofInt 32 3).isLt
  show Int.tmod (IntKind.wrap .u32 ((BitVec.ofInt 32 a &&& ~~~ BitVec.ofInt 32 3).toNat : Int)) 4 = 0
  rw [IntKind.wrap_u32, Int.tmod_eq_emod_of_nonneg (by omega)]
  omega
theorem fin32 {f : Int → Int} (h : (List.range 32).all (fun n => decide (f n ≤ 31)) = true) {s : Int} (h0 : 0 ≤ s) (h1 : s ≤ 31) : f s ≤ 31 := by
  have := List.all_eq_true.1 h s.toNat (List.mem_range.2 (by omega))
  have e : ((s.toNat : Nat) : Int) = s := by omega
  rw [e] at this
  exact of_decide_eq_true this
theorem Qgj {c : Q03} (h : Q1v c) (m : Q5v c) (k b : Int) : Q5v (Qa8 c k b) :=
  ⟨m.x0, fin32 (f := fun s => Qky .u32 (ior .u32 (Qa6 (Qa6 s 1 8) 2 16) 1) 2) (by kernel_rfl) h.a0.1 m.st, m.en, m.rt, m.ve⟩
theorem Zdt {c : Q03} (h : Q1v c) (m : Q5v c) : Q5v (Qk3 c) :=
  ⟨m.x0, fin32 (f := fun s => Qa6 (Qa6 s 8 1) 16 2) (by kernel_rfl) h.a0.1 m.st, m.en, m.rt, m.ve⟩
theorem Qqc {c : Q03} (m : Q5v c) {r : Int} (hr : 0 ≤ r ∧ r < 16) (v : Int) : (Qbb c r v).w Q5v := by
  unfold Qbb
  refine w_br (fun hn => w_cn (rc hr) ?_) (fun _ => m)
  have hn : r ≠ 0 := by simpa using hn
  obtain ⟨n, e⟩ : ∃ n : Nat, r.toNat = n + 1 := ⟨r.toNat - 1, by omega⟩
  refine ⟨?_, m.st, m.en, m.rt, m.ve⟩
  show (A16.of 0 (List.set (A16.l c.X) r.toNat v)).a0 = 0
  rw [e]
  exact m.x0
theorem write_may {c : Q03} (m : Q5v c) (k v : Int) : (Q6c c k v).w Q5v := by
  unfold Q6c
  refine w_br (fun hk => w_cn (by rw [eq_of_beq hk]; decide) ?_) fun _ => w_br (fun hk => w_cn (by rw [eq_of_beq hk]; decide) ?_) fun _ => w_br (fun hk => w_cn (by rw [eq_of_beq hk]; decide) ?_) fun _ => w_br (fun hk => w_cn (by rw [eq_of_beq hk]; decide) ?_) fun _ => w_br (fun hk => w_cn (by rw [eq_of_beq hk]; decide) ?_) fun _ => w_br (fun hk => w_cn (by rw [eq_of_beq hk]; decide) ?_) fun _ => w_br (fun hk => w_cn (by rw [eq_of_beq hk]; decide) ?_) fun _ => w_br (fun hk => w_cn (by rw [eq_of_beq hk]; decide) ?_) (fun _ => m)
  all_goals (have hk := eq_of_beq hk; subst hk)
  · exact ⟨m.x0, and31 _, m.en, m.rt, m.ve⟩
  · exact ⟨m.x0, m.st, and31 _, m.rt, m.ve⟩
  · exact ⟨m.x0, m.st, m.en, and255' _, m.ve⟩
  · exact ⟨m.x0, m.st, m.en, m.rt, andn3 _⟩
  · exact ⟨m.x0, m.st, m.en, m.rt, m.ve⟩
  · exact ⟨m.x0, m.st, m.en, m.rt, m.ve⟩
  · exact ⟨m.x0, m.st, m.en, m.rt, m.ve⟩
  · exact ⟨m.x0, m.st, m.en, m.rt, m.ve⟩
section
variable {c : Q03} (h : Q1v c) (m : Q5v c) {i : Q0j} (hi : Qbw i)
include h m hi
theorem Z98 : (Q2a c i).w (fun r => Q5v r.1) := by
  unfold Q2a
  refine w_cn (rc hi.a) (w_cn (rc hi.b) ?_)
  repeat' (first
    | refine w_br (fun _ => ?_) (fun _ => ?_)
    | exact Q0c (Qqc m hi.a _) fun x hx => hx.pc _
    | exact w_lv fun x _ => w_br (fun _ => m.pc _) (fun _ => m.pc _)
    | exact w_lv fun x hx => by rw [hx]; exact Qgj h m _ _
    | exact w_lv fun x hx => by rw [hx]; exact Zdt h m
    | exact w_cn (by have := hi.csr (by simp_all); simp [Nat.blt]; omega) (Q0c (Qqc m hi.a _) fun x hx => hx.pc _)
    | exact Q0c (write_may m _ _) fun x hx => hx.pc _
    | refine w_cn (rc hi.c) ?_
    | exact Q0c (Z0v _ (h.r _) (Q0m _)) fun y hy => Q0c (Qqc m hi.a _) fun x hx => hx.pc _
    | exact Q0c (Z0v _ (h.r _) (h.r _)) fun y hy => Q0c (Qqc m hi.a _) fun x hx => hx.pc _
    | refine w_lf ?_)
  all_goals exact m.pc _
theorem load_may {P : Nat} {mem : List Int} (hm : Q19 P mem) : (Q80 c mem i).w (fun r => Q5v r.1) := by
  have w := Z2 i.Op
  unfold Q80
  refine w_cn (rc hi.b) (w_lv fun x0 h0 => ?_)
  rw [← h0] at w
  refine Q0c (Qfl hm (Q0m _) w 2) fun x1 h1 => w_br (fun _ => w_lv fun y hy => by rw [hy]; exact Qgj h m _ _) (fun _ => w_lv fun x3 h3 => ?_)
  rw [h0, ← h3] at w
  exact Q0c (Qme h1.2 h1.1 w) fun x4 h4 => w_br (fun _ => Q0c (Qqt h4.1 8) fun y hy => Q0c (Qqc m hi.a _) fun x hx => hx.pc _) (fun _ => Q0c (Qqc m hi.a _) fun x hx => hx.pc _)
theorem store_may {P : Nat} {mem : List Int} (hm : Q19 P mem) : (Q68 c mem i).w (fun r => Q5v r.1) := by
  have w := Z2 i.Op
  unfold Q68
  refine w_cn (rc hi.b) (w_lv fun x0 h0 => ?_)
  rw [← h0] at w
  refine Q0c (Qfl hm (Q0m _) w 3) fun x1 h1 => w_br (fun _ => w_lv fun y hy => by rw [hy]; exact Qgj h m _ _) (fun _ => w_lv fun x3 h3 => w_cn (rc hi.a) ?_)
  rw [h0, ← h3] at w
  exact Q0c (Qu4 h1.2 h1.1 w (h.r _)) fun x hx => m.pc _
end
theorem exec_may {c : Q03} (h : Q1v c) (m : Q5v c) {P : Nat} {mem : List Int} (hm : Q19 P mem) : (Q5p c mem).w (fun r => Q5v r.1) := by
  unfold Q5p
  refine Q0c (Z35 hm h) fun x0 h0 => w_br (fun _ => w_lv fun y hy => by rw [hy]; exact Qgj h m _ _) (fun _ => Q0c (Quz _) fun x2 h2 => w_br (fun _ => w_lv fun y hy => by rw [hy]; exact Qgj h m _ _) (fun hb => ?_))
  have hi := h2 (by simpa using hb)
  refine w_lv fun x4 _ => ?_
  repeat' (first
    | refine w_br (fun _ => ?_) (fun _ => ?_)
    | exact Q0c (load_may h m hi h0.2) fun x hx => hx
    | exact Q0c (store_may h m hi h0.2) fun x hx => hx
    | exact Q0c (Z98 h m hi) fun x hx => hx
    | exact w_lv fun y hy => by rw [hy]; exact Qgj h m _ _
    | refine w_lv fun _ _ => ?_)
end Go.Proofs.YtdkiadhigcfmkaaGreat
namespace Go.Proofs.YtdkiadhigcfmkaaGreat
open Go Go.GD
set_option linter.unusedVariables false
set_option linter.unusedSimpArgs false
set_option maxRecDepth 100000
theorem Zah {c : Q03} (h : Q1v c) {i : Q0j} (hi : Qbw i) : (Q2a c i).w (fun r => 0 ≤ r.2.Reg ∧ r.2.Reg < 16) := by
  have z : (0 : Int) ≤ 0 ∧ (0 : Int) < 16 := ⟨by decide, by decide⟩
  unfold Q2a
  refine w_cn (rc hi.a) (w_cn (rc hi.b) ?_)
  repeat' (first
    | refine w_br (fun _ => ?_) (fun _ => ?_)
    | exact Q0c (Ql5 h hi.a (Q0m _)) fun x hx => z
    | exact w_lv fun x _ => w_br (fun _ => z) (fun _ => z)
    | exact w_lv fun x hx => z
    | exact w_cn (by have := hi.csr (by simp_all); simp [Nat.blt]; omega) (Q0c (Ql5 h hi.a (h.a _)) fun x hx => z)
    | exact Q0c (Zc6 h _ (h.r _)) fun x hx => z
    | refine w_cn (rc hi.c) ?_
    | exact Q0c (Z0v _ (h.r _) (Q0m _)) fun y hy => Q0c (Ql5 h hi.a hy) fun x hx => z
    | exact Q0c (Z0v _ (h.r _) (h.r _)) fun y hy => Q0c (Ql5 h hi.a hy) fun x hx => z
    | refine w_lf ?_)
  all_goals first | exact z | exact hi.a
theorem exec_reg {c : Q03} (h : Q1v c) {P : Nat} {mem : List Int} (hm : Q19 P mem) : (Q5p c mem).w (fun r => 0 ≤ r.2.2.Reg ∧ r.2.2.Reg < 16) := by
  have z : (0 : Int) ≤ 0 ∧ (0 : Int) < 16 := ⟨by decide, by decide⟩
  unfold Q5p
  refine Q0c (Z35 hm h) fun x0 h0 => w_br (fun _ => w_lv fun y hy => z) (fun _ => Q0c (Quz _) fun x2 h2 => w_br (fun _ => w_lv fun y hy => z) (fun hb => ?_))
  have hi := h2 (by simpa using hb)
  refine w_lv fun x4 _ => ?_
  repeat' (first
    | refine w_br (fun _ => ?_) (fun _ => ?_)
    | exact Q0c (Qum h hi h0.2) fun x hx => z
    | exact Q0c (Qse h hi h0.2) fun x hx => z
    | exact Q0c (Zah h hi) fun x hx => hx
    | exact w_lv fun y hy => z
    | refine w_lv fun _ _ => ?_)
theorem cnd2 {a x : Bool} : (bif a then false else x) = true ↔ a = false ∧ x = true := by cases a <;> simp
theorem Zai (m : Q00) : Q0v m = true ↔ Q0r m.Mem ≠ 0 ∧ Q5v m.Cpu ∧ m.Count ≤ 1152921504606846976 ∧ ¬ (m.Waiting = true ∧ m.Halted = true) ∧ Q0s m = true := by
  rw [may_eq]
  unfold mayC chain
  rw [cnd2, cnd2, cnd2, cnd2, cnd2, cnd2, cnd2]
  simp only [decide_eq_false_iff_not, Int.not_lt, beq_eq_false_iff_ne, bne_eq_false_iff_eq, gt_iff_lt]
  constructor
  · rintro ⟨a1, a2, a3, a4, a5, a6, a7, a8⟩
    refine ⟨a1, ⟨a2, a3, a4, a5, a6⟩, a7, ?_, ?_⟩
    · rintro ⟨w, h⟩; rw [w, h] at a8; cases a8
    · revert a8; cases m.Waiting
      · exact fun h => h
      · cases m.Halted
        · exact fun h => h
        · intro h; cases h
  · rintro ⟨a1, ⟨a2, a3, a4, a5, a6⟩, a7, a8, a9⟩
    refine ⟨a1, a2, a3, a4, a5, a6, a7, ?_⟩
    rw [a9]
    cases hw : m.Waiting
    · rfl
    · cases hh : m.Halted
      · rfl
      · exact absurd ⟨hw, hh⟩ a8
theorem runs_may {m : Q00} (h : Q42 m = true) : Q0v m = true ∧ m.Halted = false ∧ m.Count < 1152921504606846976 := by
  simp only [Q42, Q4e, Tree.m, letv] at h
  cases h1 : Q0v m
  · rw [h1] at h; cases h
  · cases h2 : m.Halted
    · rw [h1, h2] at h
      cases h3 : Q62 m
      · rw [h3] at h
        have h : decide (m.Count < 1152921504606846976) = true := h
        exact ⟨rfl, rfl, of_decide_eq_true h⟩
      · rw [h3] at h; cases h
    · rw [h1, h2] at h; cases h
theorem begin_may {P : Nat} {m : Q00} (h : okS P m) (g : Q5v m.Cpu) : (Q2f m).w (fun r => Q5v r.Cpu ∧ okS P r ∧ r.Mem = m.Mem ∧ r.Waiting = false ∧ r.Halted = m.Halted ∧ r.Count = m.Count ∧ r.Console = m.Console ∧ r.Timer = m.Timer ∧ r.Disk = m.Disk ∧ r.Nic = m.Nic ∧ r.Balloon = m.Balloon) := by
  obtain ⟨h1, h2, h3, h4, h5, h6⟩ := h
  unfold Q2f
  refine w_br (fun _ => ⟨g, ⟨h1, h2, h3, h4, h5, h6⟩, rfl, rfl, rfl, rfl, rfl, rfl, rfl, rfl, rfl⟩) (fun _ => Q0c (Qr (m := ⟨_, _, _, _, _, _, m.Balloon, _, _, _⟩) h6) fun x0 _ => w_lp (inv := fun z => 0 ≤ z ∧ z ≤ 5) (μ := Q7v m) ⟨by omega, by omega⟩ (Nat.lt_succ_self _) (fun z hz => ?_))
  obtain ⟨z1, z2⟩ := hz
  refine w_br (fun hb => w_cn (decide_eq_true z1) (w_br (fun _ => w_lv fun x1 hx => ⟨by rw [hx]; exact Qgj h1 g _ _, ⟨by rw [hx]; exact Qiv h1 _ U_0, h2, h3, h4, h5, h6⟩, rfl, rfl, rfl, rfl, rfl, rfl, rfl, rfl, rfl⟩) (fun _ => w_nx ?_))) (fun _ => ⟨g, ⟨h1, h2, h3, h4, h5, h6⟩, rfl, rfl, rfl, rfl, rfl, rfl, rfl, rfl, rfl⟩)
  have hb := of_decide_eq_true hb
  show (0 ≤ IntKind.i64.wrap (z + 1) ∧ IntKind.i64.wrap (z + 1) ≤ 5) ∧ (5 - IntKind.i64.wrap (z + 1)).toNat < (5 - z).toNat
  have ew : IntKind.i64.wrap (z + 1) = z + 1 := by rw [IntKind.wrap_i64]; omega
  rw [ew]; omega
end Go.Proofs.YtdkiadhigcfmkaaGreat
namespace Go.Proofs.YtdkiadhigcfmkaaGreat
open Go Go.GD
set_option linter.unusedVariables false
set_option linter.unusedSimpArgs false
set_option maxRecDepth 100000
structure Good (P : Nat) (m r : Q00) : Prop where
  ok : okS P r
  cnt : 0 ≤ r.Count
  may : Q0v m = true → Q0v r = true
  or : r = m ∨ r.Count = m.Count + 1
end Go.Proofs.YtdkiadhigcfmkaaGreat
namespace Go.Proofs.YtdkiadhigcfmkaaGreat
open Go Go.GD
set_option linter.unusedVariables false
set_option linter.unusedSimpArgs false
set_option maxRecDepth 100000
theorem Qzf (m : Q00) {port : Int} (hp : (port == 2) = false) (a b : Int) : Q3z m port a = Q3z m port b := by
  simp only [Q3z, Q2, Tree.m, hp, cond_false]
theorem Ze7 {m : Q00} (h : Q2r m = false) (a b : Int) : Q8 m a = Q8 m b := by
  have hcl : Q04 m.Mem = m.Mem := rfl
  have e : (⟨m.Cpu, m.Mem, m.Console, m.Timer, m.Disk, m.Nic, m.Balloon, m.Count, m.Waiting, m.Halted⟩ : Q00) = m := rfl
  simp only [Q2r, Q21, Tree.m, letv] at h
  simp only [Q8, Q5j, Tree.m, letv, hcl, e]
  cases hr : Q42 m
  · rfl
  · rw [hr] at h
    have h : (bif (Qet (Q1u m).Cpu (Q1u m).Mem).2.2.Kind == 1 then (Qet (Q1u m).Cpu (Q1u m).Mem).2.2.Port == 2 else false) = false := h
    cases hk : (Qet (Q1u m).Cpu (Q1u m).Mem).2.2.Kind == 1
    · rfl
    · rw [hk] at h
      have hp : ((Qet (Q1u m).Cpu (Q1u m).Mem).2.2.Port == 2) = false := h
      rw [Qzf _ hp a b]
end Go.Proofs.YtdkiadhigcfmkaaGreat
namespace Go.Proofs.YtdkiadhigcfmkaaGreat
open Go Go.GD
set_option linter.unusedVariables false
set_option linter.unusedSimpArgs false
set_option maxRecDepth 100000
theorem step_w0 {P : Nat} {m : Q00} (h : okS P m) (hc0 : 0 ≤ m.Count) {clock : Int} (hk : U clock) : (Q5j m clock).w (fun r => r.2.length ≤ 1 ∧ Good P m r.1) := by
  have hcl : Q04 m.Mem = m.Mem := rfl
  unfold Q5j
  refine w_an (Q72 h.mem) (w_lv fun l hl => ?_)
  rw [hcl] at hl; subst hl
  refine w_an (Tree.pp (runsP_w (m := ⟨_, _, _, _, _, _, m.Balloon, _, _, _⟩) h.given)).1 (w_lv fun x1 hx1 => w_br (fun _ => ⟨Nat.zero_le _, h, hc0, fun h => h, .inl rfl⟩) (fun hb => ?_))
  have hr : Q42 m = true := by rw [← show x1 = Q42 m from hx1]; simpa using hb
  obtain ⟨hm, hh, hct⟩ := runs_may hr
  obtain ⟨g1, g2, g3, g4, g5⟩ := (Zai m).1 hm
  have hP : (P : Int) ≠ 0 := by rw [← Q4n h.mem]; exact g1
  have fin : ∀ (n : Q00), okS P n → Q5v n.Cpu → Q0s n = true → n.Count = m.Count → ¬ (n.Waiting = true ∧ n.Halted = true) → Good P m { Cpu := n.Cpu, Mem := n.Mem, Console := n.Console, Timer := n.Timer, Disk := n.Disk, Nic := n.Nic, Balloon := n.Balloon, Count := IntKind.wrap .u64 (n.Count + 1), Waiting := n.Waiting, Halted := n.Halted } := fun n a b c d e => by
    have ec : IntKind.wrap .u64 (n.Count + 1) = m.Count + 1 := by rw [d, IntKind.wrap_u64]; omega
    refine ⟨⟨a.cpu, a.mem, a.disk, a.nic, a.target, a.given⟩, ?_, fun _ => (Zai _).2 ⟨?_, b, ?_, e, c⟩, .inr ec⟩
    · show 0 ≤ IntKind.wrap .u64 (n.Count + 1); omega
    · show Q0r n.Mem ≠ 0; rw [Q4n a.mem]; exact hP
    · show IntKind.wrap .u64 (n.Count + 1) ≤ _; omega
  refine Q0c (begin_may (m := ⟨_, _, m.Console, m.Timer, m.Disk, m.Nic, m.Balloon, m.Count, m.Waiting, m.Halted⟩) ⟨h.cpu, h.mem, h.disk, h.nic, h.target, h.given⟩ g2) fun x2 hx2 => ?_
  obtain ⟨b1, b2, b3, b4, b5, b6, b7, b8, b9, b10, b11⟩ := hx2
  have ex := Tree.pp (execP_w b2.cpu b2.mem)
  have em := Tree.pp (exec_may b2.cpu b1 b2.mem)
  have er := Tree.pp (exec_reg b2.cpu b2.mem)
  refine w_an ex.1 (w_lv fun x3 h3 => ?_)
  obtain ⟨e1, e2, e3⟩ : Q1v x3.1 ∧ Q19 P x3.2.1 ∧ U x3.2.2.Value := by rw [h3]; exact ex.2
  have f1 : Q5v x3.1 := by rw [h3]; exact em.2
  have r1 : 0 ≤ x3.2.2.Reg ∧ x3.2.2.Reg < 16 := by rw [h3]; exact er.2
  have ok3 : okS P ⟨x3.1, x3.2.1, x2.Console, x2.Timer, x2.Disk, x2.Nic, x2.Balloon, x2.Count, x2.Waiting, x2.Halted⟩ := ⟨e1, e2, b2.disk, b2.nic, b2.target, b2.given⟩
  have dev : ∀ (w h : Bool), Q0s ⟨x3.1, x3.2.1, x2.Console, x2.Timer, x2.Disk, x2.Nic, x2.Balloon, x2.Count, w, h⟩ = true := fun w hh => by
    have id : ∀ {p : Prop}, p → p := fun h => h
    refine Qkj (m := m) (P := P) h.mem e2 ?_ ?_ ?_ ?_ ?_ g5
    · show _ → Q1k x2.Console = true; rw [b7]; exact id
    · show _ → Q3f x2.Timer = true; rw [b8]; exact id
    · show _ → Q12 x2.Disk P = true; rw [b9]; exact id
    · show _ → Q5 x2.Nic P = true; rw [b10]; exact id
    · show _ → Q1w x2.Balloon P = true; rw [b11]; exact id
  have hw : x2.Waiting = false := b4
  have hh2 : x2.Halted = false := b5.trans hh
  have hct2 : x2.Count = m.Count := b6
  refine w_br (fun _ => ?_) fun _ => w_br (fun _ => ?_) fun _ => w_br (fun _ => ?_) fun _ => w_br (fun _ => ?_) fun _ => ?_
  · refine Q0c (Zdc ok3 _ hk) fun x4 h4 => ?_
    obtain ⟨k, u⟩ := h4
    have kc : x4.1.Cpu = x3.1 := k.cpu
    have kt : x4.1.Count = m.Count := k.cnt.trans hct2
    have kw : ¬ (x4.1.Waiting = true ∧ x4.1.Halted = true) := fun e => by have : x4.1.Waiting = x2.Waiting := k.wait; rw [this, hw] at e; cases e.1
    have km : Q5v x4.1.Cpu := by rw [kc]; exact f1
    refine w_br (fun hn => w_cn (rc r1) ⟨Nat.zero_le _, ?_⟩) (fun _ => ⟨Nat.zero_le _, fin x4.1 k.ok km (k.dev (dev _ _)) kt kw⟩)
    have hn : x3.2.2.Reg ≠ 0 := by simpa using hn
    obtain ⟨q, e⟩ : ∃ q : Nat, x3.2.2.Reg.toNat = q + 1 := ⟨x3.2.2.Reg.toNat - 1, by omega⟩
    refine fin ⟨⟨A16.of 0 (List.set (A16.l x4.1.Cpu.X) (Int.toNat x3.2.2.Reg) x4.2), x4.1.Cpu.Pc, x4.1.Cpu.Csr⟩, x4.1.Mem, x4.1.Console, x4.1.Timer, x4.1.Disk, x4.1.Nic, x4.1.Balloon, x4.1.Count, x4.1.Waiting, x4.1.Halted⟩ ⟨⟨Z4i k.ok.cpu.x u _, k.ok.cpu.pc, k.ok.cpu.csr⟩, k.ok.mem, k.ok.disk, k.ok.nic, k.ok.target, k.ok.given⟩ ⟨?_, km.st, km.en, km.rt, km.ve⟩ (k.dev (dev _ _)) kt kw
    show (A16.of 0 (List.set (A16.l x4.1.Cpu.X) (Int.toNat x3.2.2.Reg) x4.2)).a0 = 0
    rw [e]
    exact km.x0
  · refine Q0c (Z9o ok3 _ e3 _) fun x5 h5 => ?_
    obtain ⟨k, u⟩ := h5
    have kc : x5.1.Cpu = x3.1 := k.cpu
    exact ⟨u, fin x5.1 k.ok (by rw [kc]; exact f1) (k.dev (dev _ _)) (k.cnt.trans hct2) (fun e => by have : x5.1.Waiting = x2.Waiting := k.wait; rw [this, hw] at e; cases e.1)⟩
  · exact ⟨Nat.zero_le _, fin ⟨x3.1, x3.2.1, x2.Console, x2.Timer, x2.Disk, x2.Nic, x2.Balloon, x2.Count, true, x2.Halted⟩ ⟨e1, e2, b2.disk, b2.nic, b2.target, b2.given⟩ f1 (dev _ _) hct2 (fun e => by have e2 : x2.Halted = true := e.2; rw [hh2] at e2; cases e2)⟩
  · exact ⟨Nat.zero_le _, fin ⟨x3.1, x3.2.1, x2.Console, x2.Timer, x2.Disk, x2.Nic, x2.Balloon, x2.Count, x2.Waiting, true⟩ ⟨e1, e2, b2.disk, b2.nic, b2.target, b2.given⟩ f1 (dev _ _) hct2 (fun e => by have e2 : x2.Waiting = true := e.1; rw [hw] at e2; cases e2)⟩
  · exact ⟨Nat.zero_le _, fin ⟨x3.1, x3.2.1, x2.Console, x2.Timer, x2.Disk, x2.Nic, x2.Balloon, x2.Count, x2.Waiting, x2.Halted⟩ ok3 f1 (dev _ _) hct2 (fun e => by have e2 : x2.Waiting = true := e.1; rw [hw] at e2; cases e2)⟩
theorem apply_w0 {P : Nat} {m : Q00} (h : okM P m) {e : Q0i} (he : U e.N) : (Q67 m e).w (fun r => (Q0v m = true → Q0v r.1 = true) ∧ r.1.Count = m.Count ∧ U r.1.Balloon.Given) := by
  obtain ⟨h1, h2, h3, h4, h5, h7⟩ := h
  have hcl : Q04 m.Mem = m.Mem := rfl
  have pg : ∀ {m' : List Int}, Q19 P m' → Q0r m' = Q0r m.Mem := fun h => by rw [Q4n h, Q4n h2]
  have keep : (Q0v m = true → Q0v m = true) ∧ m.Count = m.Count ∧ U m.Balloon.Given := ⟨fun h => h, rfl, h5.2⟩
  unfold Q67
  refine w_an (Q72 h2) (w_lv fun l hl => ?_)
  rw [hcl] at hl; subst hl
  refine Q0c (Z6n (m := ⟨_, _, _, _, _, _, m.Balloon, _, _, _⟩) h5.2) fun x1 _ => w_br (fun _ => keep) fun _ => w_br (fun _ => keep) fun _ => ?_
  refine w_br (fun _ => w_br (fun _ => w_br (fun _ => w_lv fun x hx => ?_) (fun _ => keep)) (fun _ => keep)) fun _ => w_br (fun _ => w_br (fun _ => w_br (fun _ => Q0c (ctype_w _ _) fun x hx => ?_) (fun _ => keep)) (fun _ => keep)) fun _ => w_br (fun hk => Q0c (Zdv h2 h3 e) fun x hx => ?_) fun _ => w_br (fun hk => w_br (fun _ => Q0c (receive_w h2 h4 _) fun x hx => ?_) (fun _ => keep)) fun _ => w_br (fun _ => w_br (fun _ => ?_) (fun _ => keep)) (fun _ => keep)
  · exact ⟨Qnj rfl rfl rfl rfl rfl (fun h => h) (fun h => by rw [hx]; exact fire_may _ h) (fun _ h => h) (fun _ h => h) rfl, rfl, h5.2⟩
  · exact ⟨Qnj rfl rfl rfl rfl rfl hx (fun h => h) (fun _ h => h) (fun _ h => h) rfl, rfl, h5.2⟩
  · obtain ⟨a1, a2, a3, a4, a5⟩ := hx
    exact ⟨Qnj (pg a2) rfl rfl rfl rfl (fun h => h) (fun h => h) a5 (fun _ h => h) rfl, rfl, h5.2⟩
  · obtain ⟨a1, a2, a3, a4, a5⟩ := hx
    exact ⟨Qnj (pg a2) rfl rfl rfl rfl (fun h => h) (fun h => h) (fun _ h => h) a5 rfl, rfl, h5.2⟩
  · exact ⟨Qnj rfl rfl rfl rfl rfl (fun h => h) (fun h => h) (fun _ h => h) (fun _ h => h) rfl, rfl, h5.2⟩
end Go.Proofs.YtdkiadhigcfmkaaGreat
namespace Go.Proofs.YtdkiadhigcfmkaaGreat
open Go Go.GD
set_option maxRecDepth 100000
noncomputable section
def boot : List Int := (Q57 (List.append (List.append (List.append (List.append Z3f Z0b) (List.append Z04 Z0n)) (List.append (List.append Qzu Z0k) (List.append Z1b Z14))) (List.append (List.append (List.append Z1l Z1n) (List.append Qq2 Qpk)) (List.append (List.append Qpe Qpj) (List.append Qqy Qqk))))).1
def Qfc : List Int := boot ++ List.replicate (160 - boot.length) 0
theorem run87 (t0 t1 t2 t3 t4 t5 t6 t7 t8 t9 t10 t11 t12 t13 t14 t15 t16 t17 t18 t19 t20 t21 t22 t23 t24 t25 t26 t27 t28 t29 t30 t31 t32 t33 t34 t35 t36 t37 t38 t39 t40 t41 t42 t43 t44 t45 t46 t47 t48 t49 t50 t51 t52 t53 t54 t55 t56 t57 t58 t59 t60 t61 t62 t63 t64 t65 t66 t67 t68 t69 t70 t71 t72 t73 t74 t75 t76 t77 t78 t79 t80 t81 t82 t83 t84 t85 t86 t87 t88 t89 t90 t91 t92 t93 t94 t95 : Int) : (Qa (Q3l 8 4 (Qfc ++ [t0, t1, t2, t3, t4, t5, t6, t7, t8, t9, t10, t11, t12, t13, t14, t15, t16, t17, t18, t19, t20, t21, t22, t23, t24, t25, t26, t27, t28, t29, t30, t31, t32, t33, t34, t35, t36, t37, t38, t39, t40, t41, t42, t43, t44, t45, t46, t47, t48, t49, t50, t51, t52, t53, t54, t55, t56, t57, t58, t59, t60, t61, t62, t63, t64, t65, t66, t67, t68, t69, t70, t71, t72, t73, t74, t75, t76, t77, t78, t79, t80, t81, t82, t83, t84, t85, t86, t87, t88, t89, t90, t91, t92, t93, t94, t95])).1 [] 87).2.2.2 = 0 := by kernel_rfl
end
end Go.Proofs.YtdkiadhigcfmkaaGreat
namespace Go.Proofs.YtdkiadhigcfmkaaGreat
open Go Go.GD
attribute [local irreducible] Q57
set_option linter.unusedVariables false
set_option linter.unusedSimpArgs false
set_option maxRecDepth 100000
theorem new_mem (i j : List Int) (hi : i.length ≤ 256) (hj : j.length ≤ 256) (e : i ++ List.replicate (256 - i.length) 0 = j ++ List.replicate (256 - j.length) 0) : Q3l 8 4 i = Q3l 8 4 j := by
  have w : IntKind.i64.wrap (8 * 32) = 256 := by decide
  have m : Qk0 8 = List.replicate 256 0 := by kernel_rfl
  have d : ∀ k : List Int, k.length ≤ 256 → decide ((k.length : Int) > 256) = false := fun k h => decide_eq_false (by omega)
  have mem : ∀ k : List Int, k.length ≤ 256 → List.take (min k.length (List.replicate 256 (0 : Int)).length) k ++ List.drop (min k.length (List.replicate 256 (0 : Int)).length) (List.replicate 256 0) = k ++ List.replicate (256 - k.length) 0 := fun k h => by
    rw [List.length_replicate, Nat.min_eq_left h, List.take_length, List.drop_replicate]
  have r : Z3e 8 = List.replicate 256 0 := by kernel_rfl
  simp only [Q3l, Q6f, Tree.m, w, letv, r, d i hi, d j hj]
  simp only [mem i hi, mem j hj, e]
theorem list96 (t : List Int) (ht : t.length = 96) : t = [t.getD 0 0, t.getD 1 0, t.getD 2 0, t.getD 3 0, t.getD 4 0, t.getD 5 0, t.getD 6 0, t.getD 7 0, t.getD 8 0, t.getD 9 0, t.getD 10 0, t.getD 11 0, t.getD 12 0, t.getD 13 0, t.getD 14 0, t.getD 15 0, t.getD 16 0, t.getD 17 0, t.getD 18 0, t.getD 19 0, t.getD 20 0, t.getD 21 0, t.getD 22 0, t.getD 23 0, t.getD 24 0, t.getD 25 0, t.getD 26 0, t.getD 27 0, t.getD 28 0, t.getD 29 0, t.getD 30 0, t.getD 31 0, t.getD 32 0, t.getD 33 0, t.getD 34 0, t.getD 35 0, t.getD 36 0, t.getD 37 0, t.getD 38 0, t.getD 39 0, t.getD 40 0, t.getD 41 0, t.getD 42 0, t.getD 43 0, t.getD 44 0, t.getD 45 0, t.getD 46 0, t.getD 47 0, t.getD 48 0, t.getD 49 0, t.getD 50 0, t.getD 51 0, t.getD 52 0, t.getD 53 0, t.getD 54 0, t.getD 55 0, t.getD 56 0, t.getD 57 0, t.getD 58 0, t.getD 59 0, t.getD 60 0, t.getD 61 0, t.getD 62 0, t.getD 63 0, t.getD 64 0, t.getD 65 0, t.getD 66 0, t.getD 67 0, t.getD 68 0, t.getD 69 0, t.getD 70 0, t.getD 71 0, t.getD 72 0, t.getD 73 0, t.getD 74 0, t.getD 75 0, t.getD 76 0, t.getD 77 0, t.getD 78 0, t.getD 79 0, t.getD 80 0, t.getD 81 0, t.getD 82 0, t.getD 83 0, t.getD 84 0, t.getD 85 0, t.getD 86 0, t.getD 87 0, t.getD 88 0, t.getD 89 0, t.getD 90 0, t.getD 91 0, t.getD 92 0, t.getD 93 0, t.getD 94 0, t.getD 95 0] := by
  apply List.ext_getElem
  · rw [ht]; rfl
  · intro i h1 h2
    have e : ∀ j (hj : j < 96), [t.getD 0 0, t.getD 1 0, t.getD 2 0, t.getD 3 0, t.getD 4 0, t.getD 5 0, t.getD 6 0, t.getD 7 0, t.getD 8 0, t.getD 9 0, t.getD 10 0, t.getD 11 0, t.getD 12 0, t.getD 13 0, t.getD 14 0, t.getD 15 0, t.getD 16 0, t.getD 17 0, t.getD 18 0, t.getD 19 0, t.getD 20 0, t.getD 21 0, t.getD 22 0, t.getD 23 0, t.getD 24 0, t.getD 25 0, t.getD 26 0, t.getD 27 0, t.getD 28 0, t.getD 29 0, t.getD 30 0, t.getD 31 0, t.getD 32 0, t.getD 33 0, t.getD 34 0, t.getD 35 0, t.getD 36 0, t.getD 37 0, t.getD 38 0, t.getD 39 0, t.getD 40 0, t.getD 41 0, t.getD 42 0, t.getD 43 0, t.getD 44 0, t.getD 45 0, t.getD 46 0, t.getD 47 0, t.getD 48 0, t.getD 49 0, t.getD 50 0, t.getD 51 0, t.getD 52 0, t.getD 53 0, t.getD 54 0, t.getD 55 0, t.getD 56 0, t.getD 57 0, t.getD 58 0, t.getD 59 0, t.getD 60 0, t.getD 61 0, t.getD 62 0, t.getD 63 0, t.getD 64 0, t.getD 65 0, t.getD 66 0, t.getD 67 0, t.getD 68 0, t.getD 69 0, t.getD 70 0, t.getD 71 0, t.getD 72 0, t.getD 73 0, t.getD 74 0, t.getD 75 0, t.getD 76 0, t.getD 77 0, t.getD 78 0, t.getD 79 0, t.getD 80 0, t.getD 81 0, t.getD 82 0, t.getD 83 0, t.getD 84 0, t.getD 85 0, t.getD 86 0, t.getD 87 0, t.getD 88 0, t.getD 89 0, t.getD 90 0, t.getD 91 0, t.getD 92 0, t.getD 93 0, t.getD 94 0, t.getD 95 0][j]'hj = t.getD j 0 := by
      intro j hj
      have : [t.getD 0 0, t.getD 1 0, t.getD 2 0, t.getD 3 0, t.getD 4 0, t.getD 5 0, t.getD 6 0, t.getD 7 0, t.getD 8 0, t.getD 9 0, t.getD 10 0, t.getD 11 0, t.getD 12 0, t.getD 13 0, t.getD 14 0, t.getD 15 0, t.getD 16 0, t.getD 17 0, t.getD 18 0, t.getD 19 0, t.getD 20 0, t.getD 21 0, t.getD 22 0, t.getD 23 0, t.getD 24 0, t.getD 25 0, t.getD 26 0, t.getD 27 0, t.getD 28 0, t.getD 29 0, t.getD 30 0, t.getD 31 0, t.getD 32 0, t.getD 33 0, t.getD 34 0, t.getD 35 0, t.getD 36 0, t.getD 37 0, t.getD 38 0, t.getD 39 0, t.getD 40 0, t.getD 41 0, t.getD 42 0, t.getD 43 0, t.getD 44 0, t.getD 45 0, t.getD 46 0, t.getD 47 0, t.getD 48 0, t.getD 49 0, t.getD 50 0, t.getD 51 0, t.getD 52 0, t.getD 53 0, t.getD 54 0, t.getD 55 0, t.getD 56 0, t.getD 57 0, t.getD 58 0, t.getD 59 0, t.getD 60 0, t.getD 61 0, t.getD 62 0, t.getD 63 0, t.getD 64 0, t.getD 65 0, t.getD 66 0, t.getD 67 0, t.getD 68 0, t.getD 69 0, t.getD 70 0, t.getD 71 0, t.getD 72 0, t.getD 73 0, t.getD 74 0, t.getD 75 0, t.getD 76 0, t.getD 77 0, t.getD 78 0, t.getD 79 0, t.getD 80 0, t.getD 81 0, t.getD 82 0, t.getD 83 0, t.getD 84 0, t.getD 85 0, t.getD 86 0, t.getD 87 0, t.getD 88 0, t.getD 89 0, t.getD 90 0, t.getD 91 0, t.getD 92 0, t.getD 93 0, t.getD 94 0, t.getD 95 0] = (List.range 96).map (fun k => t.getD k 0) := rfl
      simp only [this, List.getElem_map, List.getElem_range]
    rw [e i (by omega), List.getD_eq_getElem?_getD, List.getElem?_eq_getElem h1]
    rfl
theorem run_ok (t : List Int) (ht : t.length = 96) : (Qa (Q3l 8 4 (Qfc ++ t)).1 [] 87).2.2.2 = 0 := by
  rw [list96 t ht]
  exact run87 _ _ _ _ _ _ _ _ _ _ _ _ _ _ _ _ _ _ _ _ _ _ _ _ _ _ _ _ _ _ _ _ _ _ _ _ _ _ _ _ _ _ _ _ _ _ _ _ _ _ _ _ _ _ _ _ _ _ _ _ _ _ _ _ _ _ _ _ _ _ _ _ _ _ _ _ _ _ _ _ _ _ _ _ _ _ _ _ _ _ _ _ _ _ _ _
theorem pad_len : Qfc.length = 160 := by
  have h : boot.length ≤ 160 := asm_ok.1
  unfold Qfc
  rw [List.length_append, List.length_replicate]; omega
theorem runN8_w {P : Nat} {m : Q00} (h : okM P m) : (Qas m [] 87).w (fun x => x.2.2.2 = 0 → okM P x.1) := by
  have z : ∀ {k : Int} {p : Prop}, k ≠ 0 → k = 0 → p := fun a b => absurd b a
  unfold Qas
  refine w_lv fun x0 _ => w_br (fun _ => z (by decide)) fun _ => w_br (fun _ => z (by decide)) fun _ => w_br (fun _ => z (by decide)) fun _ => w_an (show Q5e [] by show ([] : List Q1t).length ≤ 1000000000000; decide) (w_lv fun x1 _ => w_br (fun _ => z (by decide)) fun _ => Q0c (own7_w h) fun x2 hx => ?_)
  have hc := h.cnt
  refine w_lp (inv := fun v : Q00 × List Q09 => okM P v.1 ∧ v.2.length + (87 - v.1.Count).toNat ≤ 87) (μ := Qhn m [] 87) ⟨hx.1, by rw [hx.2]; show 0 + _ ≤ 87; omega⟩ (Nat.lt_succ_self _) fun v0 ⟨a1, a3⟩ => ?_
  have a2 := a1.cnt
  refine w_br (fun hb => w_br (fun _ => ?_) (fun _ => fun _ => a1)) (fun _ => fun _ => a1)
  have hb := of_decide_eq_true hb
  refine w_lp (inv := fun _ => True) (μ := Qi1 m [] 87 v0) trivial (Nat.lt_succ_self _) fun v1 _ => ?_
  refine w_br (fun _ => fun _ => a1) fun _ => Q0c (idle_w _) fun x3 _ => w_br (fun _ => fun _ => a1) fun _ => Q0c (reads_w a1.cpu a1.mem) fun x4 _ => w_br (fun _ => z (by decide)) fun _ => Q0c (Ze a1 U_0) fun x5 h5 => ?_
  obtain ⟨b1, b2, b3⟩ := h5
  refine w_cn (decide_eq_true (by omega)) (w_nx ?_)
  have e : x5.2.Count = v0.1.Count + 1 := by rw [b3, IntKind.wrap_u64]; omega
  show (_ ∧ _) ∧ (_ : Nat) < _
  refine ⟨⟨b2, by show (v0.2 ++ x5.1).length + (87 - x5.2.Count).toNat ≤ 87; rw [List.length_append]; omega⟩, by show (87 - x5.2.Count).toNat < (87 - v0.1.Count).toNat; omega⟩
theorem Zec (kind : Int) (l : List Int) (hl : l.length * 8 ≤ reachBytes) (h40 : l.length ≤ 40) : (Q7e kind l).w (okM 8) := by
  unfold Q7e
  refine w_an (Q2u (by decide)) (w_lv fun x0 hx0 => w_br (fun _ => w_an asm_pre (w_lv fun x1 e1 => ?_)) (fun hk => ?_))
  · have eb : x1.1 = boot := by rw [e1]; rfl
    obtain ⟨q1, q2⟩ : boot.length ≤ 160 ∧ ∀ w ∈ boot, U w := asm_ok
    refine w_lp (inv := fun v : List Int => v.length ≤ 160 ∧ v = boot ++ List.replicate (v.length - boot.length) 0) (μ := Qee kind l) ⟨by rw [eb]; exact q1, by rw [eb]; simp⟩ (Nat.lt_succ_self _) fun v0 ⟨a1, a2⟩ => ?_
    have a3 : boot.length ≤ v0.length := by rw [a2, List.length_append]; omega
    refine w_br (fun hb => ?_) (fun hb => ?_)
    · have hb := of_decide_eq_true hb
      refine w_cn (decide_eq_true (by omega)) (w_nx ?_)
      show (_ ∧ _) ∧ (_ : Nat) < _
      refine ⟨⟨by rw [List.length_append, List.length_singleton]; omega, ?_⟩, by show 160 - (v0 ++ [0]).length < 160 - v0.length; rw [List.length_append, List.length_singleton]; omega⟩
      show v0 ++ [0] = boot ++ List.replicate ((v0 ++ [0]).length - boot.length) 0
      rw [List.length_append, List.length_singleton, show v0.length + 1 - boot.length = (v0.length - boot.length) + 1 by omega, List.replicate_succ', ← List.append_assoc, ← a2]
    · have hb := of_decide_eq_false hb
      have hv : v0 = Qfc := by
        unfold Qfc
        rw [show (160 : Nat) = v0.length by omega]
        exact a2
      subst hv
      have hp := pad_len
      have hu0 : ∀ w ∈ Qfc, U w := fun w hw => (List.mem_append.1 hw).elim (q2 w) (U_all _ w)
      refine Q0c (code_w l hl) fun x2 ⟨b1, b2⟩ => w_cn (decide_eq_true (by omega)) ?_
      have hu : ∀ w ∈ Qfc ++ x2, U w := fun w hw => (List.mem_append.1 hw).elim (hu0 w) (b2 w)
      have hlen : (Qfc ++ x2).length ≤ 256 := by rw [List.length_append]; omega
      refine w_br (fun hb => ?_) (fun hb => ?_)
      · have hb := of_decide_eq_true hb; omega
      · have nw := Tree.pp (new_w _ hu hlen)
        refine w_an nw.1 (w_lv fun x3 h3 => ?_)
        have c1 : okM 8 x3.1 := by rw [h3]; exact nw.2.1
        have rn := Tree.pp (runN8_w c1)
        refine w_br (fun _ => w_an rn.1 (w_lv fun x4 hx => ?_)) (fun _ => c1)
        have e : x3 = Q3l 8 4 (Qfc ++ (x2 ++ List.replicate (96 - x2.length) 0)) := by
          rw [h3]
          have hl2 : (x2 ++ List.replicate (96 - x2.length) (0 : Int)).length = 96 := by rw [List.length_append, List.length_replicate]; omega
          refine new_mem _ _ hlen (by rw [List.length_append, hl2]; omega) ?_
          rw [List.length_append, List.length_append, hl2, hp, List.append_assoc, List.append_assoc, List.append_assoc, show 256 - (160 + 96) = 0 by omega, show 256 - (160 + x2.length) = 96 - x2.length by omega]
          simp
        have h0 : x4.2.2.2 = 0 := by
          rw [hx, e]
          exact run_ok _ (by rw [List.length_append, List.length_replicate]; omega)
        exact (by rw [hx]; exact rn.2 : x4.2.2.2 = 0 → okM 8 x4.1) h0
  · have hk := of_decide_eq_false hk
    refine Q0c (code_w l hl) fun x2 ⟨b1, b2⟩ => w_cn (decide_eq_true (by omega)) ?_
    refine w_br (fun hb => ?_) (fun hb => ?_)
    · have hb := of_decide_eq_true hb; omega
    · have nw := Tree.pp (new_w _ b2 (by omega))
      refine w_an nw.1 (w_lv fun x3 h3 => ?_)
      have c1 : okM 8 x3.1 := by rw [h3]; exact nw.2.1
      exact w_br (fun h => absurd (eq_of_beq h) (by omega)) (fun _ => c1)
theorem Zej (kind : Int) (l acts : List Int) (hl : l.length * 8 ≤ reachBytes) (h40 : l.length ≤ 40) (ha : acts.length ≤ 30) : (Q7f kind l acts).w (okM 8) := by
  unfold Q7f
  exact Q0c (Zec kind l hl h40) fun x0 h => Q0c (play_w h acts ha) fun x1 hx => hx.m
end Go.Proofs.YtdkiadhigcfmkaaGreat
namespace Go.Proofs.YtdkiadhigcfmkaaGreat
open Go Go.GD
set_option linter.unusedVariables false
set_option linter.unusedSimpArgs false
set_option maxRecDepth 100000
structure okW (m : Q00) : Prop where
  cpu : Q1v m.Cpu
  u : ∀ w ∈ m.Mem, U w
  len : m.Mem.length ≤ 1024
  disk : Q6d m.Disk
  nic : Qfe m.Nic
  bal : okB m.Balloon
  cnt : 0 ≤ m.Count
theorem Z9u {c : Q03} (h : Q1v c) {i : Nat} {v : Int} (hv : U v) {x : A8 Int} (hx : x = A8.of 0 (List.set (A8.l c.Csr) i v)) (p : Int) (hp : U p) : Q1v { X := c.X, Pc := p, Csr := x } := ⟨h.x, hp, by rw [hx]; exact Qox h.csr hv i⟩
theorem bend_w {P : Nat} {m : Q00} (h : okM P m) (hP : 1 ≤ P) (hc : 0 ≤ m.Count) (where0 what : Int) (hd : ∀ k : Int, 0 ≤ k → k ≤ 128 → Q2y what k) : (Qcz m where0 what).w okW := by
  unfold Qcz
  refine Q0c (own7_w h) fun x0 ⟨g, hct⟩ => w_an (Q2u (by decide)) (w_lv fun x1 _ => ?_)
  have hc : 0 ≤ x0.Count := by rw [hct]; exact hc
  obtain ⟨h1, h2, h3, h4, h5, _⟩ := g
  have hl := h2.len
  have hp2 := h2.p2
  have hlen : x0.Mem.length ≤ 1024 := by omega
  have hne : (x0.Mem.length : Int) ≠ 0 := by omega
  have rr : ∀ k : Int, 0 < k → k ≤ 1000000 → 0 ≤ Q1e what k ∧ Q1e what k < k := fun k a b => Qxo a (by omega)
  have rl := rr x0.Mem.length (by omega) (by omega)
  have C : ∀ c, Q1v c → okW { Cpu := c, Mem := x0.Mem, Console := x0.Console, Timer := x0.Timer, Disk := x0.Disk, Nic := x0.Nic, Balloon := x0.Balloon, Count := x0.Count, Waiting := x0.Waiting, Halted := x0.Halted } := fun c a => ⟨a, h2.u, hlen, h3, h4, h5, hc⟩
  have M : ∀ l : List Int, (∀ w ∈ l, U w) → l.length ≤ 1024 → okW { Cpu := x0.Cpu, Mem := l, Console := x0.Console, Timer := x0.Timer, Disk := x0.Disk, Nic := x0.Nic, Balloon := x0.Balloon, Count := x0.Count, Waiting := x0.Waiting, Halted := x0.Halted } := fun l a b => ⟨h1, a, b, h3, h4, h5, hc⟩
  have D : ∀ d, Q6d d → okW { Cpu := x0.Cpu, Mem := x0.Mem, Console := x0.Console, Timer := x0.Timer, Disk := d, Nic := x0.Nic, Balloon := x0.Balloon, Count := x0.Count, Waiting := x0.Waiting, Halted := x0.Halted } := fun d a => ⟨h1, h2.u, hlen, a, h4, h5, hc⟩
  have N : ∀ n, Qfe n → okW { Cpu := x0.Cpu, Mem := x0.Mem, Console := x0.Console, Timer := x0.Timer, Disk := x0.Disk, Nic := n, Balloon := x0.Balloon, Count := x0.Count, Waiting := x0.Waiting, Halted := x0.Halted } := fun n a => ⟨h1, h2.u, hlen, h3, a, h5, hc⟩
  refine w_br (fun _ => C _ (h1.pcs (Q0m _))) fun _ => ?_
  refine w_br (fun _ => w_an (Q2u (by decide)) (w_lv fun x2 e2 => w_cn (by rw [e2]; exact rc (rr 16 (by decide) (by decide))) (C _ ⟨Z4i h1.x (Q0m _) _, h1.pc, h1.csr⟩))) fun _ => ?_
  refine w_br (fun _ => w_an (Q2u (by decide)) (w_lv fun x3 e3 => w_cn (by rw [e3]; have := rr 8 (by decide) (by decide); simp [Nat.blt]; omega) (C _ ⟨h1.x, h1.pc, Qox h1.csr (U_shr (Q0m _) _) _⟩))) fun _ => ?_
  refine w_br (fun _ => C _ (Z9u h1 (i := 0) (Qfw _ _) rfl _ h1.pc)) fun _ => ?_
  refine w_br (fun _ => C _ (Z9u h1 (i := 7) (Qfw _ _) rfl _ h1.pc)) fun _ => ?_
  refine w_br (fun _ => w_an (Q2u hne) (w_lv fun x4 e4 => w_cn (by rw [e4]; simp [Nat.blt]; omega) (M _ (Z1x h2.u (Q0m _) _) (by rw [List.length_set]; exact hlen)))) fun _ => ?_
  refine w_br (fun _ => w_an (Q2u hne) (w_lv fun x5 e5 => w_an (Z3b _) (w_lv fun x6 _ => w_lv fun x7 e7 => w_cn (by rw [e5]; simp [Nat.blt]; omega) (M _ (Z1x h2.u (by rw [e7]; exact Zbe _) _) (by rw [List.length_set]; exact hlen))))) fun _ => ?_
  refine w_br (fun _ => w_an (Q2u (by decide)) (w_lv fun x8 e8 => w_an (hd _ (by rw [e8]; exact (rr 18 (by decide) (by decide)).1) (by rw [e8]; have := (rr 18 (by decide) (by decide)).2; omega)) (w_lv fun x9 _ => ⟨h1, h2.u, hlen, h3, h4, h5, hc⟩))) fun _ => ?_
  refine w_br (fun _ => ⟨h1, h2.u, hlen, h3, h4, h5, hc⟩) fun _ => ?_
  refine w_br (fun _ => D _ ⟨h3.block, h3.frame, h3.opBlock, h3.opFrame⟩) fun _ => ?_
  refine w_br (fun _ => w_br (fun _ => w_an (hd _ (by decide) (by decide)) (w_lv fun x10 _ => D _ ⟨U_0, U_0, Qfw _ _, Qfw _ _⟩)) (fun _ => D _ ⟨U_0, U_0, Qfw _ _, Qfw _ _⟩)) fun _ => ?_
  refine w_br (fun _ => D _ ⟨Qfw _ _, Qfw _ _, h3.opBlock, h3.opFrame⟩) fun _ => ?_
  refine w_br (fun _ => N _ ⟨Qfw _ _, Qfw _ _, Qfw _ _, U_0⟩) fun _ => ?_
  refine w_br (fun _ => N _ ⟨U_0, U_0, U_0, Qfw _ _⟩) fun _ => ?_
  refine w_br (fun _ => ⟨h1, h2.u, hlen, h3, h4, ⟨Qfw _ _, Qfw _ _⟩, hc⟩) fun _ => ?_
  refine w_br (fun _ => ⟨h1, h2.u, hlen, h3, h4, h5, hc⟩) fun _ => ?_
  refine w_br (fun _ => ⟨h1, h2.u, hlen, h3, h4, h5, hc⟩) fun _ => ?_
  refine w_br (fun _ => ⟨h1, h2.u, hlen, h3, h4, h5, by show 0 ≤ IntKind.u64.wrap what; rw [IntKind.wrap_u64]; omega⟩) fun _ => ?_
  refine w_br (fun _ => w_an (Q2u hne) (w_lv fun x11 e11 => w_cn (by rw [e11]; simp [Nat.blt]; omega) (M _ (fun w hw => h2.u w (List.mem_of_mem_drop (List.mem_of_mem_take hw))) (by rw [List.length_take, List.length_drop]; omega)))) fun _ => ?_
  refine w_br (fun _ => ⟨h1, h2.u, hlen, h3, h4, h5, by show 0 ≤ IntKind.u64.wrap _; rw [IntKind.wrap_u64]; omega⟩) fun _ => ?_
  refine w_br (fun _ => C _ (Z9u h1 (i := 6) (Qfw _ _) rfl _ h1.pc)) fun _ => ?_
  exact w_br (fun _ => C _ (h1.pcs (Q0m _))) (fun _ => ⟨h1, h2.u, hlen, h3, h4, h5, hc⟩)
end Go.Proofs.YtdkiadhigcfmkaaGreat
namespace Go.Proofs.YtdkiadhigcfmkaaGreat
open Go Go.GD
attribute [local irreducible] Q57
set_option linter.unusedVariables false
set_option linter.unusedSimpArgs false
set_option maxRecDepth 100000
theorem outs_w (a : List Q09) (ha : a.length ≤ 1) : (Q2q a a).w (fun b => b = true) := by
  unfold Q2q
  refine w_br (fun h => by simp at h) (fun _ => ?_)
  refine w_lp (inv := fun v : Int => 0 ≤ v ∧ v ≤ a.length) (μ := Q3k a a) ⟨by omega, by omega⟩ (Nat.lt_succ_self _) fun v ⟨h1, h2⟩ => ?_
  refine w_br (fun hb => ?_) (fun _ => rfl)
  have hb := of_decide_eq_true hb
  have e : IntKind.i64.wrap (v + 1) = v + 1 := by rw [IntKind.wrap_i64]; omega
  refine w_cn (by simp [Nat.blt]; omega) (w_cn (by simp [Nat.blt]; omega) (w_br (fun h => by simp [eqs, eq1] at h) (fun _ => w_nx ?_)))
  show (_ ∧ _) ∧ (_ : Nat) < _
  exact ⟨⟨by rw [e]; omega, by rw [e]; omega⟩, by show (a.length - IntKind.i64.wrap (v + 1)).toNat < (a.length - v).toNat; rw [e]; omega⟩
theorem reads_w0 {P : Nat} {m : Q00} (h : okS P m) : (Q21 m).w (fun _ => True) := by
  unfold Q21
  exact Q0c (runsP_w h.given) fun _ _ => w_br (fun _ => trivial) (fun _ => Q0c (beginP_w h) fun x1 h1 => Q0c (execP_w h1.cpu h1.mem) fun x2 _ => w_br (fun _ => trivial) (fun _ => trivial))
theorem pages_mem {m : List Int} (hu : ∀ w ∈ m, U w) (h : Q0r m ≠ 0) : ∃ P, Q19 P m := by
  simp only [Q0r, Q5g, Tree.m] at h
  cases h1 : (Int.tmod (m.length : Int) 32 != 0)
  · cases h2 : decide ((m.length : Int) > 1024)
    · have h1 : Int.tmod (m.length : Int) 32 = 0 := by simpa using h1
      have h2 := of_decide_eq_false h2
      rw [Int.tmod_eq_emod_of_nonneg (by omega)] at h1
      exact ⟨m.length / 32, by omega, by omega, by omega, hu⟩
    · rw [h1, h2] at h; exact absurd rfl h
  · rw [h1] at h; exact absurd rfl h
theorem few_both {l acts : List Int} {x0 : Bool} (hx0 : x0 = Qtw l acts) (hb : (!x0) = false) : l.length ≤ 40 ∧ acts.length ≤ 30 := by
  have hb : x0 = true := by simpa using hb
  rw [hb] at hx0
  simp only [Qtw, Qqs, Tree.m] at hx0
  cases h1 : decide ((l.length : Int) ≤ 40) <;> rw [h1] at hx0
  · cases hx0
  · have := of_decide_eq_true hx0.symm
    have := of_decide_eq_true h1
    omega
theorem keeps (kind : Int) (l acts : List Int) (where0 what one two : Int) (hl : l.length * 8 ≤ reachBytes) (u1 : U one) (u2 : U two) : Q99 kind l acts where0 what one two ∧ Q8u kind l acts where0 what one two = true := by
  have aw : ∀ x, x = Q1r → x = true := fun x e => e.trans Z0w
  refine Tree.pp (W := fun r => r = true) ?_
  unfold Q4j
  refine w_lv fun x0 hx0 => w_br (fun _ => w_an Qb7 (w_lv aw)) fun hb => ?_
  obtain ⟨f1, f2⟩ := few_both hx0 hb
  refine Q0c (Zej kind l acts hl f1 f2) fun x2 h2 => ?_
  refine Q0c (bend_w h2 (by decide) h2.cnt where0 what (fun k a b => by show k ≤ 1000000000000; omega)) fun x3 h3 => ?_
  refine w_an (Tree.pp (Z6n h3.bal.2)).1 (w_lv fun x4 h4 => w_br (fun _ => w_an Qb7 (w_lv aw)) fun hm => ?_)
  have hm : Q0v x3 = true := by
    have : x4 = true := by simpa using hm
    exact h4.symm.trans this
  obtain ⟨g1, g2, g3, g4, g5⟩ := (Zai x3).1 hm
  obtain ⟨P, hP⟩ := pages_mem h3.u g1
  have ok : okS P x3 := ⟨h3.cpu, hP, h3.disk, h3.nic, h3.bal.1, h3.bal.2⟩
  have okm : okM P x3 := ⟨h3.cpu, hP, h3.disk, h3.nic, h3.bal, h3.cnt⟩
  have s1 := Tree.pp (step_w0 ok h3.cnt u1)
  have s2 := Tree.pp (step_w0 ok h3.cnt u2)
  refine w_an s1.1 (w_lv fun x6 e6 => w_an s2.1 (w_lv fun x7 e7 => Q0c (event_w what) fun x8 h8 => ?_))
  obtain ⟨o6, d6⟩ : x6.2.length ≤ 1 ∧ Good P x3 x6.1 := by rw [e6]; exact s1.2
  have ap := Tree.pp (apply_w0 okm h8)
  refine w_an ap.1 (w_lv fun x9 e9 => ?_)
  obtain ⟨a1, a2, a3⟩ : (Q0v x3 = true → Q0v x9.1 = true) ∧ x9.1.Count = x3.Count ∧ U x9.1.Balloon.Given := by rw [e9]; exact ap.2
  have rd := Tree.pp (reads_w0 ok)
  have l3 : x3.Mem.length ≤ 1000000000000 := by have := h3.len; omega
  have l6 : x6.1.Mem.length ≤ 1000000000000 := by have := d6.ok.mem.len; have := d6.ok.mem.p2; omega
  refine w_an (Tree.pp (Z6n d6.ok.given)).1 (w_lv fun x10 h10 => w_br (fun h => ?_) fun _ => ?_)
  · have e : x10 = true := h10.trans (d6.may hm)
    rw [e] at h; cases h
  refine w_an (Tree.pp (Z6n a3)).1 (w_lv fun x11 h11 => w_br (fun h => ?_) fun _ => ?_)
  · have e : x11 = true := h11.trans (a1 hm)
    rw [e] at h; cases h
  refine w_br (fun h => ?_) fun _ => ?_
  · rw [a2] at h; simp at h
  have tail : (Tree.an (Q5s x3) (.lv (Q2r x3) fun (x13 : Bool) => .br x13 (.an Q1 (.lv Q1r fun (x14 : Bool) => .lf x14)) (.an (Q2s x6.1 x7.1) (.lv (Qay x6.1 x7.1) fun (x15 : Bool) => .br x15 (.an (Q2v x6.2 x7.2) (.lv (Qbi x6.2 x7.2) fun (x16 : Bool) => .br x16 (.an Q1 (.lv Q1r fun (x17 : Bool) => .lf x17)) (.lf false))) (.lf false))))).w (fun r => r = true) := by
    refine w_an rd.1 (w_lv fun x13 h13 => w_br (fun _ => w_an Qb7 (w_lv aw)) fun hr => ?_)
    have hr : Q2r x3 = false := h13.symm.trans hr
    have e67 : x7 = x6 := by rw [e7, e6]; exact Ze7 hr _ _
    subst e67
    refine Q0c (msame_w _ l6) fun x15 h15 => w_br (fun _ => ?_) (fun h => by rw [h15] at h; cases h)
    refine w_an (by show x7.2.length ≤ 1000000000000; omega) (w_lv fun x16 h16 => ?_)
    have h16 : x16 = true := by rw [h16]; exact (Tree.pp (outs_w _ o6)).2
    exact w_br (fun _ => w_an Qb7 (w_lv aw)) (fun h => by rw [h16] at h; cases h)
  refine w_br (fun h => ?_) (fun _ => tail)
  have ex : x6.1 = x3 := by
    rcases d6.or with h' | h'
    · exact h'
    · have e : IntKind.u64.wrap (x3.Count + 1) = x3.Count + 1 := by rw [IntKind.wrap_u64]; have := h3.cnt; omega
      rw [e, h'] at h; simp at h
  have sm := Tree.pp (msame_w x3 l3)
  refine w_an (by rw [ex]; exact sm.1) (w_lv fun x12 h12 => w_br (fun h => ?_) (fun _ => tail))
  have : x12 = true := by rw [h12, ex]; exact sm.2
  rw [this] at h; cases h
end Go.Proofs.YtdkiadhigcfmkaaGreat

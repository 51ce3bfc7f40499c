/-
  Memories as bytes: pages.
-/
import Derived.Test.YtfihpfnndbolpaaPrecopyTellsPb
import Derived.Test.YtfihpfnndbolpaaPrecopyTellsPc
namespace Go.Proofs.Ytfihpfnndbolpaa
open Go Go.GD
set_option linter.unusedVariables false
set_option linter.unusedSimpArgs false
set_option maxRecDepth 100000
def U (x : Int) : Prop := 0 ≤ x ∧ x < 4294967296
theorem U_wrap (x : Int) : U (IntKind.u32.wrap x) := by rw [IntKind.wrap_u32]; unfold U; omega
theorem U_and (x y : Int) : U (iand .u32 x y) := U_wrap _
theorem U_or (x y : Int) : U (ior .u32 x y) := U_wrap _
theorem U_0 : U 0 := ⟨by omega, by omega⟩
theorem set_U {m : List Int} (h : ∀ w ∈ m, U w) {v : Int} (hv : U v) (i : Nat) : ∀ w ∈ m.set i v, U w := by
  intro w hw
  rcases List.mem_or_eq_of_mem_set hw with h1 | h1
  · exact h w h1
  · rw [h1]; exact hv
structure okMem (P : Nat) (m : List Int) : Prop where
  len : m.length = 32 * P
  p1 : 0 ≤ P
  p2 : P ≤ 32
  u : ∀ w ∈ m, U w
theorem getD_U {l : List Int} (h : ∀ w ∈ l, U w) (i : Nat) : U (l.getD i 0) := by
  by_cases hi : i < l.length
  · have : l.getD i 0 = l[i] := by simp [List.getD, hi]
    rw [this]; exact h _ (List.getElem_mem hi)
  · have : l.getD i 0 = 0 := by simp [List.getD, List.getElem?_eq_none (by omega : l.length ≤ i)]
    rw [this]; exact U_0
section
variable {P : Nat} {m : List Int} (h : okMem P m)
include h
theorem clone_w : slices_Clone_uint32_uint32_pre m := by
  have := h.len
  have := h.p2
  show m.length ≤ 35184372088832
  omega
end
theorem pages_eq {P : Nat} {m : List Int} (h : okMem P m) : ref1_Pages m = P := by
  obtain ⟨h1, h2, h3, _⟩ := h
  simp only [ref1_Pages, ref1_Pages_t, Tree.m]
  have e : (m.length : Int) = 32 * P := by omega
  rw [e]
  have e1 : (Int.tmod (32 * (P : Int)) 32 != 0) = false := by simp [Int.mul_tmod_right]
  have e2 : decide ((32 * (P : Int)) > 1024) = false := decide_eq_false (by omega)
  rw [e1, e2]
  simp only [cond_false]
  rw [Int.mul_tdiv_cancel_left _ (by decide), IntKind.wrap_i64]; omega
theorem put_w {P : Nat} {m : List Int} (h : okMem P m) {addr size v : Int} (ha : U addr) (hl : addr < 4 * m.length) (hv : U v) : (ref1_Put_t m addr size v).w (okMem P) := by
  obtain ⟨h1, h2, h3, h4⟩ := h
  obtain ⟨a1, a2⟩ := ha
  have e : IntKind.wrap IntKind.u32 (Int.tdiv addr 4) = addr / 4 := by rw [IntKind.wrap_u32, Int.tdiv_eq_ediv_of_nonneg a1]; omega
  have hc : (Nat.beq 1 1 && Nat.blt 0 1 && decide (0 ≤ IntKind.wrap IntKind.u32 (Int.tdiv addr 4) ∧ IntKind.wrap IntKind.u32 (Int.tdiv addr 4) < (m.length : Int))) = true := by
    rw [e]; simp [Nat.blt]; omega
  have h0 : ∀ x, decide (0 ≤ IntKind.wrap IntKind.u32 x) = true := fun x => decide_eq_true (U_wrap x).1
  have hs : ∀ i v, U v → okMem P (m.set i v) := fun i v hv => ⟨by simp [h1], h2, h3, set_U h4 hv i⟩
  unfold ref1_Put_t
  exact w_br (fun _ => w_cn hc (hs _ _ hv)) (fun _ => w_cn hc (w_cn (h0 _) (w_cn (h0 _) (w_cn hc (hs _ _ (U_or _ _))))))
theorem bytesOf_len (l : List Int) : (bytesOf l).length = l.length := by simp [bytesOf]
theorem bytesI_len (l : List UInt8) : (bytesI l).length = l.length := by simp [bytesI]
theorem w0 (x : Int) : 0 ≤ IntKind.u64.wrap x := by rw [IntKind.wrap_u64]; omega
theorem getDset (l : List Int) (i j : Nat) (v : Int) (h : i ≠ j) : (l.set i v).getD j 0 = l.getD j 0 := by
  simp only [List.getD_eq_getElem?_getD, List.getElem?_set_ne h]
theorem mpages_eq {P : Nat} {m : List Int} (h : okMem P m) : memory_Pages m = P := by
  obtain ⟨h1, h2, h3, _⟩ := h
  simp only [memory_Pages, memory_Pages_t, Tree.m]
  have e : (m.length : Int) = 32 * P := by omega
  rw [e]
  have e1 : (Int.tmod (32 * (P : Int)) 32 != 0) = false := by simp [Int.mul_tmod_right]
  have e2 : decide ((32 * (P : Int)) > 1024) = false := decide_eq_false (by omega)
  rw [e1, e2]
  simp only [cond_false]
  rw [Int.mul_tdiv_cancel_left _ (by decide), IntKind.wrap_i64]; omega
theorem shr_eq {a : Int} (k : Nat) (hk : k ≤ 32) : ishr .u32 a k = a / 2 ^ k := by
  unfold ishr
  have e : min (k : Int).toNat IntKind.u32.bits = k := by show min (k : Int).toNat 32 = k; omega
  have hp : (0 : Int) < 2 ^ k := Int.pow_pos (by decide)
  rw [e, Int.fdiv_eq_ediv_of_nonneg _ (Int.le_of_lt hp)]
theorem toNat32 {a : Int} (h : U a) : (BitVec.ofInt 32 a).toNat = a.toNat := by
  obtain ⟨h1, h2⟩ := h
  rw [BitVec.toNat_ofInt]; omega
theorem or_nat {a b : Int} (ha : U a) (hb : U b) : ior .u32 a b = ((a.toNat ||| b.toNat : Nat) : Int) := by
  have l := (BitVec.ofInt 32 a ||| BitVec.ofInt 32 b).isLt
  have e : (BitVec.ofInt 32 a ||| BitVec.ofInt 32 b).toNat = a.toNat ||| b.toNat := by rw [BitVec.toNat_or, toNat32 ha, toNat32 hb]
  show IntKind.wrap .u32 ((BitVec.ofInt 32 a ||| BitVec.ofInt 32 b).toNat : Int) = _
  rw [IntKind.wrap_u32, ← e]; omega
theorem shr0 (a : Int) : ishr .u32 a 0 = a := by have := shr_eq (a := a) 0 (by decide); simpa using this
theorem put_nat (x v : BitVec 32) (s : Nat) (hs : s ≤ 24) : ((x &&& ~~~(255#32 <<< s)) ||| ((v &&& 255#32) <<< s)).toNat = 2^(s+8) * (x.toNat / 2^(s+8)) + (2^s * (v.toNat % 256) + x.toNat % 2^s) := by
  have hx := x.isLt
  have h1 : x.toNat % 2^s < 2^s := Nat.mod_lt _ (Nat.two_pow_pos s)
  have h2 : 2^s * (v.toNat % 256) + x.toNat % 2^s < 2^(s+8) := by
    have : v.toNat % 256 < 256 := Nat.mod_lt _ (by decide)
    have h3 : 2^s * (v.toNat % 256) ≤ 2^s * 255 := Nat.mul_le_mul_left _ (by omega)
    have : 2^(s+8) = 2^s * 256 := by rw [Nat.pow_add]
    omega
  rw [Nat.two_pow_add_eq_or_of_lt h2, Nat.two_pow_add_eq_or_of_lt h1]
  apply Nat.eq_of_testBit_eq
  intro i
  rw [BitVec.testBit_toNat]
  simp only [BitVec.getLsbD_or, BitVec.getLsbD_and, BitVec.getLsbD_not, BitVec.getLsbD_shiftLeft, Nat.testBit_or, Nat.testBit_two_pow_mul, Nat.testBit_mod_two_pow, Nat.testBit_div_two_pow, BitVec.getLsbD_ofNat]
  have e255 : ∀ j, Nat.testBit 255 j = decide (j < 8) := fun j => by
    rw [show 255 = 2^8 - 1 from rfl, Nat.testBit_two_pow_sub_one]
  have e256 : ∀ n j, Nat.testBit (n % 256) j = (decide (j < 8) && Nat.testBit n j) := fun n j => by
    rw [show 256 = 2^8 from rfl, Nat.testBit_mod_two_pow]
  rw [e255, e256]
  by_cases hi : i < 32
  · by_cases a1 : i < s
    · have a2 : ¬ (s ≤ i) := by omega
      have a3 : ¬ (s + 8 ≤ i) := by omega
      simp [hi, a1, a2, a3, BitVec.getLsbD]
    · by_cases a4 : s + 8 ≤ i
      · have a2 : ¬ (i - s < 8) := by omega
        have a5 : i - (s+8) + (s+8) = i := by omega
        have a6 : s ≤ i := by omega
        simp [hi, a1, a2, a4, a5, a6, BitVec.getLsbD]
      · have a2 : (i - s < 8) := by omega
        have a6 : s ≤ i := by omega
        have a7 : i - s < 32 := by omega
        simp [hi, a1, a2, a4, a6, a7, BitVec.getLsbD]
  · have a0 : x.toNat.testBit i = false := Nat.testBit_lt_two_pow (Nat.lt_of_lt_of_le hx (Nat.pow_le_pow_right (by decide) (by omega)))
    have a1 : ¬ (i < s) := by omega
    have a2 : ¬ (i - s < 8) := by omega
    have a4 : s + 8 ≤ i := by omega
    have a5 : i - (s+8) + (s+8) = i := by omega
    simp [hi, a0, a1, a2, a4, a5]
theorem ofInt_back (b : BitVec 32) : BitVec.ofInt 32 (IntKind.wrap .u32 (b.toNat : Int)) = b := by
  have := b.isLt
  rw [IntKind.wrap_u32]
  apply BitVec.eq_of_toNat_eq
  rw [BitVec.toNat_ofInt]; omega
theorem ofInt_wrap (x : Int) : BitVec.ofInt 32 (IntKind.wrap .u32 x) = BitVec.ofInt 32 x := by
  apply BitVec.eq_of_toNat_eq
  rw [BitVec.toNat_ofInt, BitVec.toNat_ofInt, IntKind.wrap_u32]
  have : ((2 ^ 32 : Nat) : Int) = 4294967296 := by decide
  rw [this, Int.emod_emod_of_dvd _ (Int.dvd_refl _)]
theorem ofInt_shl {x : Int} (hx : U x) (s : Nat) (hs : s ≤ 32) : BitVec.ofInt 32 (ishl .u32 x s) = BitVec.ofInt 32 x <<< s := by
  obtain ⟨n, rfl⟩ : ∃ n : Nat, x = n := ⟨x.toNat, by have := hx.1; omega⟩
  have e : min (Int.toNat (s : Int)) IntKind.u32.bits = s := by show min (Int.toNat (s : Int)) 32 = s; omega
  unfold ishl
  rw [e, ofInt_wrap]
  have e2 : ((n : Int) * 2 ^ s) = ((n * 2 ^ s : Nat) : Int) := by simp
  have := hx.2
  rw [e2, BitVec.ofInt_natCast, BitVec.ofInt_natCast]
  apply BitVec.eq_of_toNat_eq
  rw [BitVec.toNat_shiftLeft, BitVec.toNat_ofNat, BitVec.toNat_ofNat, Nat.shiftLeft_eq, Nat.mod_mul_mod]
def putW (W v : Int) (s : Nat) : Int := ior .u32 (iandn .u32 W (ishl .u32 255 s)) (ishl .u32 (iand .u32 v 255) s)
theorem put_num {W v : Int} (hW : U W) (hv : U v) (s : Nat) (hs : s ≤ 24) : putW W v s = 2 ^ (s + 8) * (W / 2 ^ (s + 8)) + (2 ^ s * (v % 256) + W % 2 ^ s) := by
  have e := put_nat (BitVec.ofInt 32 W) (BitVec.ofInt 32 v) s hs
  have l := ((BitVec.ofInt 32 W &&& ~~~(255#32 <<< s)) ||| ((BitVec.ofInt 32 v &&& 255#32) <<< s)).isLt
  have h1 : BitVec.ofInt 32 (iandn .u32 W (ishl .u32 255 s)) = BitVec.ofInt 32 W &&& ~~~(255#32 <<< s) := by
    show BitVec.ofInt 32 (IntKind.wrap .u32 (BitVec.ofInt 32 W &&& ~~~ BitVec.ofInt 32 (ishl .u32 255 s)).toNat) = _
    rw [ofInt_back, ofInt_shl ⟨by decide, by decide⟩ s (by omega)]
    rfl
  have h2 : BitVec.ofInt 32 (ishl .u32 (iand .u32 v 255) s) = (BitVec.ofInt 32 v &&& 255#32) <<< s := by
    rw [ofInt_shl (U_and _ _) s (by omega)]
    congr 1
    show BitVec.ofInt 32 (IntKind.wrap .u32 (BitVec.ofInt 32 v &&& BitVec.ofInt 32 255).toNat) = _
    rw [ofInt_back]; rfl
  show IntKind.wrap .u32 ((BitVec.ofInt 32 (iandn .u32 W (ishl .u32 255 s)) ||| BitVec.ofInt 32 (ishl .u32 (iand .u32 v 255) s)).toNat : Int) = _
  rw [h1, h2]
  have lw : IntKind.wrap .u32 ((((BitVec.ofInt 32 W &&& ~~~(255#32 <<< s)) ||| ((BitVec.ofInt 32 v &&& 255#32) <<< s)).toNat : Nat) : Int) = (((BitVec.ofInt 32 W &&& ~~~(255#32 <<< s)) ||| ((BitVec.ofInt 32 v &&& 255#32) <<< s)).toNat : Nat) := by rw [IntKind.wrap_u32]; omega
  rw [lw, e, toNat32 hW, toNat32 hv]
  obtain ⟨n, rfl⟩ : ∃ n : Nat, W = n := ⟨W.toNat, by have := hW.1; omega⟩
  obtain ⟨k, rfl⟩ : ∃ n : Nat, v = n := ⟨v.toNat, by have := hv.1; omega⟩
  simp
def dig (w : Int) (k : Nat) : Int := if k = 0 then w % 256 else if k = 1 then w / 256 % 256 else if k = 2 then w / 65536 % 256 else w / 16777216 % 256
def byt (m : List Int) (a : Nat) : Int := dig (m.getD (a / 4) 0) (a % 4)
theorem dig_lt (w : Int) (k : Nat) : 0 ≤ dig w k ∧ dig w k < 256 := by
  unfold dig
  split
  · omega
  · split
    · omega
    · split <;> omega
theorem dig_ext {w v : Int} (hw : U w) (hv : U v) (h : ∀ k, k < 4 → dig w k = dig v k) : w = v := by
  have h0 := h 0 (by omega)
  have h1 := h 1 (by omega)
  have h2 := h 2 (by omega)
  have h3 := h 3 (by omega)
  simp [dig] at h0 h1 h2 h3
  obtain ⟨a, b⟩ := hw
  obtain ⟨c, d⟩ := hv
  omega
theorem byt_ext {m n : List Int} (hl : m.length = n.length) (hm : ∀ w ∈ m, U w) (hn : ∀ w ∈ n, U w) (h : ∀ a, byt m a = byt n a) : m = n := by
  refine List.ext_getElem hl fun i h1 h2 => ?_
  have e1 : m[i] = m.getD i 0 := by simp [List.getD, h1]
  have e2 : n[i] = n.getD i 0 := by simp [List.getD, h2]
  rw [e1, e2]
  refine dig_ext (getD_U hm i) (getD_U hn i) fun k hk => ?_
  have := h (4 * i + k)
  simp only [byt] at this
  rwa [show (4 * i + k) / 4 = i by omega, show (4 * i + k) % 4 = k by omega] at this
theorem getD_set_self {l : List Int} {i : Nat} (h : i < l.length) (v : Int) : (l.set i v).getD i 0 = v := by
  simp [List.getD, h]
theorem byt_set {m : List Int} {i : Nat} (hi : i < m.length) (v : Int) (a : Nat) : byt (m.set i v) a = if a / 4 = i then dig v (a % 4) else byt m a := by
  unfold byt
  split
  · rename_i h; rw [h, getD_set_self hi]
  · rename_i h; rw [getDset _ _ _ _ (fun e => h e.symm)]
theorem put_dig {W v : Int} (hW : U W) (hv : U v) {j : Nat} (hj : j < 4) {k : Nat} (hk : k < 4) : dig (putW W v (8 * j)) k = if k = j then v % 256 else dig W k := by
  have h := put_num hW hv (8 * j) (by omega)
  rw [h]
  obtain ⟨w0, w1⟩ := hW
  have h0 : 0 ≤ v % 256 := by omega
  have h1 : v % 256 < 256 := by omega
  generalize v % 256 = b at *
  clear h
  have hj : j = 0 ∨ j = 1 ∨ j = 2 ∨ j = 3 := by omega
  have hk : k = 0 ∨ k = 1 ∨ k = 2 ∨ k = 3 := by omega
  rcases hj with rfl | rfl | rfl | rfl <;> rcases hk with rfl | rfl | rfl | rfl <;> simp [dig] <;> omega
theorem puts_eq {m : List Int} {a v : Int} (ha : U a) : ref1_Put m a 1 v = m.set (a / 4).toNat (putW (m.getD (a / 4).toNat 0) v (8 * (a % 4).toNat)) := by
  obtain ⟨a0, a1⟩ := ha
  have e1 : IntKind.wrap .u32 (Int.tdiv a 4) = a / 4 := by rw [IntKind.wrap_u32, Int.tdiv_eq_ediv_of_nonneg a0]; omega
  have e2 : IntKind.wrap .u32 (8 * Int.tmod a 4) = ((8 * (a % 4).toNat : Nat) : Int) := by rw [IntKind.wrap_u32, Int.tmod_eq_emod_of_nonneg a0]; omega
  have e3 : ((1 : Int) == 4) = false := rfl
  simp only [ref1_Put, ref1_Put_t, Tree.m, e1, e2, e3, cond_false]
  rfl
theorem puts_byte {P : Nat} {m : List Int} (h : okMem P m) {a v : Int} (ha : U a) (hl : a < 128 * P) (hv : U v) : okMem P (ref1_Put m a 1 v) ∧ ∀ b : Nat, byt (ref1_Put m a 1 v) b = if (b : Int) = a then v % 256 else byt m b := by
  have hlen := h.len
  have a0 := ha.1
  rw [puts_eq ha]
  have hi : (a / 4).toNat < m.length := by omega
  refine ⟨⟨by rw [List.length_set]; exact hlen, h.p1, h.p2, set_U h.u (U_or _ _) _⟩, fun b => ?_⟩
  rw [byt_set hi]
  by_cases hb : b / 4 = (a / 4).toNat
  · rw [if_pos hb, put_dig (getD_U h.u _) hv (by omega) (by omega)]
    by_cases hc : b % 4 = (a % 4).toNat
    · rw [if_pos hc, if_pos (by omega)]
    · rw [if_neg hc, if_neg (by omega), byt, hb]
  · rw [if_neg hb, if_neg (by omega)]
theorem fill_b {P : Nat} {m : List Int} (h : okMem P m) {frame : Int} (f0 : 0 ≤ frame) (f1 : frame < P) (s : List UInt8) : (ref1_Fill_t m frame s).w (fun r => okMem P r ∧ ∀ b : Nat, byt r b = if frame * 128 ≤ b ∧ (b : Int) < frame * 128 + min s.length 128 then ((s.getD (b - frame * 128).toNat 0).toNat : Int) else byt m b) := by
  unfold ref1_Fill_t
  have h3 := h.p2
  refine w_lp (inv := fun z => 0 ≤ z.1 ∧ z.1 ≤ min s.length 128 ∧ okMem P z.2 ∧ ∀ b : Nat, byt z.2 b = if frame * 128 ≤ b ∧ (b : Int) < frame * 128 + z.1 then ((s.getD (b - frame * 128).toNat 0).toNat : Int) else byt m b) (μ := ref1_Fill_meas0 m frame s) ⟨show (0 : Int) ≤ 0 by decide, by show (0 : Int) ≤ _; omega, h, fun b => by rw [if_neg]; show ¬ (_ ∧ _ < _ + (0 : Int)); omega⟩ (Nat.lt_succ_self _) (fun v0 hv0 => ?_)
  obtain ⟨i, mm⟩ := v0
  obtain ⟨i0, i1, hm, hy⟩ := hv0
  have i0 : 0 ≤ i := i0
  have i1 : i ≤ min s.length 128 := i1
  have hm : okMem P mm := hm
  have fin : ∀ r : List Int, r = mm → i = min s.length 128 → okMem P r ∧ ∀ b : Nat, byt r b = if frame * 128 ≤ b ∧ (b : Int) < frame * 128 + min s.length 128 then ((s.getD (b - frame * 128).toNat 0).toNat : Int) else byt m b := fun r hr hi => by
    subst hr; refine ⟨hm, fun b => ?_⟩
    rw [hy b]; simp only [hi]
  refine w_br (fun h1 => w_br (fun h2 => w_cn ?_ ?_) (fun h2 => fin mm rfl ?_)) (fun h1 => fin mm rfl ?_)
  · have := of_decide_eq_true h1
    simp [Nat.blt]; omega
  · have h1 : i < s.length := of_decide_eq_true h1
    have h2 : i < 128 := of_decide_eq_true h2
    have e : IntKind.wrap IntKind.u32 (IntKind.wrap IntKind.i64 (IntKind.wrap IntKind.i64 (frame * 128) + i)) = frame * 128 + i := by
      rw [IntKind.wrap_u32, IntKind.wrap_i64, IntKind.wrap_i64]; omega
    show (Tree.an (ref1_Put_pre mm (IntKind.wrap IntKind.u32 (IntKind.wrap IntKind.i64 (IntKind.wrap IntKind.i64 (frame * 128) + i))) 1 _) (Tree.lv _ _)).w _
    rw [e]
    have hu : U (frame * 128 + i) := ⟨by omega, by omega⟩
    have hvU : ∀ n : Nat, U (IntKind.wrap .u32 (n : Int)) := fun n => U_wrap _
    obtain ⟨g1, _⟩ := Tree.pp (put_w hm (size := 1) (addr := frame * 128 + i) hu (by rw [hm.len]; omega) (hvU (UInt8.toNat (List.getD s (Int.toNat i) 0))))
    obtain ⟨g2, g3⟩ := puts_byte hm hu (by omega) (hvU (UInt8.toNat (List.getD s (Int.toNat i) 0)))
    refine w_an g1 (w_lv fun x0 hx0 => ?_)
    rw [hx0]
    have ew : IntKind.i64.wrap (i + 1) = i + 1 := by rw [IntKind.wrap_i64]; omega
    refine w_nx ?_
    show (0 ≤ IntKind.i64.wrap (i + 1) ∧ IntKind.i64.wrap (i + 1) ≤ min s.length 128 ∧ okMem P _ ∧ ∀ b : Nat, byt _ b = if frame * 128 ≤ b ∧ (b : Int) < frame * 128 + IntKind.i64.wrap (i + 1) then _ else _) ∧ (128 - IntKind.i64.wrap (i + 1)).toNat < (128 - i).toNat
    rw [ew]
    refine ⟨⟨by omega, by omega, g2, fun b => ?_⟩, by omega⟩
    rw [show ref1_Put mm (frame * 128 + i) 1 _ = _ from rfl, g3 b]
    by_cases hb : (b : Int) = frame * 128 + i
    · rw [if_pos hb, if_pos (by omega), IntKind.wrap_u32]
      have := (List.getD s (Int.toNat i) 0).toNat_lt
      rw [show (b - frame * 128).toNat = i.toNat by omega]; omega
    · rw [if_neg hb, hy b]
      show (if frame * 128 ≤ (b : Int) ∧ (b : Int) < frame * 128 + i then _ else _) = _
      by_cases hc : frame * 128 ≤ (b : Int) ∧ (b : Int) < frame * 128 + i
      · rw [if_pos hc, if_pos (by omega)]
      · rw [if_neg hc, if_neg (by omega)]
  · have h1 : i < s.length := of_decide_eq_true h1
    have h2 : ¬ i < 128 := of_decide_eq_false h2
    omega
  · have h1 : ¬ i < s.length := of_decide_eq_false h1
    omega
theorem or_add {x y : Int} (hx : U x) (hy : U y) (k : Nat) (hk : x < 2 ^ k) (h : x + y * 2 ^ k < 4294967296) : ior .u32 x (y * 2 ^ k) = x + y * 2 ^ k := by
  obtain ⟨n, rfl⟩ : ∃ n : Nat, x = n := ⟨x.toNat, by have := hx.1; omega⟩
  obtain ⟨z, rfl⟩ : ∃ n : Nat, y = n := ⟨y.toNat, by have := hy.1; omega⟩
  have e : ((z : Int) * 2 ^ k) = ((z * 2 ^ k : Nat) : Int) := by simp
  rw [e] at h ⊢
  have hn : n < 2 ^ k := by exact_mod_cast hk
  rw [or_nat hx ⟨by omega, by omega⟩, Int.toNat_natCast, Int.toNat_natCast, Nat.or_comm, Nat.mul_comm, ← Nat.two_pow_add_eq_or_of_lt hn]
  omega
theorem four {a b c d : Int} (ha : 0 ≤ a ∧ a < 256) (hb : 0 ≤ b ∧ b < 256) (hc : 0 ≤ c ∧ c < 256) (hd : 0 ≤ d ∧ d < 256) : ior .u32 (ior .u32 (ior .u32 (IntKind.wrap .u32 a) (ishl .u32 (IntKind.wrap .u32 b) 8)) (ishl .u32 (IntKind.wrap .u32 c) 16)) (ishl .u32 (IntKind.wrap .u32 d) 24) = a + b * 2 ^ 8 + c * 2 ^ 16 + d * 2 ^ 24 := by
  have w : ∀ {x : Int}, 0 ≤ x ∧ x < 256 → IntKind.wrap .u32 x = x := fun hx => by rw [IntKind.wrap_u32]; omega
  have s8 : ∀ {x : Int}, 0 ≤ x ∧ x < 256 → ishl .u32 x 8 = x * 2 ^ 8 := fun {x} hx => by show IntKind.wrap .u32 (x * 2 ^ 8) = _; rw [IntKind.wrap_u32]; omega
  have s16 : ∀ {x : Int}, 0 ≤ x ∧ x < 256 → ishl .u32 x 16 = x * 2 ^ 16 := fun {x} hx => by show IntKind.wrap .u32 (x * 2 ^ 16) = _; rw [IntKind.wrap_u32]; omega
  have s24 : ∀ {x : Int}, 0 ≤ x ∧ x < 256 → ishl .u32 x 24 = x * 2 ^ 24 := fun {x} hx => by show IntKind.wrap .u32 (x * 2 ^ 24) = _; rw [IntKind.wrap_u32]; omega
  rw [w ha, w hb, w hc, w hd, s8 hb, s16 hc, s24 hd]
  rw [or_add ⟨by omega, by omega⟩ ⟨by omega, by omega⟩ 8 (by omega) (by omega), or_add ⟨by omega, by omega⟩ ⟨by omega, by omega⟩ 16 (by omega) (by omega), or_add ⟨by omega, by omega⟩ ⟨by omega, by omega⟩ 24 (by omega) (by omega)]
theorem four_dig {a b c d : Int} (ha : 0 ≤ a ∧ a < 256) (hb : 0 ≤ b ∧ b < 256) (hc : 0 ≤ c ∧ c < 256) (hd : 0 ≤ d ∧ d < 256) (k : Nat) (hk : k < 4) : dig (a + b * 2 ^ 8 + c * 2 ^ 16 + d * 2 ^ 24) k = if k = 0 then a else if k = 1 then b else if k = 2 then c else d := by
  have hk : k = 0 ∨ k = 1 ∨ k = 2 ∨ k = 3 := by omega
  rcases hk with rfl | rfl | rfl | rfl <;> simp [dig] <;> omega
theorem has_iff {P : Nat} {m : List Int} (h : okMem P m) (f : Int) : memory_hasPage m f = decide (0 ≤ f ∧ f < P) := by
  have hp := mpages_eq h
  simp only [memory_hasPage, memory_hasPage_t, Tree.m, letv, hp]
  by_cases h1 : 0 ≤ f
  · rw [decide_eq_true h1]; simp [h1]
  · rw [decide_eq_false h1]; simp [h1]
theorem getD_cut (s : List UInt8) (a b k : Nat) (h : k < b) : (List.take b (List.drop a s)).getD k 0 = s.getD (a + k) 0 := by
  simp [List.getD_eq_getElem?_getD, List.getElem?_take, h]
theorem u8I (x : UInt8) : 0 ≤ (x.toNat : Int) ∧ (x.toNat : Int) < 256 := by have := x.toNat_lt; omega
theorem setPage_b {P : Nat} {m : List Int} (h : okMem P m) {f : Int} (f0 : 0 ≤ f) (f1 : f < P) {s : List UInt8} (hs : s.length = 128) : (memory_SetPage_t m f s).w (fun r => r.2 = true ∧ okMem P r.1 ∧ ∀ b : Nat, byt r.1 b = if f * 128 ≤ b ∧ (b : Int) < f * 128 + 128 then ((s.getD (b - f * 128).toNat 0).toNat : Int) else byt m b) := by
  have hcl : slices_Clone_uint32_uint32 m = m := rfl
  have h2 := h.p2
  unfold memory_SetPage_t
  refine w_an (clone_w h) (w_lv fun x0 hx0 => w_lv fun x1 hx1 => ?_)
  rw [hcl] at hx0; subst hx0
  rw [has_iff h, decide_eq_true ⟨f0, f1⟩] at hx1
  subst hx1
  refine w_br (fun hb => by cases hb) fun _ => w_br (fun hb => by simp [hs] at hb) fun _ => ?_
  refine w_lp (inv := fun z : Int × List Int => 0 ≤ z.1 ∧ z.1 ≤ 32 ∧ okMem P z.2 ∧ ∀ b : Nat, byt z.2 b = if f * 128 ≤ b ∧ (b : Int) < f * 128 + 4 * z.1 then ((s.getD (b - f * 128).toNat 0).toNat : Int) else byt x0 b) (μ := memory_SetPage_meas0 x0 f s) ⟨show (0 : Int) ≤ 0 by decide, show (0 : Int) ≤ 32 by decide, h, fun b => by rw [if_neg]; show ¬ (_ ∧ _ < _ + 4 * (0 : Int)); omega⟩ (Nat.lt_succ_self _) fun z ⟨z1, z2, z3, z4⟩ => ?_
  refine w_br (fun hb => ?_) (fun hb => ⟨rfl, z3, fun b => ?_⟩)
  · have hb := of_decide_eq_true hb
    have e1 : IntKind.i64.wrap (4 * z.1) = 4 * z.1 := by rw [IntKind.wrap_i64]; omega
    have e2 : IntKind.i64.wrap (IntKind.i64.wrap (4 * z.1) + 4) = 4 * z.1 + 4 := by rw [IntKind.wrap_i64, IntKind.wrap_i64]; omega
    have e3 : IntKind.i64.wrap (IntKind.i64.wrap (f * 32) + z.1) = f * 32 + z.1 := by rw [IntKind.wrap_i64, IntKind.wrap_i64]; omega
    have hl := z3.len
    have cut : Int.toNat (IntKind.i64.wrap (IntKind.i64.wrap (4 * z.1) + 4)) - Int.toNat (IntKind.i64.wrap (4 * z.1)) = 4 := by rw [e2, e1]; omega
    have hlen : (List.take (Int.toNat (IntKind.i64.wrap (IntKind.i64.wrap (4 * z.1) + 4)) - Int.toNat (IntKind.i64.wrap (4 * z.1))) (List.drop (Int.toNat (IntKind.i64.wrap (4 * z.1))) s)).length = 4 := by
      rw [cut, e1, List.length_take, List.length_drop]; omega
    refine w_cn (decide_eq_true (by rw [e2, e1]; omega)) ?_
    refine w_cn (decide_eq_true (by rw [hlen]; decide)) (w_cn (decide_eq_true (by rw [hlen]; decide)) (w_cn (decide_eq_true (by rw [hlen]; decide)) (w_cn (decide_eq_true (by rw [hlen]; decide)) (w_cn (by rw [e3]; simp [Nat.blt]; omega) (w_nx ?_)))))
    have ew : IntKind.i64.wrap (z.1 + 1) = z.1 + 1 := by rw [IntKind.wrap_i64]; omega
    rw [cut]
    refine ⟨⟨by show 0 ≤ IntKind.i64.wrap (z.1 + 1); rw [ew]; omega, by show IntKind.i64.wrap (z.1 + 1) ≤ 32; rw [ew]; omega, ?_, ?_⟩, by show (32 - IntKind.i64.wrap (z.1 + 1)).toNat < (32 - z.1).toNat; rw [ew]; omega⟩
    · show okMem P (List.set _ _ _)
      exact ⟨by rw [List.length_set]; exact hl, z3.p1, z3.p2, set_U z3.u (U_or _ _) _⟩
    · intro b
      show byt (List.set z.2 (Int.toNat (IntKind.i64.wrap (IntKind.i64.wrap (f * 32) + z.1))) _) b = if f * 128 ≤ (b : Int) ∧ (b : Int) < f * 128 + 4 * IntKind.i64.wrap (z.1 + 1) then _ else _
      rw [e3, ew, four (u8I _) (u8I _) (u8I _) (u8I _), byt_set (by omega)]
      have g : ∀ k : Nat, k < 4 → (List.take 4 (List.drop (Int.toNat (IntKind.i64.wrap (4 * z.1))) s)).getD k 0 = s.getD ((4 * z.1).toNat + k) 0 := fun k hk => by rw [e1]; exact getD_cut _ _ _ _ hk
      by_cases hc : b / 4 = (f * 32 + z.1).toNat
      · have hin : f * 128 ≤ (b : Int) ∧ (b : Int) < f * 128 + 4 * (z.1 + 1) := by omega
        rw [if_pos hc, four_dig (u8I _) (u8I _) (u8I _) (u8I _) _ (by omega), if_pos hin]
        have hb4 : b % 4 = 0 ∨ b % 4 = 1 ∨ b % 4 = 2 ∨ b % 4 = 3 := by omega
        have gi : (b - f * 128).toNat = (4 * z.1).toNat + b % 4 := by omega
        rw [gi]
        rcases hb4 with h4 | h4 | h4 | h4 <;> rw [h4]
        · rw [if_pos rfl, ← g 0 (by omega)]; rfl
        · rw [if_neg (by decide), if_pos rfl, ← g 1 (by omega)]; rfl
        · rw [if_neg (by decide), if_neg (by decide), if_pos rfl, ← g 2 (by omega)]; rfl
        · rw [if_neg (by decide), if_neg (by decide), if_neg (by decide), ← g 3 (by omega)]; rfl
      · rw [if_neg hc, z4 b]
        by_cases hd : f * 128 ≤ (b : Int) ∧ (b : Int) < f * 128 + 4 * z.1
        · rw [if_pos hd, if_pos (by omega)]
        · rw [if_neg hd, if_neg (by omega)]
  · have hb := of_decide_eq_false hb
    show byt z.2 b = _
    rw [z4 b, show z.1 = 32 by omega]
    rfl
theorem getD_app {α : Type} (l l2 : List α) (k : Nat) (z : α) : (l ++ l2).getD k z = if k < l.length then l.getD k z else l2.getD (k - l.length) z := by
  simp only [List.getD_eq_getElem?_getD, List.getElem?_append]
  split <;> rfl
theorem u8w {x : Int} : IntKind.wrap .u8 x = x % 256 := IntKind.wrap_u8 x
theorem shr_c (W : Int) : ishr .u32 W 8 = W / 256 ∧ ishr .u32 W 16 = W / 65536 ∧ ishr .u32 W 24 = W / 16777216 := by
  refine ⟨?_, ?_, ?_⟩
  · show Int.fdiv W 256 = _; rw [Int.fdiv_eq_ediv_of_nonneg _ (by decide)]
  · show Int.fdiv W 65536 = _; rw [Int.fdiv_eq_ediv_of_nonneg _ (by decide)]
  · show Int.fdiv W 16777216 = _; rw [Int.fdiv_eq_ediv_of_nonneg _ (by decide)]
theorem b4d (W : Int) {k : Nat} (hk : k < 4) : [IntKind.wrap .u8 W, IntKind.wrap .u8 (ishr .u32 W 8), IntKind.wrap .u8 (ishr .u32 W 16), IntKind.wrap .u8 (ishr .u32 W 24)].getD k 0 = dig W k := by
  obtain ⟨a, b, c⟩ := shr_c W
  have hk : k = 0 ∨ k = 1 ∨ k = 2 ∨ k = 3 := by omega
  rcases hk with rfl | rfl | rfl | rfl <;> simp [dig, a, b, c, u8w]
theorem bytesOf_getD (l : List Int) (k : Nat) (h : 0 ≤ l.getD k 0 ∧ l.getD k 0 < 256) (hk : k < l.length) : (((bytesOf l).getD k 0).toNat : Int) = l.getD k 0 := by
  have e : (bytesOf l).getD k 0 = UInt8.ofNat (l.getD k 0).toNat := by
    simp [bytesOf, List.getD_eq_getElem?_getD, hk]
  rw [e, UInt8.toNat_ofNat']
  omega
theorem bytesI_getD (l : List UInt8) (k : Nat) (hk : k < l.length) : (bytesI l).getD k 0 = ((l.getD k 0).toNat : Int) := by
  simp [bytesI, List.getD_eq_getElem?_getD, hk]
theorem text_b (w : List Int) (h : w.length ≤ 32) : (memory_text_t w).w (fun r => r.length = 4 * w.length ∧ ∀ k : Nat, k < 4 * w.length → ((r.getD k 0).toNat : Int) = dig (w.getD (k / 4) 0) (k % 4)) := by
  have e0 : IntKind.i64.wrap (4 * (w.length : Int)) = 4 * w.length := by rw [IntKind.wrap_i64]; omega
  unfold memory_text_t
  refine w_cn (by rw [e0]; simp [Nat.blt, D.plain]; omega) ?_
  refine w_lp (inv := fun z : Int × List Int => 0 ≤ z.1 ∧ z.1 ≤ w.length ∧ (z.2.length : Int) = 4 * z.1 ∧ ∀ k : Nat, (k : Int) < 4 * z.1 → z.2.getD k 0 = dig (w.getD (k / 4) 0) (k % 4)) (μ := memory_text_meas0 w) ⟨by decide, by show (0 : Int) ≤ w.length; omega, rfl, fun k hk => by have hk : (k : Int) < 4 * 0 := hk; omega⟩ (Nat.lt_succ_self _) fun z ⟨z1, z2, z3, z4⟩ => ?_
  refine w_br (fun hb => ?_) (fun hb => ?_)
  · have hb := of_decide_eq_true hb
    have ew : IntKind.i64.wrap (z.1 + 1) = z.1 + 1 := by rw [IntKind.wrap_i64]; omega
    refine w_cn (by simp [Nat.blt]; omega) (w_cn (decide_eq_true (by omega)) (w_nx ?_))
    show (_ ∧ _ ∧ _ ∧ ∀ k : Nat, (k : Int) < 4 * IntKind.i64.wrap (z.1 + 1) → (z.2 ++ _).getD k 0 = _) ∧ (_ : Nat) < _
    refine ⟨⟨by rw [ew]; omega, by rw [ew]; omega, by rw [ew, List.length_append]; simp only [List.length_cons, List.length_nil]; omega, fun k hk => ?_⟩, by show (w.length - IntKind.i64.wrap (z.1 + 1)).toNat < (w.length - z.1).toNat; rw [ew]; omega⟩
    rw [ew] at hk
    rw [getD_app]
    split
    · exact z4 k (by omega)
    · rename_i hn
      rw [b4d _ (by omega), show z.1.toNat = k / 4 by omega, show k - z.2.length = k % 4 by omega]
  · have hb := of_decide_eq_false hb
    show (bytesOf z.2).length = _ ∧ ∀ k : Nat, _ → (((bytesOf z.2).getD k 0).toNat : Int) = _
    refine ⟨by rw [bytesOf_len]; omega, fun k hk => ?_⟩
    have e := z4 k (by omega)
    have := dig_lt (w.getD (k / 4) 0) (k % 4)
    rw [bytesOf_getD _ _ (by rw [e]; exact this) (by omega), e]
def isPg (m : List Int) (f : Int) (r : List UInt8) : Prop := r.length = 128 ∧ ∀ k : Nat, k < 128 → ((r.getD k 0).toNat : Int) = byt m ((f * 128).toNat + k)
theorem pg_ext {m : List Int} {f : Int} {r s : List UInt8} (a : isPg m f r) (b : isPg m f s) : r = s := by
  obtain ⟨a1, a2⟩ := a
  obtain ⟨b1, b2⟩ := b
  refine List.ext_getElem (by omega) fun i h1 h2 => ?_
  have e := (a2 i (by omega)).trans (b2 i (by omega)).symm
  have e1 : r[i] = r.getD i 0 := by simp [List.getD, h1]
  have e2 : s[i] = s.getD i 0 := by simp [List.getD, h2]
  rw [e1, e2]
  exact UInt8.toNat_inj.1 (by omega)
theorem mpage_b {P : Nat} {m : List Int} (h : okMem P m) {f : Int} (f0 : 0 ≤ f) (f1 : f < P) : (memory_Page_t m f).w (fun r => isPg m f r.1 ∧ r.2 = true) := by
  have hl := h.len
  have h2 := h.p2
  unfold memory_Page_t
  refine w_lv fun x0 hx0 => ?_
  rw [has_iff h, decide_eq_true ⟨f0, f1⟩] at hx0
  subst hx0
  refine w_br (fun hb => by cases hb) (fun hb => ?_)
  have e1 : IntKind.i64.wrap (f * 32) = f * 32 := by rw [IntKind.wrap_i64]; omega
  have e2 : IntKind.i64.wrap (IntKind.i64.wrap (f * 32) + 32) = f * 32 + 32 := by rw [IntKind.wrap_i64, IntKind.wrap_i64]; omega
  have cut : Int.toNat (IntKind.i64.wrap (IntKind.i64.wrap (f * 32) + 32)) - Int.toNat (IntKind.i64.wrap (f * 32)) = 32 := by rw [e2, e1]; omega
  have hlen : (List.take 32 (List.drop (Int.toNat (IntKind.i64.wrap (f * 32))) m)).length = 32 := by
    rw [e1, List.length_take, List.length_drop]; omega
  refine w_cn (by rw [e2, e1]; simp [Nat.blt]; omega) ?_
  rw [cut]
  refine w_an (by show List.length _ ≤ 1000000000000; rw [hlen]; decide) (w_lv fun x1 h1 => ?_)
  have t := (Tree.pp (text_b _ (Nat.le_of_eq hlen))).2
  rw [hlen, show (memory_text_t (List.take 32 (List.drop (Int.toNat (IntKind.i64.wrap (f * 32))) m))).m = x1 from h1.symm] at t
  refine ⟨⟨t.1, fun k hk => ?_⟩, rfl⟩
  show ((x1.getD k 0).toNat : Int) = _
  rw [t.2 k hk, byt, e1]
  have g : (List.take 32 (List.drop (Int.toNat (f * 32)) m)).getD (k / 4) 0 = m.getD ((f * 32).toNat + k / 4) 0 := by
    simp [List.getD_eq_getElem?_getD, List.getElem?_take, show k / 4 < 32 by omega]
  rw [g, show ((f * 128).toNat + k) / 4 = (f * 32).toNat + k / 4 by omega, show ((f * 128).toNat + k) % 4 = k % 4 by omega]
theorem low_eq (x : Int) : ref1_Low x 4 = bytesOf [IntKind.wrap .u8 (ishr .u32 x 0), IntKind.wrap .u8 (ishr .u32 x 8), IntKind.wrap .u8 (ishr .u32 x 16), IntKind.wrap .u8 (ishr .u32 x 24)] := by kernel_rfl
theorem rpage_b {P : Nat} {m : List Int} (hm : okMem P m) {frame : Int} (f0 : 0 ≤ frame) (f1 : frame < P) : (ref1_Page_t m frame).w (fun r => isPg m frame r.1 ∧ r.2 = true) := by
  have hp := pages_eq hm
  have hl := hm.len
  have h2 := hm.p2
  unfold ref1_Page_t
  refine w_br (fun h => by have := of_decide_eq_true h; omega) (fun h => w_lv fun x0 hx => w_br (fun h1 => by have := of_decide_eq_true h1; rw [hx, hp] at this; omega) (fun h1 => ?_))
  refine w_lp (inv := fun z : Int × List Int => 0 ≤ z.1 ∧ z.1 ≤ 32 ∧ (z.2.length : Int) = 4 * z.1 ∧ ∀ k : Nat, (k : Int) < 4 * z.1 → z.2.getD k 0 = byt m ((frame * 128).toNat + k)) (μ := ref1_Page_meas0 m frame) ⟨by decide, by decide, rfl, fun k hk => by have hk : (k : Int) < 4 * 0 := hk; omega⟩ (Nat.lt_succ_self _) (fun z hz => ?_)
  obtain ⟨z1, z2, z3, z4⟩ := hz
  refine w_br (fun hb => ?_) (fun hb => ?_)
  · have hb := of_decide_eq_true hb
    have e : IntKind.wrap IntKind.i64 (IntKind.wrap IntKind.i64 (frame * 32) + z.1) = frame * 32 + z.1 := by rw [IntKind.wrap_i64, IntKind.wrap_i64]; omega
    refine w_cn (by rw [e]; simp [Nat.blt]; omega) (w_an (show (4 : Int) ≤ 1000000000000 by decide) (w_lv fun x1 h4 => ?_))
    rw [low_eq, shr0, e] at h4
    have l4 : x1.length = 4 := by rw [h4]; rfl
    refine w_cn (decide_eq_true (by rw [bytesI_len, l4]; omega)) (w_nx ?_)
    show (0 ≤ IntKind.i64.wrap (z.1 + 1) ∧ IntKind.i64.wrap (z.1 + 1) ≤ 32 ∧ ((z.2 ++ bytesI x1).length : Int) = 4 * IntKind.i64.wrap (z.1 + 1) ∧ ∀ k : Nat, (k : Int) < 4 * IntKind.i64.wrap (z.1 + 1) → (z.2 ++ bytesI x1).getD k 0 = _) ∧ (32 - IntKind.i64.wrap (z.1 + 1)).toNat < (32 - z.1).toNat
    have ew : IntKind.i64.wrap (z.1 + 1) = z.1 + 1 := by rw [IntKind.wrap_i64]; omega
    rw [ew]
    refine ⟨⟨by omega, by omega, by rw [List.length_append, bytesI_len, l4]; omega, fun k hk => ?_⟩, by omega⟩
    rw [getD_app]
    split
    · exact z4 k (by omega)
    · rename_i hn
      have hk4 : k - z.2.length < 4 := by omega
      rw [bytesI_getD _ _ (by omega), h4]
      have d := b4d (m.getD (frame * 32 + z.1).toNat 0) hk4
      rw [bytesOf_getD _ _ (by rw [d]; exact dig_lt _ _) (by simpa using hk4), d, byt]
      rw [show ((frame * 128).toNat + k) / 4 = (frame * 32 + z.1).toNat by omega, show ((frame * 128).toNat + k) % 4 = k - z.2.length by omega]
  · have hb := of_decide_eq_false hb
    refine ⟨⟨?_, fun k hk => ?_⟩, rfl⟩
    · show (bytesOf z.2).length = 128
      rw [bytesOf_len]; omega
    · show (((bytesOf z.2).getD k 0).toNat : Int) = _
      have e := z4 k (by omega)
      rw [bytesOf_getD _ _ (by rw [e]; exact dig_lt _ _) (by omega), e]
theorem page_same {P : Nat} {m : List Int} (h : okMem P m) (f : Int) : memory_Page m f = ref1_Page m f := by
  by_cases hf : 0 ≤ f ∧ f < P
  · have a := (Tree.pp (mpage_b h hf.1 hf.2)).2
    have b := (Tree.pp (rpage_b h hf.1 hf.2)).2
    exact Prod.ext (pg_ext a.1 b.1) (a.2.trans b.2.symm)
  · have hp := pages_eq h
    have e1 : memory_Page m f = ([], false) := by
      simp only [memory_Page, memory_Page_t, Tree.m, letv, has_iff h, decide_eq_false hf]; rfl
    have e2 : ref1_Page m f = ([], false) := by
      simp only [ref1_Page, ref1_Page_t, Tree.m, letv, hp]
      by_cases h0 : f < 0
      · rw [decide_eq_true h0]; rfl
      · rw [decide_eq_false h0, decide_eq_true (show f ≥ P by omega)]; rfl
    rw [e1, e2]
section
variable {P : Nat} {m : List Int} (h : okMem P m)
include h
theorem setPage_same {f : Int} (f0 : 0 ≤ f) (f1 : f < P) {s : List UInt8} (hs : s.length = 128) : memory_SetPage m f s = (ref1_Fill m f s, true) := by
  have a := (Tree.pp (setPage_b h f0 f1 hs)).2
  have b := (Tree.pp (fill_b h f0 f1 s)).2
  refine Prod.ext (byt_ext (a.2.1.len.trans b.1.len.symm) a.2.1.u b.1.u fun k => ?_) a.1
  have e : ((min s.length 128 : Nat) : Int) = 128 := by rw [hs]; rfl
  have b2 := b.2 k
  have a2 := a.2.2 k
  rw [e] at b2
  exact a2.trans b2.symm
end
end Go.Proofs.Ytfihpfnndbolpaa

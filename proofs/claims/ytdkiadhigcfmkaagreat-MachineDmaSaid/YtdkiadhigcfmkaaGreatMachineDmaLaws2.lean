/-
  A part of the proof.
-/
import Derived.Test.YtdkiadhigcfmkaaGreatMachineDmaYe
import Derived.Test.YtdkiadhigcfmkaaGreatMachineDmaZa
import Derived.Test.YtdkiadhigcfmkaaGreatMachineDmaZb
import Derived.Test.YtdkiadhigcfmkaaGreatMachineDmaZg
namespace Go.Proofs.YtdkiadhigcfmkaaGreat
open Go Go.GD
set_option linter.unusedVariables false
set_option linter.unusedSimpArgs false
set_option maxRecDepth 100000
def U (x : Int) : Prop := 0 ≤ x ∧ x < 4294967296
theorem U_wrap (x : Int) : U (IntKind.u32.wrap x) := by rw [IntKind.wrap_u32]; unfold U; omega
theorem U_and (x y : Int) : U (iand .u32 x y) := U_wrap _
theorem U_or (x y : Int) : U (ior .u32 x y) := U_wrap _
theorem U_0 : U 0 := ⟨by omega, by omega⟩
theorem set_U {m : List Int} (h : ∀ w ∈ m, U w) {v : Int} (hv : U v) (i : Nat) : ∀ w ∈ m.set i v, U w := by
  intro w hw
  rcases List.mem_or_eq_of_mem_set hw with h1 | h1
  · exact h w h1
  · rw [h1]; exact hv
structure okMem (P : Nat) (m : List Int) : Prop where
  len : m.length = 32 * P
  p1 : 0 ≤ P
  p2 : P ≤ 32
  u : ∀ w ∈ m, U w
structure okDisk (d : ApiDisk) : Prop where
  block : U d.Block
  frame : U d.Frame
  opBlock : U d.OpBlock
  opFrame : U d.OpFrame
structure okNic (n : ApiNic) : Prop where
  frame : U n.Frame
  len : U n.Len
  buffer : U n.Buffer
  got : U n.Got
theorem getD_U {l : List Int} (h : ∀ w ∈ l, U w) (i : Nat) : U (l.getD i 0) := by
  by_cases hi : i < l.length
  · have : l.getD i 0 = l[i] := by simp [List.getD, hi]
    rw [this]; exact h _ (List.getElem_mem hi)
  · have : l.getD i 0 = 0 := by simp [List.getD, List.getElem?_eq_none (by omega : l.length ≤ i)]
    rw [this]; exact U_0
structure okCpu (c : ApiCpu) : Prop where
  x : ∀ w ∈ A16.l c.X, U w
  pc : U c.Pc
  csr : ∀ w ∈ A8.l c.Csr, U w
theorem okX_set {X : A16 Int} (h : ∀ w ∈ A16.l X, U w) {v : Int} (hv : U v) (i : Nat) : ∀ w ∈ A16.l (A16.of 0 (List.set (A16.l X) i v)), U w := by
  have hs := set_U h hv i
  intro w hw
  simp only [A16.l, A16.of, List.mem_cons, List.not_mem_nil, or_false] at hw
  repeat (first | (rcases hw with rfl | hw; · exact getD_U hs _) | (subst hw; exact getD_U hs _))
theorem okCsr_set {X : A8 Int} (h : ∀ w ∈ A8.l X, U w) {v : Int} (hv : U v) (i : Nat) : ∀ w ∈ A8.l (A8.of 0 (List.set (A8.l X) i v)), U w := by
  have hs := set_U h hv i
  intro w hw
  simp only [A8.l, A8.of, List.mem_cons, List.not_mem_nil, or_false] at hw
  repeat (first | (rcases hw with rfl | hw; · exact getD_U hs _) | (subst hw; exact getD_U hs _))
section
variable {c : ApiCpu} (h : okCpu c)
include h
theorem okCpu.a (i : Nat) : U ((A8.l c.Csr).getD i 0) := getD_U h.csr i
theorem okCpu.r (i : Nat) : U ((A16.l c.X).getD i 0) := getD_U h.x i
theorem okCpu.a0 : U c.Csr.a0 := h.a 0
theorem okCpu.a1 : U c.Csr.a1 := h.a 1
theorem okCpu.a2 : U c.Csr.a2 := h.a 2
theorem okCpu.a3 : U c.Csr.a3 := h.a 3
theorem okCpu.a4 : U c.Csr.a4 := h.a 4
theorem okCpu.a5 : U c.Csr.a5 := h.a 5
theorem okCpu.a6 : U c.Csr.a6 := h.a 6
theorem okCpu.a7 : U c.Csr.a7 := h.a 7
theorem okCpu.pcs {p : Int} (hp : U p) : okCpu { X := c.X, Pc := p, Csr := c.Csr } := ⟨h.x, hp, h.csr⟩
end
section
variable {α β : Type} {W : β → Prop} {t : Tree α} {Q : α → Prop} {k : α → Tree β}
theorem w_call (hq : t.w Q) (g : ∀ x, Q x → (k x).w W) : (Tree.an t.p (Tree.lv t.m k)).w W := ⟨(Tree.pp hq).1, fun y hy => g y (by rw [hy]; exact (Tree.pp hq).2)⟩
theorem w_free (hq : t.w Q) (g : ∀ x, Q x → (k x).w W) : (Tree.lv t.m k).w W := fun y hy => g y (by rw [hy]; exact t.post hq)
end
theorem rc {r : Int} (h : 0 ≤ r ∧ r < 16) : (Nat.blt 0 1 && decide (0 ≤ r ∧ r < ((16 : Nat) : Int))) = true := by simp [Nat.blt]; omega
theorem U_shr {a : Int} (h : U a) (b : Int) : U (ishr .u32 a b) := by
  unfold ishr U
  obtain ⟨h1, h2⟩ := h
  have hp : (0 : Int) < 2 ^ (min b.toNat IntKind.u32.bits) := Int.pow_pos (by decide)
  have := Int.fdiv_nonneg h1 (Int.le_of_lt hp)
  refine ⟨this, ?_⟩
  rw [Int.fdiv_eq_ediv_of_nonneg _ (Int.le_of_lt hp)]
  have h3 := Int.ediv_le_self (2 ^ (min b.toNat IntKind.u32.bits)) h1
  omega
structure okInst (i : ApiInst) : Prop where
  a : 0 ≤ i.A ∧ i.A < 16
  b : 0 ≤ i.B ∧ i.B < 16
  c : 0 ≤ i.C ∧ i.C < 16
  csr : i.Op = 58 → 0 ≤ i.Imm ∧ i.Imm < 8
end Go.Proofs.YtdkiadhigcfmkaaGreat
namespace Go.Proofs.YtdkiadhigcfmkaaGreat
open Go Go.GD
set_option linter.unusedVariables false
set_option linter.unusedSimpArgs false
set_option maxRecDepth 100000
section
variable {P : Nat} {m : List Int} (h : okMem P m)
include h
theorem clone_w : slices_Clone_uint32_uint32_pre m := by
  have := h.len
  have := h.p2
  show m.length ≤ 35184372088832
  omega
end
end Go.Proofs.YtdkiadhigcfmkaaGreat
namespace Go.Proofs.YtdkiadhigcfmkaaGreat
open Go Go.GD
set_option linter.unusedVariables false
set_option linter.unusedSimpArgs false
set_option maxRecDepth 100000
section
variable {P : Nat} {m : List Int} (h : okMem P m)
include h
end
section
variable {c : ApiCpu} (h : okCpu c)
include h
end
section
variable {c : ApiCpu} (h : okCpu c) {i : ApiInst} (hi : okInst i)
include h hi
end
end Go.Proofs.YtdkiadhigcfmkaaGreat
namespace Go.Proofs.YtdkiadhigcfmkaaGreat
open Go Go.GD
set_option linter.unusedVariables false
set_option linter.unusedSimpArgs false
set_option maxRecDepth 100000
theorem shr_lt {a : Int} (h : U a) (k : Nat) (hk : k ≤ 32) : 0 ≤ ishr .u32 a k ∧ ishr .u32 a k * 2 ^ k ≤ a := by
  obtain ⟨h1, h2⟩ := h
  unfold ishr
  have e : min (k : Int).toNat IntKind.u32.bits = k := by show min (k : Int).toNat 32 = k; omega
  have hp : (0 : Int) < 2 ^ k := Int.pow_pos (by decide)
  rw [e, Int.fdiv_eq_ediv_of_nonneg _ (Int.le_of_lt hp)]
  exact ⟨Int.ediv_nonneg h1 (Int.le_of_lt hp), Int.ediv_mul_le a (Int.ne_of_gt hp)⟩
theorem u8_range (x : Int) : 0 ≤ IntKind.u8.wrap x ∧ IntKind.u8.wrap x < 256 := by rw [IntKind.wrap_u8]; omega
theorem len32_w {x : Int} (h : U x) : (math_bits_Len32_t x).w (fun _ => True) := by
  have s16 := shr_lt h 16 (by omega)
  have s8 := shr_lt h 8 (by omega)
  have s24 := shr_lt (U_shr h 16) 8 (by omega)
  obtain ⟨h1, h2⟩ := h
  unfold math_bits_Len32_t
  repeat' (first
    | refine w_br (fun _ => ?_) (fun _ => ?_)
    | refine w_cn (decide_eq_true ⟨?_, Int.lt_of_lt_of_le (b := 256) ?_ (Int.le_of_eq (by kernel_rfl))⟩) ?_
    | exact trivial
    | refine w_lf ?_)
  all_goals (first
    | trivial
    | exact (u8_range _).1
    | exact (u8_range _).2
    | (simp only [decide_eq_true_eq, decide_eq_false_iff_not] at *; simp at s16 s8 s24; omega))
structure okS (P : Nat) (m : ApiMachine) : Prop where
  cpu : okCpu m.Cpu
  mem : okMem P m.Mem
  disk : okDisk m.Disk
  nic : okNic m.Nic
  target : U m.Balloon.Target
  given : U m.Balloon.Given
theorem mayP_w {m : ApiMachine} (h : U m.Balloon.Given) : (machine_May_t m).w (fun _ => True) := by
  have b : ∀ x, (balloon_May_t m.Balloon x).w (fun _ => True) := fun x => by
    unfold balloon_May_t
    exact w_call (len32_w h) fun _ _ => trivial
  have d : (machine_mayDevices_t m).w (fun _ => True) := by
    unfold machine_mayDevices_t
    exact w_lv fun _ _ => w_lv fun _ _ => w_br (fun _ => w_lv fun _ _ => w_br (fun _ => w_lv fun _ _ => w_br (fun _ => w_lv fun _ _ => w_br (fun _ => w_call (b _) fun _ _ => trivial) (fun _ => trivial)) (fun _ => trivial)) (fun _ => trivial)) (fun _ => trivial)
  unfold machine_May_t
  repeat' (first
    | refine w_br (fun _ => ?_) (fun _ => ?_)
    | exact w_call d fun _ _ => trivial
    | refine w_lv fun _ _ => ?_
    | exact trivial)
end Go.Proofs.YtdkiadhigcfmkaaGreat
namespace Go.Proofs.YtdkiadhigcfmkaaGreat
open Go Go.GD
set_option linter.unusedVariables false
set_option linter.unusedSimpArgs false
theorem pages_eq {P : Nat} {m : List Int} (h : okMem P m) : ref1_Pages m = P := by
  obtain ⟨h1, h2, h3, _⟩ := h
  simp only [ref1_Pages, ref1_Pages_t, Tree.m]
  have e : (m.length : Int) = 32 * P := by omega
  rw [e]
  have e1 : (Int.tmod (32 * (P : Int)) 32 != 0) = false := by simp [Int.mul_tmod_right]
  have e2 : decide ((32 * (P : Int)) > 1024) = false := decide_eq_false (by omega)
  rw [e1, e2]
  simp only [cond_false]
  rw [Int.mul_tdiv_cancel_left _ (by decide), IntKind.wrap_i64]; omega
theorem page_eq {P : Nat} {m : List Int} (h : okMem P m) {f : Int} (hf : U f) : ref7_page m f = decide (f < P) := by
  have := pages_eq h
  obtain ⟨h1, h2⟩ := hf
  have h3 := h.p2
  simp only [ref7_page, ref7_page_t, Tree.m, letv, this]
  congr 1
  rw [IntKind.wrap_u64, IntKind.wrap_u64, Int.emod_eq_of_lt h1 (by omega), Int.emod_eq_of_lt (by omega) (by omega)]
theorem copy_w {P : Nat} {m : List Int} (h : okMem P m) : (ref1_Copy_t m).w (fun r => r = m) := by
  obtain ⟨h1, h2, h3, _⟩ := h
  unfold ref1_Copy_t
  refine w_cn ?_ ?_
  · simp [Nat.blt, D.plain]; omega
  · show _ = _
    simp
theorem put_w {P : Nat} {m : List Int} (h : okMem P m) {addr size v : Int} (ha : U addr) (hl : addr < 4 * m.length) (hv : U v) : (ref1_Put_t m addr size v).w (okMem P) := by
  obtain ⟨h1, h2, h3, h4⟩ := h
  obtain ⟨a1, a2⟩ := ha
  have e : IntKind.wrap IntKind.u32 (Int.tdiv addr 4) = addr / 4 := by rw [IntKind.wrap_u32, Int.tdiv_eq_ediv_of_nonneg a1]; omega
  have hc : (Nat.beq 1 1 && Nat.blt 0 1 && decide (0 ≤ IntKind.wrap IntKind.u32 (Int.tdiv addr 4) ∧ IntKind.wrap IntKind.u32 (Int.tdiv addr 4) < (m.length : Int))) = true := by
    rw [e]; simp [Nat.blt]; omega
  have h0 : ∀ x, decide (0 ≤ IntKind.wrap IntKind.u32 x) = true := fun x => decide_eq_true (U_wrap x).1
  have hs : ∀ i v, U v → okMem P (m.set i v) := fun i v hv => ⟨by simp [h1], h2, h3, set_U h4 hv i⟩
  unfold ref1_Put_t
  exact w_br (fun _ => w_cn hc (hs _ _ hv)) (fun _ => w_cn hc (w_cn (h0 _) (w_cn (h0 _) (w_cn hc (hs _ _ (U_or _ _))))))
theorem fill_w {P : Nat} {m : List Int} (h : okMem P m) {frame : Int} (f0 : 0 ≤ frame) (f1 : frame < P) (s : List UInt8) : (ref1_Fill_t m frame s).w (okMem P) := by
  unfold ref1_Fill_t
  have h3 := h.p2
  refine w_lp (inv := fun z => 0 ≤ z.1 ∧ z.1 ≤ 128 ∧ okMem P z.2) (μ := ref1_Fill_meas0 m frame s) ⟨by omega, by omega, h⟩ (Nat.lt_succ_self _) (fun v0 hv0 => ?_)
  obtain ⟨i0, i1, hm⟩ := hv0
  refine w_br (fun h1 => w_br (fun h2 => w_cn ?_ ?_) (fun _ => hm)) (fun _ => hm)
  · have := of_decide_eq_true h1
    simp [Nat.blt]; omega
  · have h2 := of_decide_eq_true h2
    have e : IntKind.wrap IntKind.u32 (IntKind.wrap IntKind.i64 (IntKind.wrap IntKind.i64 (frame * 128) + v0.1)) = frame * 128 + v0.1 := by
      rw [IntKind.wrap_u32, IntKind.wrap_i64, IntKind.wrap_i64]; omega
    rw [e]
    obtain ⟨g1, g2⟩ := Tree.pp (put_w hm (size := 1) (addr := frame * 128 + v0.1) ⟨by omega, by omega⟩ (by rw [hm.len]; omega) (U_wrap (UInt8.toNat (List.getD s (Int.toNat v0.1) 0))))
    refine w_an g1 (w_lv fun x0 hx0 => ?_)
    rw [hx0]
    have ew : IntKind.i64.wrap (v0.1 + 1) = v0.1 + 1 := by rw [IntKind.wrap_i64]; omega
    refine w_nx ?_
    show (0 ≤ IntKind.i64.wrap (v0.1 + 1) ∧ IntKind.i64.wrap (v0.1 + 1) ≤ 128 ∧ okMem P _) ∧ (128 - IntKind.i64.wrap (v0.1 + 1)).toNat < (128 - v0.1).toNat
    rw [ew]
    exact ⟨⟨by omega, by omega, g2⟩, by omega⟩
theorem finish_w {P : Nat} {m : List Int} (h : okMem P m) {d : ApiDisk} (hd : okDisk d) (e : ApiEvent) : (ref7_finish_t d m e).w (fun r => okDisk r.1 ∧ okMem P r.2.2) := by
  have fl : ref7_page m d.OpFrame = true → (ref1_Fill_t m (IntKind.i64.wrap d.OpFrame) e.Data).w (okMem P) := fun hp => by
    rw [page_eq h hd.opFrame] at hp
    have := of_decide_eq_true hp
    have h1 := hd.opFrame.1
    have h3 := h.p2
    have ew : IntKind.i64.wrap d.OpFrame = d.OpFrame := by rw [IntKind.wrap_i64]; omega
    rw [ew]
    exact fill_w h h1 this _
  have l0 : okDisk d ∧ okMem P m := ⟨hd, h⟩
  have l1 : ∀ st, okDisk { Blocks := d.Blocks, Block := d.Block, Frame := d.Frame, State := st, Cmd := 0, OpBlock := 0, OpFrame := 0, OpData := [] } := fun st => ⟨hd.block, hd.frame, U_0, U_0⟩
  unfold ref7_finish_t
  repeat' (first
    | exact l0
    | exact ⟨l1 _, h⟩
    | refine w_br (fun _ => ?_) (fun _ => ?_)
    | refine w_lv (fun _ _ => ?_))
  all_goals (
    first
      | (have hp : ref7_page m d.OpFrame = true := by simp_all
         obtain ⟨g1, g2⟩ := Tree.pp (fl hp)
         refine w_an g1 (w_lv fun x hx => ?_)
         rw [hx]
         exact w_br (fun _ => ⟨l1 _, g2⟩) (fun _ => ⟨l1 _, g2⟩))
      | (exfalso; simp_all; done))
end Go.Proofs.YtdkiadhigcfmkaaGreat
namespace Go.Proofs.YtdkiadhigcfmkaaGreat
open Go Go.GD
set_option linter.unusedVariables false
set_option linter.unusedSimpArgs false
set_option maxRecDepth 100000
section
variable {c : ApiCpu} (h : okCpu c)
include h
theorem trap_w (k : Int) {b : Int} (hb : U b) : okCpu (ref1_Trap c k b) := by
  refine (Tree.post (ref1_Trap_t c k b) (W := okCpu) ?_)
  unfold ref1_Trap_t
  refine w_lv fun _ _ => w_lv fun _ _ => ⟨h.x, h.a1, ?_⟩
  intro w hw
  simp only [A8.l, List.mem_cons, List.not_mem_nil, or_false] at hw
  rcases hw with rfl | rfl | rfl | rfl | rfl | rfl | rfl | rfl
  · exact U_or _ _
  · exact h.a1
  · exact h.pc
  · exact U_wrap _
  · exact hb
  · exact h.a5
  · exact h.a6
  · exact h.a7
theorem return_w : okCpu (ref1_Return c) := by
  refine (Tree.post (ref1_Return_t c) (W := okCpu) ?_)
  unfold ref1_Return_t
  refine w_lv fun _ _ => w_lv fun _ _ => ⟨h.x, h.a2, ?_⟩
  intro w hw
  simp only [A8.l, List.mem_cons, List.not_mem_nil, or_false] at hw
  rcases hw with rfl | rfl | rfl | rfl | rfl | rfl | rfl | rfl
  · exact U_or _ _
  · exact h.a1
  · exact h.a2
  · exact h.a3
  · exact h.a4
  · exact h.a5
  · exact h.a6
  · exact h.a7
theorem set_w (r : Int) {v : Int} (hv : U v) : (ref1_Set_t c r v).w okCpu := by
  unfold ref1_Set_t
  refine w_br (fun h1 => w_br (fun h2 => w_cn ?_ ⟨okX_set h.x hv _, h.pc, h.csr⟩) (fun _ => h)) (fun _ => h)
  have h1 := of_decide_eq_true h1
  have h2 := of_decide_eq_true h2
  simp [Nat.blt]; omega
theorem write_w (k : Int) {v : Int} (hv : U v) : (ref1_Write_t c k v).w okCpu := by
  have ok : ∀ i v, U v → okCpu { X := c.X, Pc := c.Pc, Csr := A8.of 0 (List.set (A8.l c.Csr) i v) } := fun i v hv => ⟨h.x, h.pc, okCsr_set h.csr hv i⟩
  unfold ref1_Write_t
  repeat' (first
    | exact h
    | exact ok _ _ (U_wrap _)
    | exact ok _ _ hv
    | refine w_br (fun hk => ?_) (fun _ => ?_)
    | refine w_cn (by rw [eq_of_beq (by assumption : (k == _) = true)]; decide) ?_)
end
section
variable {P : Nat} {m : List Int} (h : okMem P m)
include h
theorem within_w (a : Int) {size : Int} (hs : size = 1 ∨ size = 4) : (ref1_Within_t m a size).w (fun b => b = true → a < 128 * P) := by
  have hp := pages_eq h
  have h2 := h.p2
  have e : decide (IntKind.wrap IntKind.u32 size ≠ 0) = true := by rcases hs with rfl | rfl <;> decide
  have l : ∀ x, x = ref1_Pages m → decide (a < IntKind.wrap IntKind.u32 (IntKind.wrap IntKind.i64 (128 * x))) = true → a < 128 * P := fun x hx hd => by
    rw [hx, hp, IntKind.wrap_u32, IntKind.wrap_i64] at hd
    have := of_decide_eq_true hd
    omega
  unfold ref1_Within_t
  refine w_br (fun _ => w_br (fun _ => fun h => by cases h) (fun _ => ?_)) (fun _ => ?_) <;>
  exact w_cn e (w_br (fun _ => w_lv fun x hx => l x hx) (fun _ => fun h => by cases h))
theorem idx {a : Int} (ha : U a) (hl : a < 128 * P) : (Nat.beq 1 1 && Nat.blt 0 1 && decide (0 ≤ IntKind.wrap IntKind.u32 (Int.tdiv a 4) ∧ IntKind.wrap IntKind.u32 (Int.tdiv a 4) < (m.length : Int))) = true := by
  obtain ⟨a1, a2⟩ := ha
  have e : IntKind.wrap IntKind.u32 (Int.tdiv a 4) = a / 4 := by rw [IntKind.wrap_u32, Int.tdiv_eq_ediv_of_nonneg a1]; omega
  have := h.len
  rw [e]; simp [Nat.blt]; omega
theorem load_w {a : Int} (ha : U a) {size : Int} (hs : size = 1 ∨ size = 4) : (ref1_Load_t m a size).w (fun r => U r.1) := by
  obtain ⟨g1, g2⟩ := Tree.pp (within_w h a hs)
  unfold ref1_Load_t
  refine w_an g1 (w_lv fun x hx => w_br (fun _ => U_0) (fun hb => ?_))
  have hb : x = true := by simpa using hb
  have hl := g2 (hx.symm.trans hb)
  refine w_cn (idx h ha hl) (w_br (fun _ => w_cn (decide_eq_true (U_wrap _).1) (U_wrap _)) (fun _ => getD_U h.u _))
theorem mark_w {a : Int} (ha : U a) (access : Int) : (ref1_mark_t m a access).w (okMem P) := by
  obtain ⟨g1, g2⟩ := Tree.pp (within_w h a (size := 4) (.inr rfl))
  have hs : ∀ {m : List Int} i v, okMem P m → U v → okMem P (m.set i v) := fun i v h hv => ⟨by simp [h.len], h.p1, h.p2, set_U h.u hv i⟩
  unfold ref1_mark_t
  refine w_an g1 (w_lv fun x hx => w_br (fun _ => h) (fun hb => ?_))
  have hb : x = true := by simpa using hb
  have hl := g2 (hx.symm.trans hb)
  have i0 := idx h ha hl
  have h' := hs (Int.toNat (IntKind.wrap IntKind.u32 (Int.tdiv a 4))) (ior IntKind.u32 (List.getD m (Int.toNat (IntKind.wrap IntKind.u32 (Int.tdiv a 4))) 0) 8) h (U_or _ _)
  have i1 := idx h' ha hl
  exact w_cn i0 (w_cn i0 (w_br (fun _ => w_cn i1 (w_cn i1 (hs _ _ h' (U_or _ _)))) (fun _ => h')))
theorem walk_w {root va : Int} (hr : U root) (hv : U va) (access : Int) : (ref1_Walk_t m root va access).w (fun t => U t.Addr ∧ U t.Entry ∧ (t.Cause = 0 → t.Addr < 128 * P)) := by
  have hp := pages_eq h
  have h2 := h.p2
  have hlen := h.len
  obtain ⟨r1, r2⟩ := hr
  obtain ⟨v1, v2⟩ := hv
  unfold ref1_Walk_t
  refine w_lv fun x0 hx0 => w_lv fun x1 hx1 => w_lv fun x2 _ => ?_
  have hc : x0 ≠ 0 := by
    rw [hx0]
    simp only [ref1_causeOf, ref1_causeOf_t, Tree.m]
    cases access == 1 <;> cases access == 3 <;> simp
  rw [hp] at hx1
  have bad : U (0 : Int) ∧ U (0 : Int) ∧ (x0 = 0 → (0 : Int) < 128 * P) := ⟨U_0, U_0, fun e => absurd e hc⟩
  refine w_br (fun _ => bad) (fun _ => w_br (fun _ => bad) (fun hva => w_br (fun _ => bad) (fun hro => ?_)))
  have hva := of_decide_eq_false hva
  have hro := of_decide_eq_false hro
  have e1 : IntKind.wrap IntKind.u32 x1 = P := by rw [hx1, IntKind.wrap_u32]; omega
  rw [e1] at hro
  have e2 : IntKind.wrap IntKind.u32 (IntKind.wrap IntKind.u32 (root * 128) + IntKind.wrap IntKind.u32 (4 * IntKind.wrap IntKind.u32 (Int.tdiv va 128))) = root * 128 + 4 * (va / 128) := by
    rw [Int.tdiv_eq_ediv_of_nonneg v1, IntKind.wrap_u32, IntKind.wrap_u32, IntKind.wrap_u32, IntKind.wrap_u32]; omega
  have hU : U (IntKind.wrap IntKind.u32 (IntKind.wrap IntKind.u32 (root * 128) + IntKind.wrap IntKind.u32 (4 * IntKind.wrap IntKind.u32 (Int.tdiv va 128)))) := U_wrap _
  have ci := idx h hU (by rw [e2]; omega)
  have good : ∀ w : Int, decide (iand IntKind.u32 w 255 ≥ IntKind.wrap IntKind.u32 x1) = false → (U (IntKind.wrap IntKind.u32 (IntKind.wrap IntKind.u32 (iand IntKind.u32 w 255 * 128) + Int.tmod va 128)) ∧ U (IntKind.wrap IntKind.u32 (IntKind.wrap IntKind.u32 (root * 128) + IntKind.wrap IntKind.u32 (4 * IntKind.wrap IntKind.u32 (Int.tdiv va 128)))) ∧ ((0 : Int) = 0 → IntKind.wrap IntKind.u32 (IntKind.wrap IntKind.u32 (iand IntKind.u32 w 255 * 128) + Int.tmod va 128) < 128 * P)) := fun w hw => by
    have hw := of_decide_eq_false hw
    rw [e1] at hw
    have hn := (U_and w 255).1
    refine ⟨U_wrap _, U_wrap _, fun _ => ?_⟩
    rw [Int.tmod_eq_emod_of_nonneg v1, IntKind.wrap_u32, IntKind.wrap_u32]
    generalize iand IntKind.u32 w 255 = q at *
    omega
  refine w_cn ci ?_
  repeat' (first
    | exact bad
    | exact good _ (by assumption)
    | refine w_br (fun _ => ?_) (fun _ => ?_)
    | refine w_cn ci ?_)
theorem reach_w {c : ApiCpu} (hc : okCpu c) {va : Int} (hv : U va) {size : Int} (hs : size = 1 ∨ size = 4) (access : Int) : (ref1_reach_t c m va size access).w (fun r => okMem P r.2.2 ∧ U r.1 ∧ (r.2.1 = 0 → r.1 < 128 * P)) := by
  have e : decide (IntKind.wrap IntKind.u32 size ≠ 0) = true := by rcases hs with rfl | rfl <;> decide
  obtain ⟨g1, g2⟩ := Tree.pp (within_w h va hs)
  obtain ⟨k1, k2⟩ := Tree.pp (walk_w h hc.a6 hv access)
  have bad : ∀ k : Int, k ≠ 0 → okMem P m ∧ U (0 : Int) ∧ (k = 0 → (0 : Int) < 128 * P) := fun k hk => ⟨h, U_0, fun e => absurd e hk⟩
  have hca : ref1_causeOf access ≠ 0 := by
    simp only [ref1_causeOf, ref1_causeOf_t, Tree.m]
    cases access == 1 <;> cases access == 3 <;> simp
  unfold ref1_reach_t
  refine w_lv fun x0 _ => w_br (fun _ => bad 5 (by decide)) (fun _ => w_br (fun h1 => w_br (fun h2 => ?_) (fun _ => ?_)) (fun _ => ?_))
  · exact bad 5 (by decide)
  all_goals (
    refine w_cn e (w_br (fun _ => bad 3 (by decide)) (fun _ => w_lv fun x1 _ => w_br (fun _ => w_an g1 (w_lv fun x2 hx2 => w_br (fun _ => w_lv fun x3 hx3 => bad x3 (by rw [hx3]; exact hca)) (fun hb => ?_))) (fun _ => w_an k1 (w_lv fun x4 hx4 => w_br (fun hb => ?_) (fun hb => ?_)))))
    · have hb : x2 = true := by simpa using hb
      exact ⟨h, hv, fun _ => g2 (hx2.symm.trans hb)⟩
    · exact bad _ (by simpa using hb)
    · obtain ⟨t1, t2, t3⟩ := k2
      rw [show (ref1_Walk_t m c.Csr.a6 va access).m = x4 from hx4.symm] at t1 t2 t3
      obtain ⟨m1, m2⟩ := Tree.pp (mark_w h t2 access)
      refine w_an m1 (w_lv fun x5 hx5 => ?_)
      exact ⟨hx5 ▸ m2, t1, fun _ => t3 (by simpa using hb)⟩)
end
end Go.Proofs.YtdkiadhigcfmkaaGreat
namespace Go.Proofs.YtdkiadhigcfmkaaGreat
open Go Go.GD
set_option linter.unusedVariables false
set_option linter.unusedSimpArgs false
set_option maxRecDepth 100000
theorem reg_ok {r : Int} (h : ref1_register r = true) : 0 ≤ r ∧ r < 16 := by
  simp only [ref1_register, ref1_register_t, Tree.m] at h
  cases h1 : decide (r ≥ 0) <;> rw [h1] at h
  · cases h
  · have h1 := of_decide_eq_true h1
    have h := of_decide_eq_true h
    omega
theorem valid_ok {i : ApiInst} (hi : IntKind.wrap .i64 i.Imm = i.Imm) (h : ref1_Valid i = true) : okInst i := by
  have no : false = true → okInst i := fun h => by cases h
  refine (Tree.post (ref1_Valid_t i) (W := fun b => b = true → okInst i) ?_) h
  unfold ref1_Valid_t
  refine w_lv fun x0 h0 => w_br (fun _ => no) (fun _ => w_lv fun x1 h1 => w_br (fun _ => no) (fun b1 => w_lv fun x2 h2 => w_br (fun _ => no) (fun b2 => w_lv fun x3 h3 => w_br (fun _ => no) (fun b3 => w_lv fun x4 h4 => w_br (fun _ => no) (fun b4 => w_br (fun _ => no) (fun b5 => ?_))))))
  have b1 : x1 = true := by simpa using b1
  have b2 : x2 = true := by simpa using b2
  have b3 : x3 = true := by simpa using b3
  have b4 := of_decide_eq_false b4
  have b5 := of_decide_eq_false b5
  rw [hi] at b4 b5
  have ok : okInst i := ⟨reg_ok (h1.symm.trans b1), reg_ok (h2.symm.trans b2), reg_ok (h3.symm.trans b3), fun e => by
    rw [e] at h0
    have h0 : x0 = 8 := h0
    subst h0
    have h4 : x4 = (0, 7) := h4
    subst h4
    simp at b4 b5; omega⟩
  repeat' (first
    | exact fun _ => ok
    | exact no
    | refine w_br (fun _ => ?_) (fun _ => ?_))
theorem decode_w (w : Int) : (ref1_Decode_t w).w (fun r => r.2 = true → okInst r.1) := by
  have no : ∀ {p : Prop}, false = true → p := fun h => by cases h
  have e : ∀ x, IntKind.wrap .i64 (IntKind.wrap .i32 x) = IntKind.wrap .i32 x := fun x => by rw [IntKind.wrap_i64, IntKind.wrap_i32]; omega
  have ok : ∀ i, IntKind.wrap .i64 i.Imm = i.Imm → ∀ x, x = ref1_Valid i → (!x) = false → true = true → okInst i := fun i hi x hx hb _ => valid_ok hi (hx.symm.trans (by simpa using hb))
  unfold ref1_Decode_t
  refine w_lv fun x0 _ => ?_
  have l : ∀ i, IntKind.wrap .i64 i.Imm = i.Imm → (Tree.lv (ref1_Valid i) fun x => .br (!x) (.lf ((⟨0, 0, 0, 0, 0⟩ : ApiInst), false)) (.lf (i, true))).w (fun r => r.2 = true → okInst r.1) := fun i hi => w_lv fun x hx => w_br (fun _ => no) (fun hb => ok i hi x hx hb)
  refine w_br (fun _ => no) (fun _ => w_br (fun _ => l _ rfl) (fun _ => w_br (fun _ => l _ (e _)) (fun _ => w_br (fun _ => l _ (e _)) (fun _ => l _ (e _)))))
theorem bit_w (b : Bool) : U (ref1_bit b) := by cases b <;> exact ⟨by decide, by decide⟩
theorem divide_w {a b : Int} (ha : U a) (hb : U b) : (ref1_Divide_t a b).w (fun r => U r.1 ∧ U r.2) := by
  unfold ref1_Divide_t
  refine w_br (fun _ => ⟨⟨by omega, by omega⟩, ha⟩) (fun h => ?_)
  have h : ¬ b = 0 := by simpa using h
  obtain ⟨b1, b2⟩ := hb
  have hc : decide (IntKind.wrap IntKind.i64 (IntKind.wrap IntKind.i32 b) ≠ 0) = true := decide_eq_true (by rw [IntKind.wrap_i64, IntKind.wrap_i32]; omega)
  exact w_cn hc (w_cn hc ⟨U_wrap _, U_wrap _⟩)
theorem alu_w (op : Int) {a b : Int} (ha : U a) (hb : U b) : (ref1_Alu_t op a b).w (fun r => U r.1) := by
  unfold ref1_Alu_t
  refine w_lv fun x0 _ => ?_
  repeat' (first
    | exact U_wrap _
    | exact U_shr ha _
    | exact U_0
    | refine w_br (fun _ => ?_) (fun _ => ?_)
    | exact w_call (divide_w ha hb) fun x hx => hx.1
    | exact w_call (divide_w ha hb) fun x hx => hx.2
    | exact w_lv fun x hx => (by rw [hx]; exact bit_w _))
theorem signext_w {x : Int} (hx : U x) : (ref1_SignExtend_t x 8).w U := by
  unfold ref1_SignExtend_t
  have h0 : decide (0 ≤ IntKind.wrap IntKind.u64 8) = true := by decide
  refine w_br (fun h => absurd h (by decide)) fun _ => w_br (fun h => absurd h (by decide)) fun _ => w_cn h0 (w_cn (by decide) (w_br (fun _ => w_cn h0 (U_or _ _)) (fun _ => U_and _ _)))
section
variable {c : ApiCpu} (h : okCpu c) {i : ApiInst} (hi : okInst i)
include h hi
theorem system_w : (ref1_system_t c i).w (fun r => okCpu r.1 ∧ U r.2.Value) := by
  unfold ref1_system_t
  refine w_br (fun _ => w_lv fun x hx => ⟨hx ▸ trap_w h _ U_0, U_0⟩) (fun _ => w_br (fun _ => w_lv fun x hx => ⟨hx ▸ return_w h, U_0⟩) (fun _ => w_br (fun e => w_cn ?_ (w_call (set_w h _ (h.a _)) fun x hx => ⟨hx.pcs (U_wrap _), U_0⟩)) (fun _ => w_br (fun _ => w_cn (rc hi.a) (w_call (write_w h _ (h.r _)) fun x hx => ⟨hx.pcs (U_wrap _), U_0⟩)) (fun _ => ?_))))
  · have := hi.csr (by simpa using e)
    simp [Nat.blt]; omega
  · have k := h.pcs (U_wrap (c.Pc + 4))
    repeat' (first
      | exact ⟨k, U_0⟩
      | exact ⟨k, h.r _⟩
      | refine w_br (fun _ => ?_) (fun _ => ?_)
      | refine w_cn (rc hi.a) ?_)
theorem jump_w : (ref1_jump_t c i).w okCpu := by
  unfold ref1_jump_t
  exact w_br (fun _ => w_call (set_w h _ (U_wrap _)) fun x hx => hx.pcs (U_wrap _)) (fun _ => w_br (fun _ => w_cn (rc hi.b) (w_call (set_w h _ (U_wrap _)) fun x hx => hx.pcs (U_wrap _))) (fun _ => w_cn (rc hi.a) (w_cn (rc hi.b) (w_lv fun x _ => w_br (fun _ => h.pcs (U_wrap _)) (fun _ => h.pcs (U_wrap _))))))
theorem transfer_w {P : Nat} {m : List Int} (hm : okMem P m) : (ref1_transfer_t c m i).w (fun r => okCpu r.1 ∧ okMem P r.2) := by
  unfold ref1_transfer_t
  refine w_cn (rc hi.b) ?_
  have e1 : (1 : Int) = 1 ∨ (1 : Int) = 4 := .inl rfl
  have e4 : (4 : Int) = 1 ∨ (4 : Int) = 4 := .inr rfl
  repeat' (first
    | refine w_br (fun _ => ?_) (fun _ => ?_)
    | (refine w_call (reach_w hm h (U_wrap _) e4 _) fun x hx => ?_
       obtain ⟨m1, m2, m3⟩ := hx
       refine w_br (fun _ => w_lv fun y hy => ⟨hy ▸ trap_w h _ (U_wrap _), m1⟩) (fun hb => ?_)
       have m3 := m3 (by simpa using hb)
       have m4 : x.1 < 4 * x.2.2.length := by rw [m1.len]; omega
       clear hb)
    | (refine w_call (reach_w hm h (U_wrap _) e1 _) fun x hx => ?_
       obtain ⟨m1, m2, m3⟩ := hx
       refine w_br (fun _ => w_lv fun y hy => ⟨hy ▸ trap_w h _ (U_wrap _), m1⟩) (fun hb => ?_)
       have m3 := m3 (by simpa using hb)
       have m4 : x.1 < 4 * x.2.2.length := by rw [m1.len]; omega
       clear hb)
    | exact w_cn (rc hi.a) (w_call (put_w (by assumption) (by assumption) (by assumption) (h.r _)) fun y hy => ⟨h.pcs (U_wrap _), hy⟩)
    | (refine w_call (load_w (by assumption) (by assumption) e4) fun y hy => ?_)
    | (refine w_call (load_w (by assumption) (by assumption) e1) fun y hy => ?_)
    | exact w_call (signext_w (by assumption)) fun z hz => w_call (set_w h _ hz) fun u hu => ⟨hu.pcs (U_wrap _), by assumption⟩
    | exact w_call (set_w h _ (by assumption)) fun u hu => ⟨hu.pcs (U_wrap _), by assumption⟩)
end
theorem do_w {c : ApiCpu} (h : okCpu c) {P : Nat} {m : List Int} (hm : okMem P m) : (ref1_Do_t c m).w (fun r => okCpu r.1 ∧ U r.2.1.Value ∧ okMem P r.2.2) := by
  unfold ref1_Do_t
  refine w_call (reach_w hm h h.pc (.inr rfl) 1) fun x0 hx => ?_
  obtain ⟨m1, m2, m3⟩ := hx
  refine w_br (fun _ => w_lv fun y hy => ⟨hy ▸ trap_w h _ h.pc, U_0, m1⟩) (fun hb => ?_)
  refine w_call (load_w m1 m2 (.inr rfl)) fun x2 h2 => w_free (decode_w _) fun x3 h3 => w_br (fun _ => w_lv fun y hy => ⟨hy ▸ trap_w h _ h2, U_0, m1⟩) (fun b3 => ?_)
  have hi := h3 (by simpa using b3)
  refine w_lv fun x5 _ => ?_
  repeat' (first
    | refine w_br (fun _ => ?_) (fun _ => ?_)
    | exact w_lv fun y hy => ⟨hy ▸ trap_w h _ h2, U_0, m1⟩
    | exact w_call (system_w h hi) fun y hy => ⟨hy.1, hy.2, m1⟩
    | exact w_call (jump_w h hi) fun y hy => ⟨hy, U_0, m1⟩
    | exact w_call (transfer_w h hi m1) fun y hy => ⟨hy.1, U_0, hy.2⟩
    | exact w_call (set_w h _ (U_wrap _)) fun y hy => ⟨hy.pcs (U_wrap _), U_0, m1⟩
    | refine w_cn (rc hi.c) ?_
    | refine w_cn (rc hi.b) ?_
    | exact w_call (alu_w _ (h.r _) (h.r _)) fun y hy => w_call (set_w h _ hy) fun z hz => ⟨hz.pcs (U_wrap _), U_0, m1⟩
    | exact w_call (alu_w _ (h.r _) (U_wrap _)) fun y hy => w_call (set_w h _ hy) fun z hz => ⟨hz.pcs (U_wrap _), U_0, m1⟩)
end Go.Proofs.YtdkiadhigcfmkaaGreat
namespace Go.Proofs.YtdkiadhigcfmkaaGreat
open Go Go.GD
set_option linter.unusedVariables false
set_option linter.unusedSimpArgs false
set_option maxRecDepth 100000
theorem and1 {q : Int} (h : U q) : iand .u32 q 1 = q % 2 := by
  obtain ⟨h1, h2⟩ := h
  unfold iand
  rw [IntKind.wrap_u32]
  have e1 : (BitVec.ofInt 32 q).toNat = q.toNat := by rw [BitVec.toNat_ofInt]; omega
  have e2 : (BitVec.ofInt 32 1).toNat = 1 := by decide
  have : (BitVec.ofInt IntKind.u32.bits q &&& BitVec.ofInt IntKind.u32.bits 1).toNat = q.toNat % 2 := by
    show (BitVec.ofInt 32 q &&& BitVec.ofInt 32 1).toNat = _
    rw [BitVec.toNat_and, e1, e2, Nat.and_one_is_mod]
  rw [this]; omega
theorem line_w (b : Bool) (n : Int) : (ref7_line_t b n).w (fun _ => True) := by
  unfold ref7_line_t
  exact w_br (fun _ => w_cn (decide_eq_true (by rw [IntKind.wrap_u64]; omega)) trivial) (fun _ => trivial)
theorem lines_w (m : ApiMachine) : (ref7_Lines_t m).w (fun _ => True) := by
  unfold ref7_Lines_t
  exact w_lv fun _ _ => w_call (line_w _ _) fun _ _ => w_lv fun _ _ => w_call (line_w _ _) fun _ _ => w_lv fun _ _ => w_call (line_w _ _) fun _ _ => w_lv fun _ _ => w_call (line_w _ _) fun _ _ => w_lv fun _ _ => w_call (line_w _ _) fun _ _ => trivial
theorem enabled_w (m : ApiMachine) : (ref7_enabled_t m).w U := by
  unfold ref7_enabled_t
  exact w_call (lines_w m) fun _ _ => U_and _ _
theorem idle_w (m : ApiMachine) : (ref7_Idle_t m).w (fun _ => True) := by
  unfold ref7_Idle_t
  exact w_br (fun _ => w_call (enabled_w m) fun _ _ => trivial) (fun _ => trivial)
theorem stuck_w (m : ApiMachine) : (ref7_Stuck_t m).w (fun _ => True) := by
  unfold ref7_Stuck_t
  exact w_lv fun _ _ => w_br (fun _ => trivial) (fun _ => w_br (fun _ => trivial) (fun _ => w_call (idle_w m) fun _ _ => w_br (fun _ => trivial) (fun _ => trivial)))
theorem interrupted_w {m : ApiMachine} (h : okCpu m.Cpu) : (ref7_interrupted_t m).w okCpu := by
  unfold ref7_interrupted_t
  refine w_call (enabled_w m) fun x0 hx => w_br (fun _ => h) (fun _ => w_br (fun _ => h) (fun hb => ?_))
  have hb : x0 ≠ 0 := by simpa using hb
  have sh : ∀ z : Int, 0 ≤ z → z ≤ 31 → ishr .u32 x0 (IntKind.wrap .u64 z) = x0 / 2 ^ z.toNat := fun z h1 h2 => by
    unfold ishr
    have e : min (IntKind.wrap .u64 z).toNat IntKind.u32.bits = z.toNat := by
      show min (IntKind.wrap .u64 z).toNat 32 = z.toNat
      rw [IntKind.wrap_u64]; omega
    rw [e, Int.fdiv_eq_ediv_of_nonneg _ (Int.le_of_lt (Int.pow_pos (by decide)))]
  refine w_lp (inv := fun z => 0 ≤ z ∧ z ≤ 31 ∧ x0 / 2 ^ z.toNat ≠ 0) (μ := ref7_interrupted_meas0 m) ⟨by omega, by omega, by simpa using hb⟩ (Nat.lt_succ_self _) (fun z hz => ?_)
  obtain ⟨z1, z2, z3⟩ := hz
  refine w_cn (decide_eq_true (by rw [IntKind.wrap_u64]; omega)) (w_br (fun e => w_nx ?_) (fun _ => w_lv fun y hy => hy ▸ trap_w h _ U_0))
  have e := eq_of_beq e
  have hq := U_shr hx (IntKind.wrap .u64 z)
  rw [and1 hq, sh z z1 z2] at e
  rw [sh z z1 z2] at hq
  have hlt : x0 / 2 ^ z.toNat / 2 ≠ 0 := by omega
  have z4 : z ≤ 30 := by
    rcases Int.lt_or_le z 31 with h | h
    · omega
    · have : z = 31 := by omega
      subst this
      have := hx.2
      have := hx.1
      simp at z3 e hlt
      omega
  show (0 ≤ IntKind.i64.wrap (z + 1) ∧ IntKind.i64.wrap (z + 1) ≤ 31 ∧ x0 / 2 ^ (IntKind.i64.wrap (z + 1)).toNat ≠ 0) ∧ (32 - IntKind.i64.wrap (z + 1)).toNat < (32 - z).toNat
  have ew : IntKind.i64.wrap (z + 1) = z + 1 := by rw [IntKind.wrap_i64]; omega
  rw [ew]
  refine ⟨⟨by omega, by omega, ?_⟩, by omega⟩
  have et : (z + 1).toNat = z.toNat + 1 := by omega
  rw [et, Int.pow_succ, ← Int.ediv_ediv_of_nonneg (Int.le_of_lt (Int.pow_pos (by decide)))]
  exact hlt
theorem reads_w {P : Nat} {m : ApiMachine} (h : okCpu m.Cpu) (hm : okMem P m.Mem) : (ref7_reads_t m).w (fun _ => True) := by
  unfold ref7_reads_t
  refine w_call (interrupted_w h) fun x0 hx => w_br (fun _ => trivial) (fun _ => w_call (load_w hm hx.pc (.inr rfl)) fun x1 _ => w_lv fun x2 _ => ?_)
  exact w_br (fun _ => w_br (fun _ => w_br (fun _ => trivial) (fun _ => trivial)) (fun _ => trivial)) (fun _ => trivial)
theorem readsClock_w {P : Nat} {m : ApiMachine} (h : okCpu m.Cpu) (hm : okMem P m.Mem) : (ref7_ReadsClock_t m).w (fun _ => True) := by
  unfold ref7_ReadsClock_t
  exact w_call (stuck_w m) fun _ _ => w_br (fun _ => trivial) (fun _ => w_call (reads_w h hm) fun _ _ => trivial)
theorem bytesOf_len (l : List Int) : (bytesOf l).length = l.length := by simp [bytesOf]
theorem bytesI_len (l : List UInt8) : (bytesI l).length = l.length := by simp [bytesI]
theorem low_w (x : Int) : (ref1_Low_t x 4).w (fun r => r.length = 4) := by
  unfold ref1_Low_t
  refine w_lp (inv := fun z => 0 ≤ z.1 ∧ z.1 ≤ 4 ∧ (z.2.length : Int) = z.1) (μ := ref1_Low_meas0 x 4) ⟨by omega, by omega, rfl⟩ (Nat.lt_succ_self _) (fun z hz => ?_)
  obtain ⟨z1, z2, z3⟩ := hz
  refine w_br (fun h => w_cn (decide_eq_true (by rw [IntKind.wrap_u64]; omega)) (w_cn (decide_eq_true (by omega)) (w_nx ?_))) (fun h => ?_)
  · have h := of_decide_eq_true h
    show (0 ≤ IntKind.i64.wrap (z.1 + 1) ∧ IntKind.i64.wrap (z.1 + 1) ≤ 4 ∧ ((z.2 ++ [_]).length : Int) = IntKind.i64.wrap (z.1 + 1)) ∧ (4 - IntKind.i64.wrap (z.1 + 1)).toNat < (4 - z.1).toNat
    have ew : IntKind.i64.wrap (z.1 + 1) = z.1 + 1 := by rw [IntKind.wrap_i64]; omega
    rw [ew]
    refine ⟨⟨by omega, by omega, by simp; omega⟩, by omega⟩
  · have h := of_decide_eq_false h
    show (bytesOf z.2).length = 4
    rw [bytesOf_len]; omega
theorem page_w {P : Nat} {m : List Int} (hm : okMem P m) (frame : Int) : (ref1_Page_t m frame).w (fun r => 0 ≤ frame → frame < P → r.1.length = 128) := by
  have hp := pages_eq hm
  have hl := hm.len
  have h2 := hm.p2
  unfold ref1_Page_t
  refine w_br (fun h => fun h0 _ => by have := of_decide_eq_true h; omega) (fun h => w_lv fun x0 hx => w_br (fun h1 => fun _ h2 => by have := of_decide_eq_true h1; rw [hx, hp] at this; omega) (fun h1 => ?_))
  have h := of_decide_eq_false h
  have h1 := of_decide_eq_false h1
  rw [hx, hp] at h1
  refine w_lp (inv := fun z => 0 ≤ z.1 ∧ z.1 ≤ 32 ∧ (z.2.length : Int) = 4 * z.1) (μ := ref1_Page_meas0 m frame) ⟨by omega, by omega, rfl⟩ (Nat.lt_succ_self _) (fun z hz => ?_)
  obtain ⟨z1, z2, z3⟩ := hz
  refine w_br (fun hb => ?_) (fun hb => ?_)
  · have hb := of_decide_eq_true hb
    have e : IntKind.wrap IntKind.i64 (IntKind.wrap IntKind.i64 (frame * 32) + z.1) = frame * 32 + z.1 := by rw [IntKind.wrap_i64, IntKind.wrap_i64]; omega
    refine w_cn (by rw [e]; simp [Nat.blt]; omega) (w_an (show (4 : Int) ≤ 1000000000000 by decide) (w_free (low_w _) fun x1 h4 => w_cn (decide_eq_true (by rw [bytesI_len, h4]; omega)) (w_nx ?_)))
    show (0 ≤ IntKind.i64.wrap (z.1 + 1) ∧ IntKind.i64.wrap (z.1 + 1) ≤ 32 ∧ ((z.2 ++ bytesI x1).length : Int) = 4 * IntKind.i64.wrap (z.1 + 1)) ∧ (32 - IntKind.i64.wrap (z.1 + 1)).toNat < (32 - z.1).toNat
    have ew : IntKind.i64.wrap (z.1 + 1) = z.1 + 1 := by rw [IntKind.wrap_i64]; omega
    rw [ew, List.length_append, bytesI_len, h4]
    exact ⟨⟨by omega, by omega, by omega⟩, by omega⟩
  · have hb := of_decide_eq_false hb
    intro _ _
    show (bytesOf z.2).length = 128
    rw [bytesOf_len]; omega
theorem diskOut_w {P : Nat} {m : List Int} (hm : okMem P m) {d : ApiDisk} (hd : okDisk d) (port : Int) {v : Int} (hv : U v) (at0 : Int) : (ref7_DiskOut_t d m port v at0).w (fun r => okDisk r.1 ∧ r.2.length ≤ 1) := by
  have k : ∀ st, okDisk { Blocks := d.Blocks, Block := d.Block, Frame := d.Frame, State := st, Cmd := d.Cmd, OpBlock := d.OpBlock, OpFrame := d.OpFrame, OpData := d.OpData } := fun st => ⟨hd.block, hd.frame, hd.opBlock, hd.opFrame⟩
  have k2 : ∀ c o, okDisk { Blocks := d.Blocks, Block := d.Block, Frame := d.Frame, State := 1, Cmd := c, OpBlock := d.Block, OpFrame := d.Frame, OpData := o } := fun c o => ⟨hd.block, hd.frame, hd.block, hd.frame⟩
  have k3 : okDisk { Blocks := d.Blocks, Block := v, Frame := d.Frame, State := d.State, Cmd := d.Cmd, OpBlock := d.OpBlock, OpFrame := d.OpFrame, OpData := d.OpData } := ⟨hv, hd.frame, hd.opBlock, hd.opFrame⟩
  have k4 : okDisk { Blocks := d.Blocks, Block := d.Block, Frame := v, State := d.State, Cmd := d.Cmd, OpBlock := d.OpBlock, OpFrame := d.OpFrame, OpData := d.OpData } := ⟨hd.block, hv, hd.opBlock, hd.opFrame⟩
  unfold ref7_DiskOut_t
  repeat' (first
    | refine w_br (fun _ => ?_) (fun _ => ?_)
    | exact w_call (page_w hm _) fun _ _ => w_lv fun _ _ => ⟨k2 _ _, Nat.le_refl _⟩
    | refine w_lv (fun _ _ => ?_)
    | refine w_lf ?_)
  all_goals (first
    | exact ⟨hd, Nat.zero_le _⟩
    | exact ⟨k _, Nat.zero_le _⟩
    | exact ⟨k2 _ _, Nat.le_refl _⟩
    | exact ⟨k3, Nat.zero_le _⟩
    | exact ⟨k4, Nat.zero_le _⟩)
theorem nicOut_w {P : Nat} {m : List Int} (hm : okMem P m) {n : ApiNic} (hn : okNic n) (port : Int) {v : Int} (hv : U v) (at0 : Int) : (ref7_NicOut_t n m port v at0).w (fun r => okNic r.1 ∧ r.2.length ≤ 1) := by
  have k1 : okNic { Frame := v, Len := n.Len, Posted := n.Posted, Buffer := n.Buffer, Received := n.Received, Got := n.Got } := ⟨hv, hn.len, hn.buffer, hn.got⟩
  have k2 : okNic { Frame := n.Frame, Len := v, Posted := n.Posted, Buffer := n.Buffer, Received := n.Received, Got := n.Got } := ⟨hn.frame, hv, hn.buffer, hn.got⟩
  have k3 : okNic { Frame := n.Frame, Len := n.Len, Posted := n.Posted, Buffer := n.Buffer, Received := false, Got := 0 } := ⟨hn.frame, hn.len, hn.buffer, U_0⟩
  have k4 : ∀ p r, okNic { Frame := n.Frame, Len := n.Len, Posted := p, Buffer := n.Frame, Received := r, Got := n.Got } := fun p r => ⟨hn.frame, hn.len, hn.frame, hn.got⟩
  have send : ∀ K : List UInt8 × Bool → Tree (ApiNic × List ApiOutput), ref7_page m n.Frame = true → (∀ x : List UInt8 × Bool, x.1.length = 128 → (K x).w (fun r => okNic r.1 ∧ r.2.length ≤ 1)) → (Tree.an (ref1_Page_pre m (IntKind.wrap .i64 n.Frame)) (.lv (ref1_Page m (IntKind.wrap .i64 n.Frame)) K)).w (fun r => okNic r.1 ∧ r.2.length ≤ 1) := fun K hp hK => by
    rw [page_eq hm hn.frame] at hp
    have hp := of_decide_eq_true hp
    obtain ⟨f1, f2⟩ := hn.frame
    have ew : IntKind.i64.wrap n.Frame = n.Frame := by rw [IntKind.wrap_i64]; omega
    exact w_call (page_w hm _) fun x hx => hK x (hx (by rw [ew]; exact f1) (by rw [ew]; exact hp))
  unfold ref7_NicOut_t
  repeat' (first
    | refine w_br (fun _ => ?_) (fun _ => ?_)
    | refine send _ (by simp_all) (fun x hx => w_cn (by simp_all; exact hn.len.1) ?_)
    | refine w_lv (fun _ _ => ?_)
    | refine w_lf ?_)
  all_goals (first
    | exact ⟨hn, Nat.zero_le _⟩
    | exact ⟨hn, Nat.le_refl _⟩
    | exact ⟨k1, Nat.zero_le _⟩
    | exact ⟨k2, Nat.zero_le _⟩
    | exact ⟨k3, Nat.zero_le _⟩
    | exact ⟨k4 _ _, Nat.zero_le _⟩)
def okB (b : ApiBalloon) : Prop := U b.Target ∧ U b.Given
theorem give_w {P : Nat} {m : List Int} (hm : okMem P m) {b : ApiBalloon} (hb : okB b) (port : Int) {v : Int} (hv : U v) : (ref7_give_t b m port v).w (fun r => okB r.1 ∧ okMem P r.2) := by
  have hv0 : decide (0 ≤ v) = true := decide_eq_true hv.1
  have h2 := hm.p2
  have rest : (Tree.br (port == 11) (.br (decide (v < 32)) (.cn (decide (0 ≤ v)) (.lf (({ Target := b.Target, Given := iandn .u32 b.Given (ishl .u32 1 v) } : ApiBalloon), m))) (.lf (b, m))) (.lf (b, m))).w (fun r => okB r.1 ∧ okMem P r.2) :=
    w_br (fun _ => w_br (fun _ => w_cn hv0 ⟨⟨hb.1, U_wrap _⟩, hm⟩) (fun _ => ⟨hb, hm⟩)) (fun _ => ⟨hb, hm⟩)
  unfold ref7_give_t
  refine w_br (fun _ => w_lv fun x0 hx => w_br (fun hp => w_cn hv0 (w_br (fun _ => w_cn hv0 ?_) (fun _ => rest))) (fun _ => rest)) (fun _ => rest)
  have hp : ref7_page m v = true := hx.symm.trans hp
  rw [page_eq hm hv] at hp
  have hp := of_decide_eq_true hp
  obtain ⟨v1, v2⟩ := hv
  refine w_lp (inv := fun z => 0 ≤ z.1 ∧ z.1 ≤ 32 ∧ okMem P z.2) (μ := ref7_give_meas0 b m port v) ⟨by omega, by omega, hm⟩ (Nat.lt_succ_self _) (fun z hz => ?_)
  obtain ⟨z1, z2, z3⟩ := hz
  have hl := z3.len
  refine w_br (fun h => ?_) (fun _ => ⟨⟨hb.1, U_wrap _⟩, z3⟩)
  have h := of_decide_eq_true h
  have e : IntKind.wrap IntKind.i64 (IntKind.wrap IntKind.i64 (IntKind.wrap IntKind.i64 v * 32) + z.1) = v * 32 + z.1 := by rw [IntKind.wrap_i64, IntKind.wrap_i64, IntKind.wrap_i64]; omega
  refine w_cn (by rw [e]; simp [Nat.blt]; omega) (w_nx ?_)
  show (0 ≤ IntKind.i64.wrap (z.1 + 1) ∧ IntKind.i64.wrap (z.1 + 1) ≤ 32 ∧ okMem P (List.set _ _ _)) ∧ (32 - IntKind.i64.wrap (z.1 + 1)).toNat < (32 - z.1).toNat
  have ew : IntKind.i64.wrap (z.1 + 1) = z.1 + 1 := by rw [IntKind.wrap_i64]; omega
  rw [ew]
  exact ⟨⟨by omega, by omega, ⟨by simp [hl], z3.p1, z3.p2, set_U z3.u U_0 _⟩⟩, by omega⟩
structure okM (P : Nat) (m : ApiMachine) : Prop where
  cpu : okCpu m.Cpu
  mem : okMem P m.Mem
  disk : okDisk m.Disk
  nic : okNic m.Nic
  target : okB m.Balloon
theorem consoleIn_w (c : ApiConsole) (port : Int) : U (ref7_ConsoleIn c port).2 := by
  refine Tree.post (ref7_ConsoleIn_t c port) (W := fun r => U r.2) ?_
  have u1 : U 4294967295 := ⟨by omega, by omega⟩
  unfold ref7_ConsoleIn_t
  refine w_br (fun _ => w_br (fun _ => u1) (fun h => w_br (fun _ => w_cn ?_ (w_cn ?_ (U_wrap _))) (fun _ => w_br (fun _ => U_wrap _) (fun _ => U_0)))) (fun h1 => w_br (fun h => (by rw [h1] at h; cases h)) (fun _ => w_br (fun _ => U_wrap _) (fun _ => U_0)))
  · have h : ¬ (c.Keys.length : Int) = 0 := by simpa using h
    exact decide_eq_true ⟨by omega, by omega, by omega⟩
  · have h : ¬ (c.Keys.length : Int) = 0 := by simpa using h
    simp [Nat.blt]; omega
theorem nicIn_w {n : ApiNic} (h : okNic n) (port : Int) : U (ref7_NicIn n port) := by
  refine Tree.post (ref7_NicIn_t n port) (W := U) ?_
  have u1 : U 1 := ⟨by omega, by omega⟩
  unfold ref7_NicIn_t
  exact w_br (fun _ => h.frame) (fun _ => w_br (fun _ => h.got) (fun _ => w_br (fun _ => w_br (fun _ => w_br (fun _ => U_wrap _) (fun _ => u1)) (fun _ => w_br (fun _ => U_wrap _) (fun _ => U_0))) (fun _ => U_0)))
theorem diskIn_w {d : ApiDisk} (h : okDisk d) (port : Int) : U (ref7_DiskIn d port) := by
  refine Tree.post (ref7_DiskIn_t d port) (W := U) ?_
  unfold ref7_DiskIn_t
  exact w_br (fun _ => h.block) (fun _ => w_br (fun _ => h.frame) (fun _ => w_br (fun _ => U_wrap _) (fun _ => U_0)))
theorem timerIn_w (t : ApiTimer) : U (ref7_TimerIn t) := by
  refine Tree.post (ref7_TimerIn_t t) (W := U) ?_
  unfold ref7_TimerIn_t
  exact w_br (fun _ => ⟨by omega, by omega⟩) (fun _ => U_0)
theorem balloonIn_w {b : ApiBalloon} (h : U b.Target) (port : Int) : U (ref7_BalloonIn b port) := by
  refine Tree.post (ref7_BalloonIn_t b port) (W := U) ?_
  unfold ref7_BalloonIn_t
  exact w_br (fun _ => h) (fun _ => w_br (fun _ => w_lv fun _ _ => U_wrap _) (fun _ => U_0))
structure okR (P : Nat) (r : ApiRecorder) : Prop where
  m : okM P r.Machine
  clock : U r.Clock
structure okL (P : Nat) (r x : ApiRecorder) : Prop where
  ok : okR P x
  log : x.Log = r.Log
  queue : x.Queue = r.Queue
section
variable {P : Nat} {r : ApiRecorder} (h : okR P r)
include h
theorem in_w (port : Int) {clock : Int} (hc : U clock) : (ref7_in_R_t r port clock).w (fun x => U x.1 ∧ okL P r x.2) := by
  have k : okL P r r := ⟨h, rfl, rfl⟩
  obtain ⟨⟨h1, h2, h3, h4, h5⟩, h6⟩ := h
  unfold ref7_in_R_t
  exact w_br (fun _ => w_lv fun x hx => ⟨hx ▸ consoleIn_w _ _, ⟨⟨⟨h1, h2, h3, h4, h5⟩, h6⟩, rfl, rfl⟩⟩) (fun _ => w_br (fun _ => ⟨hc, k⟩) (fun _ => w_br (fun _ => w_lv fun x hx => ⟨hx ▸ timerIn_w _, k⟩) (fun _ => w_br (fun _ => w_lv fun x hx => ⟨hx ▸ diskIn_w h3 _, k⟩) (fun _ => w_br (fun _ => w_lv fun x hx => ⟨hx ▸ nicIn_w h4 _, k⟩) (fun _ => w_lv fun x hx => ⟨hx ▸ balloonIn_w h5.1 _, k⟩)))))
theorem out_w (port : Int) {v : Int} (hv : U v) : (ref7_out_R_t r port v).w (fun x => x.1.length ≤ 1 ∧ okL P r x.2) := by
  have k : okL P r r := ⟨h, rfl, rfl⟩
  obtain ⟨⟨h1, h2, h3, h4, h5⟩, h6⟩ := h
  unfold ref7_out_R_t
  exact w_br (fun _ => ⟨Nat.le_refl _, k⟩) (fun _ => w_br (fun _ => ⟨Nat.zero_le _, k⟩) (fun _ => w_br (fun _ => w_lv fun _ _ => ⟨Nat.zero_le _, ⟨⟨⟨h1, h2, h3, h4, h5⟩, h6⟩, rfl, rfl⟩⟩) (fun _ => w_br (fun _ => w_call (diskOut_w h2 h3 _ hv _) fun x hx => ⟨hx.2, ⟨⟨⟨h1, h2, hx.1, h4, h5⟩, h6⟩, rfl, rfl⟩⟩) (fun _ => w_br (fun _ => w_call (nicOut_w h2 h4 _ hv _) fun x hx => ⟨hx.2, ⟨⟨⟨h1, h2, h3, hx.1, h5⟩, h6⟩, rfl, rfl⟩⟩) (fun _ => w_call (give_w h2 h5 _ hv) fun x hx => ⟨Nat.zero_le _, ⟨⟨⟨h1, hx.2, h3, h4, hx.1⟩, h6⟩, rfl, rfl⟩⟩)))))
theorem advance_w {clock : Int} (hc : U clock) : (ref7_Advance_R_t r clock).w (fun x => x.1.length ≤ 1 ∧ okL P r x.2) := by
  obtain ⟨⟨h1, h2, h3, h4, h5⟩, h6⟩ := h
  unfold ref7_Advance_R_t
  refine w_call (interrupted_w h1) fun x0 c0 => w_call (do_w c0 h2) fun x1 hx => ?_
  obtain ⟨c1, v1, m1⟩ := hx
  refine w_br (fun _ => w_free (in_w (r := ⟨⟨_, _, _, _, _, _, _, _, _, _⟩, _, _, _⟩) ⟨⟨c1, m1, h3, h4, h5⟩, h6⟩ _ hc) fun x2 hx => ?_) (fun _ => w_br (fun _ => w_call (out_w (r := ⟨⟨_, _, _, _, _, _, _, _, _, _⟩, _, _, _⟩) ⟨⟨c1, m1, h3, h4, h5⟩, h6⟩ _ v1) fun x4 hx => ?_) (fun _ => ?_))
  · obtain ⟨u, ⟨⟨⟨k1, k2, k3, k4, k5⟩, k6⟩, e1, e2⟩⟩ := hx
    exact w_call (set_w k1 _ u) fun x3 h3 => ⟨Nat.zero_le _, ⟨⟨⟨h3, k2, k3, k4, k5⟩, k6⟩, e1, e2⟩⟩
  · obtain ⟨u, ⟨⟨⟨k1, k2, k3, k4, k5⟩, k6⟩, e1, e2⟩⟩ := hx
    exact ⟨u, ⟨⟨⟨k1, k2, k3, k4, k5⟩, k6⟩, e1, e2⟩⟩
  · repeat' (first
      | exact ⟨Nat.zero_le _, ⟨⟨⟨c1, m1, h3, h4, h5⟩, h6⟩, rfl, rfl⟩⟩
      | refine w_br (fun _ => ?_) (fun _ => ?_))
end
end Go.Proofs.YtdkiadhigcfmkaaGreat
namespace Go.Proofs.YtdkiadhigcfmkaaGreat
open Go Go.GD
set_option linter.unusedVariables false
set_option linter.unusedSimpArgs false
set_option maxRecDepth 100000
theorem type_w (c : ApiConsole) (b : Int) : (ref7_Type_t c b).w (fun _ => True) := by
  unfold ref7_Type_t
  refine w_br (fun _ => trivial) (fun h => w_cn (decide_eq_true ?_) trivial)
  have h := of_decide_eq_false h
  simp [maxLen]; omega
theorem accept_w {P : Nat} {m : List Int} (hm : okMem P m) {n : ApiNic} (hn : okNic n) (frame : List UInt8) : (ref7_accept_t n m frame).w (fun r => okNic r.1 ∧ okMem P r.2.2) := by
  unfold ref7_accept_t
  refine w_br (fun _ => ⟨hn, hm⟩) (fun _ => w_br (fun _ => ⟨hn, hm⟩) (fun _ => w_br (fun _ => ⟨hn, hm⟩) (fun _ => w_lv fun x0 hx => w_br (fun _ => ⟨hn, hm⟩) (fun hb => ?_))))
  have hp : ref7_page m n.Buffer = true := hx.symm.trans (by simpa using hb)
  rw [page_eq hm hn.buffer] at hp
  have hp := of_decide_eq_true hp
  obtain ⟨b1, b2⟩ := hn.buffer
  have ew : IntKind.i64.wrap n.Buffer = n.Buffer := by rw [IntKind.wrap_i64]; omega
  exact w_call (fill_w hm (frame := IntKind.i64.wrap n.Buffer) (by rw [ew]; exact b1) (by rw [ew]; exact hp) frame) fun x hx => ⟨⟨hn.frame, hn.len, U_0, U_wrap _⟩, hx⟩
section
variable {P : Nat} {r : ApiRecorder} (h : okR P r)
include h
theorem apply_w {e : ApiEvent} (he : U e.N) : (ref7_apply_R_t r e).w (fun x => okL P r x.2) := by
  have k : okL P r r := ⟨h, rfl, rfl⟩
  obtain ⟨⟨h1, h2, h3, h4, h5⟩, h6⟩ := h
  unfold ref7_apply_R_t
  repeat' (first
    | exact k
    | exact ⟨⟨⟨h1, h2, h3, h4, ⟨he, h5.2⟩⟩, h6⟩, rfl, rfl⟩
    | exact w_lv fun _ _ => ⟨⟨⟨h1, h2, h3, h4, h5⟩, h6⟩, rfl, rfl⟩
    | exact w_call (type_w _ _) fun _ _ => ⟨⟨⟨h1, h2, h3, h4, h5⟩, h6⟩, rfl, rfl⟩
    | exact w_call (finish_w h2 h3 _) fun x hx => ⟨⟨⟨h1, hx.2, hx.1, h4, h5⟩, h6⟩, rfl, rfl⟩
    | exact w_call (accept_w h2 h4 _) fun x hx => ⟨⟨⟨h1, hx.2, h3, hx.1, h5⟩, h6⟩, rfl, rfl⟩
    | refine w_br (fun _ => ?_) (fun _ => ?_))
theorem offer_w {e : ApiEvent} (he : U e.N) (hl : r.Log.length ≤ 1000000) : (ref19_offer_t r e).w (fun x => okR P x ∧ x.Log.length ≤ r.Log.length + 1 ∧ x.Queue = r.Queue) := by
  have acc : (ref7_Accept_R_t r e).w (fun x => okL P r x.2) := by
    unfold ref7_Accept_R_t
    exact w_call (apply_w h he) fun x hx => hx
  unfold ref19_offer_t
  refine w_call acc fun x hx => ?_
  obtain ⟨⟨k1, k2⟩, e1, e2⟩ := hx
  refine w_br (fun _ => w_cn (decide_eq_true (by rw [e1]; omega)) ⟨⟨k1, k2⟩, by simp [e1], e2⟩) (fun _ => ⟨⟨k1, k2⟩, by rw [e1]; omega, e2⟩)
theorem own_w (hl : r.Log.length ≤ 1000000) (hq : r.Queue.length ≤ 1000000) : (ref19_own_t r).w (fun x => okR P x ∧ x.Log = r.Log ∧ x.Queue = r.Queue) := by
  have ow : (ref7_Own_t r.Machine).w (fun m => okM P m) := by
    obtain ⟨⟨h1, h2, h3, h4, h5⟩, h6⟩ := h
    unfold ref7_Own_t
    exact w_call (copy_w h2) fun x hx => ⟨h1, by rw [hx]; exact h2, h3, h4, h5⟩
  unfold ref19_own_t
  refine w_call ow fun x hx => w_cn (decide_eq_true (by simp; omega)) (w_cn (decide_eq_true (by simp; omega)) ⟨⟨hx, h.clock⟩, rfl, rfl⟩)
theorem arrive_w (e : ApiEvent) (hl : r.Log.length ≤ 1000000) (hq : r.Queue.length ≤ 16) (hu : ∀ q ∈ r.Queue, U q.N) (he : U e.N) : (ref19_Arrive_t r e).w (fun x => okR P x.1 ∧ x.1.Log = r.Log ∧ x.1.Queue.length ≤ 16 ∧ ∀ q ∈ x.1.Queue, U q.N) := by
  unfold ref19_Arrive_t
  refine w_call (own_w h hl (by omega)) fun x hx => ?_
  obtain ⟨k1, k2, k3⟩ := hx
  have g : okR P x ∧ x.Log = r.Log ∧ x.Queue.length ≤ 16 ∧ ∀ q ∈ x.Queue, U q.N := ⟨k1, k2, by rw [k3]; exact hq, by rw [k3]; exact hu⟩
  refine w_lv fun x1 _ => w_br (fun _ => g) (fun _ => w_br (fun _ => g) (fun _ => w_br (fun _ => g) (fun hb => w_cn (decide_eq_true (by rw [k3]; omega)) ?_)))
  have hb := of_decide_eq_false hb
  refine ⟨⟨k1.m, k1.clock⟩, k2, ?_, ?_⟩
  · show (x.Queue ++ [e]).length ≤ 16
    rw [List.length_append]; simp at hb ⊢; omega
  · intro q hq
    have hq : q ∈ x.Queue ++ [e] := hq
    rw [List.mem_append] at hq
    rcases hq with hq | hq
    · exact hu q (k3 ▸ hq)
    · rw [List.mem_singleton.1 hq]; exact he
end
theorem event_w (n : Int) : (make_Event_t n).w (fun e => U e.N) := by
  have u1 : U 1 := ⟨by omega, by omega⟩
  have ev40 : ∀ x y, make_Data_pre x (IntKind.wrap .i64 (1 + Int.tmod y 40)) := fun x y => by
    show IntKind.wrap .i64 (1 + Int.tmod y 40) ≤ 1000000000000
    have h1 := Int.tmod_lt_of_pos y (b := 40) (by decide)
    have h2 := Int.lt_tmod_of_pos y (b := 40) (by decide)
    rw [IntKind.wrap_i64]; omega
  unfold make_Event_t
  refine w_lv fun x0 _ => ?_
  repeat' (first
    | exact U_0
    | exact u1
    | exact U_wrap _
    | exact w_an (show (128 : Int) ≤ 1000000000000 by decide) (w_lv fun _ _ => u1)
    | exact w_an (ev40 _ _) (w_lv fun _ _ => U_0)
    | refine w_br (fun _ => ?_) (fun _ => ?_))
end Go.Proofs.YtdkiadhigcfmkaaGreat

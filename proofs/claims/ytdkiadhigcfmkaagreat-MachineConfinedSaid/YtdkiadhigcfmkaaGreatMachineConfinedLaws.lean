/-
  A part of the proof.
-/
import Derived.Test.YtdkiadhigcfmkaaGreatMachineConfinedYe
namespace Go.Proofs.YtdkiadhigcfmkaaGreat
open Go Go.GD
set_option linter.unusedVariables false
set_option linter.unusedSimpArgs false
set_option maxRecDepth 100000
def U (x : Int) : Prop := 0 ≤ x ∧ x < 4294967296
theorem U_wrap (x : Int) : U (IntKind.u32.wrap x) := by rw [IntKind.wrap_u32]; unfold U; omega
theorem U_and (x y : Int) : U (iand .u32 x y) := U_wrap _
theorem U_or (x y : Int) : U (ior .u32 x y) := U_wrap _
theorem U_0 : U 0 := ⟨by omega, by omega⟩
theorem set_U {m : List Int} (h : ∀ w ∈ m, U w) {v : Int} (hv : U v) (i : Nat) : ∀ w ∈ m.set i v, U w := by
  intro w hw
  rcases List.mem_or_eq_of_mem_set hw with h1 | h1
  · exact h w h1
  · rw [h1]; exact hv
structure okMem (P : Nat) (m : List Int) : Prop where
  len : m.length = 32 * P
  p1 : 0 ≤ P
  p2 : P ≤ 32
  u : ∀ w ∈ m, U w
structure okDisk (d : ApiDisk) : Prop where
  block : U d.Block
  frame : U d.Frame
  opBlock : U d.OpBlock
  opFrame : U d.OpFrame
structure okNic (n : ApiNic) : Prop where
  frame : U n.Frame
  len : U n.Len
  buffer : U n.Buffer
  got : U n.Got
theorem getD_U {l : List Int} (h : ∀ w ∈ l, U w) (i : Nat) : U (l.getD i 0) := by
  by_cases hi : i < l.length
  · have : l.getD i 0 = l[i] := by simp [List.getD, hi]
    rw [this]; exact h _ (List.getElem_mem hi)
  · have : l.getD i 0 = 0 := by simp [List.getD, List.getElem?_eq_none (by omega : l.length ≤ i)]
    rw [this]; exact U_0
structure okCpu (c : ApiCpu) : Prop where
  x : ∀ w ∈ A16.l c.X, U w
  pc : U c.Pc
  csr : ∀ w ∈ A8.l c.Csr, U w
theorem okX_set {X : A16 Int} (h : ∀ w ∈ A16.l X, U w) {v : Int} (hv : U v) (i : Nat) : ∀ w ∈ A16.l (A16.of 0 (List.set (A16.l X) i v)), U w := by
  have hs := set_U h hv i
  intro w hw
  simp only [A16.l, A16.of, List.mem_cons, List.not_mem_nil, or_false] at hw
  repeat (first | (rcases hw with rfl | hw; · exact getD_U hs _) | (subst hw; exact getD_U hs _))
theorem okCsr_set {X : A8 Int} (h : ∀ w ∈ A8.l X, U w) {v : Int} (hv : U v) (i : Nat) : ∀ w ∈ A8.l (A8.of 0 (List.set (A8.l X) i v)), U w := by
  have hs := set_U h hv i
  intro w hw
  simp only [A8.l, A8.of, List.mem_cons, List.not_mem_nil, or_false] at hw
  repeat (first | (rcases hw with rfl | hw; · exact getD_U hs _) | (subst hw; exact getD_U hs _))
section
variable {c : ApiCpu} (h : okCpu c)
include h
theorem okCpu.a (i : Nat) : U ((A8.l c.Csr).getD i 0) := getD_U h.csr i
theorem okCpu.r (i : Nat) : U ((A16.l c.X).getD i 0) := getD_U h.x i
theorem okCpu.a0 : U c.Csr.a0 := h.a 0
theorem okCpu.a1 : U c.Csr.a1 := h.a 1
theorem okCpu.a2 : U c.Csr.a2 := h.a 2
theorem okCpu.a3 : U c.Csr.a3 := h.a 3
theorem okCpu.a4 : U c.Csr.a4 := h.a 4
theorem okCpu.a5 : U c.Csr.a5 := h.a 5
theorem okCpu.a6 : U c.Csr.a6 := h.a 6
theorem okCpu.a7 : U c.Csr.a7 := h.a 7
end
section
variable {α β : Type} {W : β → Prop} {t : Tree α} {Q : α → Prop} {k : α → Tree β}
theorem w_call (hq : t.w Q) (g : ∀ x, Q x → (k x).w W) : (Tree.an t.p (Tree.lv t.m k)).w W := ⟨(Tree.pp hq).1, fun y hy => g y (by rw [hy]; exact (Tree.pp hq).2)⟩
end
theorem rc {r : Int} (h : 0 ≤ r ∧ r < 16) : (Nat.blt 0 1 && decide (0 ≤ r ∧ r < ((16 : Nat) : Int))) = true := by simp [Nat.blt]; omega
theorem U_shr {a : Int} (h : U a) (b : Int) : U (ishr .u32 a b) := by
  unfold ishr U
  obtain ⟨h1, h2⟩ := h
  have hp : (0 : Int) < 2 ^ (min b.toNat IntKind.u32.bits) := Int.pow_pos (by decide)
  have := Int.fdiv_nonneg h1 (Int.le_of_lt hp)
  refine ⟨this, ?_⟩
  rw [Int.fdiv_eq_ediv_of_nonneg _ (Int.le_of_lt hp)]
  have h3 := Int.ediv_le_self (2 ^ (min b.toNat IntKind.u32.bits)) h1
  omega
structure okInst (i : ApiInst) : Prop where
  a : 0 ≤ i.A ∧ i.A < 16
  b : 0 ≤ i.B ∧ i.B < 16
  c : 0 ≤ i.C ∧ i.C < 16
  csr : i.Op = 58 → 0 ≤ i.Imm ∧ i.Imm < 8
end Go.Proofs.YtdkiadhigcfmkaaGreat
namespace Go.Proofs.YtdkiadhigcfmkaaGreat
open Go Go.GD
set_option linter.unusedVariables false
set_option linter.unusedSimpArgs false
set_option maxRecDepth 100000
theorem pagesP_eq {P : Nat} {m : List Int} (h : okMem P m) : memory_Pages m = P := by
  obtain ⟨h1, h2, h3, _⟩ := h
  simp only [memory_Pages, memory_Pages_t, Tree.m]
  have e : (m.length : Int) = 32 * P := by omega
  rw [e]
  have e1 : (Int.tmod (32 * (P : Int)) 32 != 0) = false := by simp [Int.mul_tmod_right]
  have e2 : decide ((32 * (P : Int)) > 1024) = false := decide_eq_false (by omega)
  rw [e1, e2]
  simp only [cond_false]
  rw [Int.mul_tdiv_cancel_left _ (by decide), IntKind.wrap_i64]; omega
theorem mask_w (n : Int) : (bits_mask_t n).w (fun _ => True) := by
  unfold bits_mask_t
  exact w_br (fun _ => trivial) (fun _ => w_cn (decide_eq_true (by rw [IntKind.wrap_u64]; omega)) trivial)
theorem field_w (w low n : Int) : (bits_Field_t w low n).w U := by
  unfold bits_Field_t
  exact w_br (fun _ => U_0) (fun _ => w_br (fun _ => U_0) (fun _ => w_br (fun _ => U_0) (fun _ => w_cn (decide_eq_true (by rw [IntKind.wrap_u64]; omega)) (w_call (mask_w n) fun _ _ => U_and _ _))))
theorem setField_w {w : Int} (hw : U w) (low n v : Int) : (bits_SetField_t w low n v).w U := by
  have h0 : decide (0 ≤ IntKind.wrap IntKind.u64 low) = true := decide_eq_true (by rw [IntKind.wrap_u64]; omega)
  unfold bits_SetField_t
  exact w_br (fun _ => hw) (fun _ => w_br (fun _ => hw) (fun _ => w_br (fun _ => hw) (fun _ => w_call (mask_w n) fun _ _ => w_cn h0 (w_cn h0 (U_or _ _)))))
theorem signExtP_w {x : Int} (hx : U x) (n : Int) : (bits_SignExtend_t x n).w U := by
  have h0 : ∀ y, decide (0 ≤ IntKind.wrap IntKind.u64 y) = true := fun y => decide_eq_true (by rw [IntKind.wrap_u64]; omega)
  unfold bits_SignExtend_t
  exact w_br (fun _ => U_0) (fun _ => w_br (fun _ => hx) (fun _ => w_cn (h0 _) (w_cn (h0 _) (U_wrap _))))
section
variable {P : Nat} {m : List Int} (h : okMem P m)
include h
theorem clone_w : slices_Clone_uint32_uint32_pre m := by
  have := h.len
  have := h.p2
  show m.length ≤ 35184372088832
  omega
theorem withinP_w {a : Int} (ha : U a) {size : Int} (hs : size = 1 ∨ size = 4) : (memory_within_t m a size).w (fun b => b = true → a + size ≤ 128 * P) := by
  have hp := pagesP_eq h
  have h2 := h.p2
  obtain ⟨a1, a2⟩ := ha
  have e : decide (IntKind.wrap IntKind.u32 size ≠ 0) = true := by rcases hs with rfl | rfl <;> decide
  have l : ∀ x, x = memory_Pages m → decide (IntKind.wrap IntKind.u64 (IntKind.wrap IntKind.u64 a + IntKind.wrap IntKind.u64 size) ≤ IntKind.wrap IntKind.u64 (IntKind.wrap IntKind.u64 x * 128)) = true → a + size ≤ 128 * P := fun x hx hd => by
    rw [hx, hp] at hd
    have := of_decide_eq_true hd
    simp only [IntKind.wrap_u64] at this
    omega
  unfold memory_within_t
  refine w_br (fun _ => w_br (fun _ => fun h => by cases h) (fun _ => ?_)) (fun _ => ?_) <;>
  exact w_cn e (w_br (fun _ => fun h => by cases h) (fun _ => w_lv fun x hx => l x hx))
theorem idxP {a : Int} (ha : U a) (hl : a < 128 * P) : (Nat.beq 1 1 && Nat.blt 0 1 && decide (0 ≤ IntKind.wrap IntKind.u32 (Int.tdiv a 4) ∧ IntKind.wrap IntKind.u32 (Int.tdiv a 4) < (m.length : Int))) = true := by
  obtain ⟨a1, a2⟩ := ha
  have e : IntKind.wrap IntKind.u32 (Int.tdiv a 4) = a / 4 := by rw [IntKind.wrap_u32, Int.tdiv_eq_ediv_of_nonneg a1]; omega
  have := h.len
  rw [e]; simp [Nat.blt]; omega
theorem loadP_w {a : Int} (ha : U a) {size : Int} (hs : size = 1 ∨ size = 4) : (memory_Load_t m a size).w (fun r => U r.1 ∧ (r.2 = true → a < 128 * P)) := by
  unfold memory_Load_t
  refine w_call (withinP_w h ha hs) fun x hx => w_br (fun _ => ⟨U_0, fun h => by cases h⟩) (fun hb => ?_)
  have hl := hx (by simpa using hb)
  have hl : a < 128 * P := by omega
  exact w_cn (idxP h ha hl) (w_br (fun _ => w_call (field_w _ _ _) fun y hy => ⟨hy, fun _ => hl⟩) (fun _ => ⟨getD_U h.u _, fun _ => hl⟩))
theorem storeP_w {a : Int} (ha : U a) {size : Int} (hs : size = 1 ∨ size = 4) {v : Int} (hv : U v) : (memory_Store_t m a size v).w (fun r => okMem P r.1) := by
  have st : ∀ i v, U v → okMem P (m.set i v) := fun i v hv => ⟨by simp [h.len], h.p1, h.p2, set_U h.u hv i⟩
  have hcl : slices_Clone_uint32_uint32 m = m := rfl
  unfold memory_Store_t
  refine w_an (clone_w h) (w_lv fun x0 hx0 => ?_)
  rw [hcl] at hx0; subst hx0
  refine w_call (withinP_w h ha hs) fun x hx => w_br (fun _ => h) (fun hb => ?_)
  have hl := hx (by simpa using hb)
  have hl : a < 128 * P := by omega
  exact w_br (fun _ => w_cn (idxP h ha hl) (w_call (setField_w (getD_U h.u _) _ _ _) fun y hy => w_cn (idxP h ha hl) (st _ _ hy))) (fun _ => w_cn (idxP h ha hl) (st _ _ hv))
end
end Go.Proofs.YtdkiadhigcfmkaaGreat
namespace Go.Proofs.YtdkiadhigcfmkaaGreat
open Go Go.GD
set_option linter.unusedVariables false
set_option linter.unusedSimpArgs false
set_option maxRecDepth 100000
theorem regP_ok {r : Int} {used : Bool} (h : isa_register r used = true) : 0 ≤ r ∧ r < 16 := by
  simp only [isa_register, isa_register_t, Tree.m] at h
  cases used
  · have h : (r == 0) = true := h
    have := eq_of_beq h; omega
  · cases h1 : decide (r ≥ 0) <;> rw [h1] at h
    · cases h
    · have h1 := of_decide_eq_true h1
      have h := of_decide_eq_true h
      omega
theorem validP_ok {i : ApiInst} (h : isa_Valid i = true) : okInst i := by
  have no : false = true → okInst i := fun h => by cases h
  refine (Tree.post (isa_Valid_t i) (W := fun b => b = true → okInst i) ?_) h
  unfold isa_Valid_t
  refine w_lv fun x0 h0 => w_br (fun _ => w_lv fun x1 h1 => w_br (fun b1 => w_lv fun x2 h2 => w_br (fun b2 => w_lv fun x3 h3 => w_br (fun b3 => w_br (fun b4 => fun b5 => ?_) (fun _ => no)) (fun _ => no)) (fun _ => no)) (fun _ => no)) (fun _ => no)
  have b4 := of_decide_eq_true b4
  have b5 := of_decide_eq_true b5
  refine ⟨regP_ok (h1.symm.trans b1), regP_ok (h2.symm.trans b2), regP_ok (h3.symm.trans b3), fun e => ?_⟩
  rw [e] at h0
  have h0 : x0 = ({ a := true, b := false, c := false, low := 0, high := 7 }, true) := h0
  subst h0
  simp at b4 b5; omega
theorem decodeP_w (w : Int) : (isa_Decode_t w).w (fun r => r.2 = true → okInst r.1) := by
  have no : ∀ {p : Prop}, false = true → p := fun h => by cases h
  have l : ∀ i, (Tree.lv (isa_Valid i) fun x => .br (!x) (.lf ((⟨0, 0, 0, 0, 0⟩ : ApiInst), false)) (.lf (i, true))).w (fun r => r.2 = true → okInst r.1) := fun i => w_lv fun x hx => w_br (fun _ => no) (fun hb => fun _ => validP_ok (hx.symm.trans (by simpa using hb)))
  unfold isa_Decode_t
  exact w_call (field_w _ _ _) fun x0 _ => w_call (field_w _ _ _) fun x1 _ => w_call (field_w _ _ _) fun x2 _ => w_lv fun x3 _ => w_br (fun _ => no) (fun _ => w_call (field_w _ _ _) fun x4 h4 => w_br (fun _ => l _) (fun _ => w_br (fun _ => w_call (signExtP_w h4 _) fun x6 _ => l _) (fun _ => l _)))
theorem causeP_ne (access : Int) : (paging_causeOf access).1 ≠ 0 ∧ (cpu_causeOf access).1 ≠ 0 := by
  constructor
  · simp only [paging_causeOf, paging_causeOf_t, Tree.m]
    cases access == 1 <;> cases access == 2 <;> cases access == 3 <;> simp
  · simp only [cpu_causeOf, cpu_causeOf_t, Tree.m]
    cases access == 1 <;> cases access == 2 <;> cases access == 3 <;> simp
section
variable {P : Nat} {m : List Int} (h : okMem P m)
include h
theorem walkP_w {root va : Int} (hv : U va) (access : Int) : (paging_Walk_t m root va access).w (fun t => U t.Addr ∧ U t.Entry) := by
  have bad : U (0 : Int) ∧ U (0 : Int) := ⟨U_0, U_0⟩
  have fr : ∀ x, (paging_frameOf_t x).w U := fun x => by
    unfold paging_frameOf_t
    exact w_call (field_w _ _ _) fun y hy => hy
  unfold paging_Walk_t
  exact w_lv fun x0 _ => w_br (fun _ => bad) (fun _ => w_br (fun _ => bad) (fun _ => w_lv fun x1 _ => w_br (fun _ => bad) (fun _ => w_call (loadP_w h (U_wrap _) (.inr rfl)) fun x2 _ => w_br (fun _ => bad) (fun _ => w_lv fun x3 _ => w_br (fun _ => bad) (fun _ => w_call (fr _) fun x4 _ => w_lv fun x5 _ => w_br (fun _ => bad) (fun _ => w_call (fr _) fun x6 _ => ⟨U_wrap _, U_wrap _⟩))))))
theorem touchP_w {a : Int} (ha : U a) (access : Int) : (paging_Touch_t m a access).w (okMem P) := by
  have hcl : slices_Clone_uint32_uint32 m = m := rfl
  unfold paging_Touch_t
  exact w_call (loadP_w h ha (.inr rfl)) fun x0 _ => w_br (fun _ => w_an (clone_w h) (w_lv fun x1 h1 => by rw [h1, hcl]; exact h)) (fun _ => w_br (fun _ => w_call (storeP_w h ha (.inr rfl) (U_or _ _)) fun x hx => hx) (fun _ => w_call (storeP_w h ha (.inr rfl) (U_or _ _)) fun x hx => hx))
theorem resolveP_w {c : ApiCpu} {va : Int} (hv : U va) {size : Int} (hs : size = 1 ∨ size = 4) (access : Int) : (cpu_Resolve_t c m va size access).w (fun r => U r.1 ∧ okMem P r.2.1) := by
  have hcl : slices_Clone_uint32_uint32 m = m := rfl
  have e : decide (IntKind.wrap IntKind.u32 size ≠ 0) = true := by rcases hs with rfl | rfl <;> decide
  have cl : ∀ (K : List Int → Int × List Int × Int), (∀ x, x = m → U (K x).1 ∧ okMem P (K x).2.1) → (Tree.an (slices_Clone_uint32_uint32_pre m) (.lv (slices_Clone_uint32_uint32 m) fun x => .lf (K x))).w (fun r => U r.1 ∧ okMem P r.2.1) := fun K hK => w_an (clone_w h) (w_lv fun x hx => hK x (hx.trans hcl))
  have z : ∀ (k : Nat) (x : List Int), x = m → U (0 : Int) ∧ okMem P x := fun _ x hx => ⟨U_0, hx ▸ h⟩
  have v : ∀ x, x = m → U va ∧ okMem P x := fun x hx => ⟨hv, hx ▸ h⟩
  have main : ∀ (x0 : Int × Bool), (Tree.cn (decide (IntKind.wrap IntKind.u32 size ≠ 0)) (.br (Int.tmod va (IntKind.wrap IntKind.u32 size) != 0) (.an (slices_Clone_uint32_uint32_pre m) (.lv (slices_Clone_uint32_uint32 m) fun x3 => .lf ((0 : Int), x3, (3 : Int)))) (.lv (cpu_kernel c) fun x4 => .br (!x4) (.br (iand IntKind.u32 c.Csr.a0 4 != 0) (.an (paging_Walk_pre m c.Csr.a6 va access) (.lv (paging_Walk m c.Csr.a6 va access) fun x5 => .br (x5.Cause != 0) (.an (slices_Clone_uint32_uint32_pre m) (.lv (slices_Clone_uint32_uint32 m) fun x6 => .lf (0, x6, x5.Cause))) (.an (paging_Touch_pre m x5.Entry access) (.lv (paging_Touch m x5.Entry access) fun x7 => .lf (x5.Addr, x7, 0))))) (.an (memory_Load_pre m va size) (.lv (memory_Load m va size) fun x8 => .br (!x8.snd) (.an (slices_Clone_uint32_uint32_pre m) (.lv (slices_Clone_uint32_uint32 m) fun x9 => .lf (0, x9, x0.fst))) (.an (slices_Clone_uint32_uint32_pre m) (.lv (slices_Clone_uint32_uint32 m) fun x10 => .lf (va, x10, 0)))))) (.an (memory_Load_pre m va size) (.lv (memory_Load m va size) fun x11 => .br (!x11.snd) (.an (slices_Clone_uint32_uint32_pre m) (.lv (slices_Clone_uint32_uint32 m) fun x12 => .lf (0, x12, x0.fst))) (.an (slices_Clone_uint32_uint32_pre m) (.lv (slices_Clone_uint32_uint32 m) fun x13 => .lf (va, x13, 0)))))))).w (fun r => U r.1 ∧ okMem P r.2.1) := fun x0 =>
    w_cn e (w_br (fun _ => cl _ (z 0)) (fun _ => w_lv fun x4 _ => w_br (fun _ => w_br (fun _ => w_call (walkP_w h hv access) fun x5 hx => w_br (fun _ => cl _ (z 0)) (fun _ => w_call (touchP_w h hx.2 access) fun x7 h7 => ⟨hx.1, h7⟩)) (fun _ => w_call (loadP_w h hv hs) fun x8 _ => w_br (fun _ => cl _ (z 0)) (fun _ => cl _ v))) (fun _ => w_call (loadP_w h hv hs) fun x8 _ => w_br (fun _ => cl _ (z 0)) (fun _ => cl _ v))))
  unfold cpu_Resolve_t
  exact w_lv fun x0 _ => w_br (fun _ => cl _ (z 0)) (fun _ => w_br (fun _ => w_br (fun _ => cl _ (z 0)) (fun _ => main x0)) (fun _ => main x0))
theorem fetchP_w {c : ApiCpu} (hc : okCpu c) : (cpu_Fetch_t c m).w (fun r => U r.1 ∧ okMem P r.2.1) := by
  unfold cpu_Fetch_t
  exact w_call (resolveP_w h hc.pc (.inr rfl) 1) fun x0 h0 => w_br (fun _ => ⟨U_0, h0.2⟩) (fun _ => w_call (loadP_w h0.2 h0.1 (.inr rfl)) fun x1 h1 => ⟨h1.1, h0.2⟩)
end
theorem moveP_w {s a b : Int} : U (cpu_move s a b) := by
  refine Tree.post (cpu_move_t s a b) (W := U) ?_
  unfold cpu_move_t
  exact w_br (fun _ => U_wrap _) (fun _ => U_wrap _)
section
variable {c : ApiCpu} (h : okCpu c)
include h
theorem trapP_w (k : Int) {b : Int} (hb : U b) : okCpu (cpu_Trap c k b) := by
  refine (Tree.post (cpu_Trap_t c k b) (W := okCpu) ?_)
  unfold cpu_Trap_t
  refine w_lv fun _ _ => w_lv fun _ _ => ⟨h.x, h.a1, ?_⟩
  intro w hw
  simp only [A8.l, List.mem_cons, List.not_mem_nil, or_false] at hw
  rcases hw with rfl | rfl | rfl | rfl | rfl | rfl | rfl | rfl
  · exact U_wrap _
  · exact h.a1
  · exact h.pc
  · exact U_wrap _
  · exact hb
  · exact h.a5
  · exact h.a6
  · exact h.a7
theorem returnP_w : okCpu (cpu_Return c) := by
  refine (Tree.post (cpu_Return_t c) (W := okCpu) ?_)
  unfold cpu_Return_t
  refine w_lv fun x0 _ => w_lv fun x1 h1 => ⟨h.x, h.a2, ?_⟩
  intro w hw
  simp only [A8.l, List.mem_cons, List.not_mem_nil, or_false] at hw
  rcases hw with rfl | rfl | rfl | rfl | rfl | rfl | rfl | rfl
  · rw [h1]; exact moveP_w
  · exact h.a1
  · exact h.a2
  · exact h.a3
  · exact h.a4
  · exact h.a5
  · exact h.a6
  · exact h.a7
theorem setP_w {r : Int} (hr : 0 ≤ r ∧ r < 16) {v : Int} (hv : U v) : (cpu_set_t c r v).w okCpu := by
  unfold cpu_set_t
  exact w_br (fun _ => w_cn (rc hr) ⟨okX_set h.x hv _, h.pc, h.csr⟩) (fun _ => h)
theorem writeP_w (k : Int) {v : Int} (hv : U v) : (cpu_Write_t c k v).w okCpu := by
  have ok : ∀ i v, U v → okCpu { X := c.X, Pc := c.Pc, Csr := A8.of 0 (List.set (A8.l c.Csr) i v) } := fun i v hv => ⟨h.x, h.pc, okCsr_set h.csr hv i⟩
  unfold cpu_Write_t
  repeat' (first
    | exact h
    | exact ok _ _ (U_wrap _)
    | exact ok _ _ hv
    | refine w_br (fun hk => ?_) (fun _ => ?_)
    | refine w_cn (by rw [eq_of_beq (by assumption : (k == _) = true)]; decide) ?_)
end
theorem divideP_w {a b : Int} (ha : U a) (hb : U b) : (bits_Divide_t a b).w (fun r => U r.1 ∧ U r.2) := by
  have u1 : U 4294967295 := ⟨by omega, by omega⟩
  unfold bits_Divide_t
  refine w_br (fun _ => ⟨u1, ha⟩) (fun h => ?_)
  have h : ¬ b = 0 := by simpa using h
  obtain ⟨b1, b2⟩ := hb
  have hc : decide (IntKind.wrap IntKind.i32 b ≠ 0) = true := decide_eq_true (by rw [IntKind.wrap_i32]; omega)
  exact w_br (fun _ => w_br (fun _ => ⟨ha, U_0⟩) (fun _ => w_cn hc (w_cn hc ⟨U_wrap _, U_wrap _⟩))) (fun _ => w_cn hc (w_cn hc ⟨U_wrap _, U_wrap _⟩))
theorem truth_w (b : Bool) : U (cpu_truth b) := by cases b <;> exact ⟨by decide, by decide⟩
theorem aluP_w (op : Int) {a b : Int} (ha : U a) (hb : U b) : (cpu_Alu_t op a b).w (fun r => U r.1) := by
  unfold cpu_Alu_t
  repeat' (first
    | refine w_br (fun _ => ?_) (fun _ => ?_)
    | exact w_call (divideP_w ha hb) fun x hx => hx.1
    | exact w_call (divideP_w ha hb) fun x hx => hx.2
    | exact w_lv fun x hx => (by rw [hx]; exact truth_w _)
    | refine w_lf ?_)
  all_goals (first
    | exact U_wrap _
    | exact U_shr ha _
    | exact U_0)
theorem width_w (op : Int) : cpu_width op = 1 ∨ cpu_width op = 4 := by
  simp only [cpu_width, cpu_width_t, Tree.m]
  cases op == 32 <;> cases op == 35 <;> simp
section
variable {c : ApiCpu} (h : okCpu c) {i : ApiInst} (hi : okInst i)
include h hi
theorem executeP_w : (cpu_execute_t c i).w (fun r => okCpu r.1 ∧ U r.2.Value) := by
  have k : ∀ {x : ApiCpu} {p : Int}, okCpu x → U p → okCpu { X := x.X, Pc := p, Csr := x.Csr } := fun hx hp => ⟨hx.x, hp, hx.csr⟩
  unfold cpu_execute_t
  refine w_cn (rc hi.a) (w_cn (rc hi.b) ?_)
  repeat' (first
    | refine w_br (fun _ => ?_) (fun _ => ?_)
    | exact w_call (setP_w h hi.a (U_wrap _)) fun x hx => ⟨k hx (U_wrap _), U_0⟩
    | exact w_lv fun x _ => w_br (fun _ => ⟨k h (U_wrap _), U_0⟩) (fun _ => ⟨k h (U_wrap _), U_0⟩)
    | exact w_lv fun x hx => ⟨by rw [hx]; exact trapP_w h _ U_0, U_0⟩
    | exact w_lv fun x hx => ⟨by rw [hx]; exact returnP_w h, U_0⟩
    | exact w_cn (by have := hi.csr (by simp_all); simp [Nat.blt]; omega) (w_call (setP_w h hi.a (h.a _)) fun x hx => ⟨k hx (U_wrap _), U_0⟩)
    | exact w_call (writeP_w h _ (h.r _)) fun x hx => ⟨k hx (U_wrap _), U_0⟩
    | refine w_cn (rc hi.c) ?_
    | exact w_call (aluP_w _ (h.r _) (U_wrap _)) fun y hy => w_call (setP_w h hi.a hy) fun x hx => ⟨k hx (U_wrap _), U_0⟩
    | exact w_call (aluP_w _ (h.r _) (h.r _)) fun y hy => w_call (setP_w h hi.a hy) fun x hx => ⟨k hx (U_wrap _), U_0⟩
    | refine w_lf ?_)
  all_goals (first
    | exact ⟨k h (U_wrap _), U_0⟩
    | exact ⟨k h (U_wrap _), h.r _⟩)
theorem loadInstP_w {P : Nat} {m : List Int} (hm : okMem P m) : (cpu_load_t c m i).w (fun r => okCpu r.1 ∧ okMem P r.2) := by
  have w := width_w i.Op
  unfold cpu_load_t
  refine w_cn (rc hi.b) (w_lv fun x0 h0 => ?_)
  rw [← h0] at w
  refine w_call (resolveP_w hm (U_wrap _) w 2) fun x1 h1 => w_br (fun _ => w_lv fun y hy => ⟨by rw [hy]; exact trapP_w h _ (U_wrap _), h1.2⟩) (fun _ => w_lv fun x3 h3 => ?_)
  rw [h0, ← h3] at w
  exact w_call (loadP_w h1.2 h1.1 w) fun x4 h4 => w_br (fun _ => w_call (signExtP_w h4.1 8) fun y hy => w_call (setP_w h hi.a hy) fun x hx => ⟨⟨hx.x, U_wrap _, hx.csr⟩, h1.2⟩) (fun _ => w_call (setP_w h hi.a h4.1) fun x hx => ⟨⟨hx.x, U_wrap _, hx.csr⟩, h1.2⟩)
theorem storeInstP_w {P : Nat} {m : List Int} (hm : okMem P m) : (cpu_store_t c m i).w (fun r => okCpu r.1 ∧ okMem P r.2) := by
  have w := width_w i.Op
  unfold cpu_store_t
  refine w_cn (rc hi.b) (w_lv fun x0 h0 => ?_)
  rw [← h0] at w
  refine w_call (resolveP_w hm (U_wrap _) w 3) fun x1 h1 => w_br (fun _ => w_lv fun y hy => ⟨by rw [hy]; exact trapP_w h _ (U_wrap _), h1.2⟩) (fun _ => w_lv fun x3 h3 => w_cn (rc hi.a) ?_)
  rw [h0, ← h3] at w
  exact w_call (storeP_w h1.2 h1.1 w (h.r _)) fun x hx => ⟨⟨h.x, U_wrap _, h.csr⟩, hx⟩
end
theorem execP_w {c : ApiCpu} (h : okCpu c) {P : Nat} {m : List Int} (hm : okMem P m) : (cpu_Exec_t c m).w (fun r => okCpu r.1 ∧ okMem P r.2.1 ∧ U r.2.2.Value) := by
  unfold cpu_Exec_t
  refine w_call (fetchP_w hm h) fun x0 h0 => w_br (fun _ => w_lv fun y hy => ⟨by rw [hy]; exact trapP_w h _ h.pc, h0.2, U_0⟩) (fun _ => w_call (decodeP_w _) fun x2 h2 => w_br (fun _ => w_lv fun y hy => ⟨by rw [hy]; exact trapP_w h _ h0.1, h0.2, U_0⟩) (fun hb => ?_))
  have hi := h2 (by simpa using hb)
  refine w_lv fun x4 _ => ?_
  repeat' (first
    | refine w_br (fun _ => ?_) (fun _ => ?_)
    | exact w_call (loadInstP_w h hi h0.2) fun x hx => ⟨hx.1, hx.2, U_0⟩
    | exact w_call (storeInstP_w h hi h0.2) fun x hx => ⟨hx.1, hx.2, U_0⟩
    | exact w_call (executeP_w h hi) fun x hx => ⟨hx.1, h0.2, hx.2⟩
    | exact w_lv fun y hy => ⟨by rw [hy]; exact trapP_w h _ h0.1, h0.2, U_0⟩
    | refine w_lv fun _ _ => ?_)
end Go.Proofs.YtdkiadhigcfmkaaGreat
namespace Go.Proofs.YtdkiadhigcfmkaaGreat
open Go Go.GD
set_option linter.unusedVariables false
set_option linter.unusedSimpArgs false
set_option maxRecDepth 100000
theorem shr_lt {a : Int} (h : U a) (k : Nat) (hk : k ≤ 32) : 0 ≤ ishr .u32 a k ∧ ishr .u32 a k * 2 ^ k ≤ a := by
  obtain ⟨h1, h2⟩ := h
  unfold ishr
  have e : min (k : Int).toNat IntKind.u32.bits = k := by show min (k : Int).toNat 32 = k; omega
  have hp : (0 : Int) < 2 ^ k := Int.pow_pos (by decide)
  rw [e, Int.fdiv_eq_ediv_of_nonneg _ (Int.le_of_lt hp)]
  exact ⟨Int.ediv_nonneg h1 (Int.le_of_lt hp), Int.ediv_mul_le a (Int.ne_of_gt hp)⟩
theorem u8_range (x : Int) : 0 ≤ IntKind.u8.wrap x ∧ IntKind.u8.wrap x < 256 := by rw [IntKind.wrap_u8]; omega
theorem len32_w {x : Int} (h : U x) : (math_bits_Len32_t x).w (fun _ => True) := by
  have s16 := shr_lt h 16 (by omega)
  have s8 := shr_lt h 8 (by omega)
  have s24 := shr_lt (U_shr h 16) 8 (by omega)
  obtain ⟨h1, h2⟩ := h
  unfold math_bits_Len32_t
  repeat' (first
    | refine w_br (fun _ => ?_) (fun _ => ?_)
    | refine w_cn (decide_eq_true ⟨?_, Int.lt_of_lt_of_le (b := 256) ?_ (Int.le_of_eq (by kernel_rfl))⟩) ?_
    | exact trivial
    | refine w_lf ?_)
  all_goals (first
    | trivial
    | exact (u8_range _).1
    | exact (u8_range _).2
    | (simp only [decide_eq_true_eq, decide_eq_false_iff_not] at *; simp at s16 s8 s24; omega))
theorem and255 (a : Int) : iand .u32 a 255 < 256 := by
  unfold iand
  rw [IntKind.wrap_u32]
  have : (BitVec.ofInt IntKind.u32.bits a &&& BitVec.ofInt IntKind.u32.bits 255).toNat ≤ 255 := by
    show (BitVec.ofInt 32 a &&& BitVec.ofInt 32 255).toNat ≤ 255
    rw [BitVec.toNat_and]
    exact Nat.le_trans Nat.and_le_right (by decide)
  omega
theorem ones_w {x : Int} (h : U x) : (math_bits_OnesCount32_t x).w (fun _ => True) := by
  have s24 := shr_lt h 24 (by omega)
  obtain ⟨h1, h2⟩ := h
  have i24 : ishr .u32 x 24 < 256 := by simp at s24; omega
  unfold math_bits_OnesCount32_t
  repeat' (first
    | refine w_cn (decide_eq_true ⟨?_, Int.lt_of_lt_of_le (b := 256) ?_ (Int.le_of_eq (by kernel_rfl))⟩) ?_
    | exact trivial
    | refine w_lf ?_)
  all_goals (first
    | trivial
    | exact (U_wrap _).1
    | exact s24.1
    | exact i24
    | exact and255 _)
structure okS (P : Nat) (m : ApiMachine) : Prop where
  cpu : okCpu m.Cpu
  mem : okMem P m.Mem
  disk : okDisk m.Disk
  nic : okNic m.Nic
  target : U m.Balloon.Target
  given : U m.Balloon.Given
theorem countP_w {b : ApiBalloon} (h : U b.Given) : (balloon_Count_t b).w (fun _ => True) := by
  unfold balloon_Count_t
  exact w_call (ones_w h) fun _ _ => trivial
theorem mayP_w {m : ApiMachine} (h : U m.Balloon.Given) : (machine_May_t m).w (fun _ => True) := by
  have b : ∀ x, (balloon_May_t m.Balloon x).w (fun _ => True) := fun x => by
    unfold balloon_May_t
    exact w_call (len32_w h) fun _ _ => trivial
  have d : (machine_mayDevices_t m).w (fun _ => True) := by
    unfold machine_mayDevices_t
    exact w_lv fun _ _ => w_lv fun _ _ => w_br (fun _ => w_lv fun _ _ => w_br (fun _ => w_lv fun _ _ => w_br (fun _ => w_lv fun _ _ => w_br (fun _ => w_call (b _) fun _ _ => trivial) (fun _ => trivial)) (fun _ => trivial)) (fun _ => trivial)) (fun _ => trivial)
  unfold machine_May_t
  repeat' (first
    | refine w_br (fun _ => ?_) (fun _ => ?_)
    | exact w_call d fun _ _ => trivial
    | refine w_lv fun _ _ => ?_
    | exact trivial)
theorem linesP_w {m : ApiMachine} (h : U m.Balloon.Given) : (machine_Lines_t m).w (fun _ => True) := by
  have p : (balloon_Pending_t m.Balloon).w (fun _ => True) := by
    unfold balloon_Pending_t
    exact w_call (countP_w h) fun _ _ => trivial
  unfold machine_Lines_t
  refine w_lv fun x0 _ => w_lv fun x1 _ => w_lv fun x2 _ => w_lv fun x3 _ => w_call p fun x4 _ => w_lp (inv := fun z => 0 ≤ z.2 ∧ z.2 ≤ 5) (μ := machine_Lines_meas0 m) ⟨by omega, by omega⟩ (Nat.lt_succ_self _) (fun z hz => ?_)
  obtain ⟨z1, z2⟩ := hz
  have ew : z.2 < 5 → IntKind.i64.wrap (z.2 + 1) = z.2 + 1 := fun _ => by rw [IntKind.wrap_i64]; omega
  refine w_br (fun hb => ?_) (fun _ => trivial)
  have hb := of_decide_eq_true hb
  have nx : (0 ≤ IntKind.i64.wrap (z.2 + 1) ∧ IntKind.i64.wrap (z.2 + 1) ≤ 5) ∧ (5 - IntKind.i64.wrap (z.2 + 1)).toNat < (5 - z.2).toNat := by rw [ew hb]; omega
  refine w_cn (by simp; omega) (w_br (fun _ => w_cn (decide_eq_true z1) (w_nx nx)) (fun _ => w_nx nx))
theorem enabledP_w {m : ApiMachine} (h : U m.Balloon.Given) : (machine_enabled_t m).w U := by
  unfold machine_enabled_t
  exact w_call (linesP_w h) fun _ _ => U_and _ _
theorem runsP_w {m : ApiMachine} (h : U m.Balloon.Given) : (machine_runs_t m).w (fun _ => True) := by
  have i : (machine_Idle_t m).w (fun _ => True) := by
    unfold machine_Idle_t
    exact w_br (fun _ => w_call (enabledP_w h) fun _ _ => trivial) (fun _ => trivial)
  unfold machine_runs_t
  exact w_call (mayP_w h) fun _ _ => w_br (fun _ => w_br (fun _ => w_call i fun _ _ => w_br (fun _ => trivial) (fun _ => trivial)) (fun _ => trivial)) (fun _ => trivial)
theorem beginP_w {P : Nat} {m : ApiMachine} (h : okS P m) : (machine_begin_t m).w (okS P) := by
  obtain ⟨h1, h2, h3, h4, h5, h6⟩ := h
  unfold machine_begin_t
  refine w_br (fun _ => ⟨h1, h2, h3, h4, h5, h6⟩) (fun _ => w_call (enabledP_w (m := ⟨_, _, _, _, _, _, m.Balloon, _, _, _⟩) h6) fun x0 _ => w_lp (inv := fun z => 0 ≤ z ∧ z ≤ 5) (μ := machine_begin_meas0 m) ⟨by omega, by omega⟩ (Nat.lt_succ_self _) (fun z hz => ?_))
  obtain ⟨z1, z2⟩ := hz
  refine w_br (fun hb => w_cn (decide_eq_true z1) (w_br (fun _ => w_lv fun x1 hx => ⟨by rw [hx]; exact trapP_w h1 _ U_0, h2, h3, h4, h5, h6⟩) (fun _ => w_nx ?_))) (fun _ => ⟨h1, h2, h3, h4, h5, h6⟩)
  have hb := of_decide_eq_true hb
  show (0 ≤ IntKind.i64.wrap (z + 1) ∧ IntKind.i64.wrap (z + 1) ≤ 5) ∧ (5 - IntKind.i64.wrap (z + 1)).toNat < (5 - z).toNat
  have ew : IntKind.i64.wrap (z + 1) = z + 1 := by rw [IntKind.wrap_i64]; omega
  rw [ew]; omega
end Go.Proofs.YtdkiadhigcfmkaaGreat
namespace Go.Proofs.YtdkiadhigcfmkaaGreat
open Go Go.GD
set_option linter.unusedVariables false
set_option linter.unusedSimpArgs false
set_option maxRecDepth 100000
theorem ofInt_back (v : BitVec 32) : BitVec.ofInt 32 (IntKind.wrap .u32 v.toNat) = v := by
  apply BitVec.eq_of_toNat_eq
  rw [BitVec.toNat_ofInt, IntKind.wrap_u32]
  have := v.isLt
  omega
theorem or_and_one (a : BitVec 32) : (a ||| 1#32) &&& 1#32 = 1#32 := by
  ext i hi
  simp only [BitVec.getElem_and, BitVec.getElem_or]
  cases (1#32)[i] <;> simp
theorem trap_bit (x : Int) : (iand .u32 (iandn .u32 (ior .u32 x 1) 2) 1 != 0) = true := by
  have e : iand .u32 (iandn .u32 (ior .u32 x 1) 2) 1 = IntKind.wrap .u32 ((1#32).toNat : Int) := by
    unfold iand iandn ior
    show IntKind.wrap .u32 ((BitVec.ofInt 32 (IntKind.wrap .u32 ((BitVec.ofInt 32 (IntKind.wrap .u32 ((BitVec.ofInt 32 x ||| BitVec.ofInt 32 1).toNat : Int)) &&& ~~~ BitVec.ofInt 32 2).toNat : Int)) &&& BitVec.ofInt 32 1).toNat : Int) = _
    rw [ofInt_back, ofInt_back, BitVec.and_assoc, show (~~~ BitVec.ofInt 32 2 &&& BitVec.ofInt 32 1) = 1#32 by decide, show BitVec.ofInt 32 1 = 1#32 by decide, or_and_one]
  rw [e]; decide
def kc (c c' : ApiCpu) : Prop := c'.Csr.a1 = c.Csr.a1 ∧ c'.Csr.a6 = c.Csr.a6 ∧ c'.Csr.a7 = c.Csr.a7 ∧ (c'.Csr.a0 = c.Csr.a0 ∨ cpu_kernel c' = true)
theorem kc_refl (c : ApiCpu) : kc c c := ⟨rfl, rfl, rfl, .inl rfl⟩
theorem kc_csr {c x : ApiCpu} {p : Int} (hx : x.Csr = c.Csr) : kc c { X := x.X, Pc := p, Csr := x.Csr } := ⟨congrArg A8.a1 hx, congrArg A8.a6 hx, congrArg A8.a7 hx, .inl (congrArg A8.a0 hx)⟩
theorem trap_kc (c : ApiCpu) (k v : Int) : kc c (cpu_Trap c k v) := by
  refine (Tree.post (cpu_Trap_t c k v) (W := kc c) ?_)
  unfold cpu_Trap_t
  exact w_lv fun _ _ => w_lv fun _ _ => ⟨rfl, rfl, rfl, .inr (trap_bit _)⟩
theorem set_kc {c : ApiCpu} {r : Int} (hr : 0 ≤ r ∧ r < 16) (v : Int) : (cpu_set_t c r v).w (fun x => x.Csr = c.Csr) := by
  unfold cpu_set_t
  exact w_br (fun _ => w_cn (rc hr) rfl) (fun _ => rfl)
theorem execute_kc {c : ApiCpu} {i : ApiInst} (h : okCpu c) (hi : okInst i) (hp : isa_Privileged i.Op = false) : (cpu_execute_t c i).w (fun r => kc c r.1 ∧ r.2.Kind = 0) := by
  have k : ∀ {x : ApiCpu} {p : Int}, x.Csr = c.Csr → kc c { X := x.X, Pc := p, Csr := x.Csr } := fun hx => kc_csr hx
  have no : ∀ {p : Prop} {o : Int}, isa_Privileged o = true → i.Op = o → p := fun h1 h2 => by rw [h2, h1] at hp; cases hp
  unfold cpu_execute_t
  refine w_cn (rc hi.a) (w_cn (rc hi.b) ?_)
  repeat' (first
    | refine w_br (fun hb => ?_) (fun _ => ?_)
    | exact no (o := 57) rfl (eq_of_beq (by assumption))
    | exact no (o := 58) rfl (eq_of_beq (by assumption))
    | exact no (o := 59) rfl (eq_of_beq (by assumption))
    | exact no (o := 60) rfl (eq_of_beq (by assumption))
    | exact no (o := 61) rfl (eq_of_beq (by assumption))
    | exact no (o := 62) rfl (eq_of_beq (by assumption))
    | exact no (o := 63) rfl (eq_of_beq (by assumption))
    | exact no (o := 64) rfl (eq_of_beq (by assumption))
    | exact w_call (set_kc hi.a _) fun x hx => ⟨k hx, rfl⟩
    | exact w_lv fun x _ => w_br (fun _ => ⟨kc_csr rfl, rfl⟩) (fun _ => ⟨kc_csr rfl, rfl⟩)
    | exact w_lv fun x hx => ⟨by rw [hx]; exact trap_kc _ _ _, rfl⟩
    | refine w_cn (rc hi.c) ?_
    | exact w_call (aluP_w _ (h.r _) (U_wrap _)) fun y hy => w_call (set_kc hi.a _) fun x hx => ⟨k hx, rfl⟩
    | exact w_call (aluP_w _ (h.r _) (h.r _)) fun y hy => w_call (set_kc hi.a _) fun x hx => ⟨k hx, rfl⟩
    | refine w_lf ?_)
  all_goals exact ⟨kc_csr rfl, rfl⟩
end Go.Proofs.YtdkiadhigcfmkaaGreat
namespace Go.Proofs.YtdkiadhigcfmkaaGreat
open Go Go.GD
set_option linter.unusedVariables false
set_option linter.unusedSimpArgs false
set_option maxRecDepth 100000
theorem word_ix {a : Int} (ha : U a) : (IntKind.wrap .u32 (Int.tdiv a 4)).toNat = (a / 4).toNat := by
  obtain ⟨h1, h2⟩ := ha
  rw [Int.tdiv_eq_ediv_of_nonneg h1, IntKind.wrap_u32, Int.emod_eq_of_lt (by omega) (by omega)]
section
variable {P : Nat} {m : List Int} (h : okMem P m)
include h
theorem storeP_at {a : Int} (ha : U a) {size : Int} (hs : size = 1 ∨ size = 4) {v : Int} (hv : U v) : (memory_Store_t m a size v).w (fun r => okMem P r.1 ∧ (r.1 = m ∨ ∃ w, r.1 = m.set (a / 4).toNat w ∧ (size = 4 → w = v))) := by
  have st : ∀ i v, U v → okMem P (m.set i v) := fun i v hv => ⟨by simp [h.len], h.p1, h.p2, set_U h.u hv i⟩
  have hcl : slices_Clone_uint32_uint32 m = m := rfl
  unfold memory_Store_t
  refine w_an (clone_w h) (w_lv fun x0 hx0 => ?_)
  rw [hcl] at hx0; subst hx0
  refine w_call (withinP_w h ha hs) fun x hx => w_br (fun _ => ⟨h, .inl rfl⟩) (fun hb => ?_)
  have hl := hx (by simpa using hb)
  have hl : a < 128 * P := by omega
  have ix := word_ix ha
  refine w_br (fun h1 => w_cn (idxP h ha hl) (w_call (setField_w (getD_U h.u _) _ _ _) fun y hy => w_cn (idxP h ha hl) ⟨st _ _ hy, .inr ⟨y, ?_, fun h4 => ?_⟩⟩)) (fun _ => w_cn (idxP h ha hl) ⟨st _ _ hv, .inr ⟨v, ?_, fun _ => rfl⟩⟩)
  · exact congrArg (fun n => List.set _ n y) ix
  · have := eq_of_beq h1; omega
  · exact congrArg (fun n => List.set _ n v) ix
end
end Go.Proofs.YtdkiadhigcfmkaaGreat
namespace Go.Proofs.YtdkiadhigcfmkaaGreat
open Go Go.GD
set_option linter.unusedVariables false
set_option linter.unusedSimpArgs false
set_option maxRecDepth 100000
def entryAt (root va : Int) : Int := IntKind.wrap .u32 (IntKind.wrap .u32 (root * 128) + IntKind.wrap .u32 (4 * IntKind.wrap .u32 (Int.tdiv va 128)))
theorem entryAt_4 {va : Int} (h1 : 0 ≤ va) (h2 : va < 4096) : entryAt 4 va / 4 = 128 + va / 128 := by
  unfold entryAt
  rw [Int.tdiv_eq_ediv_of_nonneg h1]
  simp only [IntKind.wrap_u32]
  omega
section
variable {P : Nat} {m : List Int} (h : okMem P m)
include h
theorem loadP_at {a : Int} (ha : U a) : (memory_Load_t m a 4).w (fun r => U r.1 ∧ (r.2 = true → r.1 = m.getD (a / 4).toNat 0 ∧ a < 128 * P)) := by
  have ix := word_ix ha
  unfold memory_Load_t
  refine w_call (withinP_w h ha (.inr rfl)) fun x hx => w_br (fun _ => ⟨U_0, fun h => by cases h⟩) (fun hb => ?_)
  have hl := hx (by simpa using hb)
  have hl : a < 128 * P := by omega
  exact w_cn (idxP h ha hl) (w_br (fun h1 => by cases h1) (fun _ => ⟨getD_U h.u _, fun _ => ⟨congrArg (fun n => m.getD n 0) ix, hl⟩⟩))
theorem walk_at {root va : Int} (hv : U va) (access : Int) : (paging_Walk_t m root va access).w (fun t => U t.Addr ∧ U t.Entry ∧ (t.Cause = 0 → va < 4096 ∧ t.Entry = entryAt root va ∧ paging_permits (m.getD (entryAt root va / 4).toNat 0) access = true ∧
    t.Addr = IntKind.wrap .u32 (IntKind.wrap .u32 (paging_frameOf (m.getD (entryAt root va / 4).toNat 0) * 128) + Int.tmod va 128))) := by
  have hc := (causeP_ne access).1
  have fr : ∀ x, (paging_frameOf_t x).w U := fun x => by
    unfold paging_frameOf_t
    exact w_call (field_w _ _ _) fun y hy => hy
  unfold paging_Walk_t
  refine w_lv fun x0 h0 => ?_
  have bad : U (0 : Int) ∧ U (0 : Int) ∧ (x0.1 = 0 → va < 4096 ∧ (0 : Int) = entryAt root va ∧ paging_permits (m.getD (entryAt root va / 4).toNat 0) access = true ∧
    (0 : Int) = IntKind.wrap .u32 (IntKind.wrap .u32 (paging_frameOf (m.getD (entryAt root va / 4).toNat 0) * 128) + Int.tmod va 128)) := ⟨U_0, U_0, fun e => absurd e (by rw [h0]; exact hc)⟩
  refine w_br (fun _ => bad) (fun _ => w_br (fun _ => bad) (fun hva => w_lv fun x1 _ => w_br (fun _ => bad) (fun _ => w_call (loadP_at h (U_wrap _)) fun x2 h2 => w_br (fun _ => bad) (fun hb => w_lv fun x3 h3 => w_br (fun _ => bad) (fun hp => w_an (Tree.pp (fr _)).1 (w_lv fun x4 _ => w_lv fun x5 _ => w_br (fun _ => bad) (fun _ => w_an (Tree.pp (fr _)).1 (w_lv fun x6 h6 => ⟨U_wrap _, U_wrap _, fun _ => ?_⟩))))))))
  have e := (h2.2 (by simpa using hb)).1
  have hva := of_decide_eq_false hva
  refine ⟨by omega, rfl, ?_, ?_⟩
  · have : x3 = true := by simpa using hp
    rw [← this, h3, e]; rfl
  · rw [h6, e]; rfl
end
end Go.Proofs.YtdkiadhigcfmkaaGreat
namespace Go.Proofs.YtdkiadhigcfmkaaGreat
open Go Go.GD
set_option linter.unusedVariables false
set_option linter.unusedSimpArgs false
set_option maxRecDepth 100000
def ent (b x : Int) : Prop := x = b ∨ x = b + 8 ∨ x = b + 16 ∨ x = b + 24
def tab0 (j : Nat) : Int := if j = 129 then 1285 else if j = 130 then 1539 else 0
structure CM (m0 m : List Int) : Prop where
  ok : okMem 8 m
  same : ∀ j, (j < 128 ∨ (160 ≤ j ∧ j < 192) ∨ 224 ≤ j) → m.getD j 0 = m0.getD j 0
  tab : ∀ j, 128 ≤ j → j < 160 → ent (tab0 j) (m.getD j 0)
theorem ent_8 {j : Nat} {x : Int} (h : ent (tab0 j) x) : ent (tab0 j) (ior .u32 x 8) ∧ ent (tab0 j) (ior .u32 (ior .u32 x 8) 16) := by
  unfold tab0 at *
  split at h
  · rw [if_pos (by assumption)]
    rcases h with rfl | rfl | rfl | rfl <;> exact ⟨by unfold ent; decide, by unfold ent; decide⟩
  · rw [if_neg (by assumption)]
    split at h
    · rw [if_pos (by assumption)]
      rcases h with rfl | rfl | rfl | rfl <;> exact ⟨by unfold ent; decide, by unfold ent; decide⟩
    · rw [if_neg (by assumption)]
      rcases h with rfl | rfl | rfl | rfl <;> exact ⟨by unfold ent; decide, by unfold ent; decide⟩
theorem ent_write {j : Nat} {x : Int} (h : ent (tab0 j) x) (hp : paging_permits x 3 = true) : j = 130 ∧ paging_frameOf x = 6 := by
  unfold tab0 at h
  split at h
  · exfalso; rcases h with rfl | rfl | rfl | rfl <;> revert hp <;> decide
  · split at h
    · refine ⟨by assumption, ?_⟩
      rcases h with rfl | rfl | rfl | rfl <;> decide
    · exfalso; rcases h with rfl | rfl | rfl | rfl <;> revert hp <;> decide
theorem getD_set' (l : List Int) (i j : Nat) (v : Int) : (l.set i v).getD j 0 = if i = j ∧ j < l.length then v else l.getD j 0 := by
  simp only [List.getD_eq_getElem?_getD, List.getElem?_set]
  by_cases hi : i = j
  · subst hi
    by_cases hl : i < l.length
    · simp [hl]
    · simp [hl]
  · simp [hi]
end Go.Proofs.YtdkiadhigcfmkaaGreat
namespace Go.Proofs.YtdkiadhigcfmkaaGreat
open Go Go.GD
set_option linter.unusedVariables false
set_option linter.unusedSimpArgs false
set_option maxRecDepth 100000
theorem CM.set {m0 m : List Int} (h : CM m0 m) {j : Nat} {v : Int} (hj : 128 ≤ j ∧ j < 160) (hv : ent (tab0 j) v) (ho : okMem 8 (m.set j v)) : CM m0 (m.set j v) := by
  refine ⟨ho, fun i hi => ?_, fun i h1 h2 => ?_⟩
  · rw [getD_set', if_neg (by omega)]; exact h.same i hi
  · rw [getD_set']
    split
    · rename_i hh; rw [← hh.1]; exact hv
    · exact h.tab i h1 h2
theorem CM.set6 {m0 m : List Int} (h : CM m0 m) {j : Nat} {v : Int} (hj : 192 ≤ j ∧ j < 224) (ho : okMem 8 (m.set j v)) : CM m0 (m.set j v) := by
  refine ⟨ho, fun i hi => ?_, fun i h1 h2 => ?_⟩
  · rw [getD_set', if_neg (by omega)]; exact h.same i hi
  · rw [getD_set', if_neg (by omega)]; exact h.tab i h1 h2
theorem touch_cm {m0 m : List Int} (h : CM m0 m) {va : Int} (h1 : 0 ≤ va) (h2 : va < 4096) (access : Int) : (paging_Touch_t m (entryAt 4 va) access).w (CM m0) := by
  have hcl : slices_Clone_uint32_uint32 m = m := rfl
  have ha : U (entryAt 4 va) := U_wrap _
  have e4 := entryAt_4 h1 h2
  have hj : 128 ≤ (entryAt 4 va / 4).toNat ∧ (entryAt 4 va / 4).toNat < 160 := by rw [e4]; omega
  have ht := h.tab _ hj.1 hj.2
  unfold paging_Touch_t
  refine w_call (loadP_at h.ok ha) fun x0 h0 => w_br (fun _ => w_an (clone_w h.ok) (w_lv fun x1 h1 => by rw [h1, hcl]; exact h)) (fun hb => ?_)
  have e0 := (h0.2 (by simpa using hb)).1
  rw [← e0] at ht
  refine w_br (fun _ => w_call (storeP_at h.ok ha (.inr rfl) (U_or _ _)) fun x hx => ?_) (fun _ => w_call (storeP_at h.ok ha (.inr rfl) (U_or _ _)) fun x hx => ?_)
  · rcases hx.2 with e | ⟨w, e, k⟩
    · show CM m0 x.1; rw [e]; exact h
    · have k := k rfl; subst k
      have ho := hx.1; rw [e] at ho
      show CM m0 x.1; rw [e]; exact h.set hj (ent_8 ht).2 ho
  · rcases hx.2 with e | ⟨w, e, k⟩
    · show CM m0 x.1; rw [e]; exact h
    · have k := k rfl; subst k
      have ho := hx.1; rw [e] at ho
      show CM m0 x.1; rw [e]; exact h.set hj (ent_8 ht).1 ho
theorem store_cm {m0 m : List Int} (h : CM m0 m) {a : Int} (ha : U a) (h6 : 768 ≤ a ∧ a < 896) {size : Int} (hs : size = 1 ∨ size = 4) {v : Int} (hv : U v) : (memory_Store_t m a size v).w (fun r => CM m0 r.1) := by
  refine Tree.mono _ (fun r hr => ?_) (storeP_at h.ok ha hs hv)
  rcases hr.2 with e | ⟨w, e, _⟩
  · rw [e]; exact h
  · have ho := hr.1; rw [e] at ho
    rw [e]; exact h.set6 (by omega) ho
end Go.Proofs.YtdkiadhigcfmkaaGreat
namespace Go.Proofs.YtdkiadhigcfmkaaGreat
open Go Go.GD
set_option linter.unusedVariables false
set_option linter.unusedSimpArgs false
set_option maxRecDepth 100000
structure US (c : ApiCpu) : Prop where
  ok : okCpu c
  usr : cpu_kernel c = false
  pag : (iand .u32 c.Csr.a0 4 != 0) = true
  root : c.Csr.a6 = 4
theorem resolve_cm {m0 m : List Int} (h : CM m0 m) {c : ApiCpu} (hc : US c) {va : Int} (hv : U va) {size : Int} (hs : size = 1 ∨ size = 4) (access : Int) :
    (cpu_Resolve_t c m va size access).w (fun r => U r.1 ∧ CM m0 r.2.1 ∧ (r.2.2 = 0 → access = 3 → 768 ≤ r.1 ∧ r.1 < 896)) := by
  have hcl : slices_Clone_uint32_uint32 m = m := rfl
  have e : decide (IntKind.wrap IntKind.u32 size ≠ 0) = true := by rcases hs with rfl | rfl <;> decide
  have n5 : (5 : Int) ≠ 0 := by decide
  have n3 : (3 : Int) ≠ 0 := by decide
  have cl : ∀ (k : Int), k ≠ 0 → (Tree.an (slices_Clone_uint32_uint32_pre m) (.lv (slices_Clone_uint32_uint32 m) fun x => .lf ((0 : Int), x, k))).w (fun r => U r.1 ∧ CM m0 r.2.1 ∧ (r.2.2 = 0 → access = 3 → 768 ≤ r.1 ∧ r.1 < 896)) := fun k hk => w_an (clone_w h.ok) (w_lv fun x hx => ⟨U_0, by rw [hx, hcl]; exact h, fun e _ => absurd e hk⟩)
  have fin : ∀ (x : ApiTranslation), (U x.Addr ∧ U x.Entry ∧ (x.Cause = 0 → va < 4096 ∧ x.Entry = entryAt c.Csr.a6 va ∧ paging_permits (m.getD (entryAt c.Csr.a6 va / 4).toNat 0) access = true ∧
      x.Addr = IntKind.wrap .u32 (IntKind.wrap .u32 (paging_frameOf (m.getD (entryAt c.Csr.a6 va / 4).toNat 0) * 128) + Int.tmod va 128))) → x.Cause = 0 →
      (Tree.an (paging_Touch_pre m x.Entry access) (.lv (paging_Touch m x.Entry access) fun y => .lf (x.Addr, y, (0 : Int)))).w (fun r => U r.1 ∧ CM m0 r.2.1 ∧ (r.2.2 = 0 → access = 3 → 768 ≤ r.1 ∧ r.1 < 896)) := fun x hx h0 => by
    obtain ⟨k1, k2, k3⟩ := hx
    obtain ⟨q1, q2, q3, q4⟩ := k3 h0
    rw [hc.root] at q2 q3 q4
    have v0 := hv.1
    have e4 := entryAt_4 v0 q1
    rw [q2]
    refine w_call (touch_cm h v0 q1 access) fun y hy => ⟨k1, hy, fun _ ha => ?_⟩
    subst ha
    have hj : 128 ≤ (entryAt 4 va / 4).toNat ∧ (entryAt 4 va / 4).toNat < 160 := by rw [e4]; omega
    have hw := (ent_write (h.tab _ hj.1 hj.2) q3).2
    show 768 ≤ x.Addr ∧ x.Addr < 896
    rw [q4, hw, Int.tmod_eq_emod_of_nonneg v0]
    simp only [IntKind.wrap_u32]
    omega
  unfold cpu_Resolve_t
  refine w_lv fun x0 h0 => w_br (fun _ => cl _ n5) (fun _ => ?_)
  have hx0 : x0.1 ≠ 0 := by rw [h0]; exact (causeP_ne access).2
  repeat' (first
    | exact cl _ n5
    | exact cl _ n3
    | refine w_cn e ?_
    | (refine w_lv fun x4 h4 => w_br (fun hb => ?_) (fun hb => ?_))
    | refine w_call (walk_at h.ok hv access) fun x hx => w_br (fun hb => cl _ (by simpa using hb)) (fun hb => fin x hx (by simpa using hb))
    | (exfalso; simp_all [hc.usr, hc.pag]; done)
    | refine w_br (fun hb => ?_) (fun hb => ?_))
  all_goals (exfalso; first | (have := hc.pag; simp_all; done) | (have := hc.usr; simp_all; done))
end Go.Proofs.YtdkiadhigcfmkaaGreat
namespace Go.Proofs.YtdkiadhigcfmkaaGreat
open Go Go.GD
set_option linter.unusedVariables false
set_option linter.unusedSimpArgs false
set_option maxRecDepth 100000
section
variable {m0 m : List Int} (h : CM m0 m) {c : ApiCpu} (hc : US c)
include h hc
theorem fetch_cm : (cpu_Fetch_t c m).w (fun r => U r.1 ∧ CM m0 r.2.1) := by
  unfold cpu_Fetch_t
  exact w_call (resolve_cm h hc hc.ok.pc (.inr rfl) 1) fun x0 h0 => w_br (fun _ => ⟨U_0, h0.2.1⟩) (fun _ => w_call (loadP_w h0.2.1.ok h0.1 (.inr rfl)) fun x1 h1 => ⟨h1.1, h0.2.1⟩)
theorem load_cm {i : ApiInst} (hi : okInst i) : (cpu_load_t c m i).w (fun r => kc c r.1 ∧ CM m0 r.2) := by
  have w := width_w i.Op
  have k : ∀ {x : ApiCpu} {p : Int}, x.Csr = c.Csr → kc c { X := x.X, Pc := p, Csr := x.Csr } := fun hx => kc_csr hx
  unfold cpu_load_t
  refine w_cn (rc hi.b) (w_lv fun x0 h0 => ?_)
  rw [← h0] at w
  refine w_call (resolve_cm h hc (U_wrap _) w 2) fun x1 h1 => w_br (fun _ => w_lv fun y hy => ⟨by rw [hy]; exact trap_kc _ _ _, h1.2.1⟩) (fun _ => w_lv fun x3 h3 => ?_)
  rw [h0, ← h3] at w
  exact w_call (loadP_w h1.2.1.ok h1.1 w) fun x4 h4 => w_br (fun _ => w_call (signExtP_w h4.1 8) fun y hy => w_call (set_kc hi.a _) fun x hx => ⟨k hx, h1.2.1⟩) (fun _ => w_call (set_kc hi.a _) fun x hx => ⟨k hx, h1.2.1⟩)
theorem storeInst_cm {i : ApiInst} (hi : okInst i) : (cpu_store_t c m i).w (fun r => kc c r.1 ∧ CM m0 r.2) := by
  have w := width_w i.Op
  unfold cpu_store_t
  refine w_cn (rc hi.b) (w_lv fun x0 h0 => ?_)
  rw [← h0] at w
  refine w_call (resolve_cm h hc (U_wrap _) w 3) fun x1 h1 => w_br (fun _ => w_lv fun y hy => ⟨by rw [hy]; exact trap_kc _ _ _, h1.2.1⟩) (fun hb => w_lv fun x3 h3 => w_cn (rc hi.a) ?_)
  rw [h0, ← h3] at w
  exact w_call (store_cm h1.2.1 h1.1 (h1.2.2 (by simpa using hb) rfl) w (hc.ok.r _)) fun x hx => ⟨kc_csr rfl, hx⟩
theorem exec_cm : (cpu_Exec_t c m).w (fun r => kc c r.1 ∧ CM m0 r.2.1 ∧ r.2.2.Kind = 0) := by
  unfold cpu_Exec_t
  refine w_call (fetch_cm h hc) fun x0 h0 => w_br (fun _ => w_lv fun y hy => ⟨by rw [hy]; exact trap_kc _ _ _, h0.2, rfl⟩) (fun _ => w_call (decodeP_w _) fun x2 h2 => w_br (fun _ => w_lv fun y hy => ⟨by rw [hy]; exact trap_kc _ _ _, h0.2, rfl⟩) (fun hb => ?_))
  have hi := h2 (by simpa using hb)
  refine w_lv fun x4 h4 => w_br (fun _ => w_lv fun x5 h5 => w_br (fun _ => w_lv fun y hy => ⟨by rw [hy]; exact trap_kc _ _ _, h0.2, rfl⟩) (fun hb => ?_)) (fun hp => ?_)
  · exfalso; rw [h5, hc.usr] at hb; cases hb
  have hp : isa_Privileged x2.1.Op = false := by rw [← h4]; exact hp
  repeat' (first
    | refine w_br (fun _ => ?_) (fun _ => ?_)
    | exact w_call (load_cm h0.2 hc hi) fun x hx => ⟨hx.1, hx.2, rfl⟩
    | exact w_call (storeInst_cm h0.2 hc hi) fun x hx => ⟨hx.1, hx.2, rfl⟩
    | exact w_call (execute_kc hc.ok hi hp) fun x hx => ⟨hx.1, h0.2, hx.2⟩)
end
end Go.Proofs.YtdkiadhigcfmkaaGreat

/-
  Functions of the program: models, and that its calls come to them (by a program: gen3.py).
-/
import Derived.Test.YtdkiadhigcfmkaaGreatMachineNewsBase
import Derived.Test.YtdkiadhigcfmkaaGreatMachineNewsYa
namespace Go.Proofs.YtdkiadhigcfmkaaGreat
open Go Go.GD
set_option linter.unusedVariables false
set_option linter.unusedSimpArgs false
noncomputable section
def cpu_move_t (status : Int) (from0 : Int) (to : Int) : Tree Int :=
.br (iand IntKind.u32 status from0 != (0 : Int)) (.lf (ior IntKind.u32 status to)) (.lf (iandn IntKind.u32 status to))
def cpu_move (status : Int) (from0 : Int) (to : Int) : Int := (cpu_move_t status from0 to).m
theorem cpu_move_tot (status : Int) (from0 : Int) (to : Int) : (cpu_move_t status from0 to).p := (wB wL wL)
def cpu_move_args (status : Int) (from0 : Int) (to : Int) : List D := [.int .u32 status, .int .u32 from0, .int .u32 to]
def cpu_move_rows (status : Int) (from0 : Int) (to : Int) : List Row := []
def cpu_move_enc (X : Int) : D := .int .u32 X
def cpu_move_out (X : Int) : List Row := []
def cpu_move_dirs : List Dir := []
def cpu_move_sig : List PT := [.one (.int .u32), .one (.int .u32), .one (.int .u32)]
def cpu_move_rsig : List RT := []
def cpu_move_val (args : List D) (rows : List Row) : Int := cpu_move (argI args 0) (argI args 1) (argI args 2)
def cpu_move_m : Model := mkR 166 [] true cpu_move_sig cpu_move_rsig cpu_move_val cpu_move_enc cpu_move_out
set_option maxRecDepth 100000 in
theorem cpu_move_nf (status : Int) (from0 : Int) (to : Int) (Q : D → List Row → Prop) : (fnVC tab [] (LL tab [] Tryz.f166.ntmps 0 [] 2) Tryz.f166 (cpu_move_args status from0 to) (cpu_move_rows status from0 to) fun d R => canonVC (cpu_move_rows status from0 to).length cpu_move_dirs d R Q) = (cpu_move_t status from0 to).q (fun X => Q (cpu_move_enc X) (cpu_move_out X)) := by kernel_rfl
set_option maxRecDepth 100000 in
theorem cpu_move_calls (status : Int) (from0 : Int) (to : Int) : ACalls Tryz.prog 166 (cpu_move_args status from0 to) (cpu_move_rows status from0 to) (cpu_move_enc (cpu_move status from0 to)) (cpu_move_out (cpu_move status from0 to)) :=
  have hG : AllOK Tryz.prog [] := .nil
  FnOK.calls drawn tabOK hG Tryz.func166 (LL_ok drawn tabOK hG 2 (invs := [])) (FnOK.of (cpu_move_nf status from0 to _) (Tree.main' (cpu_move_tot status from0 to) ⟨rfl, rfl⟩))
set_option maxRecDepth 100000 in
theorem cpu_move_conv (args : List D) (rows : List Row) : convA cpu_move_sig args 0 = cpu_move_args (argI args 0) (argI args 1) (argI args 2) := by kernel_rfl
set_option maxRecDepth 100000 in
theorem cpu_move_convR (args : List D) (rows : List Row) : convRs cpu_move_rsig rows 0 = cpu_move_rows (argI args 0) (argI args 1) (argI args 2) := by kernel_rfl
set_option maxRecDepth 100000 in
theorem cpu_move_ff (X : Int) : (ffB (cpu_move_enc X) && ffBR (cpu_move_out X)) = true := by kernel_rfl
theorem cpu_move_ok : ModelOK Tryz.prog cpu_move_m := mkR_ok Tryz.call166 (fun args rows => by rw [cpu_move_conv args rows, cpu_move_convR args rows]; exact cpu_move_calls (argI args 0) (argI args 1) (argI args 2)) (fun _ X => cpu_move_ff X)
def cpu_Trap_t (c : ApiCpu) (cause : Int) (bad : Int) : Tree ApiCpu :=
.lv (cpu_move c.Csr.a0 (1 : Int) (8 : Int)) fun (x0 : Int) => .lv (cpu_move x0 (2 : Int) (16 : Int)) fun (x1 : Int) => .lf ({ X := c.X, Pc := c.Csr.a1, Csr := { a0 := iandn IntKind.u32 (ior IntKind.u32 x1 (1 : Int)) (2 : Int), a1 := c.Csr.a1, a2 := c.Pc, a3 := IntKind.wrap IntKind.u32 cause, a4 := bad, a5 := c.Csr.a5, a6 := c.Csr.a6, a7 := c.Csr.a7 } })
def cpu_Trap (c : ApiCpu) (cause : Int) (bad : Int) : ApiCpu := (cpu_Trap_t c cause bad).m
theorem cpu_Trap_tot (c : ApiCpu) (cause : Int) (bad : Int) : (cpu_Trap_t c cause bad).p := (wV fun _ => (wV fun _ => wL))
def cpu_Trap_args (c : ApiCpu) (cause : Int) (bad : Int) : List D := [.agg (ApiCpu.cells c), .int .i64 cause, .int .u32 bad]
def cpu_Trap_rows (c : ApiCpu) (cause : Int) (bad : Int) : List Row := []
def cpu_Trap_enc (X : ApiCpu) : D := .agg (ApiCpu.cells X)
def cpu_Trap_out (X : ApiCpu) : List Row := []
def cpu_Trap_dirs : List Dir := []
def cpu_Trap_sig : List PT := [.agg ApiCpu.sig, .one (.int .i64), .one (.int .u32)]
def cpu_Trap_rsig : List RT := []
def cpu_Trap_val (args : List D) (rows : List Row) : ApiCpu := cpu_Trap (ApiCpu.of (args.getD 0 .dead).cells) (argI args 1) (argI args 2)
def cpu_Trap_m : Model := mkR 119 [] true cpu_Trap_sig cpu_Trap_rsig cpu_Trap_val cpu_Trap_enc cpu_Trap_out
set_option maxRecDepth 100000 in
theorem cpu_Trap_nf (c : ApiCpu) (cause : Int) (bad : Int) (Q : D → List Row → Prop) : (fnVC tab [cpu_move_m] (LL tab [cpu_move_m] Tryz.f119.ntmps 0 [] 2) Tryz.f119 (cpu_Trap_args c cause bad) (cpu_Trap_rows c cause bad) fun d R => canonVC (cpu_Trap_rows c cause bad).length cpu_Trap_dirs d R Q) = (cpu_Trap_t c cause bad).q (fun X => Q (cpu_Trap_enc X) (cpu_Trap_out X)) := by kernel_rfl
set_option maxRecDepth 100000 in
theorem cpu_Trap_calls (c : ApiCpu) (cause : Int) (bad : Int) : ACalls Tryz.prog 119 (cpu_Trap_args c cause bad) (cpu_Trap_rows c cause bad) (cpu_Trap_enc (cpu_Trap c cause bad)) (cpu_Trap_out (cpu_Trap c cause bad)) :=
  have hG : AllOK Tryz.prog [cpu_move_m] := .cons cpu_move_ok (.nil)
  FnOK.calls drawn tabOK hG Tryz.func119 (LL_ok drawn tabOK hG 2 (invs := [])) (FnOK.of (cpu_Trap_nf c cause bad _) (Tree.main' (cpu_Trap_tot c cause bad) ⟨rfl, rfl⟩))
set_option maxRecDepth 100000 in
theorem cpu_Trap_conv (args : List D) (rows : List Row) : convA cpu_Trap_sig args 0 = cpu_Trap_args (ApiCpu.of (args.getD 0 .dead).cells) (argI args 1) (argI args 2) := by kernel_rfl
set_option maxRecDepth 100000 in
theorem cpu_Trap_convR (args : List D) (rows : List Row) : convRs cpu_Trap_rsig rows 0 = cpu_Trap_rows (ApiCpu.of (args.getD 0 .dead).cells) (argI args 1) (argI args 2) := by kernel_rfl
set_option maxRecDepth 100000 in
theorem cpu_Trap_ff (X : ApiCpu) : (ffB (cpu_Trap_enc X) && ffBR (cpu_Trap_out X)) = true := by kernel_rfl
theorem cpu_Trap_ok : ModelOK Tryz.prog cpu_Trap_m := mkR_ok Tryz.call119 (fun args rows => by rw [cpu_Trap_conv args rows, cpu_Trap_convR args rows]; exact cpu_Trap_calls (ApiCpu.of (args.getD 0 .dead).cells) (argI args 1) (argI args 2)) (fun _ X => cpu_Trap_ff X)
def cpu_causeOf_t (access : Int) : Tree (Int × Bool) :=
.br (access == (1 : Int)) (.lf ((4 : Int), true)) (.br (access == (2 : Int)) (.lf ((5 : Int), true)) (.br (access == (3 : Int)) (.lf ((6 : Int), true)) (.lf ((5 : Int), false))))
def cpu_causeOf (access : Int) : (Int × Bool) := (cpu_causeOf_t access).m
theorem cpu_causeOf_tot (access : Int) : (cpu_causeOf_t access).p := (wB wL (wB wL (wB wL wL)))
def cpu_causeOf_args (access : Int) : List D := [.int .i64 access]
def cpu_causeOf_rows (access : Int) : List Row := []
def cpu_causeOf_enc (X : (Int × Bool)) : D := .tup [.int .i64 (X.1), .bool (X.2)]
def cpu_causeOf_out (X : (Int × Bool)) : List Row := []
def cpu_causeOf_dirs : List Dir := []
def cpu_causeOf_sig : List PT := [.one (.int .i64)]
def cpu_causeOf_rsig : List RT := []
def cpu_causeOf_val (args : List D) (rows : List Row) : (Int × Bool) := cpu_causeOf (argI args 0)
def cpu_causeOf_m : Model := mkR 214 [] true cpu_causeOf_sig cpu_causeOf_rsig cpu_causeOf_val cpu_causeOf_enc cpu_causeOf_out
set_option maxRecDepth 100000 in
theorem cpu_causeOf_nf (access : Int) (Q : D → List Row → Prop) : (fnVC tab [] (LL tab [] Tryz.f214.ntmps 0 [] 2) Tryz.f214 (cpu_causeOf_args access) (cpu_causeOf_rows access) fun d R => canonVC (cpu_causeOf_rows access).length cpu_causeOf_dirs d R Q) = (cpu_causeOf_t access).q (fun X => Q (cpu_causeOf_enc X) (cpu_causeOf_out X)) := by kernel_rfl
set_option maxRecDepth 100000 in
theorem cpu_causeOf_calls (access : Int) : ACalls Tryz.prog 214 (cpu_causeOf_args access) (cpu_causeOf_rows access) (cpu_causeOf_enc (cpu_causeOf access)) (cpu_causeOf_out (cpu_causeOf access)) :=
  have hG : AllOK Tryz.prog [] := .nil
  FnOK.calls drawn tabOK hG Tryz.func214 (LL_ok drawn tabOK hG 2 (invs := [])) (FnOK.of (cpu_causeOf_nf access _) (Tree.main' (cpu_causeOf_tot access) ⟨rfl, rfl⟩))
set_option maxRecDepth 100000 in
theorem cpu_causeOf_conv (args : List D) (rows : List Row) : convA cpu_causeOf_sig args 0 = cpu_causeOf_args (argI args 0) := by kernel_rfl
set_option maxRecDepth 100000 in
theorem cpu_causeOf_convR (args : List D) (rows : List Row) : convRs cpu_causeOf_rsig rows 0 = cpu_causeOf_rows (argI args 0) := by kernel_rfl
set_option maxRecDepth 100000 in
theorem cpu_causeOf_ff (X : (Int × Bool)) : (ffB (cpu_causeOf_enc X) && ffBR (cpu_causeOf_out X)) = true := by kernel_rfl
theorem cpu_causeOf_ok : ModelOK Tryz.prog cpu_causeOf_m := mkR_ok Tryz.call214 (fun args rows => by rw [cpu_causeOf_conv args rows, cpu_causeOf_convR args rows]; exact cpu_causeOf_calls (argI args 0)) (fun _ X => cpu_causeOf_ff X)
def cpu_kernel_t (c : ApiCpu) : Tree Bool :=
.lf (iand IntKind.u32 c.Csr.a0 (1 : Int) != (0 : Int))
def cpu_kernel (c : ApiCpu) : Bool := (cpu_kernel_t c).m
theorem cpu_kernel_tot (c : ApiCpu) : (cpu_kernel_t c).p := wL
def cpu_kernel_args (c : ApiCpu) : List D := [.agg (ApiCpu.cells c)]
def cpu_kernel_rows (c : ApiCpu) : List Row := []
def cpu_kernel_enc (X : Bool) : D := .bool X
def cpu_kernel_out (X : Bool) : List Row := []
def cpu_kernel_dirs : List Dir := []
def cpu_kernel_sig : List PT := [.agg ApiCpu.sig]
def cpu_kernel_rsig : List RT := []
def cpu_kernel_val (args : List D) (rows : List Row) : Bool := cpu_kernel (ApiCpu.of (args.getD 0 .dead).cells)
def cpu_kernel_m : Model := mkR 123 [] true cpu_kernel_sig cpu_kernel_rsig cpu_kernel_val cpu_kernel_enc cpu_kernel_out
set_option maxRecDepth 100000 in
theorem cpu_kernel_nf (c : ApiCpu) (Q : D → List Row → Prop) : (fnVC tab [] (LL tab [] Tryz.f123.ntmps 0 [] 2) Tryz.f123 (cpu_kernel_args c) (cpu_kernel_rows c) fun d R => canonVC (cpu_kernel_rows c).length cpu_kernel_dirs d R Q) = (cpu_kernel_t c).q (fun X => Q (cpu_kernel_enc X) (cpu_kernel_out X)) := by kernel_rfl
set_option maxRecDepth 100000 in
theorem cpu_kernel_calls (c : ApiCpu) : ACalls Tryz.prog 123 (cpu_kernel_args c) (cpu_kernel_rows c) (cpu_kernel_enc (cpu_kernel c)) (cpu_kernel_out (cpu_kernel c)) :=
  have hG : AllOK Tryz.prog [] := .nil
  FnOK.calls drawn tabOK hG Tryz.func123 (LL_ok drawn tabOK hG 2 (invs := [])) (FnOK.of (cpu_kernel_nf c _) (Tree.main' (cpu_kernel_tot c) ⟨rfl, rfl⟩))
set_option maxRecDepth 100000 in
theorem cpu_kernel_conv (args : List D) (rows : List Row) : convA cpu_kernel_sig args 0 = cpu_kernel_args (ApiCpu.of (args.getD 0 .dead).cells) := by kernel_rfl
set_option maxRecDepth 100000 in
theorem cpu_kernel_convR (args : List D) (rows : List Row) : convRs cpu_kernel_rsig rows 0 = cpu_kernel_rows (ApiCpu.of (args.getD 0 .dead).cells) := by kernel_rfl
set_option maxRecDepth 100000 in
theorem cpu_kernel_ff (X : Bool) : (ffB (cpu_kernel_enc X) && ffBR (cpu_kernel_out X)) = true := by kernel_rfl
theorem cpu_kernel_ok : ModelOK Tryz.prog cpu_kernel_m := mkR_ok Tryz.call123 (fun args rows => by rw [cpu_kernel_conv args rows, cpu_kernel_convR args rows]; exact cpu_kernel_calls (ApiCpu.of (args.getD 0 .dead).cells)) (fun _ X => cpu_kernel_ff X)
def paging_causeOf_t (access : Int) : Tree (Int × Bool) :=
.br (access == (1 : Int)) (.lf ((4 : Int), true)) (.br (access == (2 : Int)) (.lf ((5 : Int), true)) (.br (access == (3 : Int)) (.lf ((6 : Int), true)) (.lf ((5 : Int), false))))
def paging_causeOf (access : Int) : (Int × Bool) := (paging_causeOf_t access).m
theorem paging_causeOf_tot (access : Int) : (paging_causeOf_t access).p := (wB wL (wB wL (wB wL wL)))
def paging_causeOf_args (access : Int) : List D := [.int .i64 access]
def paging_causeOf_rows (access : Int) : List Row := []
def paging_causeOf_enc (X : (Int × Bool)) : D := .tup [.int .i64 (X.1), .bool (X.2)]
def paging_causeOf_out (X : (Int × Bool)) : List Row := []
def paging_causeOf_dirs : List Dir := []
def paging_causeOf_sig : List PT := [.one (.int .i64)]
def paging_causeOf_rsig : List RT := []
def paging_causeOf_val (args : List D) (rows : List Row) : (Int × Bool) := paging_causeOf (argI args 0)
def paging_causeOf_m : Model := mkR 254 [] true paging_causeOf_sig paging_causeOf_rsig paging_causeOf_val paging_causeOf_enc paging_causeOf_out
set_option maxRecDepth 100000 in
theorem paging_causeOf_nf (access : Int) (Q : D → List Row → Prop) : (fnVC tab [] (LL tab [] Tryz.f254.ntmps 0 [] 2) Tryz.f254 (paging_causeOf_args access) (paging_causeOf_rows access) fun d R => canonVC (paging_causeOf_rows access).length paging_causeOf_dirs d R Q) = (paging_causeOf_t access).q (fun X => Q (paging_causeOf_enc X) (paging_causeOf_out X)) := by kernel_rfl
set_option maxRecDepth 100000 in
theorem paging_causeOf_calls (access : Int) : ACalls Tryz.prog 254 (paging_causeOf_args access) (paging_causeOf_rows access) (paging_causeOf_enc (paging_causeOf access)) (paging_causeOf_out (paging_causeOf access)) :=
  have hG : AllOK Tryz.prog [] := .nil
  FnOK.calls drawn tabOK hG Tryz.func254 (LL_ok drawn tabOK hG 2 (invs := [])) (FnOK.of (paging_causeOf_nf access _) (Tree.main' (paging_causeOf_tot access) ⟨rfl, rfl⟩))
set_option maxRecDepth 100000 in
theorem paging_causeOf_conv (args : List D) (rows : List Row) : convA paging_causeOf_sig args 0 = paging_causeOf_args (argI args 0) := by kernel_rfl
set_option maxRecDepth 100000 in
theorem paging_causeOf_convR (args : List D) (rows : List Row) : convRs paging_causeOf_rsig rows 0 = paging_causeOf_rows (argI args 0) := by kernel_rfl
set_option maxRecDepth 100000 in
theorem paging_causeOf_ff (X : (Int × Bool)) : (ffB (paging_causeOf_enc X) && ffBR (paging_causeOf_out X)) = true := by kernel_rfl
theorem paging_causeOf_ok : ModelOK Tryz.prog paging_causeOf_m := mkR_ok Tryz.call254 (fun args rows => by rw [paging_causeOf_conv args rows, paging_causeOf_convR args rows]; exact paging_causeOf_calls (argI args 0)) (fun _ X => paging_causeOf_ff X)
def paging_isPage_t (m : (List Int)) (frame : Int) : Tree Bool :=
.lv (memory_Pages m) fun (x0 : Int) => .lf (decide (IntKind.wrap IntKind.u64 frame < IntKind.wrap IntKind.u64 x0))
def paging_isPage (m : (List Int)) (frame : Int) : Bool := (paging_isPage_t m frame).m
theorem paging_isPage_tot (m : (List Int)) (frame : Int) : (paging_isPage_t m frame).p := (wV fun _ => wL)
def paging_isPage_args (m : (List Int)) (frame : Int) : List D := [.sl 1 (.ints .u32 m) false, .int .u32 frame]
def paging_isPage_rows (m : (List Int)) (frame : Int) : List Row := []
def paging_isPage_enc (X : Bool) : D := .bool X
def paging_isPage_out (X : Bool) : List Row := []
def paging_isPage_dirs : List Dir := []
def paging_isPage_sig : List PT := [.one (.ints .u32), .one (.int .u32)]
def paging_isPage_rsig : List RT := []
def paging_isPage_val (args : List D) (rows : List Row) : Bool := paging_isPage (argL .u32 args 0) (argI args 1)
def paging_isPage_m : Model := mkR 255 [] true paging_isPage_sig paging_isPage_rsig paging_isPage_val paging_isPage_enc paging_isPage_out
set_option maxRecDepth 100000 in
theorem paging_isPage_nf (m : (List Int)) (frame : Int) (Q : D → List Row → Prop) : (fnVC tab [memory_Pages_m] (LL tab [memory_Pages_m] Tryz.f255.ntmps 0 [] 2) Tryz.f255 (paging_isPage_args m frame) (paging_isPage_rows m frame) fun d R => canonVC (paging_isPage_rows m frame).length paging_isPage_dirs d R Q) = (paging_isPage_t m frame).q (fun X => Q (paging_isPage_enc X) (paging_isPage_out X)) := by kernel_rfl
set_option maxRecDepth 100000 in
theorem paging_isPage_calls (m : (List Int)) (frame : Int) : ACalls Tryz.prog 255 (paging_isPage_args m frame) (paging_isPage_rows m frame) (paging_isPage_enc (paging_isPage m frame)) (paging_isPage_out (paging_isPage m frame)) :=
  have hG : AllOK Tryz.prog [memory_Pages_m] := .cons memory_Pages_ok (.nil)
  FnOK.calls drawn tabOK hG Tryz.func255 (LL_ok drawn tabOK hG 2 (invs := [])) (FnOK.of (paging_isPage_nf m frame _) (Tree.main' (paging_isPage_tot m frame) ⟨rfl, rfl⟩))
set_option maxRecDepth 100000 in
theorem paging_isPage_conv (args : List D) (rows : List Row) : convA paging_isPage_sig args 0 = paging_isPage_args (argL .u32 args 0) (argI args 1) := by kernel_rfl
set_option maxRecDepth 100000 in
theorem paging_isPage_convR (args : List D) (rows : List Row) : convRs paging_isPage_rsig rows 0 = paging_isPage_rows (argL .u32 args 0) (argI args 1) := by kernel_rfl
set_option maxRecDepth 100000 in
theorem paging_isPage_ff (X : Bool) : (ffB (paging_isPage_enc X) && ffBR (paging_isPage_out X)) = true := by kernel_rfl
theorem paging_isPage_ok : ModelOK Tryz.prog paging_isPage_m := mkR_ok Tryz.call255 (fun args rows => by rw [paging_isPage_conv args rows, paging_isPage_convR args rows]; exact paging_isPage_calls (argL .u32 args 0) (argI args 1)) (fun _ X => paging_isPage_ff X)
def memory_Load_t (m : (List Int)) (addr : Int) (size : Int) : Tree (Int × Bool) :=
.an (memory_within_pre m addr size) (.lv (memory_within m addr size) fun (x0 : Bool) => .br (!x0) (.lf ((0 : Int), false)) (.cn (Nat.beq (1 : Nat) (1 : Nat) && Nat.blt (0 : Nat) (1 : Nat) && decide ((0 : Int) ≤ IntKind.wrap IntKind.u32 (Int.tdiv addr (4 : Int)) ∧ IntKind.wrap IntKind.u32 (Int.tdiv addr (4 : Int)) < (↑(List.length m) : Int))) (.br (size == (1 : Int)) (.an (bits_Field_pre (List.getD m (Int.toNat (IntKind.wrap IntKind.u32 (Int.tdiv addr (4 : Int)))) (0 : Int)) (IntKind.wrap IntKind.i64 (IntKind.wrap IntKind.i64 (Int.tmod addr (4 : Int)) * (8 : Int))) (8 : Int)) (.lv (bits_Field (List.getD m (Int.toNat (IntKind.wrap IntKind.u32 (Int.tdiv addr (4 : Int)))) (0 : Int)) (IntKind.wrap IntKind.i64 (IntKind.wrap IntKind.i64 (Int.tmod addr (4 : Int)) * (8 : Int))) (8 : Int)) fun (x1 : Int) => .lf (x1, true))) (.lf (List.getD m (Int.toNat (IntKind.wrap IntKind.u32 (Int.tdiv addr (4 : Int)))) (0 : Int), true)))))
def memory_Load (m : (List Int)) (addr : Int) (size : Int) : (Int × Bool) := (memory_Load_t m addr size).m
abbrev memory_Load_pre (m : (List Int)) (addr : Int) (size : Int) : Prop := (memory_Load_t m addr size).p
def memory_Load_args (m : (List Int)) (addr : Int) (size : Int) : List D := [.sl 1 (.ints .u32 m) false, .int .u32 addr, .int .i64 size]
def memory_Load_rows (m : (List Int)) (addr : Int) (size : Int) : List Row := []
def memory_Load_enc (X : (Int × Bool)) : D := .tup [.int .u32 (X.1), .bool (X.2)]
def memory_Load_out (X : (Int × Bool)) : List Row := []
def memory_Load_dirs : List Dir := []
def memory_Load_sig : List PT := [.one (.ints .u32), .one (.int .u32), .one (.int .i64)]
def memory_Load_rsig : List RT := []
def memory_Load_val (args : List D) (rows : List Row) : (Int × Bool) := memory_Load (argL .u32 args 0) (argI args 1) (argI args 2)
def memory_Load_prf (args : List D) (rows : List Row) : Prop := memory_Load_pre (argL .u32 args 0) (argI args 1) (argI args 2)
def memory_Load_m : Model := mkP 168 [] true memory_Load_sig memory_Load_rsig memory_Load_prf memory_Load_val memory_Load_enc memory_Load_out
set_option maxRecDepth 100000 in
theorem memory_Load_nf (m : (List Int)) (addr : Int) (size : Int) (Q : D → List Row → Prop) : (fnVC tab [memory_within_m, bits_Field_m] (LL tab [memory_within_m, bits_Field_m] Tryz.f168.ntmps 0 [] 2) Tryz.f168 (memory_Load_args m addr size) (memory_Load_rows m addr size) fun d R => canonVC (memory_Load_rows m addr size).length memory_Load_dirs d R Q) = (memory_Load_t m addr size).q (fun X => Q (memory_Load_enc X) (memory_Load_out X)) := by kernel_rfl
set_option maxRecDepth 100000 in
theorem memory_Load_calls (m : (List Int)) (addr : Int) (size : Int) (hw : memory_Load_pre m addr size) : ACalls Tryz.prog 168 (memory_Load_args m addr size) (memory_Load_rows m addr size) (memory_Load_enc (memory_Load m addr size)) (memory_Load_out (memory_Load m addr size)) :=
  have hG : AllOK Tryz.prog [memory_within_m, bits_Field_m] := .cons memory_within_ok (.cons bits_Field_ok (.nil))
  FnOK.calls drawn tabOK hG Tryz.func168 (LL_ok drawn tabOK hG 2 (invs := [])) (FnOK.of (memory_Load_nf m addr size _) (Tree.main' hw ⟨rfl, rfl⟩))
set_option maxRecDepth 100000 in
theorem memory_Load_conv (args : List D) (rows : List Row) : convA memory_Load_sig args 0 = memory_Load_args (argL .u32 args 0) (argI args 1) (argI args 2) := by kernel_rfl
set_option maxRecDepth 100000 in
theorem memory_Load_convR (args : List D) (rows : List Row) : convRs memory_Load_rsig rows 0 = memory_Load_rows (argL .u32 args 0) (argI args 1) (argI args 2) := by kernel_rfl
set_option maxRecDepth 100000 in
theorem memory_Load_ff (X : (Int × Bool)) : (ffB (memory_Load_enc X) && ffBR (memory_Load_out X)) = true := by kernel_rfl
theorem memory_Load_ok : ModelOK Tryz.prog memory_Load_m := mkP_ok Tryz.call168 (fun args rows hp => by rw [memory_Load_conv args rows, memory_Load_convR args rows]; exact memory_Load_calls (argL .u32 args 0) (argI args 1) (argI args 2) hp) (fun _ X => memory_Load_ff X)
def paging_permits_t (pte : Int) (access : Int) : Tree Bool :=
.br (iand IntKind.u32 pte (1 : Int) == (0 : Int)) (.lf false) (.br (access == (3 : Int)) (.lf (iand IntKind.u32 pte (2 : Int) != (0 : Int))) (.br (access == (1 : Int)) (.lf (iand IntKind.u32 pte (4 : Int) != (0 : Int))) (.lf true)))
def paging_permits (pte : Int) (access : Int) : Bool := (paging_permits_t pte access).m
theorem paging_permits_tot (pte : Int) (access : Int) : (paging_permits_t pte access).p := (wB wL (wB wL (wB wL wL)))
def paging_permits_args (pte : Int) (access : Int) : List D := [.int .u32 pte, .int .i64 access]
def paging_permits_rows (pte : Int) (access : Int) : List Row := []
def paging_permits_enc (X : Bool) : D := .bool X
def paging_permits_out (X : Bool) : List Row := []
def paging_permits_dirs : List Dir := []
def paging_permits_sig : List PT := [.one (.int .u32), .one (.int .i64)]
def paging_permits_rsig : List RT := []
def paging_permits_val (args : List D) (rows : List Row) : Bool := paging_permits (argI args 0) (argI args 1)
def paging_permits_m : Model := mkR 256 [] true paging_permits_sig paging_permits_rsig paging_permits_val paging_permits_enc paging_permits_out
set_option maxRecDepth 100000 in
theorem paging_permits_nf (pte : Int) (access : Int) (Q : D → List Row → Prop) : (fnVC tab [] (LL tab [] Tryz.f256.ntmps 0 [] 2) Tryz.f256 (paging_permits_args pte access) (paging_permits_rows pte access) fun d R => canonVC (paging_permits_rows pte access).length paging_permits_dirs d R Q) = (paging_permits_t pte access).q (fun X => Q (paging_permits_enc X) (paging_permits_out X)) := by kernel_rfl
set_option maxRecDepth 100000 in
theorem paging_permits_calls (pte : Int) (access : Int) : ACalls Tryz.prog 256 (paging_permits_args pte access) (paging_permits_rows pte access) (paging_permits_enc (paging_permits pte access)) (paging_permits_out (paging_permits pte access)) :=
  have hG : AllOK Tryz.prog [] := .nil
  FnOK.calls drawn tabOK hG Tryz.func256 (LL_ok drawn tabOK hG 2 (invs := [])) (FnOK.of (paging_permits_nf pte access _) (Tree.main' (paging_permits_tot pte access) ⟨rfl, rfl⟩))
set_option maxRecDepth 100000 in
theorem paging_permits_conv (args : List D) (rows : List Row) : convA paging_permits_sig args 0 = paging_permits_args (argI args 0) (argI args 1) := by kernel_rfl
set_option maxRecDepth 100000 in
theorem paging_permits_convR (args : List D) (rows : List Row) : convRs paging_permits_rsig rows 0 = paging_permits_rows (argI args 0) (argI args 1) := by kernel_rfl
set_option maxRecDepth 100000 in
theorem paging_permits_ff (X : Bool) : (ffB (paging_permits_enc X) && ffBR (paging_permits_out X)) = true := by kernel_rfl
theorem paging_permits_ok : ModelOK Tryz.prog paging_permits_m := mkR_ok Tryz.call256 (fun args rows => by rw [paging_permits_conv args rows, paging_permits_convR args rows]; exact paging_permits_calls (argI args 0) (argI args 1)) (fun _ X => paging_permits_ff X)
def paging_frameOf_t (pte : Int) : Tree Int :=
.an (bits_Field_pre pte (8 : Int) (8 : Int)) (.lv (bits_Field pte (8 : Int) (8 : Int)) fun (x0 : Int) => .lf x0)
def paging_frameOf (pte : Int) : Int := (paging_frameOf_t pte).m
abbrev paging_frameOf_pre (pte : Int) : Prop := (paging_frameOf_t pte).p
def paging_frameOf_args (pte : Int) : List D := [.int .u32 pte]
def paging_frameOf_rows (pte : Int) : List Row := []
def paging_frameOf_enc (X : Int) : D := .int .u32 X
def paging_frameOf_out (X : Int) : List Row := []
def paging_frameOf_dirs : List Dir := []
def paging_frameOf_sig : List PT := [.one (.int .u32)]
def paging_frameOf_rsig : List RT := []
def paging_frameOf_val (args : List D) (rows : List Row) : Int := paging_frameOf (argI args 0)
def paging_frameOf_prf (args : List D) (rows : List Row) : Prop := paging_frameOf_pre (argI args 0)
def paging_frameOf_m : Model := mkP 257 [] true paging_frameOf_sig paging_frameOf_rsig paging_frameOf_prf paging_frameOf_val paging_frameOf_enc paging_frameOf_out
set_option maxRecDepth 100000 in
theorem paging_frameOf_nf (pte : Int) (Q : D → List Row → Prop) : (fnVC tab [bits_Field_m] (LL tab [bits_Field_m] Tryz.f257.ntmps 0 [] 2) Tryz.f257 (paging_frameOf_args pte) (paging_frameOf_rows pte) fun d R => canonVC (paging_frameOf_rows pte).length paging_frameOf_dirs d R Q) = (paging_frameOf_t pte).q (fun X => Q (paging_frameOf_enc X) (paging_frameOf_out X)) := by kernel_rfl
set_option maxRecDepth 100000 in
theorem paging_frameOf_calls (pte : Int) (hw : paging_frameOf_pre pte) : ACalls Tryz.prog 257 (paging_frameOf_args pte) (paging_frameOf_rows pte) (paging_frameOf_enc (paging_frameOf pte)) (paging_frameOf_out (paging_frameOf pte)) :=
  have hG : AllOK Tryz.prog [bits_Field_m] := .cons bits_Field_ok (.nil)
  FnOK.calls drawn tabOK hG Tryz.func257 (LL_ok drawn tabOK hG 2 (invs := [])) (FnOK.of (paging_frameOf_nf pte _) (Tree.main' hw ⟨rfl, rfl⟩))
set_option maxRecDepth 100000 in
theorem paging_frameOf_conv (args : List D) (rows : List Row) : convA paging_frameOf_sig args 0 = paging_frameOf_args (argI args 0) := by kernel_rfl
set_option maxRecDepth 100000 in
theorem paging_frameOf_convR (args : List D) (rows : List Row) : convRs paging_frameOf_rsig rows 0 = paging_frameOf_rows (argI args 0) := by kernel_rfl
set_option maxRecDepth 100000 in
theorem paging_frameOf_ff (X : Int) : (ffB (paging_frameOf_enc X) && ffBR (paging_frameOf_out X)) = true := by kernel_rfl
theorem paging_frameOf_ok : ModelOK Tryz.prog paging_frameOf_m := mkP_ok Tryz.call257 (fun args rows hp => by rw [paging_frameOf_conv args rows, paging_frameOf_convR args rows]; exact paging_frameOf_calls (argI args 0) hp) (fun _ X => paging_frameOf_ff X)
def paging_Walk_t (m : (List Int)) (root : Int) (va : Int) (access : Int) : Tree ApiTranslation :=
.lv (paging_causeOf access) fun (x0 : Int × Bool) => .br (!x0.snd) (.lf ({ Addr := (0 : Int), Entry := (0 : Int), Cause := x0.fst })) (.br (decide (va ≥ (4096 : Int))) (.lf ({ Addr := (0 : Int), Entry := (0 : Int), Cause := x0.fst })) (.lv (paging_isPage m root) fun (x1 : Bool) => .br (!x1) (.lf ({ Addr := (0 : Int), Entry := (0 : Int), Cause := x0.fst })) (.an (memory_Load_pre m (IntKind.wrap IntKind.u32 (IntKind.wrap IntKind.u32 (root * (128 : Int)) + IntKind.wrap IntKind.u32 ((4 : Int) * IntKind.wrap IntKind.u32 (Int.tdiv va (128 : Int))))) (4 : Int)) (.lv (memory_Load m (IntKind.wrap IntKind.u32 (IntKind.wrap IntKind.u32 (root * (128 : Int)) + IntKind.wrap IntKind.u32 ((4 : Int) * IntKind.wrap IntKind.u32 (Int.tdiv va (128 : Int))))) (4 : Int)) fun (x2 : Int × Bool) => .br (!x2.snd) (.lf ({ Addr := (0 : Int), Entry := (0 : Int), Cause := x0.fst })) (.lv (paging_permits x2.fst access) fun (x3 : Bool) => .br (!x3) (.lf ({ Addr := (0 : Int), Entry := (0 : Int), Cause := x0.fst })) (.an (paging_frameOf_pre x2.fst) (.lv (paging_frameOf x2.fst) fun (x4 : Int) => .lv (paging_isPage m x4) fun (x5 : Bool) => .br (!x5) (.lf ({ Addr := (0 : Int), Entry := (0 : Int), Cause := x0.fst })) (.an (paging_frameOf_pre x2.fst) (.lv (paging_frameOf x2.fst) fun (x6 : Int) => .lf ({ Addr := IntKind.wrap IntKind.u32 (IntKind.wrap IntKind.u32 (x6 * (128 : Int)) + Int.tmod va (128 : Int)), Entry := IntKind.wrap IntKind.u32 (IntKind.wrap IntKind.u32 (root * (128 : Int)) + IntKind.wrap IntKind.u32 ((4 : Int) * IntKind.wrap IntKind.u32 (Int.tdiv va (128 : Int)))), Cause := (0 : Int) }))))))))))
def paging_Walk (m : (List Int)) (root : Int) (va : Int) (access : Int) : ApiTranslation := (paging_Walk_t m root va access).m
abbrev paging_Walk_pre (m : (List Int)) (root : Int) (va : Int) (access : Int) : Prop := (paging_Walk_t m root va access).p
def paging_Walk_args (m : (List Int)) (root : Int) (va : Int) (access : Int) : List D := [.sl 1 (.ints .u32 m) false, .int .u32 root, .int .u32 va, .int .i64 access]
def paging_Walk_rows (m : (List Int)) (root : Int) (va : Int) (access : Int) : List Row := []
def paging_Walk_enc (X : ApiTranslation) : D := .agg (ApiTranslation.cells X)
def paging_Walk_out (X : ApiTranslation) : List Row := []
def paging_Walk_dirs : List Dir := []
def paging_Walk_sig : List PT := [.one (.ints .u32), .one (.int .u32), .one (.int .u32), .one (.int .i64)]
def paging_Walk_rsig : List RT := []
def paging_Walk_val (args : List D) (rows : List Row) : ApiTranslation := paging_Walk (argL .u32 args 0) (argI args 1) (argI args 2) (argI args 3)
def paging_Walk_prf (args : List D) (rows : List Row) : Prop := paging_Walk_pre (argL .u32 args 0) (argI args 1) (argI args 2) (argI args 3)
def paging_Walk_m : Model := mkP 215 [] true paging_Walk_sig paging_Walk_rsig paging_Walk_prf paging_Walk_val paging_Walk_enc paging_Walk_out
set_option maxRecDepth 100000 in
theorem paging_Walk_nf (m : (List Int)) (root : Int) (va : Int) (access : Int) (Q : D → List Row → Prop) : (fnVC tab [paging_causeOf_m, paging_isPage_m, memory_Load_m, paging_permits_m, paging_frameOf_m] (LL tab [paging_causeOf_m, paging_isPage_m, memory_Load_m, paging_permits_m, paging_frameOf_m] Tryz.f215.ntmps 0 [] 2) Tryz.f215 (paging_Walk_args m root va access) (paging_Walk_rows m root va access) fun d R => canonVC (paging_Walk_rows m root va access).length paging_Walk_dirs d R Q) = (paging_Walk_t m root va access).q (fun X => Q (paging_Walk_enc X) (paging_Walk_out X)) := by kernel_rfl
set_option maxRecDepth 100000 in
theorem paging_Walk_calls (m : (List Int)) (root : Int) (va : Int) (access : Int) (hw : paging_Walk_pre m root va access) : ACalls Tryz.prog 215 (paging_Walk_args m root va access) (paging_Walk_rows m root va access) (paging_Walk_enc (paging_Walk m root va access)) (paging_Walk_out (paging_Walk m root va access)) :=
  have hG : AllOK Tryz.prog [paging_causeOf_m, paging_isPage_m, memory_Load_m, paging_permits_m, paging_frameOf_m] := .cons paging_causeOf_ok (.cons paging_isPage_ok (.cons memory_Load_ok (.cons paging_permits_ok (.cons paging_frameOf_ok (.nil)))))
  FnOK.calls drawn tabOK hG Tryz.func215 (LL_ok drawn tabOK hG 2 (invs := [])) (FnOK.of (paging_Walk_nf m root va access _) (Tree.main' hw ⟨rfl, rfl⟩))
set_option maxRecDepth 100000 in
theorem paging_Walk_conv (args : List D) (rows : List Row) : convA paging_Walk_sig args 0 = paging_Walk_args (argL .u32 args 0) (argI args 1) (argI args 2) (argI args 3) := by kernel_rfl
set_option maxRecDepth 100000 in
theorem paging_Walk_convR (args : List D) (rows : List Row) : convRs paging_Walk_rsig rows 0 = paging_Walk_rows (argL .u32 args 0) (argI args 1) (argI args 2) (argI args 3) := by kernel_rfl
set_option maxRecDepth 100000 in
theorem paging_Walk_ff (X : ApiTranslation) : (ffB (paging_Walk_enc X) && ffBR (paging_Walk_out X)) = true := by kernel_rfl
theorem paging_Walk_ok : ModelOK Tryz.prog paging_Walk_m := mkP_ok Tryz.call215 (fun args rows hp => by rw [paging_Walk_conv args rows, paging_Walk_convR args rows]; exact paging_Walk_calls (argL .u32 args 0) (argI args 1) (argI args 2) (argI args 3) hp) (fun _ X => paging_Walk_ff X)
def paging_Touch_t (m : (List Int)) (entry : Int) (access : Int) : Tree (List Int) :=
.an (memory_Load_pre m entry (4 : Int)) (.lv (memory_Load m entry (4 : Int)) fun (x0 : Int × Bool) => .br (!x0.snd) (.an (slices_Clone_uint32_uint32_pre m) (.lv (slices_Clone_uint32_uint32 m) fun (x1 : List Int) => .lf x1)) (.br (access == (3 : Int)) (.an (memory_Store_pre m entry (4 : Int) (ior IntKind.u32 (ior IntKind.u32 x0.fst (8 : Int)) (16 : Int))) (.lv (memory_Store m entry (4 : Int) (ior IntKind.u32 (ior IntKind.u32 x0.fst (8 : Int)) (16 : Int))) fun (x2 : List Int × Bool) => .lf x2.fst)) (.an (memory_Store_pre m entry (4 : Int) (ior IntKind.u32 x0.fst (8 : Int))) (.lv (memory_Store m entry (4 : Int) (ior IntKind.u32 x0.fst (8 : Int))) fun (x3 : List Int × Bool) => .lf x3.fst))))
def paging_Touch (m : (List Int)) (entry : Int) (access : Int) : (List Int) := (paging_Touch_t m entry access).m
abbrev paging_Touch_pre (m : (List Int)) (entry : Int) (access : Int) : Prop := (paging_Touch_t m entry access).p
def paging_Touch_args (m : (List Int)) (entry : Int) (access : Int) : List D := [.sl 1 (.ints .u32 m) false, .int .u32 entry, .int .i64 access]
def paging_Touch_rows (m : (List Int)) (entry : Int) (access : Int) : List Row := []
def paging_Touch_enc (X : (List Int)) : D := .all 0
def paging_Touch_out (X : (List Int)) : List Row := [⟨false, 27, 1, .ints .u32 X⟩]
def paging_Touch_dirs : List Dir := [.row 27 1 (.ints .u32)]
def paging_Touch_sig : List PT := [.one (.ints .u32), .one (.int .u32), .one (.int .i64)]
def paging_Touch_rsig : List RT := []
def paging_Touch_val (args : List D) (rows : List Row) : (List Int) := paging_Touch (argL .u32 args 0) (argI args 1) (argI args 2)
def paging_Touch_prf (args : List D) (rows : List Row) : Prop := paging_Touch_pre (argL .u32 args 0) (argI args 1) (argI args 2)
def paging_Touch_m : Model := mkP 216 [] true paging_Touch_sig paging_Touch_rsig paging_Touch_prf paging_Touch_val paging_Touch_enc paging_Touch_out
set_option maxRecDepth 100000 in
theorem paging_Touch_nf (m : (List Int)) (entry : Int) (access : Int) (Q : D → List Row → Prop) : (fnVC tab [memory_Load_m, slices_Clone_uint32_uint32_m, memory_Store_m] (LL tab [memory_Load_m, slices_Clone_uint32_uint32_m, memory_Store_m] Tryz.f216.ntmps 0 [] 2) Tryz.f216 (paging_Touch_args m entry access) (paging_Touch_rows m entry access) fun d R => canonVC (paging_Touch_rows m entry access).length paging_Touch_dirs d R Q) = (paging_Touch_t m entry access).q (fun X => Q (paging_Touch_enc X) (paging_Touch_out X)) := by kernel_rfl
set_option maxRecDepth 100000 in
theorem paging_Touch_calls (m : (List Int)) (entry : Int) (access : Int) (hw : paging_Touch_pre m entry access) : ACalls Tryz.prog 216 (paging_Touch_args m entry access) (paging_Touch_rows m entry access) (paging_Touch_enc (paging_Touch m entry access)) (paging_Touch_out (paging_Touch m entry access)) :=
  have hG : AllOK Tryz.prog [memory_Load_m, slices_Clone_uint32_uint32_m, memory_Store_m] := .cons memory_Load_ok (.cons slices_Clone_uint32_uint32_ok (.cons memory_Store_ok (.nil)))
  FnOK.calls drawn tabOK hG Tryz.func216 (LL_ok drawn tabOK hG 2 (invs := [])) (FnOK.of (paging_Touch_nf m entry access _) (Tree.main' hw ⟨rfl, rfl⟩))
set_option maxRecDepth 100000 in
theorem paging_Touch_conv (args : List D) (rows : List Row) : convA paging_Touch_sig args 0 = paging_Touch_args (argL .u32 args 0) (argI args 1) (argI args 2) := by kernel_rfl
set_option maxRecDepth 100000 in
theorem paging_Touch_convR (args : List D) (rows : List Row) : convRs paging_Touch_rsig rows 0 = paging_Touch_rows (argL .u32 args 0) (argI args 1) (argI args 2) := by kernel_rfl
set_option maxRecDepth 100000 in
theorem paging_Touch_ff (X : (List Int)) : (ffB (paging_Touch_enc X) && ffBR (paging_Touch_out X)) = true := by kernel_rfl
theorem paging_Touch_ok : ModelOK Tryz.prog paging_Touch_m := mkP_ok Tryz.call216 (fun args rows hp => by rw [paging_Touch_conv args rows, paging_Touch_convR args rows]; exact paging_Touch_calls (argL .u32 args 0) (argI args 1) (argI args 2) hp) (fun _ X => paging_Touch_ff X)
def cpu_Resolve_t (c : ApiCpu) (m : (List Int)) (va : Int) (size : Int) (access : Int) : Tree (Int × (List Int) × Int) :=
.lv (cpu_causeOf access) fun (x0 : Int × Bool) => .br (!x0.snd) (.an (slices_Clone_uint32_uint32_pre m) (.lv (slices_Clone_uint32_uint32 m) fun (x1 : List Int) => .lf ((0 : Int), x1, (5 : Int)))) (.br (size != (1 : Int)) (.br (size != (4 : Int)) (.an (slices_Clone_uint32_uint32_pre m) (.lv (slices_Clone_uint32_uint32 m) fun (x2 : List Int) => .lf ((0 : Int), x2, (5 : Int)))) (.cn (decide (IntKind.wrap IntKind.u32 size ≠ (0 : Int))) (.br (Int.tmod va (IntKind.wrap IntKind.u32 size) != (0 : Int)) (.an (slices_Clone_uint32_uint32_pre m) (.lv (slices_Clone_uint32_uint32 m) fun (x3 : List Int) => .lf ((0 : Int), x3, (3 : Int)))) (.lv (cpu_kernel c) fun (x4 : Bool) => .br (!x4) (.br (iand IntKind.u32 c.Csr.a0 (4 : Int) != (0 : Int)) (.an (paging_Walk_pre m c.Csr.a6 va access) (.lv (paging_Walk m c.Csr.a6 va access) fun (x5 : ApiTranslation) => .br (x5.Cause != (0 : Int)) (.an (slices_Clone_uint32_uint32_pre m) (.lv (slices_Clone_uint32_uint32 m) fun (x6 : List Int) => .lf ((0 : Int), x6, x5.Cause))) (.an (paging_Touch_pre m x5.Entry access) (.lv (paging_Touch m x5.Entry access) fun (x7 : List Int) => .lf (x5.Addr, x7, (0 : Int)))))) (.an (memory_Load_pre m va size) (.lv (memory_Load m va size) fun (x8 : Int × Bool) => .br (!x8.snd) (.an (slices_Clone_uint32_uint32_pre m) (.lv (slices_Clone_uint32_uint32 m) fun (x9 : List Int) => .lf ((0 : Int), x9, x0.fst))) (.an (slices_Clone_uint32_uint32_pre m) (.lv (slices_Clone_uint32_uint32 m) fun (x10 : List Int) => .lf (va, x10, (0 : Int))))))) (.an (memory_Load_pre m va size) (.lv (memory_Load m va size) fun (x11 : Int × Bool) => .br (!x11.snd) (.an (slices_Clone_uint32_uint32_pre m) (.lv (slices_Clone_uint32_uint32 m) fun (x12 : List Int) => .lf ((0 : Int), x12, x0.fst))) (.an (slices_Clone_uint32_uint32_pre m) (.lv (slices_Clone_uint32_uint32 m) fun (x13 : List Int) => .lf (va, x13, (0 : Int)))))))))) (.cn (decide (IntKind.wrap IntKind.u32 size ≠ (0 : Int))) (.br (Int.tmod va (IntKind.wrap IntKind.u32 size) != (0 : Int)) (.an (slices_Clone_uint32_uint32_pre m) (.lv (slices_Clone_uint32_uint32 m) fun (x14 : List Int) => .lf ((0 : Int), x14, (3 : Int)))) (.lv (cpu_kernel c) fun (x15 : Bool) => .br (!x15) (.br (iand IntKind.u32 c.Csr.a0 (4 : Int) != (0 : Int)) (.an (paging_Walk_pre m c.Csr.a6 va access) (.lv (paging_Walk m c.Csr.a6 va access) fun (x16 : ApiTranslation) => .br (x16.Cause != (0 : Int)) (.an (slices_Clone_uint32_uint32_pre m) (.lv (slices_Clone_uint32_uint32 m) fun (x17 : List Int) => .lf ((0 : Int), x17, x16.Cause))) (.an (paging_Touch_pre m x16.Entry access) (.lv (paging_Touch m x16.Entry access) fun (x18 : List Int) => .lf (x16.Addr, x18, (0 : Int)))))) (.an (memory_Load_pre m va size) (.lv (memory_Load m va size) fun (x19 : Int × Bool) => .br (!x19.snd) (.an (slices_Clone_uint32_uint32_pre m) (.lv (slices_Clone_uint32_uint32 m) fun (x20 : List Int) => .lf ((0 : Int), x20, x0.fst))) (.an (slices_Clone_uint32_uint32_pre m) (.lv (slices_Clone_uint32_uint32 m) fun (x21 : List Int) => .lf (va, x21, (0 : Int))))))) (.an (memory_Load_pre m va size) (.lv (memory_Load m va size) fun (x22 : Int × Bool) => .br (!x22.snd) (.an (slices_Clone_uint32_uint32_pre m) (.lv (slices_Clone_uint32_uint32 m) fun (x23 : List Int) => .lf ((0 : Int), x23, x0.fst))) (.an (slices_Clone_uint32_uint32_pre m) (.lv (slices_Clone_uint32_uint32 m) fun (x24 : List Int) => .lf (va, x24, (0 : Int))))))))))
def cpu_Resolve (c : ApiCpu) (m : (List Int)) (va : Int) (size : Int) (access : Int) : (Int × (List Int) × Int) := (cpu_Resolve_t c m va size access).m
abbrev cpu_Resolve_pre (c : ApiCpu) (m : (List Int)) (va : Int) (size : Int) (access : Int) : Prop := (cpu_Resolve_t c m va size access).p
def cpu_Resolve_args (c : ApiCpu) (m : (List Int)) (va : Int) (size : Int) (access : Int) : List D := [.agg (ApiCpu.cells c), .sl 1 (.ints .u32 m) false, .int .u32 va, .int .i64 size, .int .i64 access]
def cpu_Resolve_rows (c : ApiCpu) (m : (List Int)) (va : Int) (size : Int) (access : Int) : List Row := []
def cpu_Resolve_enc (X : (Int × (List Int) × Int)) : D := .tup [.int .u32 (X.1), .all 0, .int .i64 (X.2.2)]
def cpu_Resolve_out (X : (Int × (List Int) × Int)) : List Row := [⟨false, 27, 1, .ints .u32 (X.2.1)⟩]
def cpu_Resolve_dirs : List Dir := [.row 27 1 (.ints .u32)]
def cpu_Resolve_sig : List PT := [.agg ApiCpu.sig, .one (.ints .u32), .one (.int .u32), .one (.int .i64), .one (.int .i64)]
def cpu_Resolve_rsig : List RT := []
def cpu_Resolve_val (args : List D) (rows : List Row) : (Int × (List Int) × Int) := cpu_Resolve (ApiCpu.of (args.getD 0 .dead).cells) (argL .u32 args 1) (argI args 2) (argI args 3) (argI args 4)
def cpu_Resolve_prf (args : List D) (rows : List Row) : Prop := cpu_Resolve_pre (ApiCpu.of (args.getD 0 .dead).cells) (argL .u32 args 1) (argI args 2) (argI args 3) (argI args 4)
def cpu_Resolve_m : Model := mkP 167 [] true cpu_Resolve_sig cpu_Resolve_rsig cpu_Resolve_prf cpu_Resolve_val cpu_Resolve_enc cpu_Resolve_out
set_option maxRecDepth 100000 in
theorem cpu_Resolve_nf (c : ApiCpu) (m : (List Int)) (va : Int) (size : Int) (access : Int) (Q : D → List Row → Prop) : (fnVC tab [cpu_causeOf_m, slices_Clone_uint32_uint32_m, cpu_kernel_m, paging_Walk_m, paging_Touch_m, memory_Load_m] (LL tab [cpu_causeOf_m, slices_Clone_uint32_uint32_m, cpu_kernel_m, paging_Walk_m, paging_Touch_m, memory_Load_m] Tryz.f167.ntmps 0 [] 2) Tryz.f167 (cpu_Resolve_args c m va size access) (cpu_Resolve_rows c m va size access) fun d R => canonVC (cpu_Resolve_rows c m va size access).length cpu_Resolve_dirs d R Q) = (cpu_Resolve_t c m va size access).q (fun X => Q (cpu_Resolve_enc X) (cpu_Resolve_out X)) := by kernel_rfl
set_option maxRecDepth 100000 in
theorem cpu_Resolve_calls (c : ApiCpu) (m : (List Int)) (va : Int) (size : Int) (access : Int) (hw : cpu_Resolve_pre c m va size access) : ACalls Tryz.prog 167 (cpu_Resolve_args c m va size access) (cpu_Resolve_rows c m va size access) (cpu_Resolve_enc (cpu_Resolve c m va size access)) (cpu_Resolve_out (cpu_Resolve c m va size access)) :=
  have hG : AllOK Tryz.prog [cpu_causeOf_m, slices_Clone_uint32_uint32_m, cpu_kernel_m, paging_Walk_m, paging_Touch_m, memory_Load_m] := .cons cpu_causeOf_ok (.cons slices_Clone_uint32_uint32_ok (.cons cpu_kernel_ok (.cons paging_Walk_ok (.cons paging_Touch_ok (.cons memory_Load_ok (.nil))))))
  FnOK.calls drawn tabOK hG Tryz.func167 (LL_ok drawn tabOK hG 2 (invs := [])) (FnOK.of (cpu_Resolve_nf c m va size access _) (Tree.main' hw ⟨rfl, rfl⟩))
set_option maxRecDepth 100000 in
theorem cpu_Resolve_conv (args : List D) (rows : List Row) : convA cpu_Resolve_sig args 0 = cpu_Resolve_args (ApiCpu.of (args.getD 0 .dead).cells) (argL .u32 args 1) (argI args 2) (argI args 3) (argI args 4) := by kernel_rfl
set_option maxRecDepth 100000 in
theorem cpu_Resolve_convR (args : List D) (rows : List Row) : convRs cpu_Resolve_rsig rows 0 = cpu_Resolve_rows (ApiCpu.of (args.getD 0 .dead).cells) (argL .u32 args 1) (argI args 2) (argI args 3) (argI args 4) := by kernel_rfl
set_option maxRecDepth 100000 in
theorem cpu_Resolve_ff (X : (Int × (List Int) × Int)) : (ffB (cpu_Resolve_enc X) && ffBR (cpu_Resolve_out X)) = true := by kernel_rfl
theorem cpu_Resolve_ok : ModelOK Tryz.prog cpu_Resolve_m := mkP_ok Tryz.call167 (fun args rows hp => by rw [cpu_Resolve_conv args rows, cpu_Resolve_convR args rows]; exact cpu_Resolve_calls (ApiCpu.of (args.getD 0 .dead).cells) (argL .u32 args 1) (argI args 2) (argI args 3) (argI args 4) hp) (fun _ X => cpu_Resolve_ff X)
def cpu_Fetch_t (c : ApiCpu) (m : (List Int)) : Tree (Int × (List Int) × Int) :=
.an (cpu_Resolve_pre c m c.Pc (4 : Int) (1 : Int)) (.lv (cpu_Resolve c m c.Pc (4 : Int) (1 : Int)) fun (x0 : Int × List Int × Int) => .br (x0.snd.snd != (0 : Int)) (.lf ((0 : Int), x0.snd.fst, x0.snd.snd)) (.an (memory_Load_pre x0.snd.fst x0.fst (4 : Int)) (.lv (memory_Load x0.snd.fst x0.fst (4 : Int)) fun (x1 : Int × Bool) => .lf (x1.fst, x0.snd.fst, (0 : Int)))))
def cpu_Fetch (c : ApiCpu) (m : (List Int)) : (Int × (List Int) × Int) := (cpu_Fetch_t c m).m
abbrev cpu_Fetch_pre (c : ApiCpu) (m : (List Int)) : Prop := (cpu_Fetch_t c m).p
def cpu_Fetch_args (c : ApiCpu) (m : (List Int)) : List D := [.agg (ApiCpu.cells c), .sl 1 (.ints .u32 m) false]
def cpu_Fetch_rows (c : ApiCpu) (m : (List Int)) : List Row := []
def cpu_Fetch_enc (X : (Int × (List Int) × Int)) : D := .tup [.int .u32 (X.1), .all 0, .int .i64 (X.2.2)]
def cpu_Fetch_out (X : (Int × (List Int) × Int)) : List Row := [⟨false, 27, 1, .ints .u32 (X.2.1)⟩]
def cpu_Fetch_dirs : List Dir := [.row 27 1 (.ints .u32)]
def cpu_Fetch_sig : List PT := [.agg ApiCpu.sig, .one (.ints .u32)]
def cpu_Fetch_rsig : List RT := []
def cpu_Fetch_val (args : List D) (rows : List Row) : (Int × (List Int) × Int) := cpu_Fetch (ApiCpu.of (args.getD 0 .dead).cells) (argL .u32 args 1)
def cpu_Fetch_prf (args : List D) (rows : List Row) : Prop := cpu_Fetch_pre (ApiCpu.of (args.getD 0 .dead).cells) (argL .u32 args 1)
def cpu_Fetch_m : Model := mkP 120 [] true cpu_Fetch_sig cpu_Fetch_rsig cpu_Fetch_prf cpu_Fetch_val cpu_Fetch_enc cpu_Fetch_out
set_option maxRecDepth 100000 in
theorem cpu_Fetch_nf (c : ApiCpu) (m : (List Int)) (Q : D → List Row → Prop) : (fnVC tab [cpu_Resolve_m, memory_Load_m] (LL tab [cpu_Resolve_m, memory_Load_m] Tryz.f120.ntmps 0 [] 2) Tryz.f120 (cpu_Fetch_args c m) (cpu_Fetch_rows c m) fun d R => canonVC (cpu_Fetch_rows c m).length cpu_Fetch_dirs d R Q) = (cpu_Fetch_t c m).q (fun X => Q (cpu_Fetch_enc X) (cpu_Fetch_out X)) := by kernel_rfl
set_option maxRecDepth 100000 in
theorem cpu_Fetch_calls (c : ApiCpu) (m : (List Int)) (hw : cpu_Fetch_pre c m) : ACalls Tryz.prog 120 (cpu_Fetch_args c m) (cpu_Fetch_rows c m) (cpu_Fetch_enc (cpu_Fetch c m)) (cpu_Fetch_out (cpu_Fetch c m)) :=
  have hG : AllOK Tryz.prog [cpu_Resolve_m, memory_Load_m] := .cons cpu_Resolve_ok (.cons memory_Load_ok (.nil))
  FnOK.calls drawn tabOK hG Tryz.func120 (LL_ok drawn tabOK hG 2 (invs := [])) (FnOK.of (cpu_Fetch_nf c m _) (Tree.main' hw ⟨rfl, rfl⟩))
set_option maxRecDepth 100000 in
theorem cpu_Fetch_conv (args : List D) (rows : List Row) : convA cpu_Fetch_sig args 0 = cpu_Fetch_args (ApiCpu.of (args.getD 0 .dead).cells) (argL .u32 args 1) := by kernel_rfl
set_option maxRecDepth 100000 in
theorem cpu_Fetch_convR (args : List D) (rows : List Row) : convRs cpu_Fetch_rsig rows 0 = cpu_Fetch_rows (ApiCpu.of (args.getD 0 .dead).cells) (argL .u32 args 1) := by kernel_rfl
set_option maxRecDepth 100000 in
theorem cpu_Fetch_ff (X : (Int × (List Int) × Int)) : (ffB (cpu_Fetch_enc X) && ffBR (cpu_Fetch_out X)) = true := by kernel_rfl
theorem cpu_Fetch_ok : ModelOK Tryz.prog cpu_Fetch_m := mkP_ok Tryz.call120 (fun args rows hp => by rw [cpu_Fetch_conv args rows, cpu_Fetch_convR args rows]; exact cpu_Fetch_calls (ApiCpu.of (args.getD 0 .dead).cells) (argL .u32 args 1) hp) (fun _ X => cpu_Fetch_ff X)
def isa_Privileged_t (op : Int) : Tree Bool :=
.br (op == (57 : Int)) (.lf true) (.br (op == (58 : Int)) (.lf true) (.br (op == (59 : Int)) (.lf true) (.br (op == (60 : Int)) (.lf true) (.br (op == (61 : Int)) (.lf true) (.br (op == (62 : Int)) (.lf true) (.br (op == (63 : Int)) (.lf true) (.br (op == (64 : Int)) (.lf true) (.lf false))))))))
def isa_Privileged (op : Int) : Bool := (isa_Privileged_t op).m
theorem isa_Privileged_tot (op : Int) : (isa_Privileged_t op).p := (wB wL (wB wL (wB wL (wB wL (wB wL (wB wL (wB wL (wB wL wL))))))))
def isa_Privileged_args (op : Int) : List D := [.int .i64 op]
def isa_Privileged_rows (op : Int) : List Row := []
def isa_Privileged_enc (X : Bool) : D := .bool X
def isa_Privileged_out (X : Bool) : List Row := []
def isa_Privileged_dirs : List Dir := []
def isa_Privileged_sig : List PT := [.one (.int .i64)]
def isa_Privileged_rsig : List RT := []
def isa_Privileged_val (args : List D) (rows : List Row) : Bool := isa_Privileged (argI args 0)
def isa_Privileged_m : Model := mkR 122 [] true isa_Privileged_sig isa_Privileged_rsig isa_Privileged_val isa_Privileged_enc isa_Privileged_out
set_option maxRecDepth 100000 in
theorem isa_Privileged_nf (op : Int) (Q : D → List Row → Prop) : (fnVC tab [] (LL tab [] Tryz.f122.ntmps 0 [] 2) Tryz.f122 (isa_Privileged_args op) (isa_Privileged_rows op) fun d R => canonVC (isa_Privileged_rows op).length isa_Privileged_dirs d R Q) = (isa_Privileged_t op).q (fun X => Q (isa_Privileged_enc X) (isa_Privileged_out X)) := by kernel_rfl
set_option maxRecDepth 100000 in
theorem isa_Privileged_calls (op : Int) : ACalls Tryz.prog 122 (isa_Privileged_args op) (isa_Privileged_rows op) (isa_Privileged_enc (isa_Privileged op)) (isa_Privileged_out (isa_Privileged op)) :=
  have hG : AllOK Tryz.prog [] := .nil
  FnOK.calls drawn tabOK hG Tryz.func122 (LL_ok drawn tabOK hG 2 (invs := [])) (FnOK.of (isa_Privileged_nf op _) (Tree.main' (isa_Privileged_tot op) ⟨rfl, rfl⟩))
set_option maxRecDepth 100000 in
theorem isa_Privileged_conv (args : List D) (rows : List Row) : convA isa_Privileged_sig args 0 = isa_Privileged_args (argI args 0) := by kernel_rfl
set_option maxRecDepth 100000 in
theorem isa_Privileged_convR (args : List D) (rows : List Row) : convRs isa_Privileged_rsig rows 0 = isa_Privileged_rows (argI args 0) := by kernel_rfl
set_option maxRecDepth 100000 in
theorem isa_Privileged_ff (X : Bool) : (ffB (isa_Privileged_enc X) && ffBR (isa_Privileged_out X)) = true := by kernel_rfl
theorem isa_Privileged_ok : ModelOK Tryz.prog isa_Privileged_m := mkR_ok Tryz.call122 (fun args rows => by rw [isa_Privileged_conv args rows, isa_Privileged_convR args rows]; exact isa_Privileged_calls (argI args 0)) (fun _ X => isa_Privileged_ff X)
def cpu_width_t (op : Int) : Tree Int :=
.br (op == (32 : Int)) (.lf (4 : Int)) (.br (op == (35 : Int)) (.lf (4 : Int)) (.lf (1 : Int)))
def cpu_width (op : Int) : Int := (cpu_width_t op).m
theorem cpu_width_tot (op : Int) : (cpu_width_t op).p := (wB wL (wB wL wL))
def cpu_width_args (op : Int) : List D := [.int .i64 op]
def cpu_width_rows (op : Int) : List Row := []
def cpu_width_enc (X : Int) : D := .int .i64 X
def cpu_width_out (X : Int) : List Row := []
def cpu_width_dirs : List Dir := []
def cpu_width_sig : List PT := [.one (.int .i64)]
def cpu_width_rsig : List RT := []
def cpu_width_val (args : List D) (rows : List Row) : Int := cpu_width (argI args 0)
def cpu_width_m : Model := mkR 173 [] true cpu_width_sig cpu_width_rsig cpu_width_val cpu_width_enc cpu_width_out
set_option maxRecDepth 100000 in
theorem cpu_width_nf (op : Int) (Q : D → List Row → Prop) : (fnVC tab [] (LL tab [] Tryz.f173.ntmps 0 [] 2) Tryz.f173 (cpu_width_args op) (cpu_width_rows op) fun d R => canonVC (cpu_width_rows op).length cpu_width_dirs d R Q) = (cpu_width_t op).q (fun X => Q (cpu_width_enc X) (cpu_width_out X)) := by kernel_rfl
set_option maxRecDepth 100000 in
theorem cpu_width_calls (op : Int) : ACalls Tryz.prog 173 (cpu_width_args op) (cpu_width_rows op) (cpu_width_enc (cpu_width op)) (cpu_width_out (cpu_width op)) :=
  have hG : AllOK Tryz.prog [] := .nil
  FnOK.calls drawn tabOK hG Tryz.func173 (LL_ok drawn tabOK hG 2 (invs := [])) (FnOK.of (cpu_width_nf op _) (Tree.main' (cpu_width_tot op) ⟨rfl, rfl⟩))
set_option maxRecDepth 100000 in
theorem cpu_width_conv (args : List D) (rows : List Row) : convA cpu_width_sig args 0 = cpu_width_args (argI args 0) := by kernel_rfl
set_option maxRecDepth 100000 in
theorem cpu_width_convR (args : List D) (rows : List Row) : convRs cpu_width_rsig rows 0 = cpu_width_rows (argI args 0) := by kernel_rfl
set_option maxRecDepth 100000 in
theorem cpu_width_ff (X : Int) : (ffB (cpu_width_enc X) && ffBR (cpu_width_out X)) = true := by kernel_rfl
theorem cpu_width_ok : ModelOK Tryz.prog cpu_width_m := mkR_ok Tryz.call173 (fun args rows => by rw [cpu_width_conv args rows, cpu_width_convR args rows]; exact cpu_width_calls (argI args 0)) (fun _ X => cpu_width_ff X)
def cpu_set_t (c : ApiCpu) (register : Int) (v : Int) : Tree ApiCpu :=
.br (register != (0 : Int)) (.cn (Nat.blt (0 : Nat) (1 : Nat) && decide ((0 : Int) ≤ register ∧ register < (↑(16 : Nat) : Int))) (.lf ({ X := A16.of (0 : Int) (List.set (A16.l c.X) (Int.toNat register) v), Pc := c.Pc, Csr := c.Csr }))) (.lf c)
def cpu_set (c : ApiCpu) (register : Int) (v : Int) : ApiCpu := (cpu_set_t c register v).m
abbrev cpu_set_pre (c : ApiCpu) (register : Int) (v : Int) : Prop := (cpu_set_t c register v).p
def cpu_set_args (c : ApiCpu) (register : Int) (v : Int) : List D := [.agg (ApiCpu.cells c), .int .i64 register, .int .u32 v]
def cpu_set_rows (c : ApiCpu) (register : Int) (v : Int) : List Row := []
def cpu_set_enc (X : ApiCpu) : D := .agg (ApiCpu.cells X)
def cpu_set_out (X : ApiCpu) : List Row := []
def cpu_set_dirs : List Dir := []
def cpu_set_sig : List PT := [.agg ApiCpu.sig, .one (.int .i64), .one (.int .u32)]
def cpu_set_rsig : List RT := []
def cpu_set_val (args : List D) (rows : List Row) : ApiCpu := cpu_set (ApiCpu.of (args.getD 0 .dead).cells) (argI args 1) (argI args 2)
def cpu_set_prf (args : List D) (rows : List Row) : Prop := cpu_set_pre (ApiCpu.of (args.getD 0 .dead).cells) (argI args 1) (argI args 2)
def cpu_set_m : Model := mkP 174 [] true cpu_set_sig cpu_set_rsig cpu_set_prf cpu_set_val cpu_set_enc cpu_set_out
set_option maxRecDepth 100000 in
theorem cpu_set_nf (c : ApiCpu) (register : Int) (v : Int) (Q : D → List Row → Prop) : (fnVC tab [] (LL tab [] Tryz.f174.ntmps 0 [] 2) Tryz.f174 (cpu_set_args c register v) (cpu_set_rows c register v) fun d R => canonVC (cpu_set_rows c register v).length cpu_set_dirs d R Q) = (cpu_set_t c register v).q (fun X => Q (cpu_set_enc X) (cpu_set_out X)) := by kernel_rfl
set_option maxRecDepth 100000 in
theorem cpu_set_calls (c : ApiCpu) (register : Int) (v : Int) (hw : cpu_set_pre c register v) : ACalls Tryz.prog 174 (cpu_set_args c register v) (cpu_set_rows c register v) (cpu_set_enc (cpu_set c register v)) (cpu_set_out (cpu_set c register v)) :=
  have hG : AllOK Tryz.prog [] := .nil
  FnOK.calls drawn tabOK hG Tryz.func174 (LL_ok drawn tabOK hG 2 (invs := [])) (FnOK.of (cpu_set_nf c register v _) (Tree.main' hw ⟨rfl, rfl⟩))
set_option maxRecDepth 100000 in
theorem cpu_set_conv (args : List D) (rows : List Row) : convA cpu_set_sig args 0 = cpu_set_args (ApiCpu.of (args.getD 0 .dead).cells) (argI args 1) (argI args 2) := by kernel_rfl
set_option maxRecDepth 100000 in
theorem cpu_set_convR (args : List D) (rows : List Row) : convRs cpu_set_rsig rows 0 = cpu_set_rows (ApiCpu.of (args.getD 0 .dead).cells) (argI args 1) (argI args 2) := by kernel_rfl
set_option maxRecDepth 100000 in
theorem cpu_set_ff (X : ApiCpu) : (ffB (cpu_set_enc X) && ffBR (cpu_set_out X)) = true := by kernel_rfl
theorem cpu_set_ok : ModelOK Tryz.prog cpu_set_m := mkP_ok Tryz.call174 (fun args rows hp => by rw [cpu_set_conv args rows, cpu_set_convR args rows]; exact cpu_set_calls (ApiCpu.of (args.getD 0 .dead).cells) (argI args 1) (argI args 2) hp) (fun _ X => cpu_set_ff X)
def cpu_load_t (c : ApiCpu) (m : (List Int)) (i : ApiInst) : Tree (ApiCpu × (List Int)) :=
.cn (Nat.blt (0 : Nat) (1 : Nat) && decide ((0 : Int) ≤ i.B ∧ i.B < (↑(16 : Nat) : Int))) (.lv (cpu_width i.Op) fun (x0 : Int) => .an (cpu_Resolve_pre c m (IntKind.wrap IntKind.u32 (List.getD (A16.l c.X) (Int.toNat i.B) (0 : Int) + IntKind.wrap IntKind.u32 i.Imm)) x0 (2 : Int)) (.lv (cpu_Resolve c m (IntKind.wrap IntKind.u32 (List.getD (A16.l c.X) (Int.toNat i.B) (0 : Int) + IntKind.wrap IntKind.u32 i.Imm)) x0 (2 : Int)) fun (x1 : Int × List Int × Int) => .br (x1.snd.snd != (0 : Int)) (.lv (cpu_Trap c x1.snd.snd (IntKind.wrap IntKind.u32 (List.getD (A16.l c.X) (Int.toNat i.B) (0 : Int) + IntKind.wrap IntKind.u32 i.Imm))) fun (x2 : ApiCpu) => .lf (x2, x1.snd.fst)) (.lv (cpu_width i.Op) fun (x3 : Int) => .an (memory_Load_pre x1.snd.fst x1.fst x3) (.lv (memory_Load x1.snd.fst x1.fst x3) fun (x4 : Int × Bool) => .br (i.Op == (33 : Int)) (.an (bits_SignExtend_pre x4.fst (8 : Int)) (.lv (bits_SignExtend x4.fst (8 : Int)) fun (x5 : Int) => .an (cpu_set_pre c i.A x5) (.lv (cpu_set c i.A x5) fun (x6 : ApiCpu) => .lf ({ X := x6.X, Pc := IntKind.wrap IntKind.u32 (x6.Pc + (4 : Int)), Csr := x6.Csr }, x1.snd.fst)))) (.an (cpu_set_pre c i.A x4.fst) (.lv (cpu_set c i.A x4.fst) fun (x7 : ApiCpu) => .lf ({ X := x7.X, Pc := IntKind.wrap IntKind.u32 (x7.Pc + (4 : Int)), Csr := x7.Csr }, x1.snd.fst)))))))
def cpu_load (c : ApiCpu) (m : (List Int)) (i : ApiInst) : (ApiCpu × (List Int)) := (cpu_load_t c m i).m
abbrev cpu_load_pre (c : ApiCpu) (m : (List Int)) (i : ApiInst) : Prop := (cpu_load_t c m i).p
def cpu_load_args (c : ApiCpu) (m : (List Int)) (i : ApiInst) : List D := [.agg (ApiCpu.cells c), .sl 1 (.ints .u32 m) false, .agg (ApiInst.cells i)]
def cpu_load_rows (c : ApiCpu) (m : (List Int)) (i : ApiInst) : List Row := []
def cpu_load_enc (X : (ApiCpu × (List Int))) : D := .tup [.agg (ApiCpu.cells (X.1)), .all 0]
def cpu_load_out (X : (ApiCpu × (List Int))) : List Row := [⟨false, 27, 1, .ints .u32 (X.2)⟩]
def cpu_load_dirs : List Dir := [.row 27 1 (.ints .u32)]
def cpu_load_sig : List PT := [.agg ApiCpu.sig, .one (.ints .u32), .agg ApiInst.sig]
def cpu_load_rsig : List RT := []
def cpu_load_val (args : List D) (rows : List Row) : (ApiCpu × (List Int)) := cpu_load (ApiCpu.of (args.getD 0 .dead).cells) (argL .u32 args 1) (ApiInst.of (args.getD 2 .dead).cells)
def cpu_load_prf (args : List D) (rows : List Row) : Prop := cpu_load_pre (ApiCpu.of (args.getD 0 .dead).cells) (argL .u32 args 1) (ApiInst.of (args.getD 2 .dead).cells)
def cpu_load_m : Model := mkP 124 [] true cpu_load_sig cpu_load_rsig cpu_load_prf cpu_load_val cpu_load_enc cpu_load_out
set_option maxRecDepth 100000 in
theorem cpu_load_nf (c : ApiCpu) (m : (List Int)) (i : ApiInst) (Q : D → List Row → Prop) : (fnVC tab [cpu_Resolve_m, cpu_width_m, cpu_Trap_m, memory_Load_m, bits_SignExtend_m, cpu_set_m] (LL tab [cpu_Resolve_m, cpu_width_m, cpu_Trap_m, memory_Load_m, bits_SignExtend_m, cpu_set_m] Tryz.f124.ntmps 0 [] 2) Tryz.f124 (cpu_load_args c m i) (cpu_load_rows c m i) fun d R => canonVC (cpu_load_rows c m i).length cpu_load_dirs d R Q) = (cpu_load_t c m i).q (fun X => Q (cpu_load_enc X) (cpu_load_out X)) := by kernel_rfl
set_option maxRecDepth 100000 in
theorem cpu_load_calls (c : ApiCpu) (m : (List Int)) (i : ApiInst) (hw : cpu_load_pre c m i) : ACalls Tryz.prog 124 (cpu_load_args c m i) (cpu_load_rows c m i) (cpu_load_enc (cpu_load c m i)) (cpu_load_out (cpu_load c m i)) :=
  have hG : AllOK Tryz.prog [cpu_Resolve_m, cpu_width_m, cpu_Trap_m, memory_Load_m, bits_SignExtend_m, cpu_set_m] := .cons cpu_Resolve_ok (.cons cpu_width_ok (.cons cpu_Trap_ok (.cons memory_Load_ok (.cons bits_SignExtend_ok (.cons cpu_set_ok (.nil))))))
  FnOK.calls drawn tabOK hG Tryz.func124 (LL_ok drawn tabOK hG 2 (invs := [])) (FnOK.of (cpu_load_nf c m i _) (Tree.main' hw ⟨rfl, rfl⟩))
set_option maxRecDepth 100000 in
theorem cpu_load_conv (args : List D) (rows : List Row) : convA cpu_load_sig args 0 = cpu_load_args (ApiCpu.of (args.getD 0 .dead).cells) (argL .u32 args 1) (ApiInst.of (args.getD 2 .dead).cells) := by kernel_rfl
set_option maxRecDepth 100000 in
theorem cpu_load_convR (args : List D) (rows : List Row) : convRs cpu_load_rsig rows 0 = cpu_load_rows (ApiCpu.of (args.getD 0 .dead).cells) (argL .u32 args 1) (ApiInst.of (args.getD 2 .dead).cells) := by kernel_rfl
set_option maxRecDepth 100000 in
theorem cpu_load_ff (X : (ApiCpu × (List Int))) : (ffB (cpu_load_enc X) && ffBR (cpu_load_out X)) = true := by kernel_rfl
theorem cpu_load_ok : ModelOK Tryz.prog cpu_load_m := mkP_ok Tryz.call124 (fun args rows hp => by rw [cpu_load_conv args rows, cpu_load_convR args rows]; exact cpu_load_calls (ApiCpu.of (args.getD 0 .dead).cells) (argL .u32 args 1) (ApiInst.of (args.getD 2 .dead).cells) hp) (fun _ X => cpu_load_ff X)
def cpu_store_t (c : ApiCpu) (m : (List Int)) (i : ApiInst) : Tree (ApiCpu × (List Int)) :=
.cn (Nat.blt (0 : Nat) (1 : Nat) && decide ((0 : Int) ≤ i.B ∧ i.B < (↑(16 : Nat) : Int))) (.lv (cpu_width i.Op) fun (x0 : Int) => .an (cpu_Resolve_pre c m (IntKind.wrap IntKind.u32 (List.getD (A16.l c.X) (Int.toNat i.B) (0 : Int) + IntKind.wrap IntKind.u32 i.Imm)) x0 (3 : Int)) (.lv (cpu_Resolve c m (IntKind.wrap IntKind.u32 (List.getD (A16.l c.X) (Int.toNat i.B) (0 : Int) + IntKind.wrap IntKind.u32 i.Imm)) x0 (3 : Int)) fun (x1 : Int × List Int × Int) => .br (x1.snd.snd != (0 : Int)) (.lv (cpu_Trap c x1.snd.snd (IntKind.wrap IntKind.u32 (List.getD (A16.l c.X) (Int.toNat i.B) (0 : Int) + IntKind.wrap IntKind.u32 i.Imm))) fun (x2 : ApiCpu) => .lf (x2, x1.snd.fst)) (.lv (cpu_width i.Op) fun (x3 : Int) => .cn (Nat.blt (0 : Nat) (1 : Nat) && decide ((0 : Int) ≤ i.A ∧ i.A < (↑(16 : Nat) : Int))) (.an (memory_Store_pre x1.snd.fst x1.fst x3 (List.getD (A16.l c.X) (Int.toNat i.A) (0 : Int))) (.lv (memory_Store x1.snd.fst x1.fst x3 (List.getD (A16.l c.X) (Int.toNat i.A) (0 : Int))) fun (x4 : List Int × Bool) => .lf ({ X := c.X, Pc := IntKind.wrap IntKind.u32 (c.Pc + (4 : Int)), Csr := c.Csr }, x4.fst))))))
def cpu_store (c : ApiCpu) (m : (List Int)) (i : ApiInst) : (ApiCpu × (List Int)) := (cpu_store_t c m i).m
abbrev cpu_store_pre (c : ApiCpu) (m : (List Int)) (i : ApiInst) : Prop := (cpu_store_t c m i).p
def cpu_store_args (c : ApiCpu) (m : (List Int)) (i : ApiInst) : List D := [.agg (ApiCpu.cells c), .sl 1 (.ints .u32 m) false, .agg (ApiInst.cells i)]
def cpu_store_rows (c : ApiCpu) (m : (List Int)) (i : ApiInst) : List Row := []
def cpu_store_enc (X : (ApiCpu × (List Int))) : D := .tup [.agg (ApiCpu.cells (X.1)), .all 0]
def cpu_store_out (X : (ApiCpu × (List Int))) : List Row := [⟨false, 27, 1, .ints .u32 (X.2)⟩]
def cpu_store_dirs : List Dir := [.row 27 1 (.ints .u32)]
def cpu_store_sig : List PT := [.agg ApiCpu.sig, .one (.ints .u32), .agg ApiInst.sig]
def cpu_store_rsig : List RT := []
def cpu_store_val (args : List D) (rows : List Row) : (ApiCpu × (List Int)) := cpu_store (ApiCpu.of (args.getD 0 .dead).cells) (argL .u32 args 1) (ApiInst.of (args.getD 2 .dead).cells)
def cpu_store_prf (args : List D) (rows : List Row) : Prop := cpu_store_pre (ApiCpu.of (args.getD 0 .dead).cells) (argL .u32 args 1) (ApiInst.of (args.getD 2 .dead).cells)
def cpu_store_m : Model := mkP 125 [] true cpu_store_sig cpu_store_rsig cpu_store_prf cpu_store_val cpu_store_enc cpu_store_out
set_option maxRecDepth 100000 in
theorem cpu_store_nf (c : ApiCpu) (m : (List Int)) (i : ApiInst) (Q : D → List Row → Prop) : (fnVC tab [cpu_Resolve_m, cpu_width_m, cpu_Trap_m, memory_Store_m] (LL tab [cpu_Resolve_m, cpu_width_m, cpu_Trap_m, memory_Store_m] Tryz.f125.ntmps 0 [] 2) Tryz.f125 (cpu_store_args c m i) (cpu_store_rows c m i) fun d R => canonVC (cpu_store_rows c m i).length cpu_store_dirs d R Q) = (cpu_store_t c m i).q (fun X => Q (cpu_store_enc X) (cpu_store_out X)) := by kernel_rfl
set_option maxRecDepth 100000 in
theorem cpu_store_calls (c : ApiCpu) (m : (List Int)) (i : ApiInst) (hw : cpu_store_pre c m i) : ACalls Tryz.prog 125 (cpu_store_args c m i) (cpu_store_rows c m i) (cpu_store_enc (cpu_store c m i)) (cpu_store_out (cpu_store c m i)) :=
  have hG : AllOK Tryz.prog [cpu_Resolve_m, cpu_width_m, cpu_Trap_m, memory_Store_m] := .cons cpu_Resolve_ok (.cons cpu_width_ok (.cons cpu_Trap_ok (.cons memory_Store_ok (.nil))))
  FnOK.calls drawn tabOK hG Tryz.func125 (LL_ok drawn tabOK hG 2 (invs := [])) (FnOK.of (cpu_store_nf c m i _) (Tree.main' hw ⟨rfl, rfl⟩))
set_option maxRecDepth 100000 in
theorem cpu_store_conv (args : List D) (rows : List Row) : convA cpu_store_sig args 0 = cpu_store_args (ApiCpu.of (args.getD 0 .dead).cells) (argL .u32 args 1) (ApiInst.of (args.getD 2 .dead).cells) := by kernel_rfl
set_option maxRecDepth 100000 in
theorem cpu_store_convR (args : List D) (rows : List Row) : convRs cpu_store_rsig rows 0 = cpu_store_rows (ApiCpu.of (args.getD 0 .dead).cells) (argL .u32 args 1) (ApiInst.of (args.getD 2 .dead).cells) := by kernel_rfl
set_option maxRecDepth 100000 in
theorem cpu_store_ff (X : (ApiCpu × (List Int))) : (ffB (cpu_store_enc X) && ffBR (cpu_store_out X)) = true := by kernel_rfl
theorem cpu_store_ok : ModelOK Tryz.prog cpu_store_m := mkP_ok Tryz.call125 (fun args rows hp => by rw [cpu_store_conv args rows, cpu_store_convR args rows]; exact cpu_store_calls (ApiCpu.of (args.getD 0 .dead).cells) (argL .u32 args 1) (ApiInst.of (args.getD 2 .dead).cells) hp) (fun _ X => cpu_store_ff X)
def cpu_taken_t (op : Int) (a : Int) (b : Int) : Tree Bool :=
.br (op == (40 : Int)) (.lf (a == b)) (.br (op == (41 : Int)) (.lf (a != b)) (.br (op == (42 : Int)) (.lf (decide (IntKind.wrap IntKind.i32 a < IntKind.wrap IntKind.i32 b))) (.br (op == (43 : Int)) (.lf (decide (IntKind.wrap IntKind.i32 a ≥ IntKind.wrap IntKind.i32 b))) (.br (op == (44 : Int)) (.lf (decide (a < b))) (.lf (decide (a ≥ b)))))))
def cpu_taken (op : Int) (a : Int) (b : Int) : Bool := (cpu_taken_t op a b).m
theorem cpu_taken_tot (op : Int) (a : Int) (b : Int) : (cpu_taken_t op a b).p := (wB wL (wB wL (wB wL (wB wL (wB wL wL)))))
def cpu_taken_args (op : Int) (a : Int) (b : Int) : List D := [.int .i64 op, .int .u32 a, .int .u32 b]
def cpu_taken_rows (op : Int) (a : Int) (b : Int) : List Row := []
def cpu_taken_enc (X : Bool) : D := .bool X
def cpu_taken_out (X : Bool) : List Row := []
def cpu_taken_dirs : List Dir := []
def cpu_taken_sig : List PT := [.one (.int .i64), .one (.int .u32), .one (.int .u32)]
def cpu_taken_rsig : List RT := []
def cpu_taken_val (args : List D) (rows : List Row) : Bool := cpu_taken (argI args 0) (argI args 1) (argI args 2)
def cpu_taken_m : Model := mkR 176 [] true cpu_taken_sig cpu_taken_rsig cpu_taken_val cpu_taken_enc cpu_taken_out
set_option maxRecDepth 100000 in
theorem cpu_taken_nf (op : Int) (a : Int) (b : Int) (Q : D → List Row → Prop) : (fnVC tab [] (LL tab [] Tryz.f176.ntmps 0 [] 2) Tryz.f176 (cpu_taken_args op a b) (cpu_taken_rows op a b) fun d R => canonVC (cpu_taken_rows op a b).length cpu_taken_dirs d R Q) = (cpu_taken_t op a b).q (fun X => Q (cpu_taken_enc X) (cpu_taken_out X)) := by kernel_rfl
set_option maxRecDepth 100000 in
theorem cpu_taken_calls (op : Int) (a : Int) (b : Int) : ACalls Tryz.prog 176 (cpu_taken_args op a b) (cpu_taken_rows op a b) (cpu_taken_enc (cpu_taken op a b)) (cpu_taken_out (cpu_taken op a b)) :=
  have hG : AllOK Tryz.prog [] := .nil
  FnOK.calls drawn tabOK hG Tryz.func176 (LL_ok drawn tabOK hG 2 (invs := [])) (FnOK.of (cpu_taken_nf op a b _) (Tree.main' (cpu_taken_tot op a b) ⟨rfl, rfl⟩))
set_option maxRecDepth 100000 in
theorem cpu_taken_conv (args : List D) (rows : List Row) : convA cpu_taken_sig args 0 = cpu_taken_args (argI args 0) (argI args 1) (argI args 2) := by kernel_rfl
set_option maxRecDepth 100000 in
theorem cpu_taken_convR (args : List D) (rows : List Row) : convRs cpu_taken_rsig rows 0 = cpu_taken_rows (argI args 0) (argI args 1) (argI args 2) := by kernel_rfl
set_option maxRecDepth 100000 in
theorem cpu_taken_ff (X : Bool) : (ffB (cpu_taken_enc X) && ffBR (cpu_taken_out X)) = true := by kernel_rfl
theorem cpu_taken_ok : ModelOK Tryz.prog cpu_taken_m := mkR_ok Tryz.call176 (fun args rows => by rw [cpu_taken_conv args rows, cpu_taken_convR args rows]; exact cpu_taken_calls (argI args 0) (argI args 1) (argI args 2)) (fun _ X => cpu_taken_ff X)
def cpu_Return_t (c : ApiCpu) : Tree ApiCpu :=
.lv (cpu_move c.Csr.a0 (8 : Int) (1 : Int)) fun (x0 : Int) => .lv (cpu_move x0 (16 : Int) (2 : Int)) fun (x1 : Int) => .lf ({ X := c.X, Pc := c.Csr.a2, Csr := { a0 := x1, a1 := c.Csr.a1, a2 := c.Csr.a2, a3 := c.Csr.a3, a4 := c.Csr.a4, a5 := c.Csr.a5, a6 := c.Csr.a6, a7 := c.Csr.a7 } })
def cpu_Return (c : ApiCpu) : ApiCpu := (cpu_Return_t c).m
theorem cpu_Return_tot (c : ApiCpu) : (cpu_Return_t c).p := (wV fun _ => (wV fun _ => wL))
def cpu_Return_args (c : ApiCpu) : List D := [.agg (ApiCpu.cells c)]
def cpu_Return_rows (c : ApiCpu) : List Row := []
def cpu_Return_enc (X : ApiCpu) : D := .agg (ApiCpu.cells X)
def cpu_Return_out (X : ApiCpu) : List Row := []
def cpu_Return_dirs : List Dir := []
def cpu_Return_sig : List PT := [.agg ApiCpu.sig]
def cpu_Return_rsig : List RT := []
def cpu_Return_val (args : List D) (rows : List Row) : ApiCpu := cpu_Return (ApiCpu.of (args.getD 0 .dead).cells)
def cpu_Return_m : Model := mkR 177 [] true cpu_Return_sig cpu_Return_rsig cpu_Return_val cpu_Return_enc cpu_Return_out
set_option maxRecDepth 100000 in
theorem cpu_Return_nf (c : ApiCpu) (Q : D → List Row → Prop) : (fnVC tab [cpu_move_m] (LL tab [cpu_move_m] Tryz.f177.ntmps 0 [] 2) Tryz.f177 (cpu_Return_args c) (cpu_Return_rows c) fun d R => canonVC (cpu_Return_rows c).length cpu_Return_dirs d R Q) = (cpu_Return_t c).q (fun X => Q (cpu_Return_enc X) (cpu_Return_out X)) := by kernel_rfl
set_option maxRecDepth 100000 in
theorem cpu_Return_calls (c : ApiCpu) : ACalls Tryz.prog 177 (cpu_Return_args c) (cpu_Return_rows c) (cpu_Return_enc (cpu_Return c)) (cpu_Return_out (cpu_Return c)) :=
  have hG : AllOK Tryz.prog [cpu_move_m] := .cons cpu_move_ok (.nil)
  FnOK.calls drawn tabOK hG Tryz.func177 (LL_ok drawn tabOK hG 2 (invs := [])) (FnOK.of (cpu_Return_nf c _) (Tree.main' (cpu_Return_tot c) ⟨rfl, rfl⟩))
set_option maxRecDepth 100000 in
theorem cpu_Return_conv (args : List D) (rows : List Row) : convA cpu_Return_sig args 0 = cpu_Return_args (ApiCpu.of (args.getD 0 .dead).cells) := by kernel_rfl
set_option maxRecDepth 100000 in
theorem cpu_Return_convR (args : List D) (rows : List Row) : convRs cpu_Return_rsig rows 0 = cpu_Return_rows (ApiCpu.of (args.getD 0 .dead).cells) := by kernel_rfl
set_option maxRecDepth 100000 in
theorem cpu_Return_ff (X : ApiCpu) : (ffB (cpu_Return_enc X) && ffBR (cpu_Return_out X)) = true := by kernel_rfl
theorem cpu_Return_ok : ModelOK Tryz.prog cpu_Return_m := mkR_ok Tryz.call177 (fun args rows => by rw [cpu_Return_conv args rows, cpu_Return_convR args rows]; exact cpu_Return_calls (ApiCpu.of (args.getD 0 .dead).cells)) (fun _ X => cpu_Return_ff X)
def cpu_Write_t (c : ApiCpu) (csr : Int) (v : Int) : Tree ApiCpu :=
.br (csr == (0 : Int)) (.cn (Nat.blt (0 : Nat) (1 : Nat) && decide ((0 : Int) ≤ csr ∧ csr < (↑(8 : Nat) : Int))) (.lf ({ X := c.X, Pc := c.Pc, Csr := A8.of (0 : Int) (List.set (A8.l c.Csr) (Int.toNat csr) (iand IntKind.u32 v (31 : Int))) }))) (.br (csr == (7 : Int)) (.cn (Nat.blt (0 : Nat) (1 : Nat) && decide ((0 : Int) ≤ csr ∧ csr < (↑(8 : Nat) : Int))) (.lf ({ X := c.X, Pc := c.Pc, Csr := A8.of (0 : Int) (List.set (A8.l c.Csr) (Int.toNat csr) (iand IntKind.u32 v (31 : Int))) }))) (.br (csr == (6 : Int)) (.cn (Nat.blt (0 : Nat) (1 : Nat) && decide ((0 : Int) ≤ csr ∧ csr < (↑(8 : Nat) : Int))) (.lf ({ X := c.X, Pc := c.Pc, Csr := A8.of (0 : Int) (List.set (A8.l c.Csr) (Int.toNat csr) (iand IntKind.u32 v (255 : Int))) }))) (.br (csr == (1 : Int)) (.cn (Nat.blt (0 : Nat) (1 : Nat) && decide ((0 : Int) ≤ csr ∧ csr < (↑(8 : Nat) : Int))) (.lf ({ X := c.X, Pc := c.Pc, Csr := A8.of (0 : Int) (List.set (A8.l c.Csr) (Int.toNat csr) (iandn IntKind.u32 v (3 : Int))) }))) (.br (csr == (2 : Int)) (.cn (Nat.blt (0 : Nat) (1 : Nat) && decide ((0 : Int) ≤ csr ∧ csr < (↑(8 : Nat) : Int))) (.lf ({ X := c.X, Pc := c.Pc, Csr := A8.of (0 : Int) (List.set (A8.l c.Csr) (Int.toNat csr) (iandn IntKind.u32 v (3 : Int))) }))) (.br (csr == (3 : Int)) (.cn (Nat.blt (0 : Nat) (1 : Nat) && decide ((0 : Int) ≤ csr ∧ csr < (↑(8 : Nat) : Int))) (.lf ({ X := c.X, Pc := c.Pc, Csr := A8.of (0 : Int) (List.set (A8.l c.Csr) (Int.toNat csr) v) }))) (.br (csr == (4 : Int)) (.cn (Nat.blt (0 : Nat) (1 : Nat) && decide ((0 : Int) ≤ csr ∧ csr < (↑(8 : Nat) : Int))) (.lf ({ X := c.X, Pc := c.Pc, Csr := A8.of (0 : Int) (List.set (A8.l c.Csr) (Int.toNat csr) v) }))) (.br (csr == (5 : Int)) (.cn (Nat.blt (0 : Nat) (1 : Nat) && decide ((0 : Int) ≤ csr ∧ csr < (↑(8 : Nat) : Int))) (.lf ({ X := c.X, Pc := c.Pc, Csr := A8.of (0 : Int) (List.set (A8.l c.Csr) (Int.toNat csr) v) }))) (.lf c))))))))
def cpu_Write (c : ApiCpu) (csr : Int) (v : Int) : ApiCpu := (cpu_Write_t c csr v).m
abbrev cpu_Write_pre (c : ApiCpu) (csr : Int) (v : Int) : Prop := (cpu_Write_t c csr v).p
def cpu_Write_args (c : ApiCpu) (csr : Int) (v : Int) : List D := [.agg (ApiCpu.cells c), .int .i64 csr, .int .u32 v]
def cpu_Write_rows (c : ApiCpu) (csr : Int) (v : Int) : List Row := []
def cpu_Write_enc (X : ApiCpu) : D := .agg (ApiCpu.cells X)
def cpu_Write_out (X : ApiCpu) : List Row := []
def cpu_Write_dirs : List Dir := []
def cpu_Write_sig : List PT := [.agg ApiCpu.sig, .one (.int .i64), .one (.int .u32)]
def cpu_Write_rsig : List RT := []
def cpu_Write_val (args : List D) (rows : List Row) : ApiCpu := cpu_Write (ApiCpu.of (args.getD 0 .dead).cells) (argI args 1) (argI args 2)
def cpu_Write_prf (args : List D) (rows : List Row) : Prop := cpu_Write_pre (ApiCpu.of (args.getD 0 .dead).cells) (argI args 1) (argI args 2)
def cpu_Write_m : Model := mkP 178 [] true cpu_Write_sig cpu_Write_rsig cpu_Write_prf cpu_Write_val cpu_Write_enc cpu_Write_out
set_option maxRecDepth 100000 in
theorem cpu_Write_nf (c : ApiCpu) (csr : Int) (v : Int) (Q : D → List Row → Prop) : (fnVC tab [] (LL tab [] Tryz.f178.ntmps 0 [] 2) Tryz.f178 (cpu_Write_args c csr v) (cpu_Write_rows c csr v) fun d R => canonVC (cpu_Write_rows c csr v).length cpu_Write_dirs d R Q) = (cpu_Write_t c csr v).q (fun X => Q (cpu_Write_enc X) (cpu_Write_out X)) := by kernel_rfl
set_option maxRecDepth 100000 in
theorem cpu_Write_calls (c : ApiCpu) (csr : Int) (v : Int) (hw : cpu_Write_pre c csr v) : ACalls Tryz.prog 178 (cpu_Write_args c csr v) (cpu_Write_rows c csr v) (cpu_Write_enc (cpu_Write c csr v)) (cpu_Write_out (cpu_Write c csr v)) :=
  have hG : AllOK Tryz.prog [] := .nil
  FnOK.calls drawn tabOK hG Tryz.func178 (LL_ok drawn tabOK hG 2 (invs := [])) (FnOK.of (cpu_Write_nf c csr v _) (Tree.main' hw ⟨rfl, rfl⟩))
set_option maxRecDepth 100000 in
theorem cpu_Write_conv (args : List D) (rows : List Row) : convA cpu_Write_sig args 0 = cpu_Write_args (ApiCpu.of (args.getD 0 .dead).cells) (argI args 1) (argI args 2) := by kernel_rfl
set_option maxRecDepth 100000 in
theorem cpu_Write_convR (args : List D) (rows : List Row) : convRs cpu_Write_rsig rows 0 = cpu_Write_rows (ApiCpu.of (args.getD 0 .dead).cells) (argI args 1) (argI args 2) := by kernel_rfl
set_option maxRecDepth 100000 in
theorem cpu_Write_ff (X : ApiCpu) : (ffB (cpu_Write_enc X) && ffBR (cpu_Write_out X)) = true := by kernel_rfl
theorem cpu_Write_ok : ModelOK Tryz.prog cpu_Write_m := mkP_ok Tryz.call178 (fun args rows hp => by rw [cpu_Write_conv args rows, cpu_Write_convR args rows]; exact cpu_Write_calls (ApiCpu.of (args.getD 0 .dead).cells) (argI args 1) (argI args 2) hp) (fun _ X => cpu_Write_ff X)
def cpu_execute_t (c : ApiCpu) (i : ApiInst) : Tree (ApiCpu × ApiEffect) :=
.cn (Nat.blt (0 : Nat) (1 : Nat) && decide ((0 : Int) ≤ i.A ∧ i.A < (↑(16 : Nat) : Int))) (.cn (Nat.blt (0 : Nat) (1 : Nat) && decide ((0 : Int) ≤ i.B ∧ i.B < (↑(16 : Nat) : Int))) (.br (i.Op == (24 : Int)) (.an (cpu_set_pre c i.A (ishl IntKind.u32 (IntKind.wrap IntKind.u32 i.Imm) (16 : Int))) (.lv (cpu_set c i.A (ishl IntKind.u32 (IntKind.wrap IntKind.u32 i.Imm) (16 : Int))) fun (x0 : ApiCpu) => .lf ({ X := x0.X, Pc := IntKind.wrap IntKind.u32 (c.Pc + (4 : Int)), Csr := x0.Csr }, { Kind := (0 : Int), Port := (0 : Int), Reg := (0 : Int), Value := (0 : Int) }))) (.br (i.Op == (40 : Int)) (.lv (cpu_taken i.Op (List.getD (A16.l c.X) (Int.toNat i.A) (0 : Int)) (List.getD (A16.l c.X) (Int.toNat i.B) (0 : Int))) fun (x1 : Bool) => .br x1 (.lf ({ X := c.X, Pc := IntKind.wrap IntKind.u32 (c.Pc + IntKind.wrap IntKind.u32 ((4 : Int) * IntKind.wrap IntKind.u32 i.Imm)), Csr := c.Csr }, { Kind := (0 : Int), Port := (0 : Int), Reg := (0 : Int), Value := (0 : Int) })) (.lf ({ X := c.X, Pc := IntKind.wrap IntKind.u32 (c.Pc + (4 : Int)), Csr := c.Csr }, { Kind := (0 : Int), Port := (0 : Int), Reg := (0 : Int), Value := (0 : Int) }))) (.br (i.Op == (41 : Int)) (.lv (cpu_taken i.Op (List.getD (A16.l c.X) (Int.toNat i.A) (0 : Int)) (List.getD (A16.l c.X) (Int.toNat i.B) (0 : Int))) fun (x2 : Bool) => .br x2 (.lf ({ X := c.X, Pc := IntKind.wrap IntKind.u32 (c.Pc + IntKind.wrap IntKind.u32 ((4 : Int) * IntKind.wrap IntKind.u32 i.Imm)), Csr := c.Csr }, { Kind := (0 : Int), Port := (0 : Int), Reg := (0 : Int), Value := (0 : Int) })) (.lf ({ X := c.X, Pc := IntKind.wrap IntKind.u32 (c.Pc + (4 : Int)), Csr := c.Csr }, { Kind := (0 : Int), Port := (0 : Int), Reg := (0 : Int), Value := (0 : Int) }))) (.br (i.Op == (42 : Int)) (.lv (cpu_taken i.Op (List.getD (A16.l c.X) (Int.toNat i.A) (0 : Int)) (List.getD (A16.l c.X) (Int.toNat i.B) (0 : Int))) fun (x3 : Bool) => .br x3 (.lf ({ X := c.X, Pc := IntKind.wrap IntKind.u32 (c.Pc + IntKind.wrap IntKind.u32 ((4 : Int) * IntKind.wrap IntKind.u32 i.Imm)), Csr := c.Csr }, { Kind := (0 : Int), Port := (0 : Int), Reg := (0 : Int), Value := (0 : Int) })) (.lf ({ X := c.X, Pc := IntKind.wrap IntKind.u32 (c.Pc + (4 : Int)), Csr := c.Csr }, { Kind := (0 : Int), Port := (0 : Int), Reg := (0 : Int), Value := (0 : Int) }))) (.br (i.Op == (43 : Int)) (.lv (cpu_taken i.Op (List.getD (A16.l c.X) (Int.toNat i.A) (0 : Int)) (List.getD (A16.l c.X) (Int.toNat i.B) (0 : Int))) fun (x4 : Bool) => .br x4 (.lf ({ X := c.X, Pc := IntKind.wrap IntKind.u32 (c.Pc + IntKind.wrap IntKind.u32 ((4 : Int) * IntKind.wrap IntKind.u32 i.Imm)), Csr := c.Csr }, { Kind := (0 : Int), Port := (0 : Int), Reg := (0 : Int), Value := (0 : Int) })) (.lf ({ X := c.X, Pc := IntKind.wrap IntKind.u32 (c.Pc + (4 : Int)), Csr := c.Csr }, { Kind := (0 : Int), Port := (0 : Int), Reg := (0 : Int), Value := (0 : Int) }))) (.br (i.Op == (44 : Int)) (.lv (cpu_taken i.Op (List.getD (A16.l c.X) (Int.toNat i.A) (0 : Int)) (List.getD (A16.l c.X) (Int.toNat i.B) (0 : Int))) fun (x5 : Bool) => .br x5 (.lf ({ X := c.X, Pc := IntKind.wrap IntKind.u32 (c.Pc + IntKind.wrap IntKind.u32 ((4 : Int) * IntKind.wrap IntKind.u32 i.Imm)), Csr := c.Csr }, { Kind := (0 : Int), Port := (0 : Int), Reg := (0 : Int), Value := (0 : Int) })) (.lf ({ X := c.X, Pc := IntKind.wrap IntKind.u32 (c.Pc + (4 : Int)), Csr := c.Csr }, { Kind := (0 : Int), Port := (0 : Int), Reg := (0 : Int), Value := (0 : Int) }))) (.br (i.Op == (45 : Int)) (.lv (cpu_taken i.Op (List.getD (A16.l c.X) (Int.toNat i.A) (0 : Int)) (List.getD (A16.l c.X) (Int.toNat i.B) (0 : Int))) fun (x6 : Bool) => .br x6 (.lf ({ X := c.X, Pc := IntKind.wrap IntKind.u32 (c.Pc + IntKind.wrap IntKind.u32 ((4 : Int) * IntKind.wrap IntKind.u32 i.Imm)), Csr := c.Csr }, { Kind := (0 : Int), Port := (0 : Int), Reg := (0 : Int), Value := (0 : Int) })) (.lf ({ X := c.X, Pc := IntKind.wrap IntKind.u32 (c.Pc + (4 : Int)), Csr := c.Csr }, { Kind := (0 : Int), Port := (0 : Int), Reg := (0 : Int), Value := (0 : Int) }))) (.br (i.Op == (48 : Int)) (.an (cpu_set_pre c i.A (IntKind.wrap IntKind.u32 (c.Pc + (4 : Int)))) (.lv (cpu_set c i.A (IntKind.wrap IntKind.u32 (c.Pc + (4 : Int)))) fun (x7 : ApiCpu) => .lf ({ X := x7.X, Pc := IntKind.wrap IntKind.u32 (x7.Pc + IntKind.wrap IntKind.u32 ((4 : Int) * IntKind.wrap IntKind.u32 i.Imm)), Csr := x7.Csr }, { Kind := (0 : Int), Port := (0 : Int), Reg := (0 : Int), Value := (0 : Int) }))) (.br (i.Op == (49 : Int)) (.an (cpu_set_pre c i.A (IntKind.wrap IntKind.u32 (c.Pc + (4 : Int)))) (.lv (cpu_set c i.A (IntKind.wrap IntKind.u32 (c.Pc + (4 : Int)))) fun (x8 : ApiCpu) => .lf ({ X := x8.X, Pc := IntKind.wrap IntKind.u32 (List.getD (A16.l c.X) (Int.toNat i.B) (0 : Int) + IntKind.wrap IntKind.u32 i.Imm), Csr := x8.Csr }, { Kind := (0 : Int), Port := (0 : Int), Reg := (0 : Int), Value := (0 : Int) }))) (.br (i.Op == (56 : Int)) (.lv (cpu_Trap c (7 : Int) (0 : Int)) fun (x9 : ApiCpu) => .lf (x9, { Kind := (0 : Int), Port := (0 : Int), Reg := (0 : Int), Value := (0 : Int) })) (.br (i.Op == (57 : Int)) (.lv (cpu_Return c) fun (x10 : ApiCpu) => .lf (x10, { Kind := (0 : Int), Port := (0 : Int), Reg := (0 : Int), Value := (0 : Int) })) (.br (i.Op == (58 : Int)) (.cn (Nat.blt (0 : Nat) (1 : Nat) && decide ((0 : Int) ≤ i.Imm ∧ i.Imm < (↑(8 : Nat) : Int))) (.an (cpu_set_pre c i.A (List.getD (A8.l c.Csr) (Int.toNat i.Imm) (0 : Int))) (.lv (cpu_set c i.A (List.getD (A8.l c.Csr) (Int.toNat i.Imm) (0 : Int))) fun (x11 : ApiCpu) => .lf ({ X := x11.X, Pc := IntKind.wrap IntKind.u32 (c.Pc + (4 : Int)), Csr := x11.Csr }, { Kind := (0 : Int), Port := (0 : Int), Reg := (0 : Int), Value := (0 : Int) })))) (.br (i.Op == (59 : Int)) (.an (cpu_Write_pre c (IntKind.wrap IntKind.i64 i.Imm) (List.getD (A16.l c.X) (Int.toNat i.A) (0 : Int))) (.lv (cpu_Write c (IntKind.wrap IntKind.i64 i.Imm) (List.getD (A16.l c.X) (Int.toNat i.A) (0 : Int))) fun (x12 : ApiCpu) => .lf ({ X := x12.X, Pc := IntKind.wrap IntKind.u32 (c.Pc + (4 : Int)), Csr := x12.Csr }, { Kind := (0 : Int), Port := (0 : Int), Reg := (0 : Int), Value := (0 : Int) }))) (.br (i.Op == (60 : Int)) (.lf ({ X := c.X, Pc := IntKind.wrap IntKind.u32 (c.Pc + (4 : Int)), Csr := c.Csr }, { Kind := (1 : Int), Port := IntKind.wrap IntKind.i64 i.Imm, Reg := i.A, Value := (0 : Int) })) (.br (i.Op == (61 : Int)) (.lf ({ X := c.X, Pc := IntKind.wrap IntKind.u32 (c.Pc + (4 : Int)), Csr := c.Csr }, { Kind := (2 : Int), Port := IntKind.wrap IntKind.i64 i.Imm, Reg := (0 : Int), Value := List.getD (A16.l c.X) (Int.toNat i.A) (0 : Int) })) (.br (i.Op == (62 : Int)) (.lf ({ X := c.X, Pc := IntKind.wrap IntKind.u32 (c.Pc + (4 : Int)), Csr := c.Csr }, { Kind := (3 : Int), Port := (0 : Int), Reg := (0 : Int), Value := (0 : Int) })) (.br (i.Op == (63 : Int)) (.lf ({ X := c.X, Pc := IntKind.wrap IntKind.u32 (c.Pc + (4 : Int)), Csr := c.Csr }, { Kind := (5 : Int), Port := (0 : Int), Reg := (0 : Int), Value := (0 : Int) })) (.br (i.Op == (64 : Int)) (.lf ({ X := c.X, Pc := IntKind.wrap IntKind.u32 (c.Pc + (4 : Int)), Csr := c.Csr }, { Kind := (4 : Int), Port := (0 : Int), Reg := (0 : Int), Value := (0 : Int) })) (.cn (Nat.blt (0 : Nat) (1 : Nat) && decide ((0 : Int) ≤ i.C ∧ i.C < (↑(16 : Nat) : Int))) (.br (decide (i.Op ≥ (16 : Int))) (.an (cpu_Alu_pre i.Op (List.getD (A16.l c.X) (Int.toNat i.B) (0 : Int)) (IntKind.wrap IntKind.u32 i.Imm)) (.lv (cpu_Alu i.Op (List.getD (A16.l c.X) (Int.toNat i.B) (0 : Int)) (IntKind.wrap IntKind.u32 i.Imm)) fun (x13 : Int × Bool) => .an (cpu_set_pre c i.A x13.fst) (.lv (cpu_set c i.A x13.fst) fun (x14 : ApiCpu) => .lf ({ X := x14.X, Pc := IntKind.wrap IntKind.u32 (c.Pc + (4 : Int)), Csr := x14.Csr }, { Kind := (0 : Int), Port := (0 : Int), Reg := (0 : Int), Value := (0 : Int) })))) (.an (cpu_Alu_pre i.Op (List.getD (A16.l c.X) (Int.toNat i.B) (0 : Int)) (List.getD (A16.l c.X) (Int.toNat i.C) (0 : Int))) (.lv (cpu_Alu i.Op (List.getD (A16.l c.X) (Int.toNat i.B) (0 : Int)) (List.getD (A16.l c.X) (Int.toNat i.C) (0 : Int))) fun (x15 : Int × Bool) => .an (cpu_set_pre c i.A x15.fst) (.lv (cpu_set c i.A x15.fst) fun (x16 : ApiCpu) => .lf ({ X := x16.X, Pc := IntKind.wrap IntKind.u32 (c.Pc + (4 : Int)), Csr := x16.Csr }, { Kind := (0 : Int), Port := (0 : Int), Reg := (0 : Int), Value := (0 : Int) })))))))))))))))))))))))))
def cpu_execute (c : ApiCpu) (i : ApiInst) : (ApiCpu × ApiEffect) := (cpu_execute_t c i).m
abbrev cpu_execute_pre (c : ApiCpu) (i : ApiInst) : Prop := (cpu_execute_t c i).p
def cpu_execute_args (c : ApiCpu) (i : ApiInst) : List D := [.agg (ApiCpu.cells c), .agg (ApiInst.cells i)]
def cpu_execute_rows (c : ApiCpu) (i : ApiInst) : List Row := []
def cpu_execute_enc (X : (ApiCpu × ApiEffect)) : D := .tup [.agg (ApiCpu.cells (X.1)), .agg (ApiEffect.cells (X.2))]
def cpu_execute_out (X : (ApiCpu × ApiEffect)) : List Row := []
def cpu_execute_dirs : List Dir := []
def cpu_execute_sig : List PT := [.agg ApiCpu.sig, .agg ApiInst.sig]
def cpu_execute_rsig : List RT := []
def cpu_execute_val (args : List D) (rows : List Row) : (ApiCpu × ApiEffect) := cpu_execute (ApiCpu.of (args.getD 0 .dead).cells) (ApiInst.of (args.getD 1 .dead).cells)
def cpu_execute_prf (args : List D) (rows : List Row) : Prop := cpu_execute_pre (ApiCpu.of (args.getD 0 .dead).cells) (ApiInst.of (args.getD 1 .dead).cells)
def cpu_execute_m : Model := mkP 126 [] true cpu_execute_sig cpu_execute_rsig cpu_execute_prf cpu_execute_val cpu_execute_enc cpu_execute_out
set_option maxRecDepth 100000 in
theorem cpu_execute_nf (c : ApiCpu) (i : ApiInst) (Q : D → List Row → Prop) : (fnVC tab [cpu_set_m, cpu_taken_m, cpu_Trap_m, cpu_Return_m, cpu_Write_m, cpu_Alu_m] (LL tab [cpu_set_m, cpu_taken_m, cpu_Trap_m, cpu_Return_m, cpu_Write_m, cpu_Alu_m] Tryz.f126.ntmps 0 [] 2) Tryz.f126 (cpu_execute_args c i) (cpu_execute_rows c i) fun d R => canonVC (cpu_execute_rows c i).length cpu_execute_dirs d R Q) = (cpu_execute_t c i).q (fun X => Q (cpu_execute_enc X) (cpu_execute_out X)) := by kernel_rfl
set_option maxRecDepth 100000 in
theorem cpu_execute_calls (c : ApiCpu) (i : ApiInst) (hw : cpu_execute_pre c i) : ACalls Tryz.prog 126 (cpu_execute_args c i) (cpu_execute_rows c i) (cpu_execute_enc (cpu_execute c i)) (cpu_execute_out (cpu_execute c i)) :=
  have hG : AllOK Tryz.prog [cpu_set_m, cpu_taken_m, cpu_Trap_m, cpu_Return_m, cpu_Write_m, cpu_Alu_m] := .cons cpu_set_ok (.cons cpu_taken_ok (.cons cpu_Trap_ok (.cons cpu_Return_ok (.cons cpu_Write_ok (.cons cpu_Alu_ok (.nil))))))
  FnOK.calls drawn tabOK hG Tryz.func126 (LL_ok drawn tabOK hG 2 (invs := [])) (FnOK.of (cpu_execute_nf c i _) (Tree.main' hw ⟨rfl, rfl⟩))
set_option maxRecDepth 100000 in
theorem cpu_execute_conv (args : List D) (rows : List Row) : convA cpu_execute_sig args 0 = cpu_execute_args (ApiCpu.of (args.getD 0 .dead).cells) (ApiInst.of (args.getD 1 .dead).cells) := by kernel_rfl
set_option maxRecDepth 100000 in
theorem cpu_execute_convR (args : List D) (rows : List Row) : convRs cpu_execute_rsig rows 0 = cpu_execute_rows (ApiCpu.of (args.getD 0 .dead).cells) (ApiInst.of (args.getD 1 .dead).cells) := by kernel_rfl
set_option maxRecDepth 100000 in
theorem cpu_execute_ff (X : (ApiCpu × ApiEffect)) : (ffB (cpu_execute_enc X) && ffBR (cpu_execute_out X)) = true := by kernel_rfl
theorem cpu_execute_ok : ModelOK Tryz.prog cpu_execute_m := mkP_ok Tryz.call126 (fun args rows hp => by rw [cpu_execute_conv args rows, cpu_execute_convR args rows]; exact cpu_execute_calls (ApiCpu.of (args.getD 0 .dead).cells) (ApiInst.of (args.getD 1 .dead).cells) hp) (fun _ X => cpu_execute_ff X)
def cpu_Exec_t (c : ApiCpu) (m : (List Int)) : Tree (ApiCpu × (List Int) × ApiEffect) :=
.an (cpu_Fetch_pre c m) (.lv (cpu_Fetch c m) fun (x0 : Int × List Int × Int) => .br (x0.snd.snd != (0 : Int)) (.lv (cpu_Trap c x0.snd.snd c.Pc) fun (x1 : ApiCpu) => .lf (x1, x0.snd.fst, { Kind := (0 : Int), Port := (0 : Int), Reg := (0 : Int), Value := (0 : Int) })) (.an (isa_Decode_pre x0.fst) (.lv (isa_Decode x0.fst) fun (x2 : ApiInst × Bool) => .br (!x2.snd) (.lv (cpu_Trap c (1 : Int) x0.fst) fun (x3 : ApiCpu) => .lf (x3, x0.snd.fst, { Kind := (0 : Int), Port := (0 : Int), Reg := (0 : Int), Value := (0 : Int) })) (.lv (isa_Privileged x2.fst.Op) fun (x4 : Bool) => .br x4 (.lv (cpu_kernel c) fun (x5 : Bool) => .br (!x5) (.lv (cpu_Trap c (2 : Int) x0.fst) fun (x6 : ApiCpu) => .lf (x6, x0.snd.fst, { Kind := (0 : Int), Port := (0 : Int), Reg := (0 : Int), Value := (0 : Int) })) (.br (x2.fst.Op == (32 : Int)) (.an (cpu_load_pre c x0.snd.fst x2.fst) (.lv (cpu_load c x0.snd.fst x2.fst) fun (x7 : ApiCpu × List Int) => .lf (x7.fst, x7.snd, { Kind := (0 : Int), Port := (0 : Int), Reg := (0 : Int), Value := (0 : Int) }))) (.br (x2.fst.Op == (33 : Int)) (.an (cpu_load_pre c x0.snd.fst x2.fst) (.lv (cpu_load c x0.snd.fst x2.fst) fun (x8 : ApiCpu × List Int) => .lf (x8.fst, x8.snd, { Kind := (0 : Int), Port := (0 : Int), Reg := (0 : Int), Value := (0 : Int) }))) (.br (x2.fst.Op == (34 : Int)) (.an (cpu_load_pre c x0.snd.fst x2.fst) (.lv (cpu_load c x0.snd.fst x2.fst) fun (x9 : ApiCpu × List Int) => .lf (x9.fst, x9.snd, { Kind := (0 : Int), Port := (0 : Int), Reg := (0 : Int), Value := (0 : Int) }))) (.br (x2.fst.Op == (35 : Int)) (.an (cpu_store_pre c x0.snd.fst x2.fst) (.lv (cpu_store c x0.snd.fst x2.fst) fun (x10 : ApiCpu × List Int) => .lf (x10.fst, x10.snd, { Kind := (0 : Int), Port := (0 : Int), Reg := (0 : Int), Value := (0 : Int) }))) (.br (x2.fst.Op == (36 : Int)) (.an (cpu_store_pre c x0.snd.fst x2.fst) (.lv (cpu_store c x0.snd.fst x2.fst) fun (x11 : ApiCpu × List Int) => .lf (x11.fst, x11.snd, { Kind := (0 : Int), Port := (0 : Int), Reg := (0 : Int), Value := (0 : Int) }))) (.an (cpu_execute_pre c x2.fst) (.lv (cpu_execute c x2.fst) fun (x12 : ApiCpu × ApiEffect) => .lf (x12.fst, x0.snd.fst, x12.snd))))))))) (.br (x2.fst.Op == (32 : Int)) (.an (cpu_load_pre c x0.snd.fst x2.fst) (.lv (cpu_load c x0.snd.fst x2.fst) fun (x13 : ApiCpu × List Int) => .lf (x13.fst, x13.snd, { Kind := (0 : Int), Port := (0 : Int), Reg := (0 : Int), Value := (0 : Int) }))) (.br (x2.fst.Op == (33 : Int)) (.an (cpu_load_pre c x0.snd.fst x2.fst) (.lv (cpu_load c x0.snd.fst x2.fst) fun (x14 : ApiCpu × List Int) => .lf (x14.fst, x14.snd, { Kind := (0 : Int), Port := (0 : Int), Reg := (0 : Int), Value := (0 : Int) }))) (.br (x2.fst.Op == (34 : Int)) (.an (cpu_load_pre c x0.snd.fst x2.fst) (.lv (cpu_load c x0.snd.fst x2.fst) fun (x15 : ApiCpu × List Int) => .lf (x15.fst, x15.snd, { Kind := (0 : Int), Port := (0 : Int), Reg := (0 : Int), Value := (0 : Int) }))) (.br (x2.fst.Op == (35 : Int)) (.an (cpu_store_pre c x0.snd.fst x2.fst) (.lv (cpu_store c x0.snd.fst x2.fst) fun (x16 : ApiCpu × List Int) => .lf (x16.fst, x16.snd, { Kind := (0 : Int), Port := (0 : Int), Reg := (0 : Int), Value := (0 : Int) }))) (.br (x2.fst.Op == (36 : Int)) (.an (cpu_store_pre c x0.snd.fst x2.fst) (.lv (cpu_store c x0.snd.fst x2.fst) fun (x17 : ApiCpu × List Int) => .lf (x17.fst, x17.snd, { Kind := (0 : Int), Port := (0 : Int), Reg := (0 : Int), Value := (0 : Int) }))) (.an (cpu_execute_pre c x2.fst) (.lv (cpu_execute c x2.fst) fun (x18 : ApiCpu × ApiEffect) => .lf (x18.fst, x0.snd.fst, x18.snd))))))))))))
def cpu_Exec (c : ApiCpu) (m : (List Int)) : (ApiCpu × (List Int) × ApiEffect) := (cpu_Exec_t c m).m
abbrev cpu_Exec_pre (c : ApiCpu) (m : (List Int)) : Prop := (cpu_Exec_t c m).p
def cpu_Exec_args (c : ApiCpu) (m : (List Int)) : List D := [.agg (ApiCpu.cells c), .sl 1 (.ints .u32 m) false]
def cpu_Exec_rows (c : ApiCpu) (m : (List Int)) : List Row := []
def cpu_Exec_enc (X : (ApiCpu × (List Int) × ApiEffect)) : D := .tup [.agg (ApiCpu.cells (X.1)), .all 0, .agg (ApiEffect.cells (X.2.2))]
def cpu_Exec_out (X : (ApiCpu × (List Int) × ApiEffect)) : List Row := [⟨false, 27, 1, .ints .u32 (X.2.1)⟩]
def cpu_Exec_dirs : List Dir := [.row 27 1 (.ints .u32)]
def cpu_Exec_sig : List PT := [.agg ApiCpu.sig, .one (.ints .u32)]
def cpu_Exec_rsig : List RT := []
def cpu_Exec_val (args : List D) (rows : List Row) : (ApiCpu × (List Int) × ApiEffect) := cpu_Exec (ApiCpu.of (args.getD 0 .dead).cells) (argL .u32 args 1)
def cpu_Exec_prf (args : List D) (rows : List Row) : Prop := cpu_Exec_pre (ApiCpu.of (args.getD 0 .dead).cells) (argL .u32 args 1)
def cpu_Exec_m : Model := mkP 62 [] true cpu_Exec_sig cpu_Exec_rsig cpu_Exec_prf cpu_Exec_val cpu_Exec_enc cpu_Exec_out
set_option maxRecDepth 100000 in
theorem cpu_Exec_nf (c : ApiCpu) (m : (List Int)) (Q : D → List Row → Prop) : (fnVC tab [cpu_Fetch_m, cpu_Trap_m, isa_Decode_m, isa_Privileged_m, cpu_kernel_m, cpu_load_m, cpu_store_m, cpu_execute_m] (LL tab [cpu_Fetch_m, cpu_Trap_m, isa_Decode_m, isa_Privileged_m, cpu_kernel_m, cpu_load_m, cpu_store_m, cpu_execute_m] Tryz.f62.ntmps 0 [] 2) Tryz.f62 (cpu_Exec_args c m) (cpu_Exec_rows c m) fun d R => canonVC (cpu_Exec_rows c m).length cpu_Exec_dirs d R Q) = (cpu_Exec_t c m).q (fun X => Q (cpu_Exec_enc X) (cpu_Exec_out X)) := by kernel_rfl
set_option maxRecDepth 100000 in
theorem cpu_Exec_calls (c : ApiCpu) (m : (List Int)) (hw : cpu_Exec_pre c m) : ACalls Tryz.prog 62 (cpu_Exec_args c m) (cpu_Exec_rows c m) (cpu_Exec_enc (cpu_Exec c m)) (cpu_Exec_out (cpu_Exec c m)) :=
  have hG : AllOK Tryz.prog [cpu_Fetch_m, cpu_Trap_m, isa_Decode_m, isa_Privileged_m, cpu_kernel_m, cpu_load_m, cpu_store_m, cpu_execute_m] := .cons cpu_Fetch_ok (.cons cpu_Trap_ok (.cons isa_Decode_ok (.cons isa_Privileged_ok (.cons cpu_kernel_ok (.cons cpu_load_ok (.cons cpu_store_ok (.cons cpu_execute_ok (.nil))))))))
  FnOK.calls drawn tabOK hG Tryz.func62 (LL_ok drawn tabOK hG 2 (invs := [])) (FnOK.of (cpu_Exec_nf c m _) (Tree.main' hw ⟨rfl, rfl⟩))
set_option maxRecDepth 100000 in
theorem cpu_Exec_conv (args : List D) (rows : List Row) : convA cpu_Exec_sig args 0 = cpu_Exec_args (ApiCpu.of (args.getD 0 .dead).cells) (argL .u32 args 1) := by kernel_rfl
set_option maxRecDepth 100000 in
theorem cpu_Exec_convR (args : List D) (rows : List Row) : convRs cpu_Exec_rsig rows 0 = cpu_Exec_rows (ApiCpu.of (args.getD 0 .dead).cells) (argL .u32 args 1) := by kernel_rfl
set_option maxRecDepth 100000 in
theorem cpu_Exec_ff (X : (ApiCpu × (List Int) × ApiEffect)) : (ffB (cpu_Exec_enc X) && ffBR (cpu_Exec_out X)) = true := by kernel_rfl
theorem cpu_Exec_ok : ModelOK Tryz.prog cpu_Exec_m := mkP_ok Tryz.call62 (fun args rows hp => by rw [cpu_Exec_conv args rows, cpu_Exec_convR args rows]; exact cpu_Exec_calls (ApiCpu.of (args.getD 0 .dead).cells) (argL .u32 args 1) hp) (fun _ X => cpu_Exec_ff X)
end
end Go.Proofs.YtdkiadhigcfmkaaGreat

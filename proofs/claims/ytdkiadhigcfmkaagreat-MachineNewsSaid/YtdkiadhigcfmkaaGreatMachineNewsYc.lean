/-
  Functions of the program: models, and that its calls come to them (by a program: gen3.py).
-/
import Derived.Test.YtdkiadhigcfmkaaGreatMachineNewsBase
import Derived.Test.YtdkiadhigcfmkaaGreatMachineNewsYa
namespace Go.Proofs.YtdkiadhigcfmkaaGreat
open Go Go.GD
set_option linter.unusedVariables false
set_option linter.unusedSimpArgs false
noncomputable section
def tblYc0 : List UInt8 := [(0 : UInt8), (1 : UInt8), (2 : UInt8), (2 : UInt8), (3 : UInt8), (3 : UInt8), (3 : UInt8), (3 : UInt8), (4 : UInt8), (4 : UInt8), (4 : UInt8), (4 : UInt8), (4 : UInt8), (4 : UInt8), (4 : UInt8), (4 : UInt8), (5 : UInt8), (5 : UInt8), (5 : UInt8), (5 : UInt8), (5 : UInt8), (5 : UInt8), (5 : UInt8), (5 : UInt8), (5 : UInt8), (5 : UInt8), (5 : UInt8), (5 : UInt8), (5 : UInt8), (5 : UInt8), (5 : UInt8), (5 : UInt8), (6 : UInt8), (6 : UInt8), (6 : UInt8), (6 : UInt8), (6 : UInt8), (6 : UInt8), (6 : UInt8), (6 : UInt8), (6 : UInt8), (6 : UInt8), (6 : UInt8), (6 : UInt8), (6 : UInt8), (6 : UInt8), (6 : UInt8), (6 : UInt8), (6 : UInt8), (6 : UInt8), (6 : UInt8), (6 : UInt8), (6 : UInt8), (6 : UInt8), (6 : UInt8), (6 : UInt8), (6 : UInt8), (6 : UInt8), (6 : UInt8), (6 : UInt8), (6 : UInt8), (6 : UInt8), (6 : UInt8), (6 : UInt8)]
def tblYc1 : List UInt8 := [(7 : UInt8), (7 : UInt8), (7 : UInt8), (7 : UInt8), (7 : UInt8), (7 : UInt8), (7 : UInt8), (7 : UInt8), (7 : UInt8), (7 : UInt8), (7 : UInt8), (7 : UInt8), (7 : UInt8), (7 : UInt8), (7 : UInt8), (7 : UInt8), (7 : UInt8), (7 : UInt8), (7 : UInt8), (7 : UInt8), (7 : UInt8), (7 : UInt8), (7 : UInt8), (7 : UInt8), (7 : UInt8), (7 : UInt8), (7 : UInt8), (7 : UInt8), (7 : UInt8), (7 : UInt8), (7 : UInt8), (7 : UInt8), (7 : UInt8), (7 : UInt8), (7 : UInt8), (7 : UInt8), (7 : UInt8), (7 : UInt8), (7 : UInt8), (7 : UInt8), (7 : UInt8), (7 : UInt8), (7 : UInt8), (7 : UInt8), (7 : UInt8), (7 : UInt8), (7 : UInt8), (7 : UInt8), (7 : UInt8), (7 : UInt8), (7 : UInt8), (7 : UInt8), (7 : UInt8), (7 : UInt8), (7 : UInt8), (7 : UInt8), (7 : UInt8), (7 : UInt8), (7 : UInt8), (7 : UInt8), (7 : UInt8), (7 : UInt8), (7 : UInt8), (7 : UInt8)]
def tblYc2 : List UInt8 := [(8 : UInt8), (8 : UInt8), (8 : UInt8), (8 : UInt8), (8 : UInt8), (8 : UInt8), (8 : UInt8), (8 : UInt8), (8 : UInt8), (8 : UInt8), (8 : UInt8), (8 : UInt8), (8 : UInt8), (8 : UInt8), (8 : UInt8), (8 : UInt8), (8 : UInt8), (8 : UInt8), (8 : UInt8), (8 : UInt8), (8 : UInt8), (8 : UInt8), (8 : UInt8), (8 : UInt8), (8 : UInt8), (8 : UInt8), (8 : UInt8), (8 : UInt8), (8 : UInt8), (8 : UInt8), (8 : UInt8), (8 : UInt8), (8 : UInt8), (8 : UInt8), (8 : UInt8), (8 : UInt8), (8 : UInt8), (8 : UInt8), (8 : UInt8), (8 : UInt8), (8 : UInt8), (8 : UInt8), (8 : UInt8), (8 : UInt8), (8 : UInt8), (8 : UInt8), (8 : UInt8), (8 : UInt8), (8 : UInt8), (8 : UInt8), (8 : UInt8), (8 : UInt8), (8 : UInt8), (8 : UInt8), (8 : UInt8), (8 : UInt8), (8 : UInt8), (8 : UInt8), (8 : UInt8), (8 : UInt8), (8 : UInt8), (8 : UInt8), (8 : UInt8), (8 : UInt8)]
def tblYc3 : List UInt8 := [(1 : UInt8), (2 : UInt8), (2 : UInt8), (3 : UInt8), (3 : UInt8), (3 : UInt8), (3 : UInt8), (4 : UInt8), (4 : UInt8), (4 : UInt8), (4 : UInt8), (4 : UInt8), (4 : UInt8), (4 : UInt8), (4 : UInt8), (5 : UInt8), (5 : UInt8), (5 : UInt8), (5 : UInt8), (5 : UInt8), (5 : UInt8), (5 : UInt8), (5 : UInt8), (5 : UInt8), (5 : UInt8), (5 : UInt8), (5 : UInt8), (5 : UInt8), (5 : UInt8), (5 : UInt8), (5 : UInt8), (6 : UInt8), (6 : UInt8), (6 : UInt8), (6 : UInt8), (6 : UInt8), (6 : UInt8), (6 : UInt8), (6 : UInt8), (6 : UInt8), (6 : UInt8), (6 : UInt8), (6 : UInt8), (6 : UInt8), (6 : UInt8), (6 : UInt8), (6 : UInt8), (6 : UInt8), (6 : UInt8), (6 : UInt8), (6 : UInt8), (6 : UInt8), (6 : UInt8), (6 : UInt8), (6 : UInt8), (6 : UInt8), (6 : UInt8), (6 : UInt8), (6 : UInt8), (6 : UInt8), (6 : UInt8), (6 : UInt8), (6 : UInt8)]
def tblYc4 : List UInt8 := [(0 : UInt8), (1 : UInt8), (1 : UInt8), (2 : UInt8), (1 : UInt8), (2 : UInt8), (2 : UInt8), (3 : UInt8), (1 : UInt8), (2 : UInt8), (2 : UInt8), (3 : UInt8), (2 : UInt8), (3 : UInt8), (3 : UInt8), (4 : UInt8), (1 : UInt8), (2 : UInt8), (2 : UInt8), (3 : UInt8), (2 : UInt8), (3 : UInt8), (3 : UInt8), (4 : UInt8), (2 : UInt8), (3 : UInt8), (3 : UInt8), (4 : UInt8), (3 : UInt8), (4 : UInt8), (4 : UInt8), (5 : UInt8), (1 : UInt8), (2 : UInt8), (2 : UInt8), (3 : UInt8), (2 : UInt8), (3 : UInt8), (3 : UInt8), (4 : UInt8), (2 : UInt8), (3 : UInt8), (3 : UInt8), (4 : UInt8), (3 : UInt8), (4 : UInt8), (4 : UInt8), (5 : UInt8), (2 : UInt8), (3 : UInt8), (3 : UInt8), (4 : UInt8), (3 : UInt8), (4 : UInt8), (4 : UInt8), (5 : UInt8), (3 : UInt8), (4 : UInt8), (4 : UInt8), (5 : UInt8), (4 : UInt8), (5 : UInt8), (5 : UInt8), (6 : UInt8)]
def tblYc5 : List UInt8 := [(1 : UInt8), (2 : UInt8), (2 : UInt8), (3 : UInt8), (2 : UInt8), (3 : UInt8), (3 : UInt8), (4 : UInt8), (2 : UInt8), (3 : UInt8), (3 : UInt8), (4 : UInt8), (3 : UInt8), (4 : UInt8), (4 : UInt8), (5 : UInt8), (2 : UInt8), (3 : UInt8), (3 : UInt8), (4 : UInt8), (3 : UInt8), (4 : UInt8), (4 : UInt8), (5 : UInt8), (3 : UInt8), (4 : UInt8), (4 : UInt8), (5 : UInt8), (4 : UInt8), (5 : UInt8), (5 : UInt8), (6 : UInt8), (2 : UInt8), (3 : UInt8), (3 : UInt8), (4 : UInt8), (3 : UInt8), (4 : UInt8), (4 : UInt8), (5 : UInt8), (3 : UInt8), (4 : UInt8), (4 : UInt8), (5 : UInt8), (4 : UInt8), (5 : UInt8), (5 : UInt8), (6 : UInt8), (3 : UInt8), (4 : UInt8), (4 : UInt8), (5 : UInt8), (4 : UInt8), (5 : UInt8), (5 : UInt8), (6 : UInt8), (4 : UInt8), (5 : UInt8), (5 : UInt8), (6 : UInt8), (5 : UInt8), (6 : UInt8), (6 : UInt8), (7 : UInt8)]
def tblYc6 : List UInt8 := [(2 : UInt8), (3 : UInt8), (3 : UInt8), (4 : UInt8), (3 : UInt8), (4 : UInt8), (4 : UInt8), (5 : UInt8), (3 : UInt8), (4 : UInt8), (4 : UInt8), (5 : UInt8), (4 : UInt8), (5 : UInt8), (5 : UInt8), (6 : UInt8), (3 : UInt8), (4 : UInt8), (4 : UInt8), (5 : UInt8), (4 : UInt8), (5 : UInt8), (5 : UInt8), (6 : UInt8), (4 : UInt8), (5 : UInt8), (5 : UInt8), (6 : UInt8), (5 : UInt8), (6 : UInt8), (6 : UInt8), (7 : UInt8), (3 : UInt8), (4 : UInt8), (4 : UInt8), (5 : UInt8), (4 : UInt8), (5 : UInt8), (5 : UInt8), (6 : UInt8), (4 : UInt8), (5 : UInt8), (5 : UInt8), (6 : UInt8), (5 : UInt8), (6 : UInt8), (6 : UInt8), (7 : UInt8), (4 : UInt8), (5 : UInt8), (5 : UInt8), (6 : UInt8), (5 : UInt8), (6 : UInt8), (6 : UInt8), (7 : UInt8), (5 : UInt8), (6 : UInt8), (6 : UInt8), (7 : UInt8), (6 : UInt8), (7 : UInt8), (7 : UInt8), (8 : UInt8)]
def tblYc7 : List UInt8 := [(1 : UInt8), (1 : UInt8), (2 : UInt8), (1 : UInt8), (2 : UInt8), (2 : UInt8), (3 : UInt8), (1 : UInt8), (2 : UInt8), (2 : UInt8), (3 : UInt8), (2 : UInt8), (3 : UInt8), (3 : UInt8), (4 : UInt8), (1 : UInt8), (2 : UInt8), (2 : UInt8), (3 : UInt8), (2 : UInt8), (3 : UInt8), (3 : UInt8), (4 : UInt8), (2 : UInt8), (3 : UInt8), (3 : UInt8), (4 : UInt8), (3 : UInt8), (4 : UInt8), (4 : UInt8), (5 : UInt8), (1 : UInt8), (2 : UInt8), (2 : UInt8), (3 : UInt8), (2 : UInt8), (3 : UInt8), (3 : UInt8), (4 : UInt8), (2 : UInt8), (3 : UInt8), (3 : UInt8), (4 : UInt8), (3 : UInt8), (4 : UInt8), (4 : UInt8), (5 : UInt8), (2 : UInt8), (3 : UInt8), (3 : UInt8), (4 : UInt8), (3 : UInt8), (4 : UInt8), (4 : UInt8), (5 : UInt8), (3 : UInt8), (4 : UInt8), (4 : UInt8), (5 : UInt8), (4 : UInt8), (5 : UInt8), (5 : UInt8), (6 : UInt8)]
def console_May_t (c : ApiConsole) : Tree Bool :=
.lf (decide ((↑(List.length c.Keys) : Int) ≤ (16 : Int)))
def console_May (c : ApiConsole) : Bool := (console_May_t c).m
theorem console_May_tot (c : ApiConsole) : (console_May_t c).p := wL
def console_May_args (c : ApiConsole) : List D := [.agg (ApiConsole.cells c)]
def console_May_rows (c : ApiConsole) : List Row := []
def console_May_enc (X : Bool) : D := .bool X
def console_May_out (X : Bool) : List Row := []
def console_May_dirs : List Dir := []
def console_May_sig : List PT := [.agg ApiConsole.sig]
def console_May_rsig : List RT := []
def console_May_val (args : List D) (rows : List Row) : Bool := console_May (ApiConsole.of (args.getD 0 .dead).cells)
def console_May_m : Model := mkR 114 [] true console_May_sig console_May_rsig console_May_val console_May_enc console_May_out
set_option maxRecDepth 100000 in
theorem console_May_nf (c : ApiConsole) (Q : D → List Row → Prop) : (fnVC tab [] (LL tab [] Tryz.f114.ntmps 0 [] 2) Tryz.f114 (console_May_args c) (console_May_rows c) fun d R => canonVC (console_May_rows c).length console_May_dirs d R Q) = (console_May_t c).q (fun X => Q (console_May_enc X) (console_May_out X)) := by kernel_rfl
set_option maxRecDepth 100000 in
theorem console_May_calls (c : ApiConsole) : ACalls Tryz.prog 114 (console_May_args c) (console_May_rows c) (console_May_enc (console_May c)) (console_May_out (console_May c)) :=
  have hG : AllOK Tryz.prog [] := .nil
  FnOK.calls drawn tabOK hG Tryz.func114 (LL_ok drawn tabOK hG 2 (invs := [])) (FnOK.of (console_May_nf c _) (Tree.main' (console_May_tot c) ⟨rfl, rfl⟩))
set_option maxRecDepth 100000 in
theorem console_May_conv (args : List D) (rows : List Row) : convA console_May_sig args 0 = console_May_args (ApiConsole.of (args.getD 0 .dead).cells) := by kernel_rfl
set_option maxRecDepth 100000 in
theorem console_May_convR (args : List D) (rows : List Row) : convRs console_May_rsig rows 0 = console_May_rows (ApiConsole.of (args.getD 0 .dead).cells) := by kernel_rfl
set_option maxRecDepth 100000 in
theorem console_May_ff (X : Bool) : (ffB (console_May_enc X) && ffBR (console_May_out X)) = true := by kernel_rfl
theorem console_May_ok : ModelOK Tryz.prog console_May_m := mkR_ok Tryz.call114 (fun args rows => by rw [console_May_conv args rows, console_May_convR args rows]; exact console_May_calls (ApiConsole.of (args.getD 0 .dead).cells)) (fun _ X => console_May_ff X)
def timer_May_t (t : ApiTimer) : Tree Bool :=
.br t.Armed (.br (!t.Fired) (.lf (t.Deadline != (0 : Int))) (.lf false)) (.br t.Fired (.lf true) (.lf (t.Deadline == (0 : Int))))
def timer_May (t : ApiTimer) : Bool := (timer_May_t t).m
theorem timer_May_tot (t : ApiTimer) : (timer_May_t t).p := (wB (wB wL wL) (wB wL wL))
def timer_May_args (t : ApiTimer) : List D := [.agg (ApiTimer.cells t)]
def timer_May_rows (t : ApiTimer) : List Row := []
def timer_May_enc (X : Bool) : D := .bool X
def timer_May_out (X : Bool) : List Row := []
def timer_May_dirs : List Dir := []
def timer_May_sig : List PT := [.agg ApiTimer.sig]
def timer_May_rsig : List RT := []
def timer_May_val (args : List D) (rows : List Row) : Bool := timer_May (ApiTimer.of (args.getD 0 .dead).cells)
def timer_May_m : Model := mkR 115 [] true timer_May_sig timer_May_rsig timer_May_val timer_May_enc timer_May_out
set_option maxRecDepth 100000 in
theorem timer_May_nf (t : ApiTimer) (Q : D → List Row → Prop) : (fnVC tab [] (LL tab [] Tryz.f115.ntmps 0 [] 2) Tryz.f115 (timer_May_args t) (timer_May_rows t) fun d R => canonVC (timer_May_rows t).length timer_May_dirs d R Q) = (timer_May_t t).q (fun X => Q (timer_May_enc X) (timer_May_out X)) := by kernel_rfl
set_option maxRecDepth 100000 in
theorem timer_May_calls (t : ApiTimer) : ACalls Tryz.prog 115 (timer_May_args t) (timer_May_rows t) (timer_May_enc (timer_May t)) (timer_May_out (timer_May t)) :=
  have hG : AllOK Tryz.prog [] := .nil
  FnOK.calls drawn tabOK hG Tryz.func115 (LL_ok drawn tabOK hG 2 (invs := [])) (FnOK.of (timer_May_nf t _) (Tree.main' (timer_May_tot t) ⟨rfl, rfl⟩))
set_option maxRecDepth 100000 in
theorem timer_May_conv (args : List D) (rows : List Row) : convA timer_May_sig args 0 = timer_May_args (ApiTimer.of (args.getD 0 .dead).cells) := by kernel_rfl
set_option maxRecDepth 100000 in
theorem timer_May_convR (args : List D) (rows : List Row) : convRs timer_May_rsig rows 0 = timer_May_rows (ApiTimer.of (args.getD 0 .dead).cells) := by kernel_rfl
set_option maxRecDepth 100000 in
theorem timer_May_ff (X : Bool) : (ffB (timer_May_enc X) && ffBR (timer_May_out X)) = true := by kernel_rfl
theorem timer_May_ok : ModelOK Tryz.prog timer_May_m := mkR_ok Tryz.call115 (fun args rows => by rw [timer_May_conv args rows, timer_May_convR args rows]; exact timer_May_calls (ApiTimer.of (args.getD 0 .dead).cells)) (fun _ X => timer_May_ff X)
def disk_mayCommand_t (d0 : ApiDisk) : Tree Bool :=
.br (d0.Cmd == (1 : Int)) (.lf (decide (d0.OpData = []))) (.br (d0.Cmd == (2 : Int)) (.lf ((↑(List.length d0.OpData) : Int) == (128 : Int))) (.lf false))
def disk_mayCommand (d0 : ApiDisk) : Bool := (disk_mayCommand_t d0).m
theorem disk_mayCommand_tot (d0 : ApiDisk) : (disk_mayCommand_t d0).p := (wB wL (wB wL wL))
def disk_mayCommand_args (d0 : ApiDisk) : List D := [.agg (ApiDisk.cells d0)]
def disk_mayCommand_rows (d0 : ApiDisk) : List Row := []
def disk_mayCommand_enc (X : Bool) : D := .bool X
def disk_mayCommand_out (X : Bool) : List Row := []
def disk_mayCommand_dirs : List Dir := []
def disk_mayCommand_sig : List PT := [.agg ApiDisk.sig]
def disk_mayCommand_rsig : List RT := []
def disk_mayCommand_val (args : List D) (rows : List Row) : Bool := disk_mayCommand (ApiDisk.of (args.getD 0 .dead).cells)
def disk_mayCommand_m : Model := mkR 164 [] true disk_mayCommand_sig disk_mayCommand_rsig disk_mayCommand_val disk_mayCommand_enc disk_mayCommand_out
set_option maxRecDepth 100000 in
theorem disk_mayCommand_nf (d0 : ApiDisk) (Q : D → List Row → Prop) : (fnVC tab [] (LL tab [] Tryz.f164.ntmps 0 [] 2) Tryz.f164 (disk_mayCommand_args d0) (disk_mayCommand_rows d0) fun d R => canonVC (disk_mayCommand_rows d0).length disk_mayCommand_dirs d R Q) = (disk_mayCommand_t d0).q (fun X => Q (disk_mayCommand_enc X) (disk_mayCommand_out X)) := by kernel_rfl
set_option maxRecDepth 100000 in
theorem disk_mayCommand_calls (d0 : ApiDisk) : ACalls Tryz.prog 164 (disk_mayCommand_args d0) (disk_mayCommand_rows d0) (disk_mayCommand_enc (disk_mayCommand d0)) (disk_mayCommand_out (disk_mayCommand d0)) :=
  have hG : AllOK Tryz.prog [] := .nil
  FnOK.calls drawn tabOK hG Tryz.func164 (LL_ok drawn tabOK hG 2 (invs := [])) (FnOK.of (disk_mayCommand_nf d0 _) (Tree.main' (disk_mayCommand_tot d0) ⟨rfl, rfl⟩))
set_option maxRecDepth 100000 in
theorem disk_mayCommand_conv (args : List D) (rows : List Row) : convA disk_mayCommand_sig args 0 = disk_mayCommand_args (ApiDisk.of (args.getD 0 .dead).cells) := by kernel_rfl
set_option maxRecDepth 100000 in
theorem disk_mayCommand_convR (args : List D) (rows : List Row) : convRs disk_mayCommand_rsig rows 0 = disk_mayCommand_rows (ApiDisk.of (args.getD 0 .dead).cells) := by kernel_rfl
set_option maxRecDepth 100000 in
theorem disk_mayCommand_ff (X : Bool) : (ffB (disk_mayCommand_enc X) && ffBR (disk_mayCommand_out X)) = true := by kernel_rfl
theorem disk_mayCommand_ok : ModelOK Tryz.prog disk_mayCommand_m := mkR_ok Tryz.call164 (fun args rows => by rw [disk_mayCommand_conv args rows, disk_mayCommand_convR args rows]; exact disk_mayCommand_calls (ApiDisk.of (args.getD 0 .dead).cells)) (fun _ X => disk_mayCommand_ff X)
def disk_May_t (d0 : ApiDisk) (pages : Int) : Tree Bool :=
.br (decide (d0.Blocks > (64 : Int))) (.lf false) (.br (d0.State == (0 : Int)) (.br (d0.Cmd == (0 : Int)) (.br (d0.OpBlock == (0 : Int)) (.br (d0.OpFrame == (0 : Int)) (.lf (decide (d0.OpData = []))) (.lf false)) (.lf false)) (.lf false)) (.br (d0.State == (2 : Int)) (.br (d0.Cmd == (0 : Int)) (.br (d0.OpBlock == (0 : Int)) (.br (d0.OpFrame == (0 : Int)) (.lf (decide (d0.OpData = []))) (.lf false)) (.lf false)) (.lf false)) (.br (d0.State == (3 : Int)) (.br (d0.Cmd == (0 : Int)) (.br (d0.OpBlock == (0 : Int)) (.br (d0.OpFrame == (0 : Int)) (.lf (decide (d0.OpData = []))) (.lf false)) (.lf false)) (.lf false)) (.br (d0.State == (1 : Int)) (.lv (disk_mayCommand d0) fun (x0 : Bool) => .br x0 (.br (decide (d0.OpBlock < d0.Blocks)) (.lf (decide (IntKind.wrap IntKind.i64 d0.OpFrame < pages))) (.lf false)) (.lf false)) (.lf false)))))
def disk_May (d0 : ApiDisk) (pages : Int) : Bool := (disk_May_t d0 pages).m
theorem disk_May_tot (d0 : ApiDisk) (pages : Int) : (disk_May_t d0 pages).p := (wB wL (wB (wB (wB (wB wL wL) wL) wL) (wB (wB (wB (wB wL wL) wL) wL) (wB (wB (wB (wB wL wL) wL) wL) (wB (wV fun _ => (wB (wB wL wL) wL)) wL)))))
def disk_May_args (d0 : ApiDisk) (pages : Int) : List D := [.agg (ApiDisk.cells d0), .int .i64 pages]
def disk_May_rows (d0 : ApiDisk) (pages : Int) : List Row := []
def disk_May_enc (X : Bool) : D := .bool X
def disk_May_out (X : Bool) : List Row := []
def disk_May_dirs : List Dir := []
def disk_May_sig : List PT := [.agg ApiDisk.sig, .one (.int .i64)]
def disk_May_rsig : List RT := []
def disk_May_val (args : List D) (rows : List Row) : Bool := disk_May (ApiDisk.of (args.getD 0 .dead).cells) (argI args 1)
def disk_May_m : Model := mkR 116 [] true disk_May_sig disk_May_rsig disk_May_val disk_May_enc disk_May_out
set_option maxRecDepth 100000 in
theorem disk_May_nf (d0 : ApiDisk) (pages : Int) (Q : D → List Row → Prop) : (fnVC tab [disk_mayCommand_m] (LL tab [disk_mayCommand_m] Tryz.f116.ntmps 0 [] 2) Tryz.f116 (disk_May_args d0 pages) (disk_May_rows d0 pages) fun d R => canonVC (disk_May_rows d0 pages).length disk_May_dirs d R Q) = (disk_May_t d0 pages).q (fun X => Q (disk_May_enc X) (disk_May_out X)) := by kernel_rfl
set_option maxRecDepth 100000 in
theorem disk_May_calls (d0 : ApiDisk) (pages : Int) : ACalls Tryz.prog 116 (disk_May_args d0 pages) (disk_May_rows d0 pages) (disk_May_enc (disk_May d0 pages)) (disk_May_out (disk_May d0 pages)) :=
  have hG : AllOK Tryz.prog [disk_mayCommand_m] := .cons disk_mayCommand_ok (.nil)
  FnOK.calls drawn tabOK hG Tryz.func116 (LL_ok drawn tabOK hG 2 (invs := [])) (FnOK.of (disk_May_nf d0 pages _) (Tree.main' (disk_May_tot d0 pages) ⟨rfl, rfl⟩))
set_option maxRecDepth 100000 in
theorem disk_May_conv (args : List D) (rows : List Row) : convA disk_May_sig args 0 = disk_May_args (ApiDisk.of (args.getD 0 .dead).cells) (argI args 1) := by kernel_rfl
set_option maxRecDepth 100000 in
theorem disk_May_convR (args : List D) (rows : List Row) : convRs disk_May_rsig rows 0 = disk_May_rows (ApiDisk.of (args.getD 0 .dead).cells) (argI args 1) := by kernel_rfl
set_option maxRecDepth 100000 in
theorem disk_May_ff (X : Bool) : (ffB (disk_May_enc X) && ffBR (disk_May_out X)) = true := by kernel_rfl
theorem disk_May_ok : ModelOK Tryz.prog disk_May_m := mkR_ok Tryz.call116 (fun args rows => by rw [disk_May_conv args rows, disk_May_convR args rows]; exact disk_May_calls (ApiDisk.of (args.getD 0 .dead).cells) (argI args 1)) (fun _ X => disk_May_ff X)
def nic_May_t (n : ApiNic) (pages : Int) : Tree Bool :=
.br n.Posted (.br n.Received (.lf false) (.br n.Posted (.br (decide (IntKind.wrap IntKind.i64 n.Buffer ≥ pages)) (.lf false) (.br n.Received (.br (decide (n.Got ≥ (1 : Int))) (.lf (decide (n.Got ≤ (128 : Int)))) (.lf false)) (.lf (n.Got == (0 : Int))))) (.br (n.Buffer != (0 : Int)) (.lf false) (.br n.Received (.br (decide (n.Got ≥ (1 : Int))) (.lf (decide (n.Got ≤ (128 : Int)))) (.lf false)) (.lf (n.Got == (0 : Int))))))) (.br n.Posted (.br (decide (IntKind.wrap IntKind.i64 n.Buffer ≥ pages)) (.lf false) (.br n.Received (.br (decide (n.Got ≥ (1 : Int))) (.lf (decide (n.Got ≤ (128 : Int)))) (.lf false)) (.lf (n.Got == (0 : Int))))) (.br (n.Buffer != (0 : Int)) (.lf false) (.br n.Received (.br (decide (n.Got ≥ (1 : Int))) (.lf (decide (n.Got ≤ (128 : Int)))) (.lf false)) (.lf (n.Got == (0 : Int))))))
def nic_May (n : ApiNic) (pages : Int) : Bool := (nic_May_t n pages).m
theorem nic_May_tot (n : ApiNic) (pages : Int) : (nic_May_t n pages).p := (wB (wB wL (wB (wB wL (wB (wB wL wL) wL)) (wB wL (wB (wB wL wL) wL)))) (wB (wB wL (wB (wB wL wL) wL)) (wB wL (wB (wB wL wL) wL))))
def nic_May_args (n : ApiNic) (pages : Int) : List D := [.agg (ApiNic.cells n), .int .i64 pages]
def nic_May_rows (n : ApiNic) (pages : Int) : List Row := []
def nic_May_enc (X : Bool) : D := .bool X
def nic_May_out (X : Bool) : List Row := []
def nic_May_dirs : List Dir := []
def nic_May_sig : List PT := [.agg ApiNic.sig, .one (.int .i64)]
def nic_May_rsig : List RT := []
def nic_May_val (args : List D) (rows : List Row) : Bool := nic_May (ApiNic.of (args.getD 0 .dead).cells) (argI args 1)
def nic_May_m : Model := mkR 117 [] true nic_May_sig nic_May_rsig nic_May_val nic_May_enc nic_May_out
set_option maxRecDepth 100000 in
theorem nic_May_nf (n : ApiNic) (pages : Int) (Q : D → List Row → Prop) : (fnVC tab [] (LL tab [] Tryz.f117.ntmps 0 [] 2) Tryz.f117 (nic_May_args n pages) (nic_May_rows n pages) fun d R => canonVC (nic_May_rows n pages).length nic_May_dirs d R Q) = (nic_May_t n pages).q (fun X => Q (nic_May_enc X) (nic_May_out X)) := by kernel_rfl
set_option maxRecDepth 100000 in
theorem nic_May_calls (n : ApiNic) (pages : Int) : ACalls Tryz.prog 117 (nic_May_args n pages) (nic_May_rows n pages) (nic_May_enc (nic_May n pages)) (nic_May_out (nic_May n pages)) :=
  have hG : AllOK Tryz.prog [] := .nil
  FnOK.calls drawn tabOK hG Tryz.func117 (LL_ok drawn tabOK hG 2 (invs := [])) (FnOK.of (nic_May_nf n pages _) (Tree.main' (nic_May_tot n pages) ⟨rfl, rfl⟩))
set_option maxRecDepth 100000 in
theorem nic_May_conv (args : List D) (rows : List Row) : convA nic_May_sig args 0 = nic_May_args (ApiNic.of (args.getD 0 .dead).cells) (argI args 1) := by kernel_rfl
set_option maxRecDepth 100000 in
theorem nic_May_convR (args : List D) (rows : List Row) : convRs nic_May_rsig rows 0 = nic_May_rows (ApiNic.of (args.getD 0 .dead).cells) (argI args 1) := by kernel_rfl
set_option maxRecDepth 100000 in
theorem nic_May_ff (X : Bool) : (ffB (nic_May_enc X) && ffBR (nic_May_out X)) = true := by kernel_rfl
theorem nic_May_ok : ModelOK Tryz.prog nic_May_m := mkR_ok Tryz.call117 (fun args rows => by rw [nic_May_conv args rows, nic_May_convR args rows]; exact nic_May_calls (ApiNic.of (args.getD 0 .dead).cells) (argI args 1)) (fun _ X => nic_May_ff X)
def math_bits_Len32_t (x : Int) : Tree Int :=
.br (decide (x ≥ (65536 : Int))) (.br (decide (ishr IntKind.u32 x (16 : Int) ≥ (256 : Int))) (.cn (decide ((0 : Int) ≤ IntKind.wrap IntKind.u8 (ishr IntKind.u32 (ishr IntKind.u32 x (16 : Int)) (8 : Int)) ∧ IntKind.wrap IntKind.u8 (ishr IntKind.u32 (ishr IntKind.u32 x (16 : Int)) (8 : Int)) < (↑(List.length (List.append (List.append tblYc0 tblYc1) (List.append tblYc2 tblYc2))) : Int))) (.lf (IntKind.wrap IntKind.i64 (IntKind.wrap IntKind.i64 ((16 : Int) + (8 : Int)) + IntKind.wrap IntKind.i64 (↑(UInt8.toNat (List.getD ((0 : UInt8) :: (tblYc3 ++ tblYc1 ++ (tblYc2 ++ tblYc2))) (Int.toNat (IntKind.wrap IntKind.u8 (ishr IntKind.u32 (ishr IntKind.u32 x (16 : Int)) (8 : Int)))) (0 : UInt8))) : Int))))) (.cn (decide ((0 : Int) ≤ IntKind.wrap IntKind.u8 (ishr IntKind.u32 x (16 : Int)) ∧ IntKind.wrap IntKind.u8 (ishr IntKind.u32 x (16 : Int)) < (↑(List.length (List.append (List.append tblYc0 tblYc1) (List.append tblYc2 tblYc2))) : Int))) (.lf (IntKind.wrap IntKind.i64 ((16 : Int) + IntKind.wrap IntKind.i64 (↑(UInt8.toNat (List.getD ((0 : UInt8) :: (tblYc3 ++ tblYc1 ++ (tblYc2 ++ tblYc2))) (Int.toNat (IntKind.wrap IntKind.u8 (ishr IntKind.u32 x (16 : Int)))) (0 : UInt8))) : Int)))))) (.br (decide (x ≥ (256 : Int))) (.cn (decide ((0 : Int) ≤ IntKind.wrap IntKind.u8 (ishr IntKind.u32 x (8 : Int)) ∧ IntKind.wrap IntKind.u8 (ishr IntKind.u32 x (8 : Int)) < (↑(List.length (List.append (List.append tblYc0 tblYc1) (List.append tblYc2 tblYc2))) : Int))) (.lf (IntKind.wrap IntKind.i64 (IntKind.wrap IntKind.i64 ((0 : Int) + (8 : Int)) + IntKind.wrap IntKind.i64 (↑(UInt8.toNat (List.getD ((0 : UInt8) :: (tblYc3 ++ tblYc1 ++ (tblYc2 ++ tblYc2))) (Int.toNat (IntKind.wrap IntKind.u8 (ishr IntKind.u32 x (8 : Int)))) (0 : UInt8))) : Int))))) (.cn (decide ((0 : Int) ≤ IntKind.wrap IntKind.u8 x ∧ IntKind.wrap IntKind.u8 x < (↑(List.length (List.append (List.append tblYc0 tblYc1) (List.append tblYc2 tblYc2))) : Int))) (.lf (IntKind.wrap IntKind.i64 ((0 : Int) + IntKind.wrap IntKind.i64 (↑(UInt8.toNat (List.getD ((0 : UInt8) :: (tblYc3 ++ tblYc1 ++ (tblYc2 ++ tblYc2))) (Int.toNat (IntKind.wrap IntKind.u8 x)) (0 : UInt8))) : Int))))))
def math_bits_Len32 (x : Int) : Int := (math_bits_Len32_t x).m
abbrev math_bits_Len32_pre (x : Int) : Prop := (math_bits_Len32_t x).p
def math_bits_Len32_args (x : Int) : List D := [.int .u32 x]
def math_bits_Len32_rows (x : Int) : List Row := []
def math_bits_Len32_enc (X : Int) : D := .int .i64 X
def math_bits_Len32_out (X : Int) : List Row := []
def math_bits_Len32_dirs : List Dir := []
def math_bits_Len32_sig : List PT := [.one (.int .u32)]
def math_bits_Len32_rsig : List RT := []
def math_bits_Len32_val (args : List D) (rows : List Row) : Int := math_bits_Len32 (argI args 0)
def math_bits_Len32_prf (args : List D) (rows : List Row) : Prop := math_bits_Len32_pre (argI args 0)
def math_bits_Len32_m : Model := mkP 165 [] true math_bits_Len32_sig math_bits_Len32_rsig math_bits_Len32_prf math_bits_Len32_val math_bits_Len32_enc math_bits_Len32_out
set_option maxRecDepth 100000 in
theorem math_bits_Len32_nf (x : Int) (Q : D → List Row → Prop) : (fnVC tab [] (LL tab [] Tryz.f165.ntmps 0 [] 2) Tryz.f165 (math_bits_Len32_args x) (math_bits_Len32_rows x) fun d R => canonVC (math_bits_Len32_rows x).length math_bits_Len32_dirs d R Q) = (math_bits_Len32_t x).q (fun X => Q (math_bits_Len32_enc X) (math_bits_Len32_out X)) := by kernel_rfl
set_option maxRecDepth 100000 in
theorem math_bits_Len32_calls (x : Int) (hw : math_bits_Len32_pre x) : ACalls Tryz.prog 165 (math_bits_Len32_args x) (math_bits_Len32_rows x) (math_bits_Len32_enc (math_bits_Len32 x)) (math_bits_Len32_out (math_bits_Len32 x)) :=
  have hG : AllOK Tryz.prog [] := .nil
  FnOK.calls drawn tabOK hG Tryz.func165 (LL_ok drawn tabOK hG 2 (invs := [])) (FnOK.of (math_bits_Len32_nf x _) (Tree.main' hw ⟨rfl, rfl⟩))
set_option maxRecDepth 100000 in
theorem math_bits_Len32_conv (args : List D) (rows : List Row) : convA math_bits_Len32_sig args 0 = math_bits_Len32_args (argI args 0) := by kernel_rfl
set_option maxRecDepth 100000 in
theorem math_bits_Len32_convR (args : List D) (rows : List Row) : convRs math_bits_Len32_rsig rows 0 = math_bits_Len32_rows (argI args 0) := by kernel_rfl
set_option maxRecDepth 100000 in
theorem math_bits_Len32_ff (X : Int) : (ffB (math_bits_Len32_enc X) && ffBR (math_bits_Len32_out X)) = true := by kernel_rfl
theorem math_bits_Len32_ok : ModelOK Tryz.prog math_bits_Len32_m := mkP_ok Tryz.call165 (fun args rows hp => by rw [math_bits_Len32_conv args rows, math_bits_Len32_convR args rows]; exact math_bits_Len32_calls (argI args 0) hp) (fun _ X => math_bits_Len32_ff X)
def balloon_May_t (b : ApiBalloon) (pages : Int) : Tree Bool :=
.an (math_bits_Len32_pre b.Given) (.lv (math_bits_Len32 b.Given) fun (x0 : Int) => .lf (decide (x0 ≤ match true with | true => if (0 : Int) > pages then (0 : Int) else pages | false => if (0 : Int) < pages then (0 : Int) else pages)))
def balloon_May (b : ApiBalloon) (pages : Int) : Bool := (balloon_May_t b pages).m
abbrev balloon_May_pre (b : ApiBalloon) (pages : Int) : Prop := (balloon_May_t b pages).p
def balloon_May_args (b : ApiBalloon) (pages : Int) : List D := [.agg (ApiBalloon.cells b), .int .i64 pages]
def balloon_May_rows (b : ApiBalloon) (pages : Int) : List Row := []
def balloon_May_enc (X : Bool) : D := .bool X
def balloon_May_out (X : Bool) : List Row := []
def balloon_May_dirs : List Dir := []
def balloon_May_sig : List PT := [.agg ApiBalloon.sig, .one (.int .i64)]
def balloon_May_rsig : List RT := []
def balloon_May_val (args : List D) (rows : List Row) : Bool := balloon_May (ApiBalloon.of (args.getD 0 .dead).cells) (argI args 1)
def balloon_May_prf (args : List D) (rows : List Row) : Prop := balloon_May_pre (ApiBalloon.of (args.getD 0 .dead).cells) (argI args 1)
def balloon_May_m : Model := mkP 118 [] true balloon_May_sig balloon_May_rsig balloon_May_prf balloon_May_val balloon_May_enc balloon_May_out
set_option maxRecDepth 100000 in
theorem balloon_May_nf (b : ApiBalloon) (pages : Int) (Q : D → List Row → Prop) : (fnVC tab [math_bits_Len32_m] (LL tab [math_bits_Len32_m] Tryz.f118.ntmps 0 [] 2) Tryz.f118 (balloon_May_args b pages) (balloon_May_rows b pages) fun d R => canonVC (balloon_May_rows b pages).length balloon_May_dirs d R Q) = (balloon_May_t b pages).q (fun X => Q (balloon_May_enc X) (balloon_May_out X)) := by kernel_rfl
set_option maxRecDepth 100000 in
theorem balloon_May_calls (b : ApiBalloon) (pages : Int) (hw : balloon_May_pre b pages) : ACalls Tryz.prog 118 (balloon_May_args b pages) (balloon_May_rows b pages) (balloon_May_enc (balloon_May b pages)) (balloon_May_out (balloon_May b pages)) :=
  have hG : AllOK Tryz.prog [math_bits_Len32_m] := .cons math_bits_Len32_ok (.nil)
  FnOK.calls drawn tabOK hG Tryz.func118 (LL_ok drawn tabOK hG 2 (invs := [])) (FnOK.of (balloon_May_nf b pages _) (Tree.main' hw ⟨rfl, rfl⟩))
set_option maxRecDepth 100000 in
theorem balloon_May_conv (args : List D) (rows : List Row) : convA balloon_May_sig args 0 = balloon_May_args (ApiBalloon.of (args.getD 0 .dead).cells) (argI args 1) := by kernel_rfl
set_option maxRecDepth 100000 in
theorem balloon_May_convR (args : List D) (rows : List Row) : convRs balloon_May_rsig rows 0 = balloon_May_rows (ApiBalloon.of (args.getD 0 .dead).cells) (argI args 1) := by kernel_rfl
set_option maxRecDepth 100000 in
theorem balloon_May_ff (X : Bool) : (ffB (balloon_May_enc X) && ffBR (balloon_May_out X)) = true := by kernel_rfl
theorem balloon_May_ok : ModelOK Tryz.prog balloon_May_m := mkP_ok Tryz.call118 (fun args rows hp => by rw [balloon_May_conv args rows, balloon_May_convR args rows]; exact balloon_May_calls (ApiBalloon.of (args.getD 0 .dead).cells) (argI args 1) hp) (fun _ X => balloon_May_ff X)
def machine_mayDevices_t (m : ApiMachine) : Tree Bool :=
.lv (memory_Pages m.Mem) fun (x0 : Int) => .lv (console_May m.Console) fun (x1 : Bool) => .br x1 (.lv (timer_May m.Timer) fun (x2 : Bool) => .br x2 (.lv (disk_May m.Disk x0) fun (x3 : Bool) => .br x3 (.lv (nic_May m.Nic x0) fun (x4 : Bool) => .br x4 (.an (balloon_May_pre m.Balloon x0) (.lv (balloon_May m.Balloon x0) fun (x5 : Bool) => .lf x5)) (.lf false)) (.lf false)) (.lf false)) (.lf false)
def machine_mayDevices (m : ApiMachine) : Bool := (machine_mayDevices_t m).m
abbrev machine_mayDevices_pre (m : ApiMachine) : Prop := (machine_mayDevices_t m).p
def machine_mayDevices_args (m : ApiMachine) : List D := [.agg (ApiMachine.cells m)]
def machine_mayDevices_rows (m : ApiMachine) : List Row := []
def machine_mayDevices_enc (X : Bool) : D := .bool X
def machine_mayDevices_out (X : Bool) : List Row := []
def machine_mayDevices_dirs : List Dir := []
def machine_mayDevices_sig : List PT := [.agg ApiMachine.sig]
def machine_mayDevices_rsig : List RT := []
def machine_mayDevices_val (args : List D) (rows : List Row) : Bool := machine_mayDevices (ApiMachine.of (args.getD 0 .dead).cells)
def machine_mayDevices_prf (args : List D) (rows : List Row) : Prop := machine_mayDevices_pre (ApiMachine.of (args.getD 0 .dead).cells)
def machine_mayDevices_m : Model := mkP 57 [] true machine_mayDevices_sig machine_mayDevices_rsig machine_mayDevices_prf machine_mayDevices_val machine_mayDevices_enc machine_mayDevices_out
set_option maxRecDepth 100000 in
theorem machine_mayDevices_nf (m : ApiMachine) (Q : D → List Row → Prop) : (fnVC tab [memory_Pages_m, console_May_m, timer_May_m, disk_May_m, nic_May_m, balloon_May_m] (LL tab [memory_Pages_m, console_May_m, timer_May_m, disk_May_m, nic_May_m, balloon_May_m] Tryz.f57.ntmps 0 [] 2) Tryz.f57 (machine_mayDevices_args m) (machine_mayDevices_rows m) fun d R => canonVC (machine_mayDevices_rows m).length machine_mayDevices_dirs d R Q) = (machine_mayDevices_t m).q (fun X => Q (machine_mayDevices_enc X) (machine_mayDevices_out X)) := by kernel_rfl
set_option maxRecDepth 100000 in
theorem machine_mayDevices_calls (m : ApiMachine) (hw : machine_mayDevices_pre m) : ACalls Tryz.prog 57 (machine_mayDevices_args m) (machine_mayDevices_rows m) (machine_mayDevices_enc (machine_mayDevices m)) (machine_mayDevices_out (machine_mayDevices m)) :=
  have hG : AllOK Tryz.prog [memory_Pages_m, console_May_m, timer_May_m, disk_May_m, nic_May_m, balloon_May_m] := .cons memory_Pages_ok (.cons console_May_ok (.cons timer_May_ok (.cons disk_May_ok (.cons nic_May_ok (.cons balloon_May_ok (.nil))))))
  FnOK.calls drawn tabOK hG Tryz.func57 (LL_ok drawn tabOK hG 2 (invs := [])) (FnOK.of (machine_mayDevices_nf m _) (Tree.main' hw ⟨rfl, rfl⟩))
set_option maxRecDepth 100000 in
theorem machine_mayDevices_conv (args : List D) (rows : List Row) : convA machine_mayDevices_sig args 0 = machine_mayDevices_args (ApiMachine.of (args.getD 0 .dead).cells) := by kernel_rfl
set_option maxRecDepth 100000 in
theorem machine_mayDevices_convR (args : List D) (rows : List Row) : convRs machine_mayDevices_rsig rows 0 = machine_mayDevices_rows (ApiMachine.of (args.getD 0 .dead).cells) := by kernel_rfl
set_option maxRecDepth 100000 in
theorem machine_mayDevices_ff (X : Bool) : (ffB (machine_mayDevices_enc X) && ffBR (machine_mayDevices_out X)) = true := by kernel_rfl
theorem machine_mayDevices_ok : ModelOK Tryz.prog machine_mayDevices_m := mkP_ok Tryz.call57 (fun args rows hp => by rw [machine_mayDevices_conv args rows, machine_mayDevices_convR args rows]; exact machine_mayDevices_calls (ApiMachine.of (args.getD 0 .dead).cells) hp) (fun _ X => machine_mayDevices_ff X)
def machine_May_t (m : ApiMachine) : Tree Bool :=
.lv (memory_Pages m.Mem) fun (x0 : Int) => .br (x0 == (0 : Int)) (.lf false) (.br (m.Cpu.X.a0 != (0 : Int)) (.lf false) (.br (decide (m.Cpu.Csr.a0 > (31 : Int))) (.lf false) (.br (decide (m.Cpu.Csr.a7 > (31 : Int))) (.lf false) (.br (decide (m.Cpu.Csr.a6 > (255 : Int))) (.lf false) (.br (Int.tmod m.Cpu.Csr.a1 (4 : Int) != (0 : Int)) (.lf false) (.br (decide (m.Count > (1152921504606846976 : Int))) (.lf false) (.br m.Waiting (.br m.Halted (.lf false) (.an (machine_mayDevices_pre m) (.lv (machine_mayDevices m) fun (x1 : Bool) => .lf x1))) (.an (machine_mayDevices_pre m) (.lv (machine_mayDevices m) fun (x2 : Bool) => .lf x2)))))))))
def machine_May (m : ApiMachine) : Bool := (machine_May_t m).m
abbrev machine_May_pre (m : ApiMachine) : Prop := (machine_May_t m).p
def machine_May_args (m : ApiMachine) : List D := [.agg (ApiMachine.cells m)]
def machine_May_rows (m : ApiMachine) : List Row := []
def machine_May_enc (X : Bool) : D := .bool X
def machine_May_out (X : Bool) : List Row := []
def machine_May_dirs : List Dir := []
def machine_May_sig : List PT := [.agg ApiMachine.sig]
def machine_May_rsig : List RT := []
def machine_May_val (args : List D) (rows : List Row) : Bool := machine_May (ApiMachine.of (args.getD 0 .dead).cells)
def machine_May_prf (args : List D) (rows : List Row) : Prop := machine_May_pre (ApiMachine.of (args.getD 0 .dead).cells)
def machine_May_m : Model := mkP 21 [] true machine_May_sig machine_May_rsig machine_May_prf machine_May_val machine_May_enc machine_May_out
set_option maxRecDepth 100000 in
theorem machine_May_nf (m : ApiMachine) (Q : D → List Row → Prop) : (fnVC tab [memory_Pages_m, machine_mayDevices_m] (LL tab [memory_Pages_m, machine_mayDevices_m] Tryz.f21.ntmps 0 [] 2) Tryz.f21 (machine_May_args m) (machine_May_rows m) fun d R => canonVC (machine_May_rows m).length machine_May_dirs d R Q) = (machine_May_t m).q (fun X => Q (machine_May_enc X) (machine_May_out X)) := by kernel_rfl
set_option maxRecDepth 100000 in
theorem machine_May_calls (m : ApiMachine) (hw : machine_May_pre m) : ACalls Tryz.prog 21 (machine_May_args m) (machine_May_rows m) (machine_May_enc (machine_May m)) (machine_May_out (machine_May m)) :=
  have hG : AllOK Tryz.prog [memory_Pages_m, machine_mayDevices_m] := .cons memory_Pages_ok (.cons machine_mayDevices_ok (.nil))
  FnOK.calls drawn tabOK hG Tryz.func21 (LL_ok drawn tabOK hG 2 (invs := [])) (FnOK.of (machine_May_nf m _) (Tree.main' hw ⟨rfl, rfl⟩))
set_option maxRecDepth 100000 in
theorem machine_May_conv (args : List D) (rows : List Row) : convA machine_May_sig args 0 = machine_May_args (ApiMachine.of (args.getD 0 .dead).cells) := by kernel_rfl
set_option maxRecDepth 100000 in
theorem machine_May_convR (args : List D) (rows : List Row) : convRs machine_May_rsig rows 0 = machine_May_rows (ApiMachine.of (args.getD 0 .dead).cells) := by kernel_rfl
set_option maxRecDepth 100000 in
theorem machine_May_ff (X : Bool) : (ffB (machine_May_enc X) && ffBR (machine_May_out X)) = true := by kernel_rfl
theorem machine_May_ok : ModelOK Tryz.prog machine_May_m := mkP_ok Tryz.call21 (fun args rows hp => by rw [machine_May_conv args rows, machine_May_convR args rows]; exact machine_May_calls (ApiMachine.of (args.getD 0 .dead).cells) hp) (fun _ X => machine_May_ff X)
def timer_Pending_t (t : ApiTimer) : Tree Bool :=
.lf t.Fired
def timer_Pending (t : ApiTimer) : Bool := (timer_Pending_t t).m
theorem timer_Pending_tot (t : ApiTimer) : (timer_Pending_t t).p := wL
def timer_Pending_args (t : ApiTimer) : List D := [.agg (ApiTimer.cells t)]
def timer_Pending_rows (t : ApiTimer) : List Row := []
def timer_Pending_enc (X : Bool) : D := .bool X
def timer_Pending_out (X : Bool) : List Row := []
def timer_Pending_dirs : List Dir := []
def timer_Pending_sig : List PT := [.agg ApiTimer.sig]
def timer_Pending_rsig : List RT := []
def timer_Pending_val (args : List D) (rows : List Row) : Bool := timer_Pending (ApiTimer.of (args.getD 0 .dead).cells)
def timer_Pending_m : Model := mkR 73 [] true timer_Pending_sig timer_Pending_rsig timer_Pending_val timer_Pending_enc timer_Pending_out
set_option maxRecDepth 100000 in
theorem timer_Pending_nf (t : ApiTimer) (Q : D → List Row → Prop) : (fnVC tab [] (LL tab [] Tryz.f73.ntmps 0 [] 2) Tryz.f73 (timer_Pending_args t) (timer_Pending_rows t) fun d R => canonVC (timer_Pending_rows t).length timer_Pending_dirs d R Q) = (timer_Pending_t t).q (fun X => Q (timer_Pending_enc X) (timer_Pending_out X)) := by kernel_rfl
set_option maxRecDepth 100000 in
theorem timer_Pending_calls (t : ApiTimer) : ACalls Tryz.prog 73 (timer_Pending_args t) (timer_Pending_rows t) (timer_Pending_enc (timer_Pending t)) (timer_Pending_out (timer_Pending t)) :=
  have hG : AllOK Tryz.prog [] := .nil
  FnOK.calls drawn tabOK hG Tryz.func73 (LL_ok drawn tabOK hG 2 (invs := [])) (FnOK.of (timer_Pending_nf t _) (Tree.main' (timer_Pending_tot t) ⟨rfl, rfl⟩))
set_option maxRecDepth 100000 in
theorem timer_Pending_conv (args : List D) (rows : List Row) : convA timer_Pending_sig args 0 = timer_Pending_args (ApiTimer.of (args.getD 0 .dead).cells) := by kernel_rfl
set_option maxRecDepth 100000 in
theorem timer_Pending_convR (args : List D) (rows : List Row) : convRs timer_Pending_rsig rows 0 = timer_Pending_rows (ApiTimer.of (args.getD 0 .dead).cells) := by kernel_rfl
set_option maxRecDepth 100000 in
theorem timer_Pending_ff (X : Bool) : (ffB (timer_Pending_enc X) && ffBR (timer_Pending_out X)) = true := by kernel_rfl
theorem timer_Pending_ok : ModelOK Tryz.prog timer_Pending_m := mkR_ok Tryz.call73 (fun args rows => by rw [timer_Pending_conv args rows, timer_Pending_convR args rows]; exact timer_Pending_calls (ApiTimer.of (args.getD 0 .dead).cells)) (fun _ X => timer_Pending_ff X)
def console_Pending_t (c : ApiConsole) : Tree Bool :=
.lf (!decide (c.Keys = []))
def console_Pending (c : ApiConsole) : Bool := (console_Pending_t c).m
theorem console_Pending_tot (c : ApiConsole) : (console_Pending_t c).p := wL
def console_Pending_args (c : ApiConsole) : List D := [.agg (ApiConsole.cells c)]
def console_Pending_rows (c : ApiConsole) : List Row := []
def console_Pending_enc (X : Bool) : D := .bool X
def console_Pending_out (X : Bool) : List Row := []
def console_Pending_dirs : List Dir := []
def console_Pending_sig : List PT := [.agg ApiConsole.sig]
def console_Pending_rsig : List RT := []
def console_Pending_val (args : List D) (rows : List Row) : Bool := console_Pending (ApiConsole.of (args.getD 0 .dead).cells)
def console_Pending_m : Model := mkR 74 [] true console_Pending_sig console_Pending_rsig console_Pending_val console_Pending_enc console_Pending_out
set_option maxRecDepth 100000 in
theorem console_Pending_nf (c : ApiConsole) (Q : D → List Row → Prop) : (fnVC tab [] (LL tab [] Tryz.f74.ntmps 0 [] 2) Tryz.f74 (console_Pending_args c) (console_Pending_rows c) fun d R => canonVC (console_Pending_rows c).length console_Pending_dirs d R Q) = (console_Pending_t c).q (fun X => Q (console_Pending_enc X) (console_Pending_out X)) := by kernel_rfl
set_option maxRecDepth 100000 in
theorem console_Pending_calls (c : ApiConsole) : ACalls Tryz.prog 74 (console_Pending_args c) (console_Pending_rows c) (console_Pending_enc (console_Pending c)) (console_Pending_out (console_Pending c)) :=
  have hG : AllOK Tryz.prog [] := .nil
  FnOK.calls drawn tabOK hG Tryz.func74 (LL_ok drawn tabOK hG 2 (invs := [])) (FnOK.of (console_Pending_nf c _) (Tree.main' (console_Pending_tot c) ⟨rfl, rfl⟩))
set_option maxRecDepth 100000 in
theorem console_Pending_conv (args : List D) (rows : List Row) : convA console_Pending_sig args 0 = console_Pending_args (ApiConsole.of (args.getD 0 .dead).cells) := by kernel_rfl
set_option maxRecDepth 100000 in
theorem console_Pending_convR (args : List D) (rows : List Row) : convRs console_Pending_rsig rows 0 = console_Pending_rows (ApiConsole.of (args.getD 0 .dead).cells) := by kernel_rfl
set_option maxRecDepth 100000 in
theorem console_Pending_ff (X : Bool) : (ffB (console_Pending_enc X) && ffBR (console_Pending_out X)) = true := by kernel_rfl
theorem console_Pending_ok : ModelOK Tryz.prog console_Pending_m := mkR_ok Tryz.call74 (fun args rows => by rw [console_Pending_conv args rows, console_Pending_convR args rows]; exact console_Pending_calls (ApiConsole.of (args.getD 0 .dead).cells)) (fun _ X => console_Pending_ff X)
def disk_Pending_t (d0 : ApiDisk) : Tree Bool :=
.br (d0.State == (2 : Int)) (.lf true) (.lf (d0.State == (3 : Int)))
def disk_Pending (d0 : ApiDisk) : Bool := (disk_Pending_t d0).m
theorem disk_Pending_tot (d0 : ApiDisk) : (disk_Pending_t d0).p := (wB wL wL)
def disk_Pending_args (d0 : ApiDisk) : List D := [.agg (ApiDisk.cells d0)]
def disk_Pending_rows (d0 : ApiDisk) : List Row := []
def disk_Pending_enc (X : Bool) : D := .bool X
def disk_Pending_out (X : Bool) : List Row := []
def disk_Pending_dirs : List Dir := []
def disk_Pending_sig : List PT := [.agg ApiDisk.sig]
def disk_Pending_rsig : List RT := []
def disk_Pending_val (args : List D) (rows : List Row) : Bool := disk_Pending (ApiDisk.of (args.getD 0 .dead).cells)
def disk_Pending_m : Model := mkR 75 [] true disk_Pending_sig disk_Pending_rsig disk_Pending_val disk_Pending_enc disk_Pending_out
set_option maxRecDepth 100000 in
theorem disk_Pending_nf (d0 : ApiDisk) (Q : D → List Row → Prop) : (fnVC tab [] (LL tab [] Tryz.f75.ntmps 0 [] 2) Tryz.f75 (disk_Pending_args d0) (disk_Pending_rows d0) fun d R => canonVC (disk_Pending_rows d0).length disk_Pending_dirs d R Q) = (disk_Pending_t d0).q (fun X => Q (disk_Pending_enc X) (disk_Pending_out X)) := by kernel_rfl
set_option maxRecDepth 100000 in
theorem disk_Pending_calls (d0 : ApiDisk) : ACalls Tryz.prog 75 (disk_Pending_args d0) (disk_Pending_rows d0) (disk_Pending_enc (disk_Pending d0)) (disk_Pending_out (disk_Pending d0)) :=
  have hG : AllOK Tryz.prog [] := .nil
  FnOK.calls drawn tabOK hG Tryz.func75 (LL_ok drawn tabOK hG 2 (invs := [])) (FnOK.of (disk_Pending_nf d0 _) (Tree.main' (disk_Pending_tot d0) ⟨rfl, rfl⟩))
set_option maxRecDepth 100000 in
theorem disk_Pending_conv (args : List D) (rows : List Row) : convA disk_Pending_sig args 0 = disk_Pending_args (ApiDisk.of (args.getD 0 .dead).cells) := by kernel_rfl
set_option maxRecDepth 100000 in
theorem disk_Pending_convR (args : List D) (rows : List Row) : convRs disk_Pending_rsig rows 0 = disk_Pending_rows (ApiDisk.of (args.getD 0 .dead).cells) := by kernel_rfl
set_option maxRecDepth 100000 in
theorem disk_Pending_ff (X : Bool) : (ffB (disk_Pending_enc X) && ffBR (disk_Pending_out X)) = true := by kernel_rfl
theorem disk_Pending_ok : ModelOK Tryz.prog disk_Pending_m := mkR_ok Tryz.call75 (fun args rows => by rw [disk_Pending_conv args rows, disk_Pending_convR args rows]; exact disk_Pending_calls (ApiDisk.of (args.getD 0 .dead).cells)) (fun _ X => disk_Pending_ff X)
def nic_Pending_t (n : ApiNic) : Tree Bool :=
.lf n.Received
def nic_Pending (n : ApiNic) : Bool := (nic_Pending_t n).m
theorem nic_Pending_tot (n : ApiNic) : (nic_Pending_t n).p := wL
def nic_Pending_args (n : ApiNic) : List D := [.agg (ApiNic.cells n)]
def nic_Pending_rows (n : ApiNic) : List Row := []
def nic_Pending_enc (X : Bool) : D := .bool X
def nic_Pending_out (X : Bool) : List Row := []
def nic_Pending_dirs : List Dir := []
def nic_Pending_sig : List PT := [.agg ApiNic.sig]
def nic_Pending_rsig : List RT := []
def nic_Pending_val (args : List D) (rows : List Row) : Bool := nic_Pending (ApiNic.of (args.getD 0 .dead).cells)
def nic_Pending_m : Model := mkR 76 [] true nic_Pending_sig nic_Pending_rsig nic_Pending_val nic_Pending_enc nic_Pending_out
set_option maxRecDepth 100000 in
theorem nic_Pending_nf (n : ApiNic) (Q : D → List Row → Prop) : (fnVC tab [] (LL tab [] Tryz.f76.ntmps 0 [] 2) Tryz.f76 (nic_Pending_args n) (nic_Pending_rows n) fun d R => canonVC (nic_Pending_rows n).length nic_Pending_dirs d R Q) = (nic_Pending_t n).q (fun X => Q (nic_Pending_enc X) (nic_Pending_out X)) := by kernel_rfl
set_option maxRecDepth 100000 in
theorem nic_Pending_calls (n : ApiNic) : ACalls Tryz.prog 76 (nic_Pending_args n) (nic_Pending_rows n) (nic_Pending_enc (nic_Pending n)) (nic_Pending_out (nic_Pending n)) :=
  have hG : AllOK Tryz.prog [] := .nil
  FnOK.calls drawn tabOK hG Tryz.func76 (LL_ok drawn tabOK hG 2 (invs := [])) (FnOK.of (nic_Pending_nf n _) (Tree.main' (nic_Pending_tot n) ⟨rfl, rfl⟩))
set_option maxRecDepth 100000 in
theorem nic_Pending_conv (args : List D) (rows : List Row) : convA nic_Pending_sig args 0 = nic_Pending_args (ApiNic.of (args.getD 0 .dead).cells) := by kernel_rfl
set_option maxRecDepth 100000 in
theorem nic_Pending_convR (args : List D) (rows : List Row) : convRs nic_Pending_rsig rows 0 = nic_Pending_rows (ApiNic.of (args.getD 0 .dead).cells) := by kernel_rfl
set_option maxRecDepth 100000 in
theorem nic_Pending_ff (X : Bool) : (ffB (nic_Pending_enc X) && ffBR (nic_Pending_out X)) = true := by kernel_rfl
theorem nic_Pending_ok : ModelOK Tryz.prog nic_Pending_m := mkR_ok Tryz.call76 (fun args rows => by rw [nic_Pending_conv args rows, nic_Pending_convR args rows]; exact nic_Pending_calls (ApiNic.of (args.getD 0 .dead).cells)) (fun _ X => nic_Pending_ff X)
def math_bits_OnesCount32_t (x : Int) : Tree Int :=
.cn (decide ((0 : Int) ≤ ishr IntKind.u32 x (24 : Int) ∧ ishr IntKind.u32 x (24 : Int) < (↑(List.length (List.append (List.append tblYc4 tblYc5) (List.append tblYc5 tblYc6))) : Int))) (.cn (decide ((0 : Int) ≤ iand IntKind.u32 (ishr IntKind.u32 x (16 : Int)) (255 : Int) ∧ iand IntKind.u32 (ishr IntKind.u32 x (16 : Int)) (255 : Int) < (↑(List.length (List.append (List.append tblYc4 tblYc5) (List.append tblYc5 tblYc6))) : Int))) (.cn (decide ((0 : Int) ≤ iand IntKind.u32 (ishr IntKind.u32 x (8 : Int)) (255 : Int) ∧ iand IntKind.u32 (ishr IntKind.u32 x (8 : Int)) (255 : Int) < (↑(List.length (List.append (List.append tblYc4 tblYc5) (List.append tblYc5 tblYc6))) : Int))) (.cn (decide ((0 : Int) ≤ iand IntKind.u32 x (255 : Int) ∧ iand IntKind.u32 x (255 : Int) < (↑(List.length (List.append (List.append tblYc4 tblYc5) (List.append tblYc5 tblYc6))) : Int))) (.lf (IntKind.wrap IntKind.i64 (IntKind.wrap IntKind.u8 (IntKind.wrap IntKind.u8 (IntKind.wrap IntKind.u8 ((↑(UInt8.toNat (List.getD ((0 : UInt8) :: (tblYc7 ++ tblYc5 ++ (tblYc5 ++ tblYc6))) (Int.toNat (ishr IntKind.u32 x (24 : Int))) (0 : UInt8))) : Int) + (↑(UInt8.toNat (List.getD ((0 : UInt8) :: (tblYc7 ++ tblYc5 ++ (tblYc5 ++ tblYc6))) (Int.toNat (iand IntKind.u32 (ishr IntKind.u32 x (16 : Int)) (255 : Int))) (0 : UInt8))) : Int)) + (↑(UInt8.toNat (List.getD ((0 : UInt8) :: (tblYc7 ++ tblYc5 ++ (tblYc5 ++ tblYc6))) (Int.toNat (iand IntKind.u32 (ishr IntKind.u32 x (8 : Int)) (255 : Int))) (0 : UInt8))) : Int)) + (↑(UInt8.toNat (List.getD ((0 : UInt8) :: (tblYc7 ++ tblYc5 ++ (tblYc5 ++ tblYc6))) (Int.toNat (iand IntKind.u32 x (255 : Int))) (0 : UInt8))) : Int))))))))
def math_bits_OnesCount32 (x : Int) : Int := (math_bits_OnesCount32_t x).m
abbrev math_bits_OnesCount32_pre (x : Int) : Prop := (math_bits_OnesCount32_t x).p
def math_bits_OnesCount32_args (x : Int) : List D := [.int .u32 x]
def math_bits_OnesCount32_rows (x : Int) : List Row := []
def math_bits_OnesCount32_enc (X : Int) : D := .int .i64 X
def math_bits_OnesCount32_out (X : Int) : List Row := []
def math_bits_OnesCount32_dirs : List Dir := []
def math_bits_OnesCount32_sig : List PT := [.one (.int .u32)]
def math_bits_OnesCount32_rsig : List RT := []
def math_bits_OnesCount32_val (args : List D) (rows : List Row) : Int := math_bits_OnesCount32 (argI args 0)
def math_bits_OnesCount32_prf (args : List D) (rows : List Row) : Prop := math_bits_OnesCount32_pre (argI args 0)
def math_bits_OnesCount32_m : Model := mkP 204 [] true math_bits_OnesCount32_sig math_bits_OnesCount32_rsig math_bits_OnesCount32_prf math_bits_OnesCount32_val math_bits_OnesCount32_enc math_bits_OnesCount32_out
set_option maxRecDepth 100000 in
theorem math_bits_OnesCount32_nf (x : Int) (Q : D → List Row → Prop) : (fnVC tab [] (LL tab [] Tryz.f204.ntmps 0 [] 2) Tryz.f204 (math_bits_OnesCount32_args x) (math_bits_OnesCount32_rows x) fun d R => canonVC (math_bits_OnesCount32_rows x).length math_bits_OnesCount32_dirs d R Q) = (math_bits_OnesCount32_t x).q (fun X => Q (math_bits_OnesCount32_enc X) (math_bits_OnesCount32_out X)) := by kernel_rfl
set_option maxRecDepth 100000 in
theorem math_bits_OnesCount32_calls (x : Int) (hw : math_bits_OnesCount32_pre x) : ACalls Tryz.prog 204 (math_bits_OnesCount32_args x) (math_bits_OnesCount32_rows x) (math_bits_OnesCount32_enc (math_bits_OnesCount32 x)) (math_bits_OnesCount32_out (math_bits_OnesCount32 x)) :=
  have hG : AllOK Tryz.prog [] := .nil
  FnOK.calls drawn tabOK hG Tryz.func204 (LL_ok drawn tabOK hG 2 (invs := [])) (FnOK.of (math_bits_OnesCount32_nf x _) (Tree.main' hw ⟨rfl, rfl⟩))
set_option maxRecDepth 100000 in
theorem math_bits_OnesCount32_conv (args : List D) (rows : List Row) : convA math_bits_OnesCount32_sig args 0 = math_bits_OnesCount32_args (argI args 0) := by kernel_rfl
set_option maxRecDepth 100000 in
theorem math_bits_OnesCount32_convR (args : List D) (rows : List Row) : convRs math_bits_OnesCount32_rsig rows 0 = math_bits_OnesCount32_rows (argI args 0) := by kernel_rfl
set_option maxRecDepth 100000 in
theorem math_bits_OnesCount32_ff (X : Int) : (ffB (math_bits_OnesCount32_enc X) && ffBR (math_bits_OnesCount32_out X)) = true := by kernel_rfl
theorem math_bits_OnesCount32_ok : ModelOK Tryz.prog math_bits_OnesCount32_m := mkP_ok Tryz.call204 (fun args rows hp => by rw [math_bits_OnesCount32_conv args rows, math_bits_OnesCount32_convR args rows]; exact math_bits_OnesCount32_calls (argI args 0) hp) (fun _ X => math_bits_OnesCount32_ff X)
def balloon_Count_t (b : ApiBalloon) : Tree Int :=
.an (math_bits_OnesCount32_pre b.Given) (.lv (math_bits_OnesCount32 b.Given) fun (x0 : Int) => .lf x0)
def balloon_Count (b : ApiBalloon) : Int := (balloon_Count_t b).m
abbrev balloon_Count_pre (b : ApiBalloon) : Prop := (balloon_Count_t b).p
def balloon_Count_args (b : ApiBalloon) : List D := [.agg (ApiBalloon.cells b)]
def balloon_Count_rows (b : ApiBalloon) : List Row := []
def balloon_Count_enc (X : Int) : D := .int .i64 X
def balloon_Count_out (X : Int) : List Row := []
def balloon_Count_dirs : List Dir := []
def balloon_Count_sig : List PT := [.agg ApiBalloon.sig]
def balloon_Count_rsig : List RT := []
def balloon_Count_val (args : List D) (rows : List Row) : Int := balloon_Count (ApiBalloon.of (args.getD 0 .dead).cells)
def balloon_Count_prf (args : List D) (rows : List Row) : Prop := balloon_Count_pre (ApiBalloon.of (args.getD 0 .dead).cells)
def balloon_Count_m : Model := mkP 152 [] true balloon_Count_sig balloon_Count_rsig balloon_Count_prf balloon_Count_val balloon_Count_enc balloon_Count_out
set_option maxRecDepth 100000 in
theorem balloon_Count_nf (b : ApiBalloon) (Q : D → List Row → Prop) : (fnVC tab [math_bits_OnesCount32_m] (LL tab [math_bits_OnesCount32_m] Tryz.f152.ntmps 0 [] 2) Tryz.f152 (balloon_Count_args b) (balloon_Count_rows b) fun d R => canonVC (balloon_Count_rows b).length balloon_Count_dirs d R Q) = (balloon_Count_t b).q (fun X => Q (balloon_Count_enc X) (balloon_Count_out X)) := by kernel_rfl
set_option maxRecDepth 100000 in
theorem balloon_Count_calls (b : ApiBalloon) (hw : balloon_Count_pre b) : ACalls Tryz.prog 152 (balloon_Count_args b) (balloon_Count_rows b) (balloon_Count_enc (balloon_Count b)) (balloon_Count_out (balloon_Count b)) :=
  have hG : AllOK Tryz.prog [math_bits_OnesCount32_m] := .cons math_bits_OnesCount32_ok (.nil)
  FnOK.calls drawn tabOK hG Tryz.func152 (LL_ok drawn tabOK hG 2 (invs := [])) (FnOK.of (balloon_Count_nf b _) (Tree.main' hw ⟨rfl, rfl⟩))
set_option maxRecDepth 100000 in
theorem balloon_Count_conv (args : List D) (rows : List Row) : convA balloon_Count_sig args 0 = balloon_Count_args (ApiBalloon.of (args.getD 0 .dead).cells) := by kernel_rfl
set_option maxRecDepth 100000 in
theorem balloon_Count_convR (args : List D) (rows : List Row) : convRs balloon_Count_rsig rows 0 = balloon_Count_rows (ApiBalloon.of (args.getD 0 .dead).cells) := by kernel_rfl
set_option maxRecDepth 100000 in
theorem balloon_Count_ff (X : Int) : (ffB (balloon_Count_enc X) && ffBR (balloon_Count_out X)) = true := by kernel_rfl
theorem balloon_Count_ok : ModelOK Tryz.prog balloon_Count_m := mkP_ok Tryz.call152 (fun args rows hp => by rw [balloon_Count_conv args rows, balloon_Count_convR args rows]; exact balloon_Count_calls (ApiBalloon.of (args.getD 0 .dead).cells) hp) (fun _ X => balloon_Count_ff X)
def balloon_Pending_t (b : ApiBalloon) : Tree Bool :=
.an (balloon_Count_pre b) (.lv (balloon_Count b) fun (x0 : Int) => .lf (IntKind.wrap IntKind.u32 x0 != b.Target))
def balloon_Pending (b : ApiBalloon) : Bool := (balloon_Pending_t b).m
abbrev balloon_Pending_pre (b : ApiBalloon) : Prop := (balloon_Pending_t b).p
def balloon_Pending_args (b : ApiBalloon) : List D := [.agg (ApiBalloon.cells b)]
def balloon_Pending_rows (b : ApiBalloon) : List Row := []
def balloon_Pending_enc (X : Bool) : D := .bool X
def balloon_Pending_out (X : Bool) : List Row := []
def balloon_Pending_dirs : List Dir := []
def balloon_Pending_sig : List PT := [.agg ApiBalloon.sig]
def balloon_Pending_rsig : List RT := []
def balloon_Pending_val (args : List D) (rows : List Row) : Bool := balloon_Pending (ApiBalloon.of (args.getD 0 .dead).cells)
def balloon_Pending_prf (args : List D) (rows : List Row) : Prop := balloon_Pending_pre (ApiBalloon.of (args.getD 0 .dead).cells)
def balloon_Pending_m : Model := mkP 77 [] true balloon_Pending_sig balloon_Pending_rsig balloon_Pending_prf balloon_Pending_val balloon_Pending_enc balloon_Pending_out
set_option maxRecDepth 100000 in
theorem balloon_Pending_nf (b : ApiBalloon) (Q : D → List Row → Prop) : (fnVC tab [balloon_Count_m] (LL tab [balloon_Count_m] Tryz.f77.ntmps 0 [] 2) Tryz.f77 (balloon_Pending_args b) (balloon_Pending_rows b) fun d R => canonVC (balloon_Pending_rows b).length balloon_Pending_dirs d R Q) = (balloon_Pending_t b).q (fun X => Q (balloon_Pending_enc X) (balloon_Pending_out X)) := by kernel_rfl
set_option maxRecDepth 100000 in
theorem balloon_Pending_calls (b : ApiBalloon) (hw : balloon_Pending_pre b) : ACalls Tryz.prog 77 (balloon_Pending_args b) (balloon_Pending_rows b) (balloon_Pending_enc (balloon_Pending b)) (balloon_Pending_out (balloon_Pending b)) :=
  have hG : AllOK Tryz.prog [balloon_Count_m] := .cons balloon_Count_ok (.nil)
  FnOK.calls drawn tabOK hG Tryz.func77 (LL_ok drawn tabOK hG 2 (invs := [])) (FnOK.of (balloon_Pending_nf b _) (Tree.main' hw ⟨rfl, rfl⟩))
set_option maxRecDepth 100000 in
theorem balloon_Pending_conv (args : List D) (rows : List Row) : convA balloon_Pending_sig args 0 = balloon_Pending_args (ApiBalloon.of (args.getD 0 .dead).cells) := by kernel_rfl
set_option maxRecDepth 100000 in
theorem balloon_Pending_convR (args : List D) (rows : List Row) : convRs balloon_Pending_rsig rows 0 = balloon_Pending_rows (ApiBalloon.of (args.getD 0 .dead).cells) := by kernel_rfl
set_option maxRecDepth 100000 in
theorem balloon_Pending_ff (X : Bool) : (ffB (balloon_Pending_enc X) && ffBR (balloon_Pending_out X)) = true := by kernel_rfl
theorem balloon_Pending_ok : ModelOK Tryz.prog balloon_Pending_m := mkP_ok Tryz.call77 (fun args rows hp => by rw [balloon_Pending_conv args rows, balloon_Pending_convR args rows]; exact balloon_Pending_calls (ApiBalloon.of (args.getD 0 .dead).cells) hp) (fun _ X => balloon_Pending_ff X)
def machine_Lines_inv0 (m : ApiMachine) (z : (Int) × (Int)) : Prop := 0 ≤ z.2 ∧ z.2 ≤ 5
def machine_Lines_meas0 (m : ApiMachine) (z : (Int) × (Int)) : Nat := (5 - z.2).toNat
def machine_Lines_t (m : ApiMachine) : Tree Int :=
.lv (timer_Pending m.Timer) fun (x0 : Bool) => .lv (console_Pending m.Console) fun (x1 : Bool) => .lv (disk_Pending m.Disk) fun (x2 : Bool) => .lv (nic_Pending m.Nic) fun (x3 : Bool) => .an (balloon_Pending_pre m.Balloon) (.lv (balloon_Pending m.Balloon) fun (x4 : Bool) => .lp inferInstance (machine_Lines_inv0 m) (machine_Lines_meas0 m) (((eqAt Int m.Cpu.X.a0 m.Cpu.X.a0 ∧ eqAt Int m.Cpu.X.a1 m.Cpu.X.a1 ∧ eqAt Int m.Cpu.X.a2 m.Cpu.X.a2 ∧ eqAt Int m.Cpu.X.a3 m.Cpu.X.a3 ∧ eqAt Int m.Cpu.X.a4 m.Cpu.X.a4 ∧ eqAt Int m.Cpu.X.a5 m.Cpu.X.a5 ∧ eqAt Int m.Cpu.X.a6 m.Cpu.X.a6 ∧ eqAt Int m.Cpu.X.a7 m.Cpu.X.a7 ∧ eqAt Int m.Cpu.X.a8 m.Cpu.X.a8 ∧ eqAt Int m.Cpu.X.a9 m.Cpu.X.a9 ∧ eqAt Int m.Cpu.X.a10 m.Cpu.X.a10 ∧ eqAt Int m.Cpu.X.a11 m.Cpu.X.a11 ∧ eqAt Int m.Cpu.X.a12 m.Cpu.X.a12 ∧ eqAt Int m.Cpu.X.a13 m.Cpu.X.a13 ∧ eqAt Int m.Cpu.X.a14 m.Cpu.X.a14 ∧ eqAt Int m.Cpu.X.a15 m.Cpu.X.a15 ∧ eqAt Int m.Cpu.Pc m.Cpu.Pc ∧ eqAt Int m.Cpu.Csr.a0 m.Cpu.Csr.a0 ∧ eqAt Int m.Cpu.Csr.a1 m.Cpu.Csr.a1 ∧ eqAt Int m.Cpu.Csr.a2 m.Cpu.Csr.a2 ∧ eqAt Int m.Cpu.Csr.a3 m.Cpu.Csr.a3 ∧ eqAt Int m.Cpu.Csr.a4 m.Cpu.Csr.a4 ∧ eqAt Int m.Cpu.Csr.a5 m.Cpu.Csr.a5 ∧ eqAt Int m.Cpu.Csr.a6 m.Cpu.Csr.a6 ∧ eqAt Int m.Cpu.Csr.a7 m.Cpu.Csr.a7 ∧ ((Els.Nil (Els.ints IntKind.u32 m.Mem) ∨ eqAt Nat (1 : Nat) (1 : Nat)) ∧ eqAt (List Int) m.Mem m.Mem) ∧ eqAt (List UInt8) m.Console.Keys m.Console.Keys ∧ eqAt Bool m.Timer.Armed m.Timer.Armed ∧ eqAt Int m.Timer.Deadline m.Timer.Deadline ∧ eqAt Bool m.Timer.Fired m.Timer.Fired ∧ eqAt Int m.Disk.Blocks m.Disk.Blocks ∧ eqAt Int m.Disk.Block m.Disk.Block ∧ eqAt Int m.Disk.Frame m.Disk.Frame ∧ eqAt Int m.Disk.State m.Disk.State ∧ eqAt Int m.Disk.Cmd m.Disk.Cmd ∧ eqAt Int m.Disk.OpBlock m.Disk.OpBlock ∧ eqAt Int m.Disk.OpFrame m.Disk.OpFrame ∧ eqAt (List UInt8) m.Disk.OpData m.Disk.OpData ∧ eqAt Int m.Nic.Frame m.Nic.Frame ∧ eqAt Int m.Nic.Len m.Nic.Len ∧ eqAt Bool m.Nic.Posted m.Nic.Posted ∧ eqAt Int m.Nic.Buffer m.Nic.Buffer ∧ eqAt Bool m.Nic.Received m.Nic.Received ∧ eqAt Int m.Nic.Got m.Nic.Got ∧ eqAt Int m.Balloon.Target m.Balloon.Target ∧ eqAt Int m.Balloon.Given m.Balloon.Given ∧ eqAt Int m.Count m.Count ∧ eqAt Bool m.Waiting m.Waiting ∧ eqAt Bool m.Halted m.Halted ∧ True) ∧ (eqAt Nat (nat_lit 0) (nat_lit 0) ∧ eqAt Nat (nat_lit 0) (nat_lit 0)) ∧ eqAt Int (0 : Int) (0 : Int) ∧ (eqAt Nat (nat_lit 0) (nat_lit 0) ∧ eqAt Nat (nat_lit 0) (nat_lit 0)) ∧ eqAt Int (0 : Int) (0 : Int) ∧ (eqAt Nat (nat_lit 0) (nat_lit 0) ∧ eqAt Nat (nat_lit 27) (nat_lit 27)) ∧ (eqAt Bool m.Timer.Armed m.Timer.Armed ∧ eqAt Int m.Timer.Deadline m.Timer.Deadline ∧ eqAt Bool m.Timer.Fired m.Timer.Fired ∧ True) ∧ eqAt Bool x0 x0 ∧ (eqAt Nat (nat_lit 0) (nat_lit 0) ∧ eqAt Nat (nat_lit 26) (nat_lit 26)) ∧ (eqAt (List UInt8) m.Console.Keys m.Console.Keys ∧ True) ∧ eqAt Bool x1 x1 ∧ (eqAt Nat (nat_lit 0) (nat_lit 0) ∧ eqAt Nat (nat_lit 30) (nat_lit 30)) ∧ (eqAt Int m.Disk.Blocks m.Disk.Blocks ∧ eqAt Int m.Disk.Block m.Disk.Block ∧ eqAt Int m.Disk.Frame m.Disk.Frame ∧ eqAt Int m.Disk.State m.Disk.State ∧ eqAt Int m.Disk.Cmd m.Disk.Cmd ∧ eqAt Int m.Disk.OpBlock m.Disk.OpBlock ∧ eqAt Int m.Disk.OpFrame m.Disk.OpFrame ∧ eqAt (List UInt8) m.Disk.OpData m.Disk.OpData ∧ True) ∧ eqAt Bool x2 x2 ∧ (eqAt Nat (nat_lit 0) (nat_lit 0) ∧ eqAt Nat (nat_lit 38) (nat_lit 38)) ∧ (eqAt Int m.Nic.Frame m.Nic.Frame ∧ eqAt Int m.Nic.Len m.Nic.Len ∧ eqAt Bool m.Nic.Posted m.Nic.Posted ∧ eqAt Int m.Nic.Buffer m.Nic.Buffer ∧ eqAt Bool m.Nic.Received m.Nic.Received ∧ eqAt Int m.Nic.Got m.Nic.Got ∧ True) ∧ eqAt Bool x3 x3 ∧ (eqAt Nat (nat_lit 0) (nat_lit 0) ∧ eqAt Nat (nat_lit 44) (nat_lit 44)) ∧ (eqAt Int m.Balloon.Target m.Balloon.Target ∧ eqAt Int m.Balloon.Given m.Balloon.Given ∧ True) ∧ eqAt Bool x4 x4 ∧ (eqAt Bool x0 x0 ∧ eqAt Bool x1 x1 ∧ eqAt Bool x2 x2 ∧ eqAt Bool x3 x3 ∧ eqAt Bool x4 x4 ∧ True) ∧ (eqAt Bool x0 x0 ∧ eqAt Bool x1 x1 ∧ eqAt Bool x2 x2 ∧ eqAt Bool x3 x3 ∧ eqAt Bool x4 x4 ∧ True) ∧ eqAt Int (0 : Int) (0 : Int) ∧ True) ∧ (eqAt Int m.Cpu.X.a0 m.Cpu.X.a0 ∧ eqAt Int m.Cpu.X.a1 m.Cpu.X.a1 ∧ eqAt Int m.Cpu.X.a2 m.Cpu.X.a2 ∧ eqAt Int m.Cpu.X.a3 m.Cpu.X.a3 ∧ eqAt Int m.Cpu.X.a4 m.Cpu.X.a4 ∧ eqAt Int m.Cpu.X.a5 m.Cpu.X.a5 ∧ eqAt Int m.Cpu.X.a6 m.Cpu.X.a6 ∧ eqAt Int m.Cpu.X.a7 m.Cpu.X.a7 ∧ eqAt Int m.Cpu.X.a8 m.Cpu.X.a8 ∧ eqAt Int m.Cpu.X.a9 m.Cpu.X.a9 ∧ eqAt Int m.Cpu.X.a10 m.Cpu.X.a10 ∧ eqAt Int m.Cpu.X.a11 m.Cpu.X.a11 ∧ eqAt Int m.Cpu.X.a12 m.Cpu.X.a12 ∧ eqAt Int m.Cpu.X.a13 m.Cpu.X.a13 ∧ eqAt Int m.Cpu.X.a14 m.Cpu.X.a14 ∧ eqAt Int m.Cpu.X.a15 m.Cpu.X.a15 ∧ eqAt Int m.Cpu.Pc m.Cpu.Pc ∧ eqAt Int m.Cpu.Csr.a0 m.Cpu.Csr.a0 ∧ eqAt Int m.Cpu.Csr.a1 m.Cpu.Csr.a1 ∧ eqAt Int m.Cpu.Csr.a2 m.Cpu.Csr.a2 ∧ eqAt Int m.Cpu.Csr.a3 m.Cpu.Csr.a3 ∧ eqAt Int m.Cpu.Csr.a4 m.Cpu.Csr.a4 ∧ eqAt Int m.Cpu.Csr.a5 m.Cpu.Csr.a5 ∧ eqAt Int m.Cpu.Csr.a6 m.Cpu.Csr.a6 ∧ eqAt Int m.Cpu.Csr.a7 m.Cpu.Csr.a7 ∧ ((Els.Nil (Els.ints IntKind.u32 m.Mem) ∨ eqAt Nat (1 : Nat) (1 : Nat)) ∧ eqAt (List Int) m.Mem m.Mem) ∧ eqAt (List UInt8) m.Console.Keys m.Console.Keys ∧ eqAt Bool m.Timer.Armed m.Timer.Armed ∧ eqAt Int m.Timer.Deadline m.Timer.Deadline ∧ eqAt Bool m.Timer.Fired m.Timer.Fired ∧ eqAt Int m.Disk.Blocks m.Disk.Blocks ∧ eqAt Int m.Disk.Block m.Disk.Block ∧ eqAt Int m.Disk.Frame m.Disk.Frame ∧ eqAt Int m.Disk.State m.Disk.State ∧ eqAt Int m.Disk.Cmd m.Disk.Cmd ∧ eqAt Int m.Disk.OpBlock m.Disk.OpBlock ∧ eqAt Int m.Disk.OpFrame m.Disk.OpFrame ∧ eqAt (List UInt8) m.Disk.OpData m.Disk.OpData ∧ eqAt Int m.Nic.Frame m.Nic.Frame ∧ eqAt Int m.Nic.Len m.Nic.Len ∧ eqAt Bool m.Nic.Posted m.Nic.Posted ∧ eqAt Int m.Nic.Buffer m.Nic.Buffer ∧ eqAt Bool m.Nic.Received m.Nic.Received ∧ eqAt Int m.Nic.Got m.Nic.Got ∧ eqAt Int m.Balloon.Target m.Balloon.Target ∧ eqAt Int m.Balloon.Given m.Balloon.Given ∧ eqAt Int m.Count m.Count ∧ eqAt Bool m.Waiting m.Waiting ∧ eqAt Bool m.Halted m.Halted ∧ True) ∧ (eqAt Bool x0 x0 ∧ eqAt Bool x1 x1 ∧ eqAt Bool x2 x2 ∧ eqAt Bool x3 x3 ∧ eqAt Bool x4 x4 ∧ True) ∧ True) ((0 : Int), (0 : Int)) fun (v0 : Int × Int) => .br (decide (v0.snd < (5 : Int))) (.cn (Nat.beq (1 : Nat) (1 : Nat) && (Nat.beq (List.length [D.bool x0, D.bool x1, D.bool x2, D.bool x3, D.bool x4]) (5 : Nat) && decide ((0 : Int) ≤ v0.snd ∧ v0.snd < (↑(5 : Nat) : Int)))) (.br (List.getD [x0, x1, x2, x3, x4] (Int.toNat v0.snd) false) (.cn (decide ((0 : Int) ≤ v0.snd)) (.nx (((eqAt Int m.Cpu.X.a0 m.Cpu.X.a0 ∧ eqAt Int m.Cpu.X.a1 m.Cpu.X.a1 ∧ eqAt Int m.Cpu.X.a2 m.Cpu.X.a2 ∧ eqAt Int m.Cpu.X.a3 m.Cpu.X.a3 ∧ eqAt Int m.Cpu.X.a4 m.Cpu.X.a4 ∧ eqAt Int m.Cpu.X.a5 m.Cpu.X.a5 ∧ eqAt Int m.Cpu.X.a6 m.Cpu.X.a6 ∧ eqAt Int m.Cpu.X.a7 m.Cpu.X.a7 ∧ eqAt Int m.Cpu.X.a8 m.Cpu.X.a8 ∧ eqAt Int m.Cpu.X.a9 m.Cpu.X.a9 ∧ eqAt Int m.Cpu.X.a10 m.Cpu.X.a10 ∧ eqAt Int m.Cpu.X.a11 m.Cpu.X.a11 ∧ eqAt Int m.Cpu.X.a12 m.Cpu.X.a12 ∧ eqAt Int m.Cpu.X.a13 m.Cpu.X.a13 ∧ eqAt Int m.Cpu.X.a14 m.Cpu.X.a14 ∧ eqAt Int m.Cpu.X.a15 m.Cpu.X.a15 ∧ eqAt Int m.Cpu.Pc m.Cpu.Pc ∧ eqAt Int m.Cpu.Csr.a0 m.Cpu.Csr.a0 ∧ eqAt Int m.Cpu.Csr.a1 m.Cpu.Csr.a1 ∧ eqAt Int m.Cpu.Csr.a2 m.Cpu.Csr.a2 ∧ eqAt Int m.Cpu.Csr.a3 m.Cpu.Csr.a3 ∧ eqAt Int m.Cpu.Csr.a4 m.Cpu.Csr.a4 ∧ eqAt Int m.Cpu.Csr.a5 m.Cpu.Csr.a5 ∧ eqAt Int m.Cpu.Csr.a6 m.Cpu.Csr.a6 ∧ eqAt Int m.Cpu.Csr.a7 m.Cpu.Csr.a7 ∧ ((Els.Nil (Els.ints IntKind.u32 m.Mem) ∨ eqAt Nat (1 : Nat) (1 : Nat)) ∧ eqAt (List Int) m.Mem m.Mem) ∧ eqAt (List UInt8) m.Console.Keys m.Console.Keys ∧ eqAt Bool m.Timer.Armed m.Timer.Armed ∧ eqAt Int m.Timer.Deadline m.Timer.Deadline ∧ eqAt Bool m.Timer.Fired m.Timer.Fired ∧ eqAt Int m.Disk.Blocks m.Disk.Blocks ∧ eqAt Int m.Disk.Block m.Disk.Block ∧ eqAt Int m.Disk.Frame m.Disk.Frame ∧ eqAt Int m.Disk.State m.Disk.State ∧ eqAt Int m.Disk.Cmd m.Disk.Cmd ∧ eqAt Int m.Disk.OpBlock m.Disk.OpBlock ∧ eqAt Int m.Disk.OpFrame m.Disk.OpFrame ∧ eqAt (List UInt8) m.Disk.OpData m.Disk.OpData ∧ eqAt Int m.Nic.Frame m.Nic.Frame ∧ eqAt Int m.Nic.Len m.Nic.Len ∧ eqAt Bool m.Nic.Posted m.Nic.Posted ∧ eqAt Int m.Nic.Buffer m.Nic.Buffer ∧ eqAt Bool m.Nic.Received m.Nic.Received ∧ eqAt Int m.Nic.Got m.Nic.Got ∧ eqAt Int m.Balloon.Target m.Balloon.Target ∧ eqAt Int m.Balloon.Given m.Balloon.Given ∧ eqAt Int m.Count m.Count ∧ eqAt Bool m.Waiting m.Waiting ∧ eqAt Bool m.Halted m.Halted ∧ True) ∧ (eqAt Nat (nat_lit 0) (nat_lit 0) ∧ eqAt Nat (nat_lit 0) (nat_lit 0)) ∧ eqAt Int (0 : Int) (0 : Int) ∧ (eqAt Nat (nat_lit 0) (nat_lit 0) ∧ eqAt Nat (nat_lit 0) (nat_lit 0)) ∧ eqAt Int (ior IntKind.u32 v0.fst (ishl IntKind.u32 (1 : Int) v0.snd)) (ior IntKind.u32 v0.fst (ishl IntKind.u32 (1 : Int) v0.snd)) ∧ (eqAt Nat (nat_lit 0) (nat_lit 0) ∧ eqAt Nat (nat_lit 27) (nat_lit 27)) ∧ (eqAt Bool m.Timer.Armed m.Timer.Armed ∧ eqAt Int m.Timer.Deadline m.Timer.Deadline ∧ eqAt Bool m.Timer.Fired m.Timer.Fired ∧ True) ∧ eqAt Bool x0 x0 ∧ (eqAt Nat (nat_lit 0) (nat_lit 0) ∧ eqAt Nat (nat_lit 26) (nat_lit 26)) ∧ (eqAt (List UInt8) m.Console.Keys m.Console.Keys ∧ True) ∧ eqAt Bool x1 x1 ∧ (eqAt Nat (nat_lit 0) (nat_lit 0) ∧ eqAt Nat (nat_lit 30) (nat_lit 30)) ∧ (eqAt Int m.Disk.Blocks m.Disk.Blocks ∧ eqAt Int m.Disk.Block m.Disk.Block ∧ eqAt Int m.Disk.Frame m.Disk.Frame ∧ eqAt Int m.Disk.State m.Disk.State ∧ eqAt Int m.Disk.Cmd m.Disk.Cmd ∧ eqAt Int m.Disk.OpBlock m.Disk.OpBlock ∧ eqAt Int m.Disk.OpFrame m.Disk.OpFrame ∧ eqAt (List UInt8) m.Disk.OpData m.Disk.OpData ∧ True) ∧ eqAt Bool x2 x2 ∧ (eqAt Nat (nat_lit 0) (nat_lit 0) ∧ eqAt Nat (nat_lit 38) (nat_lit 38)) ∧ (eqAt Int m.Nic.Frame m.Nic.Frame ∧ eqAt Int m.Nic.Len m.Nic.Len ∧ eqAt Bool m.Nic.Posted m.Nic.Posted ∧ eqAt Int m.Nic.Buffer m.Nic.Buffer ∧ eqAt Bool m.Nic.Received m.Nic.Received ∧ eqAt Int m.Nic.Got m.Nic.Got ∧ True) ∧ eqAt Bool x3 x3 ∧ (eqAt Nat (nat_lit 0) (nat_lit 0) ∧ eqAt Nat (nat_lit 44) (nat_lit 44)) ∧ (eqAt Int m.Balloon.Target m.Balloon.Target ∧ eqAt Int m.Balloon.Given m.Balloon.Given ∧ True) ∧ eqAt Bool x4 x4 ∧ (eqAt Bool x0 x0 ∧ eqAt Bool x1 x1 ∧ eqAt Bool x2 x2 ∧ eqAt Bool x3 x3 ∧ eqAt Bool x4 x4 ∧ True) ∧ (eqAt Bool x0 x0 ∧ eqAt Bool x1 x1 ∧ eqAt Bool x2 x2 ∧ eqAt Bool x3 x3 ∧ eqAt Bool x4 x4 ∧ True) ∧ eqAt Int (IntKind.wrap IntKind.i64 (v0.snd + (1 : Int))) (IntKind.wrap IntKind.i64 (v0.snd + (1 : Int))) ∧ True) ∧ (eqAt Int m.Cpu.X.a0 m.Cpu.X.a0 ∧ eqAt Int m.Cpu.X.a1 m.Cpu.X.a1 ∧ eqAt Int m.Cpu.X.a2 m.Cpu.X.a2 ∧ eqAt Int m.Cpu.X.a3 m.Cpu.X.a3 ∧ eqAt Int m.Cpu.X.a4 m.Cpu.X.a4 ∧ eqAt Int m.Cpu.X.a5 m.Cpu.X.a5 ∧ eqAt Int m.Cpu.X.a6 m.Cpu.X.a6 ∧ eqAt Int m.Cpu.X.a7 m.Cpu.X.a7 ∧ eqAt Int m.Cpu.X.a8 m.Cpu.X.a8 ∧ eqAt Int m.Cpu.X.a9 m.Cpu.X.a9 ∧ eqAt Int m.Cpu.X.a10 m.Cpu.X.a10 ∧ eqAt Int m.Cpu.X.a11 m.Cpu.X.a11 ∧ eqAt Int m.Cpu.X.a12 m.Cpu.X.a12 ∧ eqAt Int m.Cpu.X.a13 m.Cpu.X.a13 ∧ eqAt Int m.Cpu.X.a14 m.Cpu.X.a14 ∧ eqAt Int m.Cpu.X.a15 m.Cpu.X.a15 ∧ eqAt Int m.Cpu.Pc m.Cpu.Pc ∧ eqAt Int m.Cpu.Csr.a0 m.Cpu.Csr.a0 ∧ eqAt Int m.Cpu.Csr.a1 m.Cpu.Csr.a1 ∧ eqAt Int m.Cpu.Csr.a2 m.Cpu.Csr.a2 ∧ eqAt Int m.Cpu.Csr.a3 m.Cpu.Csr.a3 ∧ eqAt Int m.Cpu.Csr.a4 m.Cpu.Csr.a4 ∧ eqAt Int m.Cpu.Csr.a5 m.Cpu.Csr.a5 ∧ eqAt Int m.Cpu.Csr.a6 m.Cpu.Csr.a6 ∧ eqAt Int m.Cpu.Csr.a7 m.Cpu.Csr.a7 ∧ ((Els.Nil (Els.ints IntKind.u32 m.Mem) ∨ eqAt Nat (1 : Nat) (1 : Nat)) ∧ eqAt (List Int) m.Mem m.Mem) ∧ eqAt (List UInt8) m.Console.Keys m.Console.Keys ∧ eqAt Bool m.Timer.Armed m.Timer.Armed ∧ eqAt Int m.Timer.Deadline m.Timer.Deadline ∧ eqAt Bool m.Timer.Fired m.Timer.Fired ∧ eqAt Int m.Disk.Blocks m.Disk.Blocks ∧ eqAt Int m.Disk.Block m.Disk.Block ∧ eqAt Int m.Disk.Frame m.Disk.Frame ∧ eqAt Int m.Disk.State m.Disk.State ∧ eqAt Int m.Disk.Cmd m.Disk.Cmd ∧ eqAt Int m.Disk.OpBlock m.Disk.OpBlock ∧ eqAt Int m.Disk.OpFrame m.Disk.OpFrame ∧ eqAt (List UInt8) m.Disk.OpData m.Disk.OpData ∧ eqAt Int m.Nic.Frame m.Nic.Frame ∧ eqAt Int m.Nic.Len m.Nic.Len ∧ eqAt Bool m.Nic.Posted m.Nic.Posted ∧ eqAt Int m.Nic.Buffer m.Nic.Buffer ∧ eqAt Bool m.Nic.Received m.Nic.Received ∧ eqAt Int m.Nic.Got m.Nic.Got ∧ eqAt Int m.Balloon.Target m.Balloon.Target ∧ eqAt Int m.Balloon.Given m.Balloon.Given ∧ eqAt Int m.Count m.Count ∧ eqAt Bool m.Waiting m.Waiting ∧ eqAt Bool m.Halted m.Halted ∧ True) ∧ (eqAt Bool x0 x0 ∧ eqAt Bool x1 x1 ∧ eqAt Bool x2 x2 ∧ eqAt Bool x3 x3 ∧ eqAt Bool x4 x4 ∧ True) ∧ True) (Sum.inl (ior IntKind.u32 v0.fst (ishl IntKind.u32 (1 : Int) v0.snd), IntKind.wrap IntKind.i64 (v0.snd + (1 : Int)))))) (.nx (((eqAt Int m.Cpu.X.a0 m.Cpu.X.a0 ∧ eqAt Int m.Cpu.X.a1 m.Cpu.X.a1 ∧ eqAt Int m.Cpu.X.a2 m.Cpu.X.a2 ∧ eqAt Int m.Cpu.X.a3 m.Cpu.X.a3 ∧ eqAt Int m.Cpu.X.a4 m.Cpu.X.a4 ∧ eqAt Int m.Cpu.X.a5 m.Cpu.X.a5 ∧ eqAt Int m.Cpu.X.a6 m.Cpu.X.a6 ∧ eqAt Int m.Cpu.X.a7 m.Cpu.X.a7 ∧ eqAt Int m.Cpu.X.a8 m.Cpu.X.a8 ∧ eqAt Int m.Cpu.X.a9 m.Cpu.X.a9 ∧ eqAt Int m.Cpu.X.a10 m.Cpu.X.a10 ∧ eqAt Int m.Cpu.X.a11 m.Cpu.X.a11 ∧ eqAt Int m.Cpu.X.a12 m.Cpu.X.a12 ∧ eqAt Int m.Cpu.X.a13 m.Cpu.X.a13 ∧ eqAt Int m.Cpu.X.a14 m.Cpu.X.a14 ∧ eqAt Int m.Cpu.X.a15 m.Cpu.X.a15 ∧ eqAt Int m.Cpu.Pc m.Cpu.Pc ∧ eqAt Int m.Cpu.Csr.a0 m.Cpu.Csr.a0 ∧ eqAt Int m.Cpu.Csr.a1 m.Cpu.Csr.a1 ∧ eqAt Int m.Cpu.Csr.a2 m.Cpu.Csr.a2 ∧ eqAt Int m.Cpu.Csr.a3 m.Cpu.Csr.a3 ∧ eqAt Int m.Cpu.Csr.a4 m.Cpu.Csr.a4 ∧ eqAt Int m.Cpu.Csr.a5 m.Cpu.Csr.a5 ∧ eqAt Int m.Cpu.Csr.a6 m.Cpu.Csr.a6 ∧ eqAt Int m.Cpu.Csr.a7 m.Cpu.Csr.a7 ∧ ((Els.Nil (Els.ints IntKind.u32 m.Mem) ∨ eqAt Nat (1 : Nat) (1 : Nat)) ∧ eqAt (List Int) m.Mem m.Mem) ∧ eqAt (List UInt8) m.Console.Keys m.Console.Keys ∧ eqAt Bool m.Timer.Armed m.Timer.Armed ∧ eqAt Int m.Timer.Deadline m.Timer.Deadline ∧ eqAt Bool m.Timer.Fired m.Timer.Fired ∧ eqAt Int m.Disk.Blocks m.Disk.Blocks ∧ eqAt Int m.Disk.Block m.Disk.Block ∧ eqAt Int m.Disk.Frame m.Disk.Frame ∧ eqAt Int m.Disk.State m.Disk.State ∧ eqAt Int m.Disk.Cmd m.Disk.Cmd ∧ eqAt Int m.Disk.OpBlock m.Disk.OpBlock ∧ eqAt Int m.Disk.OpFrame m.Disk.OpFrame ∧ eqAt (List UInt8) m.Disk.OpData m.Disk.OpData ∧ eqAt Int m.Nic.Frame m.Nic.Frame ∧ eqAt Int m.Nic.Len m.Nic.Len ∧ eqAt Bool m.Nic.Posted m.Nic.Posted ∧ eqAt Int m.Nic.Buffer m.Nic.Buffer ∧ eqAt Bool m.Nic.Received m.Nic.Received ∧ eqAt Int m.Nic.Got m.Nic.Got ∧ eqAt Int m.Balloon.Target m.Balloon.Target ∧ eqAt Int m.Balloon.Given m.Balloon.Given ∧ eqAt Int m.Count m.Count ∧ eqAt Bool m.Waiting m.Waiting ∧ eqAt Bool m.Halted m.Halted ∧ True) ∧ (eqAt Nat (nat_lit 0) (nat_lit 0) ∧ eqAt Nat (nat_lit 0) (nat_lit 0)) ∧ eqAt Int (0 : Int) (0 : Int) ∧ (eqAt Nat (nat_lit 0) (nat_lit 0) ∧ eqAt Nat (nat_lit 0) (nat_lit 0)) ∧ eqAt Int v0.fst v0.fst ∧ (eqAt Nat (nat_lit 0) (nat_lit 0) ∧ eqAt Nat (nat_lit 27) (nat_lit 27)) ∧ (eqAt Bool m.Timer.Armed m.Timer.Armed ∧ eqAt Int m.Timer.Deadline m.Timer.Deadline ∧ eqAt Bool m.Timer.Fired m.Timer.Fired ∧ True) ∧ eqAt Bool x0 x0 ∧ (eqAt Nat (nat_lit 0) (nat_lit 0) ∧ eqAt Nat (nat_lit 26) (nat_lit 26)) ∧ (eqAt (List UInt8) m.Console.Keys m.Console.Keys ∧ True) ∧ eqAt Bool x1 x1 ∧ (eqAt Nat (nat_lit 0) (nat_lit 0) ∧ eqAt Nat (nat_lit 30) (nat_lit 30)) ∧ (eqAt Int m.Disk.Blocks m.Disk.Blocks ∧ eqAt Int m.Disk.Block m.Disk.Block ∧ eqAt Int m.Disk.Frame m.Disk.Frame ∧ eqAt Int m.Disk.State m.Disk.State ∧ eqAt Int m.Disk.Cmd m.Disk.Cmd ∧ eqAt Int m.Disk.OpBlock m.Disk.OpBlock ∧ eqAt Int m.Disk.OpFrame m.Disk.OpFrame ∧ eqAt (List UInt8) m.Disk.OpData m.Disk.OpData ∧ True) ∧ eqAt Bool x2 x2 ∧ (eqAt Nat (nat_lit 0) (nat_lit 0) ∧ eqAt Nat (nat_lit 38) (nat_lit 38)) ∧ (eqAt Int m.Nic.Frame m.Nic.Frame ∧ eqAt Int m.Nic.Len m.Nic.Len ∧ eqAt Bool m.Nic.Posted m.Nic.Posted ∧ eqAt Int m.Nic.Buffer m.Nic.Buffer ∧ eqAt Bool m.Nic.Received m.Nic.Received ∧ eqAt Int m.Nic.Got m.Nic.Got ∧ True) ∧ eqAt Bool x3 x3 ∧ (eqAt Nat (nat_lit 0) (nat_lit 0) ∧ eqAt Nat (nat_lit 44) (nat_lit 44)) ∧ (eqAt Int m.Balloon.Target m.Balloon.Target ∧ eqAt Int m.Balloon.Given m.Balloon.Given ∧ True) ∧ eqAt Bool x4 x4 ∧ (eqAt Bool x0 x0 ∧ eqAt Bool x1 x1 ∧ eqAt Bool x2 x2 ∧ eqAt Bool x3 x3 ∧ eqAt Bool x4 x4 ∧ True) ∧ (eqAt Bool x0 x0 ∧ eqAt Bool x1 x1 ∧ eqAt Bool x2 x2 ∧ eqAt Bool x3 x3 ∧ eqAt Bool x4 x4 ∧ True) ∧ eqAt Int (IntKind.wrap IntKind.i64 (v0.snd + (1 : Int))) (IntKind.wrap IntKind.i64 (v0.snd + (1 : Int))) ∧ True) ∧ (eqAt Int m.Cpu.X.a0 m.Cpu.X.a0 ∧ eqAt Int m.Cpu.X.a1 m.Cpu.X.a1 ∧ eqAt Int m.Cpu.X.a2 m.Cpu.X.a2 ∧ eqAt Int m.Cpu.X.a3 m.Cpu.X.a3 ∧ eqAt Int m.Cpu.X.a4 m.Cpu.X.a4 ∧ eqAt Int m.Cpu.X.a5 m.Cpu.X.a5 ∧ eqAt Int m.Cpu.X.a6 m.Cpu.X.a6 ∧ eqAt Int m.Cpu.X.a7 m.Cpu.X.a7 ∧ eqAt Int m.Cpu.X.a8 m.Cpu.X.a8 ∧ eqAt Int m.Cpu.X.a9 m.Cpu.X.a9 ∧ eqAt Int m.Cpu.X.a10 m.Cpu.X.a10 ∧ eqAt Int m.Cpu.X.a11 m.Cpu.X.a11 ∧ eqAt Int m.Cpu.X.a12 m.Cpu.X.a12 ∧ eqAt Int m.Cpu.X.a13 m.Cpu.X.a13 ∧ eqAt Int m.Cpu.X.a14 m.Cpu.X.a14 ∧ eqAt Int m.Cpu.X.a15 m.Cpu.X.a15 ∧ eqAt Int m.Cpu.Pc m.Cpu.Pc ∧ eqAt Int m.Cpu.Csr.a0 m.Cpu.Csr.a0 ∧ eqAt Int m.Cpu.Csr.a1 m.Cpu.Csr.a1 ∧ eqAt Int m.Cpu.Csr.a2 m.Cpu.Csr.a2 ∧ eqAt Int m.Cpu.Csr.a3 m.Cpu.Csr.a3 ∧ eqAt Int m.Cpu.Csr.a4 m.Cpu.Csr.a4 ∧ eqAt Int m.Cpu.Csr.a5 m.Cpu.Csr.a5 ∧ eqAt Int m.Cpu.Csr.a6 m.Cpu.Csr.a6 ∧ eqAt Int m.Cpu.Csr.a7 m.Cpu.Csr.a7 ∧ ((Els.Nil (Els.ints IntKind.u32 m.Mem) ∨ eqAt Nat (1 : Nat) (1 : Nat)) ∧ eqAt (List Int) m.Mem m.Mem) ∧ eqAt (List UInt8) m.Console.Keys m.Console.Keys ∧ eqAt Bool m.Timer.Armed m.Timer.Armed ∧ eqAt Int m.Timer.Deadline m.Timer.Deadline ∧ eqAt Bool m.Timer.Fired m.Timer.Fired ∧ eqAt Int m.Disk.Blocks m.Disk.Blocks ∧ eqAt Int m.Disk.Block m.Disk.Block ∧ eqAt Int m.Disk.Frame m.Disk.Frame ∧ eqAt Int m.Disk.State m.Disk.State ∧ eqAt Int m.Disk.Cmd m.Disk.Cmd ∧ eqAt Int m.Disk.OpBlock m.Disk.OpBlock ∧ eqAt Int m.Disk.OpFrame m.Disk.OpFrame ∧ eqAt (List UInt8) m.Disk.OpData m.Disk.OpData ∧ eqAt Int m.Nic.Frame m.Nic.Frame ∧ eqAt Int m.Nic.Len m.Nic.Len ∧ eqAt Bool m.Nic.Posted m.Nic.Posted ∧ eqAt Int m.Nic.Buffer m.Nic.Buffer ∧ eqAt Bool m.Nic.Received m.Nic.Received ∧ eqAt Int m.Nic.Got m.Nic.Got ∧ eqAt Int m.Balloon.Target m.Balloon.Target ∧ eqAt Int m.Balloon.Given m.Balloon.Given ∧ eqAt Int m.Count m.Count ∧ eqAt Bool m.Waiting m.Waiting ∧ eqAt Bool m.Halted m.Halted ∧ True) ∧ (eqAt Bool x0 x0 ∧ eqAt Bool x1 x1 ∧ eqAt Bool x2 x2 ∧ eqAt Bool x3 x3 ∧ eqAt Bool x4 x4 ∧ True) ∧ True) (Sum.inl (v0.fst, IntKind.wrap IntKind.i64 (v0.snd + (1 : Int))))))) (.lf (Sum.inr v0.fst)))
def machine_Lines (m : ApiMachine) : Int := (machine_Lines_t m).m
abbrev machine_Lines_pre (m : ApiMachine) : Prop := (machine_Lines_t m).p
def machine_Lines_args (m : ApiMachine) : List D := [.agg (ApiMachine.cells m)]
def machine_Lines_rows (m : ApiMachine) : List Row := []
def machine_Lines_enc (X : Int) : D := .int .u32 X
def machine_Lines_out (X : Int) : List Row := []
def machine_Lines_dirs : List Dir := []
def machine_Lines_sig : List PT := [.agg ApiMachine.sig]
def machine_Lines_rsig : List RT := []
def machine_Lines_val (args : List D) (rows : List Row) : Int := machine_Lines (ApiMachine.of (args.getD 0 .dead).cells)
def machine_Lines_prf (args : List D) (rows : List Row) : Prop := machine_Lines_pre (ApiMachine.of (args.getD 0 .dead).cells)
def machine_Lines_m : Model := mkP 32 [] true machine_Lines_sig machine_Lines_rsig machine_Lines_prf machine_Lines_val machine_Lines_enc machine_Lines_out
def machine_Lines_i0 : LInv := {
  α := (Int) × (Int)
  F := fun st a => ([(0, (GD.look st.env 0)), (1, .ptr 0 0 0), (2, (GD.look st.env 2)), (3, .ptr 1 0 0), (4, .int IntKind.u32 a.1), (7, .ptr 0 0 27), (8, (GD.look st.env 8)), (9, (GD.look st.env 9)), (10, .ptr 0 0 26), (11, (GD.look st.env 11)), (12, (GD.look st.env 12)), (13, .ptr 0 0 30), (14, (GD.look st.env 14)), (15, (GD.look st.env 15)), (16, .ptr 0 0 38), (17, (GD.look st.env 17)), (18, (GD.look st.env 18)), (19, .ptr 0 0 44), (20, (GD.look st.env 20)), (21, (GD.look st.env 21)), (22, (GD.look st.env 22)), (23, (GD.look st.env 23)), (24, .int IntKind.i64 a.2)], [⟨true, 44, 49, .gen [[(cellOf st.rows (rowNo (GD.look st.env 1) 1000000) 0), (cellOf st.rows (rowNo (GD.look st.env 1) 1000000) 1), (cellOf st.rows (rowNo (GD.look st.env 1) 1000000) 2), (cellOf st.rows (rowNo (GD.look st.env 1) 1000000) 3), (cellOf st.rows (rowNo (GD.look st.env 1) 1000000) 4), (cellOf st.rows (rowNo (GD.look st.env 1) 1000000) 5), (cellOf st.rows (rowNo (GD.look st.env 1) 1000000) 6), (cellOf st.rows (rowNo (GD.look st.env 1) 1000000) 7), (cellOf st.rows (rowNo (GD.look st.env 1) 1000000) 8), (cellOf st.rows (rowNo (GD.look st.env 1) 1000000) 9), (cellOf st.rows (rowNo (GD.look st.env 1) 1000000) 10), (cellOf st.rows (rowNo (GD.look st.env 1) 1000000) 11), (cellOf st.rows (rowNo (GD.look st.env 1) 1000000) 12), (cellOf st.rows (rowNo (GD.look st.env 1) 1000000) 13), (cellOf st.rows (rowNo (GD.look st.env 1) 1000000) 14), (cellOf st.rows (rowNo (GD.look st.env 1) 1000000) 15), (cellOf st.rows (rowNo (GD.look st.env 1) 1000000) 16), (cellOf st.rows (rowNo (GD.look st.env 1) 1000000) 17), (cellOf st.rows (rowNo (GD.look st.env 1) 1000000) 18), (cellOf st.rows (rowNo (GD.look st.env 1) 1000000) 19), (cellOf st.rows (rowNo (GD.look st.env 1) 1000000) 20), (cellOf st.rows (rowNo (GD.look st.env 1) 1000000) 21), (cellOf st.rows (rowNo (GD.look st.env 1) 1000000) 22), (cellOf st.rows (rowNo (GD.look st.env 1) 1000000) 23), (cellOf st.rows (rowNo (GD.look st.env 1) 1000000) 24), (cellOf st.rows (rowNo (GD.look st.env 1) 1000000) 25), (cellOf st.rows (rowNo (GD.look st.env 1) 1000000) 26), (cellOf st.rows (rowNo (GD.look st.env 1) 1000000) 27), (cellOf st.rows (rowNo (GD.look st.env 1) 1000000) 28), (cellOf st.rows (rowNo (GD.look st.env 1) 1000000) 29), (cellOf st.rows (rowNo (GD.look st.env 1) 1000000) 30), (cellOf st.rows (rowNo (GD.look st.env 1) 1000000) 31), (cellOf st.rows (rowNo (GD.look st.env 1) 1000000) 32), (cellOf st.rows (rowNo (GD.look st.env 1) 1000000) 33), (cellOf st.rows (rowNo (GD.look st.env 1) 1000000) 34), (cellOf st.rows (rowNo (GD.look st.env 1) 1000000) 35), (cellOf st.rows (rowNo (GD.look st.env 1) 1000000) 36), (cellOf st.rows (rowNo (GD.look st.env 1) 1000000) 37), (cellOf st.rows (rowNo (GD.look st.env 1) 1000000) 38), (cellOf st.rows (rowNo (GD.look st.env 1) 1000000) 39), (cellOf st.rows (rowNo (GD.look st.env 1) 1000000) 40), (cellOf st.rows (rowNo (GD.look st.env 1) 1000000) 41), (cellOf st.rows (rowNo (GD.look st.env 1) 1000000) 42), (cellOf st.rows (rowNo (GD.look st.env 1) 1000000) 43), (cellOf st.rows (rowNo (GD.look st.env 1) 1000000) 44), (cellOf st.rows (rowNo (GD.look st.env 1) 1000000) 45), (cellOf st.rows (rowNo (GD.look st.env 1) 1000000) 46), (cellOf st.rows (rowNo (GD.look st.env 1) 1000000) 47), (cellOf st.rows (rowNo (GD.look st.env 1) 1000000) 48)]]⟩, ⟨true, 126, 5, .gen [[(cellOf st.rows (rowNo (GD.look st.env 3) 1000000) 0), (cellOf st.rows (rowNo (GD.look st.env 3) 1000000) 1), (cellOf st.rows (rowNo (GD.look st.env 3) 1000000) 2), (cellOf st.rows (rowNo (GD.look st.env 3) 1000000) 3), (cellOf st.rows (rowNo (GD.look st.env 3) 1000000) 4)]]⟩])
  a0 := fun st => ((GD.look st.env 4).toInt, (GD.look st.env 24).toInt)
  ex0 := fun st => [] ++ [(rowNo (GD.look st.env 1) (st.rows.length + 0)), (rowNo (GD.look st.env 3) (st.rows.length + 1))]
  next := fun st => ((GD.look st.env 4).toInt, (GD.look st.env 24).toInt)
  ex := fun st => [] ++ [(rowNo (GD.look st.env 1) (st.rows.length + 0)), (rowNo (GD.look st.env 3) (st.rows.length + 1))] }
def machine_Lines_invs : List (Nat × LInv) := [(4, machine_Lines_i0)]
set_option maxRecDepth 100000 in
theorem machine_Lines_nf (m : ApiMachine) (Q : D → List Row → Prop) : (fnVC tab [timer_Pending_m, console_Pending_m, disk_Pending_m, nic_Pending_m, balloon_Pending_m] (LL tab [timer_Pending_m, console_Pending_m, disk_Pending_m, nic_Pending_m, balloon_Pending_m] Tryz.f32.ntmps 0 machine_Lines_invs 3) Tryz.f32 (machine_Lines_args m) (machine_Lines_rows m) fun d R => canonVC (machine_Lines_rows m).length machine_Lines_dirs d R Q) = (machine_Lines_t m).q (fun X => Q (machine_Lines_enc X) (machine_Lines_out X)) := by kernel_rfl
set_option maxRecDepth 100000 in
theorem machine_Lines_calls (m : ApiMachine) (hw : machine_Lines_pre m) : ACalls Tryz.prog 32 (machine_Lines_args m) (machine_Lines_rows m) (machine_Lines_enc (machine_Lines m)) (machine_Lines_out (machine_Lines m)) :=
  have hG : AllOK Tryz.prog [timer_Pending_m, console_Pending_m, disk_Pending_m, nic_Pending_m, balloon_Pending_m] := .cons timer_Pending_ok (.cons console_Pending_ok (.cons disk_Pending_ok (.cons nic_Pending_ok (.cons balloon_Pending_ok (.nil)))))
  FnOK.calls drawn tabOK hG Tryz.func32 (LL_ok drawn tabOK hG 3 (invs := machine_Lines_invs)) (FnOK.of (machine_Lines_nf m _) (Tree.main' hw ⟨rfl, rfl⟩))
set_option maxRecDepth 100000 in
theorem machine_Lines_conv (args : List D) (rows : List Row) : convA machine_Lines_sig args 0 = machine_Lines_args (ApiMachine.of (args.getD 0 .dead).cells) := by kernel_rfl
set_option maxRecDepth 100000 in
theorem machine_Lines_convR (args : List D) (rows : List Row) : convRs machine_Lines_rsig rows 0 = machine_Lines_rows (ApiMachine.of (args.getD 0 .dead).cells) := by kernel_rfl
set_option maxRecDepth 100000 in
theorem machine_Lines_ff (X : Int) : (ffB (machine_Lines_enc X) && ffBR (machine_Lines_out X)) = true := by kernel_rfl
theorem machine_Lines_ok : ModelOK Tryz.prog machine_Lines_m := mkP_ok Tryz.call32 (fun args rows hp => by rw [machine_Lines_conv args rows, machine_Lines_convR args rows]; exact machine_Lines_calls (ApiMachine.of (args.getD 0 .dead).cells) hp) (fun _ X => machine_Lines_ff X)
def machine_enabled_t (m : ApiMachine) : Tree Int :=
.an (machine_Lines_pre m) (.lv (machine_Lines m) fun (x0 : Int) => .lf (iand IntKind.u32 x0 m.Cpu.Csr.a7))
def machine_enabled (m : ApiMachine) : Int := (machine_enabled_t m).m
abbrev machine_enabled_pre (m : ApiMachine) : Prop := (machine_enabled_t m).p
def machine_enabled_args (m : ApiMachine) : List D := [.agg (ApiMachine.cells m)]
def machine_enabled_rows (m : ApiMachine) : List Row := []
def machine_enabled_enc (X : Int) : D := .int .u32 X
def machine_enabled_out (X : Int) : List Row := []
def machine_enabled_dirs : List Dir := []
def machine_enabled_sig : List PT := [.agg ApiMachine.sig]
def machine_enabled_rsig : List RT := []
def machine_enabled_val (args : List D) (rows : List Row) : Int := machine_enabled (ApiMachine.of (args.getD 0 .dead).cells)
def machine_enabled_prf (args : List D) (rows : List Row) : Prop := machine_enabled_pre (ApiMachine.of (args.getD 0 .dead).cells)
def machine_enabled_m : Model := mkP 58 [] true machine_enabled_sig machine_enabled_rsig machine_enabled_prf machine_enabled_val machine_enabled_enc machine_enabled_out
set_option maxRecDepth 100000 in
theorem machine_enabled_nf (m : ApiMachine) (Q : D → List Row → Prop) : (fnVC tab [machine_Lines_m] (LL tab [machine_Lines_m] Tryz.f58.ntmps 0 [] 2) Tryz.f58 (machine_enabled_args m) (machine_enabled_rows m) fun d R => canonVC (machine_enabled_rows m).length machine_enabled_dirs d R Q) = (machine_enabled_t m).q (fun X => Q (machine_enabled_enc X) (machine_enabled_out X)) := by kernel_rfl
set_option maxRecDepth 100000 in
theorem machine_enabled_calls (m : ApiMachine) (hw : machine_enabled_pre m) : ACalls Tryz.prog 58 (machine_enabled_args m) (machine_enabled_rows m) (machine_enabled_enc (machine_enabled m)) (machine_enabled_out (machine_enabled m)) :=
  have hG : AllOK Tryz.prog [machine_Lines_m] := .cons machine_Lines_ok (.nil)
  FnOK.calls drawn tabOK hG Tryz.func58 (LL_ok drawn tabOK hG 2 (invs := [])) (FnOK.of (machine_enabled_nf m _) (Tree.main' hw ⟨rfl, rfl⟩))
set_option maxRecDepth 100000 in
theorem machine_enabled_conv (args : List D) (rows : List Row) : convA machine_enabled_sig args 0 = machine_enabled_args (ApiMachine.of (args.getD 0 .dead).cells) := by kernel_rfl
set_option maxRecDepth 100000 in
theorem machine_enabled_convR (args : List D) (rows : List Row) : convRs machine_enabled_rsig rows 0 = machine_enabled_rows (ApiMachine.of (args.getD 0 .dead).cells) := by kernel_rfl
set_option maxRecDepth 100000 in
theorem machine_enabled_ff (X : Int) : (ffB (machine_enabled_enc X) && ffBR (machine_enabled_out X)) = true := by kernel_rfl
theorem machine_enabled_ok : ModelOK Tryz.prog machine_enabled_m := mkP_ok Tryz.call58 (fun args rows hp => by rw [machine_enabled_conv args rows, machine_enabled_convR args rows]; exact machine_enabled_calls (ApiMachine.of (args.getD 0 .dead).cells) hp) (fun _ X => machine_enabled_ff X)
def machine_Idle_t (m : ApiMachine) : Tree Bool :=
.br m.Waiting (.an (machine_enabled_pre m) (.lv (machine_enabled m) fun (x0 : Int) => .lf (x0 == (0 : Int)))) (.lf false)
def machine_Idle (m : ApiMachine) : Bool := (machine_Idle_t m).m
abbrev machine_Idle_pre (m : ApiMachine) : Prop := (machine_Idle_t m).p
def machine_Idle_args (m : ApiMachine) : List D := [.agg (ApiMachine.cells m)]
def machine_Idle_rows (m : ApiMachine) : List Row := []
def machine_Idle_enc (X : Bool) : D := .bool X
def machine_Idle_out (X : Bool) : List Row := []
def machine_Idle_dirs : List Dir := []
def machine_Idle_sig : List PT := [.agg ApiMachine.sig]
def machine_Idle_rsig : List RT := []
def machine_Idle_val (args : List D) (rows : List Row) : Bool := machine_Idle (ApiMachine.of (args.getD 0 .dead).cells)
def machine_Idle_prf (args : List D) (rows : List Row) : Prop := machine_Idle_pre (ApiMachine.of (args.getD 0 .dead).cells)
def machine_Idle_m : Model := mkP 22 [] true machine_Idle_sig machine_Idle_rsig machine_Idle_prf machine_Idle_val machine_Idle_enc machine_Idle_out
set_option maxRecDepth 100000 in
theorem machine_Idle_nf (m : ApiMachine) (Q : D → List Row → Prop) : (fnVC tab [machine_enabled_m] (LL tab [machine_enabled_m] Tryz.f22.ntmps 0 [] 2) Tryz.f22 (machine_Idle_args m) (machine_Idle_rows m) fun d R => canonVC (machine_Idle_rows m).length machine_Idle_dirs d R Q) = (machine_Idle_t m).q (fun X => Q (machine_Idle_enc X) (machine_Idle_out X)) := by kernel_rfl
set_option maxRecDepth 100000 in
theorem machine_Idle_calls (m : ApiMachine) (hw : machine_Idle_pre m) : ACalls Tryz.prog 22 (machine_Idle_args m) (machine_Idle_rows m) (machine_Idle_enc (machine_Idle m)) (machine_Idle_out (machine_Idle m)) :=
  have hG : AllOK Tryz.prog [machine_enabled_m] := .cons machine_enabled_ok (.nil)
  FnOK.calls drawn tabOK hG Tryz.func22 (LL_ok drawn tabOK hG 2 (invs := [])) (FnOK.of (machine_Idle_nf m _) (Tree.main' hw ⟨rfl, rfl⟩))
set_option maxRecDepth 100000 in
theorem machine_Idle_conv (args : List D) (rows : List Row) : convA machine_Idle_sig args 0 = machine_Idle_args (ApiMachine.of (args.getD 0 .dead).cells) := by kernel_rfl
set_option maxRecDepth 100000 in
theorem machine_Idle_convR (args : List D) (rows : List Row) : convRs machine_Idle_rsig rows 0 = machine_Idle_rows (ApiMachine.of (args.getD 0 .dead).cells) := by kernel_rfl
set_option maxRecDepth 100000 in
theorem machine_Idle_ff (X : Bool) : (ffB (machine_Idle_enc X) && ffBR (machine_Idle_out X)) = true := by kernel_rfl
theorem machine_Idle_ok : ModelOK Tryz.prog machine_Idle_m := mkP_ok Tryz.call22 (fun args rows hp => by rw [machine_Idle_conv args rows, machine_Idle_convR args rows]; exact machine_Idle_calls (ApiMachine.of (args.getD 0 .dead).cells) hp) (fun _ X => machine_Idle_ff X)
end
end Go.Proofs.YtdkiadhigcfmkaaGreat

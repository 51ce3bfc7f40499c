/-
  Functions of the program: models, and that its calls come to them (by a program: gen3.py).
-/
import Derived.Test.YtdkiadhigcfmkaaGreatMachineNewsBase
import Derived.Test.YtdkiadhigcfmkaaGreatMachineNewsHand
import Derived.Test.YtdkiadhigcfmkaaGreatMachineNewsYc
import Derived.Test.YtdkiadhigcfmkaaGreatMachineNewsYb
import Derived.Test.YtdkiadhigcfmkaaGreatMachineNewsYa
namespace Go.Proofs.YtdkiadhigcfmkaaGreat
open Go Go.GD
set_option linter.unusedVariables false
set_option linter.unusedSimpArgs false
noncomputable section
def machine_runs_t (m : ApiMachine) : Tree Bool :=
.an (machine_May_pre m) (.lv (machine_May m) fun (x0 : Bool) => .br x0 (.br (!m.Halted) (.an (machine_Idle_pre m) (.lv (machine_Idle m) fun (x1 : Bool) => .br (!x1) (.lf (decide (m.Count < (1152921504606846976 : Int)))) (.lf false))) (.lf false)) (.lf false))
def machine_runs (m : ApiMachine) : Bool := (machine_runs_t m).m
abbrev machine_runs_pre (m : ApiMachine) : Prop := (machine_runs_t m).p
def machine_runs_args (m : ApiMachine) : List D := [.agg (ApiMachine.cells m)]
def machine_runs_rows (m : ApiMachine) : List Row := []
def machine_runs_enc (X : Bool) : D := .bool X
def machine_runs_out (X : Bool) : List Row := []
def machine_runs_dirs : List Dir := []
def machine_runs_sig : List PT := [.agg ApiMachine.sig]
def machine_runs_rsig : List RT := []
def machine_runs_val (args : List D) (rows : List Row) : Bool := machine_runs (ApiMachine.of (args.getD 0 .dead).cells)
def machine_runs_prf (args : List D) (rows : List Row) : Prop := machine_runs_pre (ApiMachine.of (args.getD 0 .dead).cells)
def machine_runs_m : Model := mkP 60 [] true machine_runs_sig machine_runs_rsig machine_runs_prf machine_runs_val machine_runs_enc machine_runs_out
set_option maxRecDepth 100000 in
theorem machine_runs_nf (m : ApiMachine) (Q : D → List Row → Prop) : (fnVC tab [machine_May_m, machine_Idle_m] (LL tab [machine_May_m, machine_Idle_m] Tryz.f60.ntmps 0 [] 2) Tryz.f60 (machine_runs_args m) (machine_runs_rows m) fun d R => canonVC (machine_runs_rows m).length machine_runs_dirs d R Q) = (machine_runs_t m).q (fun X => Q (machine_runs_enc X) (machine_runs_out X)) := by kernel_rfl
set_option maxRecDepth 100000 in
theorem machine_runs_calls (m : ApiMachine) (hw : machine_runs_pre m) : ACalls Tryz.prog 60 (machine_runs_args m) (machine_runs_rows m) (machine_runs_enc (machine_runs m)) (machine_runs_out (machine_runs m)) :=
  have hG : AllOK Tryz.prog [machine_May_m, machine_Idle_m] := .cons machine_May_ok (.cons machine_Idle_ok (.nil))
  FnOK.calls drawn tabOK hG Tryz.func60 (LL_ok drawn tabOK hG 2 (invs := [])) (FnOK.of (machine_runs_nf m _) (Tree.main' hw ⟨rfl, rfl⟩))
set_option maxRecDepth 100000 in
theorem machine_runs_conv (args : List D) (rows : List Row) : convA machine_runs_sig args 0 = machine_runs_args (ApiMachine.of (args.getD 0 .dead).cells) := by kernel_rfl
set_option maxRecDepth 100000 in
theorem machine_runs_convR (args : List D) (rows : List Row) : convRs machine_runs_rsig rows 0 = machine_runs_rows (ApiMachine.of (args.getD 0 .dead).cells) := by kernel_rfl
set_option maxRecDepth 100000 in
theorem machine_runs_ff (X : Bool) : (ffB (machine_runs_enc X) && ffBR (machine_runs_out X)) = true := by kernel_rfl
theorem machine_runs_ok : ModelOK Tryz.prog machine_runs_m := mkP_ok Tryz.call60 (fun args rows hp => by rw [machine_runs_conv args rows, machine_runs_convR args rows]; exact machine_runs_calls (ApiMachine.of (args.getD 0 .dead).cells) hp) (fun _ X => machine_runs_ff X)
def machine_begin_inv0 (m : ApiMachine) (z : (Int)) : Prop := 0 ≤ z ∧ z ≤ 5
def machine_begin_meas0 (m : ApiMachine) (z : (Int)) : Nat := (5 - z).toNat
def machine_begin_t (m : ApiMachine) : Tree ApiMachine :=
.br (iand IntKind.u32 m.Cpu.Csr.a0 (2 : Int) == (0 : Int)) (.lf ({ Cpu := m.Cpu, Mem := m.Mem, Console := m.Console, Timer := m.Timer, Disk := m.Disk, Nic := m.Nic, Balloon := m.Balloon, Count := m.Count, Waiting := false, Halted := m.Halted })) (.an (machine_enabled_pre { Cpu := m.Cpu, Mem := m.Mem, Console := m.Console, Timer := m.Timer, Disk := m.Disk, Nic := m.Nic, Balloon := m.Balloon, Count := m.Count, Waiting := false, Halted := m.Halted }) (.lv (machine_enabled { Cpu := m.Cpu, Mem := m.Mem, Console := m.Console, Timer := m.Timer, Disk := m.Disk, Nic := m.Nic, Balloon := m.Balloon, Count := m.Count, Waiting := false, Halted := m.Halted }) fun (x0 : Int) => .lp inferInstance (machine_begin_inv0 m) (machine_begin_meas0 m) (((eqAt Int m.Cpu.X.a0 m.Cpu.X.a0 ∧ eqAt Int m.Cpu.X.a1 m.Cpu.X.a1 ∧ eqAt Int m.Cpu.X.a2 m.Cpu.X.a2 ∧ eqAt Int m.Cpu.X.a3 m.Cpu.X.a3 ∧ eqAt Int m.Cpu.X.a4 m.Cpu.X.a4 ∧ eqAt Int m.Cpu.X.a5 m.Cpu.X.a5 ∧ eqAt Int m.Cpu.X.a6 m.Cpu.X.a6 ∧ eqAt Int m.Cpu.X.a7 m.Cpu.X.a7 ∧ eqAt Int m.Cpu.X.a8 m.Cpu.X.a8 ∧ eqAt Int m.Cpu.X.a9 m.Cpu.X.a9 ∧ eqAt Int m.Cpu.X.a10 m.Cpu.X.a10 ∧ eqAt Int m.Cpu.X.a11 m.Cpu.X.a11 ∧ eqAt Int m.Cpu.X.a12 m.Cpu.X.a12 ∧ eqAt Int m.Cpu.X.a13 m.Cpu.X.a13 ∧ eqAt Int m.Cpu.X.a14 m.Cpu.X.a14 ∧ eqAt Int m.Cpu.X.a15 m.Cpu.X.a15 ∧ eqAt Int m.Cpu.Pc m.Cpu.Pc ∧ eqAt Int m.Cpu.Csr.a0 m.Cpu.Csr.a0 ∧ eqAt Int m.Cpu.Csr.a1 m.Cpu.Csr.a1 ∧ eqAt Int m.Cpu.Csr.a2 m.Cpu.Csr.a2 ∧ eqAt Int m.Cpu.Csr.a3 m.Cpu.Csr.a3 ∧ eqAt Int m.Cpu.Csr.a4 m.Cpu.Csr.a4 ∧ eqAt Int m.Cpu.Csr.a5 m.Cpu.Csr.a5 ∧ eqAt Int m.Cpu.Csr.a6 m.Cpu.Csr.a6 ∧ eqAt Int m.Cpu.Csr.a7 m.Cpu.Csr.a7 ∧ ((Els.Nil (Els.ints IntKind.u32 m.Mem) ∨ eqAt Nat (1 : Nat) (1 : Nat)) ∧ eqAt (List Int) m.Mem m.Mem) ∧ eqAt (List UInt8) m.Console.Keys m.Console.Keys ∧ eqAt Bool m.Timer.Armed m.Timer.Armed ∧ eqAt Int m.Timer.Deadline m.Timer.Deadline ∧ eqAt Bool m.Timer.Fired m.Timer.Fired ∧ eqAt Int m.Disk.Blocks m.Disk.Blocks ∧ eqAt Int m.Disk.Block m.Disk.Block ∧ eqAt Int m.Disk.Frame m.Disk.Frame ∧ eqAt Int m.Disk.State m.Disk.State ∧ eqAt Int m.Disk.Cmd m.Disk.Cmd ∧ eqAt Int m.Disk.OpBlock m.Disk.OpBlock ∧ eqAt Int m.Disk.OpFrame m.Disk.OpFrame ∧ eqAt (List UInt8) m.Disk.OpData m.Disk.OpData ∧ eqAt Int m.Nic.Frame m.Nic.Frame ∧ eqAt Int m.Nic.Len m.Nic.Len ∧ eqAt Bool m.Nic.Posted m.Nic.Posted ∧ eqAt Int m.Nic.Buffer m.Nic.Buffer ∧ eqAt Bool m.Nic.Received m.Nic.Received ∧ eqAt Int m.Nic.Got m.Nic.Got ∧ eqAt Int m.Balloon.Target m.Balloon.Target ∧ eqAt Int m.Balloon.Given m.Balloon.Given ∧ eqAt Int m.Count m.Count ∧ eqAt Bool m.Waiting m.Waiting ∧ eqAt Bool m.Halted m.Halted ∧ True) ∧ (eqAt Nat (nat_lit 0) (nat_lit 0) ∧ eqAt Nat (nat_lit 0) (nat_lit 0)) ∧ (eqAt Nat (nat_lit 0) (nat_lit 0) ∧ eqAt Nat (nat_lit 0) (nat_lit 0)) ∧ eqAt Int x0 x0 ∧ (eqAt Nat (nat_lit 0) (nat_lit 0) ∧ eqAt Nat (nat_lit 47) (nat_lit 47)) ∧ (eqAt Nat (nat_lit 0) (nat_lit 0) ∧ eqAt Nat (nat_lit 0) (nat_lit 0)) ∧ (eqAt Nat (nat_lit 0) (nat_lit 0) ∧ eqAt Nat (nat_lit 17) (nat_lit 17)) ∧ (eqAt Nat (nat_lit 0) (nat_lit 0) ∧ eqAt Nat (nat_lit 17) (nat_lit 17)) ∧ eqAt Int m.Cpu.Csr.a0 m.Cpu.Csr.a0 ∧ eqAt Int (iand IntKind.u32 m.Cpu.Csr.a0 (2 : Int)) (iand IntKind.u32 m.Cpu.Csr.a0 (2 : Int)) ∧ eqAt Bool false false ∧ (eqAt Int m.Cpu.X.a0 m.Cpu.X.a0 ∧ eqAt Int m.Cpu.X.a1 m.Cpu.X.a1 ∧ eqAt Int m.Cpu.X.a2 m.Cpu.X.a2 ∧ eqAt Int m.Cpu.X.a3 m.Cpu.X.a3 ∧ eqAt Int m.Cpu.X.a4 m.Cpu.X.a4 ∧ eqAt Int m.Cpu.X.a5 m.Cpu.X.a5 ∧ eqAt Int m.Cpu.X.a6 m.Cpu.X.a6 ∧ eqAt Int m.Cpu.X.a7 m.Cpu.X.a7 ∧ eqAt Int m.Cpu.X.a8 m.Cpu.X.a8 ∧ eqAt Int m.Cpu.X.a9 m.Cpu.X.a9 ∧ eqAt Int m.Cpu.X.a10 m.Cpu.X.a10 ∧ eqAt Int m.Cpu.X.a11 m.Cpu.X.a11 ∧ eqAt Int m.Cpu.X.a12 m.Cpu.X.a12 ∧ eqAt Int m.Cpu.X.a13 m.Cpu.X.a13 ∧ eqAt Int m.Cpu.X.a14 m.Cpu.X.a14 ∧ eqAt Int m.Cpu.X.a15 m.Cpu.X.a15 ∧ eqAt Int m.Cpu.Pc m.Cpu.Pc ∧ eqAt Int m.Cpu.Csr.a0 m.Cpu.Csr.a0 ∧ eqAt Int m.Cpu.Csr.a1 m.Cpu.Csr.a1 ∧ eqAt Int m.Cpu.Csr.a2 m.Cpu.Csr.a2 ∧ eqAt Int m.Cpu.Csr.a3 m.Cpu.Csr.a3 ∧ eqAt Int m.Cpu.Csr.a4 m.Cpu.Csr.a4 ∧ eqAt Int m.Cpu.Csr.a5 m.Cpu.Csr.a5 ∧ eqAt Int m.Cpu.Csr.a6 m.Cpu.Csr.a6 ∧ eqAt Int m.Cpu.Csr.a7 m.Cpu.Csr.a7 ∧ ((Els.Nil (Els.ints IntKind.u32 m.Mem) ∨ eqAt Nat (1 : Nat) (1 : Nat)) ∧ eqAt (List Int) m.Mem m.Mem) ∧ eqAt (List UInt8) m.Console.Keys m.Console.Keys ∧ eqAt Bool m.Timer.Armed m.Timer.Armed ∧ eqAt Int m.Timer.Deadline m.Timer.Deadline ∧ eqAt Bool m.Timer.Fired m.Timer.Fired ∧ eqAt Int m.Disk.Blocks m.Disk.Blocks ∧ eqAt Int m.Disk.Block m.Disk.Block ∧ eqAt Int m.Disk.Frame m.Disk.Frame ∧ eqAt Int m.Disk.State m.Disk.State ∧ eqAt Int m.Disk.Cmd m.Disk.Cmd ∧ eqAt Int m.Disk.OpBlock m.Disk.OpBlock ∧ eqAt Int m.Disk.OpFrame m.Disk.OpFrame ∧ eqAt (List UInt8) m.Disk.OpData m.Disk.OpData ∧ eqAt Int m.Nic.Frame m.Nic.Frame ∧ eqAt Int m.Nic.Len m.Nic.Len ∧ eqAt Bool m.Nic.Posted m.Nic.Posted ∧ eqAt Int m.Nic.Buffer m.Nic.Buffer ∧ eqAt Bool m.Nic.Received m.Nic.Received ∧ eqAt Int m.Nic.Got m.Nic.Got ∧ eqAt Int m.Balloon.Target m.Balloon.Target ∧ eqAt Int m.Balloon.Given m.Balloon.Given ∧ eqAt Int m.Count m.Count ∧ eqAt Bool false false ∧ eqAt Bool m.Halted m.Halted ∧ True) ∧ eqAt Int x0 x0 ∧ eqAt Int (0 : Int) (0 : Int) ∧ True) ∧ (eqAt Int m.Cpu.X.a0 m.Cpu.X.a0 ∧ eqAt Int m.Cpu.X.a1 m.Cpu.X.a1 ∧ eqAt Int m.Cpu.X.a2 m.Cpu.X.a2 ∧ eqAt Int m.Cpu.X.a3 m.Cpu.X.a3 ∧ eqAt Int m.Cpu.X.a4 m.Cpu.X.a4 ∧ eqAt Int m.Cpu.X.a5 m.Cpu.X.a5 ∧ eqAt Int m.Cpu.X.a6 m.Cpu.X.a6 ∧ eqAt Int m.Cpu.X.a7 m.Cpu.X.a7 ∧ eqAt Int m.Cpu.X.a8 m.Cpu.X.a8 ∧ eqAt Int m.Cpu.X.a9 m.Cpu.X.a9 ∧ eqAt Int m.Cpu.X.a10 m.Cpu.X.a10 ∧ eqAt Int m.Cpu.X.a11 m.Cpu.X.a11 ∧ eqAt Int m.Cpu.X.a12 m.Cpu.X.a12 ∧ eqAt Int m.Cpu.X.a13 m.Cpu.X.a13 ∧ eqAt Int m.Cpu.X.a14 m.Cpu.X.a14 ∧ eqAt Int m.Cpu.X.a15 m.Cpu.X.a15 ∧ eqAt Int m.Cpu.Pc m.Cpu.Pc ∧ eqAt Int m.Cpu.Csr.a0 m.Cpu.Csr.a0 ∧ eqAt Int m.Cpu.Csr.a1 m.Cpu.Csr.a1 ∧ eqAt Int m.Cpu.Csr.a2 m.Cpu.Csr.a2 ∧ eqAt Int m.Cpu.Csr.a3 m.Cpu.Csr.a3 ∧ eqAt Int m.Cpu.Csr.a4 m.Cpu.Csr.a4 ∧ eqAt Int m.Cpu.Csr.a5 m.Cpu.Csr.a5 ∧ eqAt Int m.Cpu.Csr.a6 m.Cpu.Csr.a6 ∧ eqAt Int m.Cpu.Csr.a7 m.Cpu.Csr.a7 ∧ ((Els.Nil (Els.ints IntKind.u32 m.Mem) ∨ eqAt Nat (1 : Nat) (1 : Nat)) ∧ eqAt (List Int) m.Mem m.Mem) ∧ eqAt (List UInt8) m.Console.Keys m.Console.Keys ∧ eqAt Bool m.Timer.Armed m.Timer.Armed ∧ eqAt Int m.Timer.Deadline m.Timer.Deadline ∧ eqAt Bool m.Timer.Fired m.Timer.Fired ∧ eqAt Int m.Disk.Blocks m.Disk.Blocks ∧ eqAt Int m.Disk.Block m.Disk.Block ∧ eqAt Int m.Disk.Frame m.Disk.Frame ∧ eqAt Int m.Disk.State m.Disk.State ∧ eqAt Int m.Disk.Cmd m.Disk.Cmd ∧ eqAt Int m.Disk.OpBlock m.Disk.OpBlock ∧ eqAt Int m.Disk.OpFrame m.Disk.OpFrame ∧ eqAt (List UInt8) m.Disk.OpData m.Disk.OpData ∧ eqAt Int m.Nic.Frame m.Nic.Frame ∧ eqAt Int m.Nic.Len m.Nic.Len ∧ eqAt Bool m.Nic.Posted m.Nic.Posted ∧ eqAt Int m.Nic.Buffer m.Nic.Buffer ∧ eqAt Bool m.Nic.Received m.Nic.Received ∧ eqAt Int m.Nic.Got m.Nic.Got ∧ eqAt Int m.Balloon.Target m.Balloon.Target ∧ eqAt Int m.Balloon.Given m.Balloon.Given ∧ eqAt Int m.Count m.Count ∧ eqAt Bool false false ∧ eqAt Bool m.Halted m.Halted ∧ True) ∧ (eqAt Int (0 : Int) (0 : Int) ∧ eqAt Int (0 : Int) (0 : Int) ∧ eqAt Int (0 : Int) (0 : Int) ∧ eqAt Int (0 : Int) (0 : Int) ∧ eqAt Int (0 : Int) (0 : Int) ∧ eqAt Int (0 : Int) (0 : Int) ∧ eqAt Int (0 : Int) (0 : Int) ∧ eqAt Int (0 : Int) (0 : Int) ∧ eqAt Int (0 : Int) (0 : Int) ∧ eqAt Int (0 : Int) (0 : Int) ∧ eqAt Int (0 : Int) (0 : Int) ∧ eqAt Int (0 : Int) (0 : Int) ∧ eqAt Int (0 : Int) (0 : Int) ∧ eqAt Int (0 : Int) (0 : Int) ∧ eqAt Int (0 : Int) (0 : Int) ∧ eqAt Int (0 : Int) (0 : Int) ∧ eqAt Int (0 : Int) (0 : Int) ∧ eqAt Int (0 : Int) (0 : Int) ∧ eqAt Int (0 : Int) (0 : Int) ∧ eqAt Int (0 : Int) (0 : Int) ∧ eqAt Int (0 : Int) (0 : Int) ∧ eqAt Int (0 : Int) (0 : Int) ∧ eqAt Int (0 : Int) (0 : Int) ∧ eqAt Int (0 : Int) (0 : Int) ∧ eqAt Int (0 : Int) (0 : Int) ∧ True ∧ eqAt (List UInt8) [] [] ∧ eqAt Bool false false ∧ eqAt Int (0 : Int) (0 : Int) ∧ eqAt Bool false false ∧ eqAt Int (0 : Int) (0 : Int) ∧ eqAt Int (0 : Int) (0 : Int) ∧ eqAt Int (0 : Int) (0 : Int) ∧ eqAt Int (0 : Int) (0 : Int) ∧ eqAt Int (0 : Int) (0 : Int) ∧ eqAt Int (0 : Int) (0 : Int) ∧ eqAt Int (0 : Int) (0 : Int) ∧ eqAt (List UInt8) [] [] ∧ eqAt Int (0 : Int) (0 : Int) ∧ eqAt Int (0 : Int) (0 : Int) ∧ eqAt Bool false false ∧ eqAt Int (0 : Int) (0 : Int) ∧ eqAt Bool false false ∧ eqAt Int (0 : Int) (0 : Int) ∧ eqAt Int (0 : Int) (0 : Int) ∧ eqAt Int (0 : Int) (0 : Int) ∧ eqAt Int (0 : Int) (0 : Int) ∧ eqAt Bool false false ∧ eqAt Bool false false ∧ True) ∧ True) (0 : Int) fun (v0 : Int) => .br (decide (v0 < (5 : Int))) (.cn (decide ((0 : Int) ≤ v0)) (.br (iand IntKind.u32 x0 (ishl IntKind.u32 (1 : Int) v0) != (0 : Int)) (.lv (cpu_Trap m.Cpu (IntKind.wrap IntKind.i64 ((16 : Int) + v0)) (0 : Int)) fun (x1 : ApiCpu) => .lf (Sum.inr { Cpu := x1, Mem := m.Mem, Console := m.Console, Timer := m.Timer, Disk := m.Disk, Nic := m.Nic, Balloon := m.Balloon, Count := m.Count, Waiting := false, Halted := m.Halted })) (.nx (((eqAt Int m.Cpu.X.a0 m.Cpu.X.a0 ∧ eqAt Int m.Cpu.X.a1 m.Cpu.X.a1 ∧ eqAt Int m.Cpu.X.a2 m.Cpu.X.a2 ∧ eqAt Int m.Cpu.X.a3 m.Cpu.X.a3 ∧ eqAt Int m.Cpu.X.a4 m.Cpu.X.a4 ∧ eqAt Int m.Cpu.X.a5 m.Cpu.X.a5 ∧ eqAt Int m.Cpu.X.a6 m.Cpu.X.a6 ∧ eqAt Int m.Cpu.X.a7 m.Cpu.X.a7 ∧ eqAt Int m.Cpu.X.a8 m.Cpu.X.a8 ∧ eqAt Int m.Cpu.X.a9 m.Cpu.X.a9 ∧ eqAt Int m.Cpu.X.a10 m.Cpu.X.a10 ∧ eqAt Int m.Cpu.X.a11 m.Cpu.X.a11 ∧ eqAt Int m.Cpu.X.a12 m.Cpu.X.a12 ∧ eqAt Int m.Cpu.X.a13 m.Cpu.X.a13 ∧ eqAt Int m.Cpu.X.a14 m.Cpu.X.a14 ∧ eqAt Int m.Cpu.X.a15 m.Cpu.X.a15 ∧ eqAt Int m.Cpu.Pc m.Cpu.Pc ∧ eqAt Int m.Cpu.Csr.a0 m.Cpu.Csr.a0 ∧ eqAt Int m.Cpu.Csr.a1 m.Cpu.Csr.a1 ∧ eqAt Int m.Cpu.Csr.a2 m.Cpu.Csr.a2 ∧ eqAt Int m.Cpu.Csr.a3 m.Cpu.Csr.a3 ∧ eqAt Int m.Cpu.Csr.a4 m.Cpu.Csr.a4 ∧ eqAt Int m.Cpu.Csr.a5 m.Cpu.Csr.a5 ∧ eqAt Int m.Cpu.Csr.a6 m.Cpu.Csr.a6 ∧ eqAt Int m.Cpu.Csr.a7 m.Cpu.Csr.a7 ∧ ((Els.Nil (Els.ints IntKind.u32 m.Mem) ∨ eqAt Nat (1 : Nat) (1 : Nat)) ∧ eqAt (List Int) m.Mem m.Mem) ∧ eqAt (List UInt8) m.Console.Keys m.Console.Keys ∧ eqAt Bool m.Timer.Armed m.Timer.Armed ∧ eqAt Int m.Timer.Deadline m.Timer.Deadline ∧ eqAt Bool m.Timer.Fired m.Timer.Fired ∧ eqAt Int m.Disk.Blocks m.Disk.Blocks ∧ eqAt Int m.Disk.Block m.Disk.Block ∧ eqAt Int m.Disk.Frame m.Disk.Frame ∧ eqAt Int m.Disk.State m.Disk.State ∧ eqAt Int m.Disk.Cmd m.Disk.Cmd ∧ eqAt Int m.Disk.OpBlock m.Disk.OpBlock ∧ eqAt Int m.Disk.OpFrame m.Disk.OpFrame ∧ eqAt (List UInt8) m.Disk.OpData m.Disk.OpData ∧ eqAt Int m.Nic.Frame m.Nic.Frame ∧ eqAt Int m.Nic.Len m.Nic.Len ∧ eqAt Bool m.Nic.Posted m.Nic.Posted ∧ eqAt Int m.Nic.Buffer m.Nic.Buffer ∧ eqAt Bool m.Nic.Received m.Nic.Received ∧ eqAt Int m.Nic.Got m.Nic.Got ∧ eqAt Int m.Balloon.Target m.Balloon.Target ∧ eqAt Int m.Balloon.Given m.Balloon.Given ∧ eqAt Int m.Count m.Count ∧ eqAt Bool m.Waiting m.Waiting ∧ eqAt Bool m.Halted m.Halted ∧ True) ∧ (eqAt Nat (nat_lit 0) (nat_lit 0) ∧ eqAt Nat (nat_lit 0) (nat_lit 0)) ∧ (eqAt Nat (nat_lit 0) (nat_lit 0) ∧ eqAt Nat (nat_lit 0) (nat_lit 0)) ∧ eqAt Int x0 x0 ∧ (eqAt Nat (nat_lit 0) (nat_lit 0) ∧ eqAt Nat (nat_lit 47) (nat_lit 47)) ∧ (eqAt Nat (nat_lit 0) (nat_lit 0) ∧ eqAt Nat (nat_lit 0) (nat_lit 0)) ∧ (eqAt Nat (nat_lit 0) (nat_lit 0) ∧ eqAt Nat (nat_lit 17) (nat_lit 17)) ∧ (eqAt Nat (nat_lit 0) (nat_lit 0) ∧ eqAt Nat (nat_lit 17) (nat_lit 17)) ∧ eqAt Int m.Cpu.Csr.a0 m.Cpu.Csr.a0 ∧ eqAt Int (iand IntKind.u32 m.Cpu.Csr.a0 (2 : Int)) (iand IntKind.u32 m.Cpu.Csr.a0 (2 : Int)) ∧ eqAt Bool false false ∧ (eqAt Int m.Cpu.X.a0 m.Cpu.X.a0 ∧ eqAt Int m.Cpu.X.a1 m.Cpu.X.a1 ∧ eqAt Int m.Cpu.X.a2 m.Cpu.X.a2 ∧ eqAt Int m.Cpu.X.a3 m.Cpu.X.a3 ∧ eqAt Int m.Cpu.X.a4 m.Cpu.X.a4 ∧ eqAt Int m.Cpu.X.a5 m.Cpu.X.a5 ∧ eqAt Int m.Cpu.X.a6 m.Cpu.X.a6 ∧ eqAt Int m.Cpu.X.a7 m.Cpu.X.a7 ∧ eqAt Int m.Cpu.X.a8 m.Cpu.X.a8 ∧ eqAt Int m.Cpu.X.a9 m.Cpu.X.a9 ∧ eqAt Int m.Cpu.X.a10 m.Cpu.X.a10 ∧ eqAt Int m.Cpu.X.a11 m.Cpu.X.a11 ∧ eqAt Int m.Cpu.X.a12 m.Cpu.X.a12 ∧ eqAt Int m.Cpu.X.a13 m.Cpu.X.a13 ∧ eqAt Int m.Cpu.X.a14 m.Cpu.X.a14 ∧ eqAt Int m.Cpu.X.a15 m.Cpu.X.a15 ∧ eqAt Int m.Cpu.Pc m.Cpu.Pc ∧ eqAt Int m.Cpu.Csr.a0 m.Cpu.Csr.a0 ∧ eqAt Int m.Cpu.Csr.a1 m.Cpu.Csr.a1 ∧ eqAt Int m.Cpu.Csr.a2 m.Cpu.Csr.a2 ∧ eqAt Int m.Cpu.Csr.a3 m.Cpu.Csr.a3 ∧ eqAt Int m.Cpu.Csr.a4 m.Cpu.Csr.a4 ∧ eqAt Int m.Cpu.Csr.a5 m.Cpu.Csr.a5 ∧ eqAt Int m.Cpu.Csr.a6 m.Cpu.Csr.a6 ∧ eqAt Int m.Cpu.Csr.a7 m.Cpu.Csr.a7 ∧ ((Els.Nil (Els.ints IntKind.u32 m.Mem) ∨ eqAt Nat (1 : Nat) (1 : Nat)) ∧ eqAt (List Int) m.Mem m.Mem) ∧ eqAt (List UInt8) m.Console.Keys m.Console.Keys ∧ eqAt Bool m.Timer.Armed m.Timer.Armed ∧ eqAt Int m.Timer.Deadline m.Timer.Deadline ∧ eqAt Bool m.Timer.Fired m.Timer.Fired ∧ eqAt Int m.Disk.Blocks m.Disk.Blocks ∧ eqAt Int m.Disk.Block m.Disk.Block ∧ eqAt Int m.Disk.Frame m.Disk.Frame ∧ eqAt Int m.Disk.State m.Disk.State ∧ eqAt Int m.Disk.Cmd m.Disk.Cmd ∧ eqAt Int m.Disk.OpBlock m.Disk.OpBlock ∧ eqAt Int m.Disk.OpFrame m.Disk.OpFrame ∧ eqAt (List UInt8) m.Disk.OpData m.Disk.OpData ∧ eqAt Int m.Nic.Frame m.Nic.Frame ∧ eqAt Int m.Nic.Len m.Nic.Len ∧ eqAt Bool m.Nic.Posted m.Nic.Posted ∧ eqAt Int m.Nic.Buffer m.Nic.Buffer ∧ eqAt Bool m.Nic.Received m.Nic.Received ∧ eqAt Int m.Nic.Got m.Nic.Got ∧ eqAt Int m.Balloon.Target m.Balloon.Target ∧ eqAt Int m.Balloon.Given m.Balloon.Given ∧ eqAt Int m.Count m.Count ∧ eqAt Bool false false ∧ eqAt Bool m.Halted m.Halted ∧ True) ∧ eqAt Int x0 x0 ∧ eqAt Int (IntKind.wrap IntKind.i64 (v0 + (1 : Int))) (IntKind.wrap IntKind.i64 (v0 + (1 : Int))) ∧ True) ∧ (eqAt Int m.Cpu.X.a0 m.Cpu.X.a0 ∧ eqAt Int m.Cpu.X.a1 m.Cpu.X.a1 ∧ eqAt Int m.Cpu.X.a2 m.Cpu.X.a2 ∧ eqAt Int m.Cpu.X.a3 m.Cpu.X.a3 ∧ eqAt Int m.Cpu.X.a4 m.Cpu.X.a4 ∧ eqAt Int m.Cpu.X.a5 m.Cpu.X.a5 ∧ eqAt Int m.Cpu.X.a6 m.Cpu.X.a6 ∧ eqAt Int m.Cpu.X.a7 m.Cpu.X.a7 ∧ eqAt Int m.Cpu.X.a8 m.Cpu.X.a8 ∧ eqAt Int m.Cpu.X.a9 m.Cpu.X.a9 ∧ eqAt Int m.Cpu.X.a10 m.Cpu.X.a10 ∧ eqAt Int m.Cpu.X.a11 m.Cpu.X.a11 ∧ eqAt Int m.Cpu.X.a12 m.Cpu.X.a12 ∧ eqAt Int m.Cpu.X.a13 m.Cpu.X.a13 ∧ eqAt Int m.Cpu.X.a14 m.Cpu.X.a14 ∧ eqAt Int m.Cpu.X.a15 m.Cpu.X.a15 ∧ eqAt Int m.Cpu.Pc m.Cpu.Pc ∧ eqAt Int m.Cpu.Csr.a0 m.Cpu.Csr.a0 ∧ eqAt Int m.Cpu.Csr.a1 m.Cpu.Csr.a1 ∧ eqAt Int m.Cpu.Csr.a2 m.Cpu.Csr.a2 ∧ eqAt Int m.Cpu.Csr.a3 m.Cpu.Csr.a3 ∧ eqAt Int m.Cpu.Csr.a4 m.Cpu.Csr.a4 ∧ eqAt Int m.Cpu.Csr.a5 m.Cpu.Csr.a5 ∧ eqAt Int m.Cpu.Csr.a6 m.Cpu.Csr.a6 ∧ eqAt Int m.Cpu.Csr.a7 m.Cpu.Csr.a7 ∧ ((Els.Nil (Els.ints IntKind.u32 m.Mem) ∨ eqAt Nat (1 : Nat) (1 : Nat)) ∧ eqAt (List Int) m.Mem m.Mem) ∧ eqAt (List UInt8) m.Console.Keys m.Console.Keys ∧ eqAt Bool m.Timer.Armed m.Timer.Armed ∧ eqAt Int m.Timer.Deadline m.Timer.Deadline ∧ eqAt Bool m.Timer.Fired m.Timer.Fired ∧ eqAt Int m.Disk.Blocks m.Disk.Blocks ∧ eqAt Int m.Disk.Block m.Disk.Block ∧ eqAt Int m.Disk.Frame m.Disk.Frame ∧ eqAt Int m.Disk.State m.Disk.State ∧ eqAt Int m.Disk.Cmd m.Disk.Cmd ∧ eqAt Int m.Disk.OpBlock m.Disk.OpBlock ∧ eqAt Int m.Disk.OpFrame m.Disk.OpFrame ∧ eqAt (List UInt8) m.Disk.OpData m.Disk.OpData ∧ eqAt Int m.Nic.Frame m.Nic.Frame ∧ eqAt Int m.Nic.Len m.Nic.Len ∧ eqAt Bool m.Nic.Posted m.Nic.Posted ∧ eqAt Int m.Nic.Buffer m.Nic.Buffer ∧ eqAt Bool m.Nic.Received m.Nic.Received ∧ eqAt Int m.Nic.Got m.Nic.Got ∧ eqAt Int m.Balloon.Target m.Balloon.Target ∧ eqAt Int m.Balloon.Given m.Balloon.Given ∧ eqAt Int m.Count m.Count ∧ eqAt Bool false false ∧ eqAt Bool m.Halted m.Halted ∧ True) ∧ (eqAt Int (0 : Int) (0 : Int) ∧ eqAt Int (0 : Int) (0 : Int) ∧ eqAt Int (0 : Int) (0 : Int) ∧ eqAt Int (0 : Int) (0 : Int) ∧ eqAt Int (0 : Int) (0 : Int) ∧ eqAt Int (0 : Int) (0 : Int) ∧ eqAt Int (0 : Int) (0 : Int) ∧ eqAt Int (0 : Int) (0 : Int) ∧ eqAt Int (0 : Int) (0 : Int) ∧ eqAt Int (0 : Int) (0 : Int) ∧ eqAt Int (0 : Int) (0 : Int) ∧ eqAt Int (0 : Int) (0 : Int) ∧ eqAt Int (0 : Int) (0 : Int) ∧ eqAt Int (0 : Int) (0 : Int) ∧ eqAt Int (0 : Int) (0 : Int) ∧ eqAt Int (0 : Int) (0 : Int) ∧ eqAt Int (0 : Int) (0 : Int) ∧ eqAt Int (0 : Int) (0 : Int) ∧ eqAt Int (0 : Int) (0 : Int) ∧ eqAt Int (0 : Int) (0 : Int) ∧ eqAt Int (0 : Int) (0 : Int) ∧ eqAt Int (0 : Int) (0 : Int) ∧ eqAt Int (0 : Int) (0 : Int) ∧ eqAt Int (0 : Int) (0 : Int) ∧ eqAt Int (0 : Int) (0 : Int) ∧ True ∧ eqAt (List UInt8) [] [] ∧ eqAt Bool false false ∧ eqAt Int (0 : Int) (0 : Int) ∧ eqAt Bool false false ∧ eqAt Int (0 : Int) (0 : Int) ∧ eqAt Int (0 : Int) (0 : Int) ∧ eqAt Int (0 : Int) (0 : Int) ∧ eqAt Int (0 : Int) (0 : Int) ∧ eqAt Int (0 : Int) (0 : Int) ∧ eqAt Int (0 : Int) (0 : Int) ∧ eqAt Int (0 : Int) (0 : Int) ∧ eqAt (List UInt8) [] [] ∧ eqAt Int (0 : Int) (0 : Int) ∧ eqAt Int (0 : Int) (0 : Int) ∧ eqAt Bool false false ∧ eqAt Int (0 : Int) (0 : Int) ∧ eqAt Bool false false ∧ eqAt Int (0 : Int) (0 : Int) ∧ eqAt Int (0 : Int) (0 : Int) ∧ eqAt Int (0 : Int) (0 : Int) ∧ eqAt Int (0 : Int) (0 : Int) ∧ eqAt Bool false false ∧ eqAt Bool false false ∧ True) ∧ True) (Sum.inl (IntKind.wrap IntKind.i64 (v0 + (1 : Int))))))) (.lf (Sum.inr { Cpu := m.Cpu, Mem := m.Mem, Console := m.Console, Timer := m.Timer, Disk := m.Disk, Nic := m.Nic, Balloon := m.Balloon, Count := m.Count, Waiting := false, Halted := m.Halted }))))
def machine_begin (m : ApiMachine) : ApiMachine := (machine_begin_t m).m
abbrev machine_begin_pre (m : ApiMachine) : Prop := (machine_begin_t m).p
def machine_begin_args (m : ApiMachine) : List D := [.agg (ApiMachine.cells m)]
def machine_begin_rows (m : ApiMachine) : List Row := []
def machine_begin_enc (X : ApiMachine) : D := .agg (ApiMachine.cells X)
def machine_begin_out (X : ApiMachine) : List Row := []
def machine_begin_dirs : List Dir := [.sl (.ints .u32) false]
def machine_begin_sig : List PT := [.agg ApiMachine.sig]
def machine_begin_rsig : List RT := []
def machine_begin_val (args : List D) (rows : List Row) : ApiMachine := machine_begin (ApiMachine.of (args.getD 0 .dead).cells)
def machine_begin_prf (args : List D) (rows : List Row) : Prop := machine_begin_pre (ApiMachine.of (args.getD 0 .dead).cells)
def machine_begin_m : Model := Model.fz <| mkP 61 [] false machine_begin_sig machine_begin_rsig machine_begin_prf machine_begin_val machine_begin_enc machine_begin_out
def machine_begin_i0 : LInv := {
  α := (Int)
  F := fun st a => ([(0, (GD.look st.env 0)), (1, .ptr 0 0 0), (2, .ptr 1 0 0), (3, (GD.look st.env 3)), (5, .ptr 0 0 47), (6, .ptr 0 0 0), (7, .ptr 0 0 17), (8, .ptr 0 0 17), (9, (GD.look st.env 9)), (10, (GD.look st.env 10)), (11, (GD.look st.env 11)), (13, (GD.look st.env 13)), (14, (GD.look st.env 14)), (15, .int IntKind.i64 a)], [⟨true, 44, 49, .gen [[(cellOf st.rows (rowNo (GD.look st.env 1) 1000000) 0), (cellOf st.rows (rowNo (GD.look st.env 1) 1000000) 1), (cellOf st.rows (rowNo (GD.look st.env 1) 1000000) 2), (cellOf st.rows (rowNo (GD.look st.env 1) 1000000) 3), (cellOf st.rows (rowNo (GD.look st.env 1) 1000000) 4), (cellOf st.rows (rowNo (GD.look st.env 1) 1000000) 5), (cellOf st.rows (rowNo (GD.look st.env 1) 1000000) 6), (cellOf st.rows (rowNo (GD.look st.env 1) 1000000) 7), (cellOf st.rows (rowNo (GD.look st.env 1) 1000000) 8), (cellOf st.rows (rowNo (GD.look st.env 1) 1000000) 9), (cellOf st.rows (rowNo (GD.look st.env 1) 1000000) 10), (cellOf st.rows (rowNo (GD.look st.env 1) 1000000) 11), (cellOf st.rows (rowNo (GD.look st.env 1) 1000000) 12), (cellOf st.rows (rowNo (GD.look st.env 1) 1000000) 13), (cellOf st.rows (rowNo (GD.look st.env 1) 1000000) 14), (cellOf st.rows (rowNo (GD.look st.env 1) 1000000) 15), (cellOf st.rows (rowNo (GD.look st.env 1) 1000000) 16), (cellOf st.rows (rowNo (GD.look st.env 1) 1000000) 17), (cellOf st.rows (rowNo (GD.look st.env 1) 1000000) 18), (cellOf st.rows (rowNo (GD.look st.env 1) 1000000) 19), (cellOf st.rows (rowNo (GD.look st.env 1) 1000000) 20), (cellOf st.rows (rowNo (GD.look st.env 1) 1000000) 21), (cellOf st.rows (rowNo (GD.look st.env 1) 1000000) 22), (cellOf st.rows (rowNo (GD.look st.env 1) 1000000) 23), (cellOf st.rows (rowNo (GD.look st.env 1) 1000000) 24), (cellOf st.rows (rowNo (GD.look st.env 1) 1000000) 25), (cellOf st.rows (rowNo (GD.look st.env 1) 1000000) 26), (cellOf st.rows (rowNo (GD.look st.env 1) 1000000) 27), (cellOf st.rows (rowNo (GD.look st.env 1) 1000000) 28), (cellOf st.rows (rowNo (GD.look st.env 1) 1000000) 29), (cellOf st.rows (rowNo (GD.look st.env 1) 1000000) 30), (cellOf st.rows (rowNo (GD.look st.env 1) 1000000) 31), (cellOf st.rows (rowNo (GD.look st.env 1) 1000000) 32), (cellOf st.rows (rowNo (GD.look st.env 1) 1000000) 33), (cellOf st.rows (rowNo (GD.look st.env 1) 1000000) 34), (cellOf st.rows (rowNo (GD.look st.env 1) 1000000) 35), (cellOf st.rows (rowNo (GD.look st.env 1) 1000000) 36), (cellOf st.rows (rowNo (GD.look st.env 1) 1000000) 37), (cellOf st.rows (rowNo (GD.look st.env 1) 1000000) 38), (cellOf st.rows (rowNo (GD.look st.env 1) 1000000) 39), (cellOf st.rows (rowNo (GD.look st.env 1) 1000000) 40), (cellOf st.rows (rowNo (GD.look st.env 1) 1000000) 41), (cellOf st.rows (rowNo (GD.look st.env 1) 1000000) 42), (cellOf st.rows (rowNo (GD.look st.env 1) 1000000) 43), (cellOf st.rows (rowNo (GD.look st.env 1) 1000000) 44), (cellOf st.rows (rowNo (GD.look st.env 1) 1000000) 45), (cellOf st.rows (rowNo (GD.look st.env 1) 1000000) 46), (cellOf st.rows (rowNo (GD.look st.env 1) 1000000) 47), (cellOf st.rows (rowNo (GD.look st.env 1) 1000000) 48)]]⟩, ⟨true, 44, 49, .gen [[(cellOf st.rows (rowNo (GD.look st.env 2) 1000000) 0), (cellOf st.rows (rowNo (GD.look st.env 2) 1000000) 1), (cellOf st.rows (rowNo (GD.look st.env 2) 1000000) 2), (cellOf st.rows (rowNo (GD.look st.env 2) 1000000) 3), (cellOf st.rows (rowNo (GD.look st.env 2) 1000000) 4), (cellOf st.rows (rowNo (GD.look st.env 2) 1000000) 5), (cellOf st.rows (rowNo (GD.look st.env 2) 1000000) 6), (cellOf st.rows (rowNo (GD.look st.env 2) 1000000) 7), (cellOf st.rows (rowNo (GD.look st.env 2) 1000000) 8), (cellOf st.rows (rowNo (GD.look st.env 2) 1000000) 9), (cellOf st.rows (rowNo (GD.look st.env 2) 1000000) 10), (cellOf st.rows (rowNo (GD.look st.env 2) 1000000) 11), (cellOf st.rows (rowNo (GD.look st.env 2) 1000000) 12), (cellOf st.rows (rowNo (GD.look st.env 2) 1000000) 13), (cellOf st.rows (rowNo (GD.look st.env 2) 1000000) 14), (cellOf st.rows (rowNo (GD.look st.env 2) 1000000) 15), (cellOf st.rows (rowNo (GD.look st.env 2) 1000000) 16), (cellOf st.rows (rowNo (GD.look st.env 2) 1000000) 17), (cellOf st.rows (rowNo (GD.look st.env 2) 1000000) 18), (cellOf st.rows (rowNo (GD.look st.env 2) 1000000) 19), (cellOf st.rows (rowNo (GD.look st.env 2) 1000000) 20), (cellOf st.rows (rowNo (GD.look st.env 2) 1000000) 21), (cellOf st.rows (rowNo (GD.look st.env 2) 1000000) 22), (cellOf st.rows (rowNo (GD.look st.env 2) 1000000) 23), (cellOf st.rows (rowNo (GD.look st.env 2) 1000000) 24), (cellOf st.rows (rowNo (GD.look st.env 2) 1000000) 25), (cellOf st.rows (rowNo (GD.look st.env 2) 1000000) 26), (cellOf st.rows (rowNo (GD.look st.env 2) 1000000) 27), (cellOf st.rows (rowNo (GD.look st.env 2) 1000000) 28), (cellOf st.rows (rowNo (GD.look st.env 2) 1000000) 29), (cellOf st.rows (rowNo (GD.look st.env 2) 1000000) 30), (cellOf st.rows (rowNo (GD.look st.env 2) 1000000) 31), (cellOf st.rows (rowNo (GD.look st.env 2) 1000000) 32), (cellOf st.rows (rowNo (GD.look st.env 2) 1000000) 33), (cellOf st.rows (rowNo (GD.look st.env 2) 1000000) 34), (cellOf st.rows (rowNo (GD.look st.env 2) 1000000) 35), (cellOf st.rows (rowNo (GD.look st.env 2) 1000000) 36), (cellOf st.rows (rowNo (GD.look st.env 2) 1000000) 37), (cellOf st.rows (rowNo (GD.look st.env 2) 1000000) 38), (cellOf st.rows (rowNo (GD.look st.env 2) 1000000) 39), (cellOf st.rows (rowNo (GD.look st.env 2) 1000000) 40), (cellOf st.rows (rowNo (GD.look st.env 2) 1000000) 41), (cellOf st.rows (rowNo (GD.look st.env 2) 1000000) 42), (cellOf st.rows (rowNo (GD.look st.env 2) 1000000) 43), (cellOf st.rows (rowNo (GD.look st.env 2) 1000000) 44), (cellOf st.rows (rowNo (GD.look st.env 2) 1000000) 45), (cellOf st.rows (rowNo (GD.look st.env 2) 1000000) 46), (cellOf st.rows (rowNo (GD.look st.env 2) 1000000) 47), (cellOf st.rows (rowNo (GD.look st.env 2) 1000000) 48)]]⟩])
  a0 := fun st => (GD.look st.env 15).toInt
  ex0 := fun st => [] ++ [(rowNo (GD.look st.env 1) (st.rows.length + 0)), (rowNo (GD.look st.env 2) (st.rows.length + 1))]
  next := fun st => (GD.look st.env 15).toInt
  ex := fun st => [] ++ [(rowNo (GD.look st.env 1) (st.rows.length + 0)), (rowNo (GD.look st.env 2) (st.rows.length + 1))] }
def machine_begin_invs : List (Nat × LInv) := [(6, machine_begin_i0)]
set_option maxRecDepth 100000 in
theorem machine_begin_nf (m : ApiMachine) (Q : D → List Row → Prop) : (fnVC tab [machine_enabled_m, cpu_Trap_m] (LL tab [machine_enabled_m, cpu_Trap_m] Tryz.f61.ntmps 0 machine_begin_invs 3) Tryz.f61 (machine_begin_args m) (machine_begin_rows m) fun d R => canonVC (machine_begin_rows m).length machine_begin_dirs d R Q) = (machine_begin_t m).q (fun X => Q (machine_begin_enc X) (machine_begin_out X)) := by kernel_rfl
set_option maxRecDepth 100000 in
theorem machine_begin_calls (m : ApiMachine) (hw : machine_begin_pre m) : ACalls Tryz.prog 61 (machine_begin_args m) (machine_begin_rows m) (machine_begin_enc (machine_begin m)) (machine_begin_out (machine_begin m)) :=
  have hG : AllOK Tryz.prog [machine_enabled_m, cpu_Trap_m] := .cons machine_enabled_ok (.cons cpu_Trap_ok (.nil))
  FnOK.calls drawn tabOK hG Tryz.func61 (LL_ok drawn tabOK hG 3 (invs := machine_begin_invs)) (FnOK.of (machine_begin_nf m _) (Tree.main' hw ⟨rfl, rfl⟩))
set_option maxRecDepth 100000 in
theorem machine_begin_conv (args : List D) (rows : List Row) : convA machine_begin_sig args 0 = machine_begin_args (ApiMachine.of (args.getD 0 .dead).cells) := by kernel_rfl
set_option maxRecDepth 100000 in
theorem machine_begin_convR (args : List D) (rows : List Row) : convRs machine_begin_rsig rows 0 = machine_begin_rows (ApiMachine.of (args.getD 0 .dead).cells) := by kernel_rfl
theorem machine_begin_ok : ModelOK Tryz.prog machine_begin_m := fz_ok <| mkP_ok Tryz.call61 (fun args rows hp => by rw [machine_begin_conv args rows, machine_begin_convR args rows]; exact machine_begin_calls (ApiMachine.of (args.getD 0 .dead).cells) hp) (fun h => by cases h)
def console_In_t (c : ApiConsole) (port : Int) : Tree (ApiConsole × Int) :=
.br (port == (0 : Int)) (.br (decide (c.Keys = [])) (.lf (c, (4294967295 : Int))) (.cn (decide ((0 : Int) ≤ (0 : Int) ∧ (0 : Int) < (↑(List.length c.Keys) : Int))) (.cn (decide ((0 : Int) ≤ (1 : Int) ∧ (1 : Int) ≤ (↑(List.length c.Keys) : Int) ∧ (↑(List.length c.Keys) : Int) ≤ (↑(List.length c.Keys) : Int))) (.lf ({ Keys := List.take (Int.toNat (↑(List.length c.Keys) : Int) - Int.toNat (1 : Int)) (List.drop (Int.toNat (1 : Int)) c.Keys) }, IntKind.wrap IntKind.u32 (↑(UInt8.toNat (List.getD c.Keys (Int.toNat (0 : Int)) (0 : UInt8))) : Int)))))) (.br (port == (1 : Int)) (.lf (c, IntKind.wrap IntKind.u32 (↑(List.length c.Keys) : Int))) (.lf (c, (0 : Int))))
def console_In (c : ApiConsole) (port : Int) : (ApiConsole × Int) := (console_In_t c port).m
theorem console_In_tot (c : ApiConsole) (port : Int) : (console_In_t c port).p := by
  simp only [console_In_t, Tree.w]
  (((( repeat' (first | exact trivial | refine bcase_i (fun _ => ?_) (fun _ => ?_) | refine cand_iff.2 ⟨?_, ?_⟩ | refine And.intro ?_ ?_ | (intro _ _) | (intro _)))); all_goals ((subst_vars; first | trivial | assumption | omega | ((simp (config := { decide := true, failIfUnchanged := false }) only [Bool.and_eq_true, Bool.or_eq_true, Bool.and_eq_false_iff, Bool.or_eq_false_iff, Bool.not_eq_true', Bool.not_eq_false', Bool.not_eq_true, Bool.not_eq_false, decide_eq_true_eq, decide_eq_false_iff_not, blt_iff, blt_niff, beq_iff, beq_niff, beq_iff_eq, beq_eq_false_iff_ne, bne_iff_ne, bne_eq_false_iff_eq, ne_eq, List.all_cons, List.all_nil, D.plain, List.length_cons, List.length_nil, List.length_append, List.length_set, List.length_replicate, IntKind.wrap_i64, IntKind.wrap_u64, IntKind.wrap_u32, IntKind.wrap_i32, IntKind.wrap_u8, true_and, and_true, or_false, false_or, or_true, true_or, not_true_eq_false, not_false_eq_true, Prod.fst, Prod.snd] at *); first | done | assumption | omega) | (simp_all; done) | (have := @len_pos; simp_all; try omega)))))
def console_In_args (c : ApiConsole) (port : Int) : List D := [.agg (ApiConsole.cells c), .int .i64 port]
def console_In_rows (c : ApiConsole) (port : Int) : List Row := []
def console_In_enc (X : (ApiConsole × Int)) : D := .tup [.agg (ApiConsole.cells (X.1)), .int .u32 (X.2)]
def console_In_out (X : (ApiConsole × Int)) : List Row := []
def console_In_dirs : List Dir := []
def console_In_sig : List PT := [.agg ApiConsole.sig, .one (.int .i64)]
def console_In_rsig : List RT := []
def console_In_val (args : List D) (rows : List Row) : (ApiConsole × Int) := console_In (ApiConsole.of (args.getD 0 .dead).cells) (argI args 1)
def console_In_m : Model := mkR 127 [] true console_In_sig console_In_rsig console_In_val console_In_enc console_In_out
set_option maxRecDepth 100000 in
theorem console_In_nf (c : ApiConsole) (port : Int) (Q : D → List Row → Prop) : (fnVC tab [] (LL tab [] Tryz.f127.ntmps 0 [] 2) Tryz.f127 (console_In_args c port) (console_In_rows c port) fun d R => canonVC (console_In_rows c port).length console_In_dirs d R Q) = (console_In_t c port).q (fun X => Q (console_In_enc X) (console_In_out X)) := by kernel_rfl
set_option maxRecDepth 100000 in
theorem console_In_calls (c : ApiConsole) (port : Int) : ACalls Tryz.prog 127 (console_In_args c port) (console_In_rows c port) (console_In_enc (console_In c port)) (console_In_out (console_In c port)) :=
  have hG : AllOK Tryz.prog [] := .nil
  FnOK.calls drawn tabOK hG Tryz.func127 (LL_ok drawn tabOK hG 2 (invs := [])) (FnOK.of (console_In_nf c port _) (Tree.main' (console_In_tot c port) ⟨rfl, rfl⟩))
set_option maxRecDepth 100000 in
theorem console_In_conv (args : List D) (rows : List Row) : convA console_In_sig args 0 = console_In_args (ApiConsole.of (args.getD 0 .dead).cells) (argI args 1) := by kernel_rfl
set_option maxRecDepth 100000 in
theorem console_In_convR (args : List D) (rows : List Row) : convRs console_In_rsig rows 0 = console_In_rows (ApiConsole.of (args.getD 0 .dead).cells) (argI args 1) := by kernel_rfl
set_option maxRecDepth 100000 in
theorem console_In_ff (X : (ApiConsole × Int)) : (ffB (console_In_enc X) && ffBR (console_In_out X)) = true := by kernel_rfl
theorem console_In_ok : ModelOK Tryz.prog console_In_m := mkR_ok Tryz.call127 (fun args rows => by rw [console_In_conv args rows, console_In_convR args rows]; exact console_In_calls (ApiConsole.of (args.getD 0 .dead).cells) (argI args 1)) (fun _ X => console_In_ff X)
def timer_In_t (t : ApiTimer) : Tree Int :=
.br t.Fired (.lf (1 : Int)) (.lf (0 : Int))
def timer_In (t : ApiTimer) : Int := (timer_In_t t).m
theorem timer_In_tot (t : ApiTimer) : (timer_In_t t).p := (wB wL wL)
def timer_In_args (t : ApiTimer) : List D := [.agg (ApiTimer.cells t)]
def timer_In_rows (t : ApiTimer) : List Row := []
def timer_In_enc (X : Int) : D := .int .u32 X
def timer_In_out (X : Int) : List Row := []
def timer_In_dirs : List Dir := []
def timer_In_sig : List PT := [.agg ApiTimer.sig]
def timer_In_rsig : List RT := []
def timer_In_val (args : List D) (rows : List Row) : Int := timer_In (ApiTimer.of (args.getD 0 .dead).cells)
def timer_In_m : Model := mkR 128 [] true timer_In_sig timer_In_rsig timer_In_val timer_In_enc timer_In_out
set_option maxRecDepth 100000 in
theorem timer_In_nf (t : ApiTimer) (Q : D → List Row → Prop) : (fnVC tab [] (LL tab [] Tryz.f128.ntmps 0 [] 2) Tryz.f128 (timer_In_args t) (timer_In_rows t) fun d R => canonVC (timer_In_rows t).length timer_In_dirs d R Q) = (timer_In_t t).q (fun X => Q (timer_In_enc X) (timer_In_out X)) := by kernel_rfl
set_option maxRecDepth 100000 in
theorem timer_In_calls (t : ApiTimer) : ACalls Tryz.prog 128 (timer_In_args t) (timer_In_rows t) (timer_In_enc (timer_In t)) (timer_In_out (timer_In t)) :=
  have hG : AllOK Tryz.prog [] := .nil
  FnOK.calls drawn tabOK hG Tryz.func128 (LL_ok drawn tabOK hG 2 (invs := [])) (FnOK.of (timer_In_nf t _) (Tree.main' (timer_In_tot t) ⟨rfl, rfl⟩))
set_option maxRecDepth 100000 in
theorem timer_In_conv (args : List D) (rows : List Row) : convA timer_In_sig args 0 = timer_In_args (ApiTimer.of (args.getD 0 .dead).cells) := by kernel_rfl
set_option maxRecDepth 100000 in
theorem timer_In_convR (args : List D) (rows : List Row) : convRs timer_In_rsig rows 0 = timer_In_rows (ApiTimer.of (args.getD 0 .dead).cells) := by kernel_rfl
set_option maxRecDepth 100000 in
theorem timer_In_ff (X : Int) : (ffB (timer_In_enc X) && ffBR (timer_In_out X)) = true := by kernel_rfl
theorem timer_In_ok : ModelOK Tryz.prog timer_In_m := mkR_ok Tryz.call128 (fun args rows => by rw [timer_In_conv args rows, timer_In_convR args rows]; exact timer_In_calls (ApiTimer.of (args.getD 0 .dead).cells)) (fun _ X => timer_In_ff X)
def disk_In_t (d0 : ApiDisk) (port : Int) : Tree Int :=
.br (port == (4 : Int)) (.lf d0.Block) (.br (port == (5 : Int)) (.lf d0.Frame) (.br (port == (6 : Int)) (.lf (IntKind.wrap IntKind.u32 d0.State)) (.lf (0 : Int))))
def disk_In (d0 : ApiDisk) (port : Int) : Int := (disk_In_t d0 port).m
theorem disk_In_tot (d0 : ApiDisk) (port : Int) : (disk_In_t d0 port).p := (wB wL (wB wL (wB wL wL)))
def disk_In_args (d0 : ApiDisk) (port : Int) : List D := [.agg (ApiDisk.cells d0), .int .i64 port]
def disk_In_rows (d0 : ApiDisk) (port : Int) : List Row := []
def disk_In_enc (X : Int) : D := .int .u32 X
def disk_In_out (X : Int) : List Row := []
def disk_In_dirs : List Dir := []
def disk_In_sig : List PT := [.agg ApiDisk.sig, .one (.int .i64)]
def disk_In_rsig : List RT := []
def disk_In_val (args : List D) (rows : List Row) : Int := disk_In (ApiDisk.of (args.getD 0 .dead).cells) (argI args 1)
def disk_In_m : Model := mkR 129 [] true disk_In_sig disk_In_rsig disk_In_val disk_In_enc disk_In_out
set_option maxRecDepth 100000 in
theorem disk_In_nf (d0 : ApiDisk) (port : Int) (Q : D → List Row → Prop) : (fnVC tab [] (LL tab [] Tryz.f129.ntmps 0 [] 2) Tryz.f129 (disk_In_args d0 port) (disk_In_rows d0 port) fun d R => canonVC (disk_In_rows d0 port).length disk_In_dirs d R Q) = (disk_In_t d0 port).q (fun X => Q (disk_In_enc X) (disk_In_out X)) := by kernel_rfl
set_option maxRecDepth 100000 in
theorem disk_In_calls (d0 : ApiDisk) (port : Int) : ACalls Tryz.prog 129 (disk_In_args d0 port) (disk_In_rows d0 port) (disk_In_enc (disk_In d0 port)) (disk_In_out (disk_In d0 port)) :=
  have hG : AllOK Tryz.prog [] := .nil
  FnOK.calls drawn tabOK hG Tryz.func129 (LL_ok drawn tabOK hG 2 (invs := [])) (FnOK.of (disk_In_nf d0 port _) (Tree.main' (disk_In_tot d0 port) ⟨rfl, rfl⟩))
set_option maxRecDepth 100000 in
theorem disk_In_conv (args : List D) (rows : List Row) : convA disk_In_sig args 0 = disk_In_args (ApiDisk.of (args.getD 0 .dead).cells) (argI args 1) := by kernel_rfl
set_option maxRecDepth 100000 in
theorem disk_In_convR (args : List D) (rows : List Row) : convRs disk_In_rsig rows 0 = disk_In_rows (ApiDisk.of (args.getD 0 .dead).cells) (argI args 1) := by kernel_rfl
set_option maxRecDepth 100000 in
theorem disk_In_ff (X : Int) : (ffB (disk_In_enc X) && ffBR (disk_In_out X)) = true := by kernel_rfl
theorem disk_In_ok : ModelOK Tryz.prog disk_In_m := mkR_ok Tryz.call129 (fun args rows => by rw [disk_In_conv args rows, disk_In_convR args rows]; exact disk_In_calls (ApiDisk.of (args.getD 0 .dead).cells) (argI args 1)) (fun _ X => disk_In_ff X)
def nic_In_t (n : ApiNic) (port : Int) : Tree Int :=
.br (port == (7 : Int)) (.lf n.Frame) (.br (port == (8 : Int)) (.lf n.Got) (.br (port == (9 : Int)) (.br n.Posted (.br n.Received (.lf (IntKind.wrap IntKind.u32 (IntKind.wrap IntKind.u32 ((0 : Int) + (1 : Int)) + (2 : Int)))) (.lf (IntKind.wrap IntKind.u32 ((0 : Int) + (1 : Int))))) (.br n.Received (.lf (IntKind.wrap IntKind.u32 ((0 : Int) + (2 : Int)))) (.lf (0 : Int)))) (.lf (0 : Int))))
def nic_In (n : ApiNic) (port : Int) : Int := (nic_In_t n port).m
theorem nic_In_tot (n : ApiNic) (port : Int) : (nic_In_t n port).p := (wB wL (wB wL (wB (wB (wB wL wL) (wB wL wL)) wL)))
def nic_In_args (n : ApiNic) (port : Int) : List D := [.agg (ApiNic.cells n), .int .i64 port]
def nic_In_rows (n : ApiNic) (port : Int) : List Row := []
def nic_In_enc (X : Int) : D := .int .u32 X
def nic_In_out (X : Int) : List Row := []
def nic_In_dirs : List Dir := []
def nic_In_sig : List PT := [.agg ApiNic.sig, .one (.int .i64)]
def nic_In_rsig : List RT := []
def nic_In_val (args : List D) (rows : List Row) : Int := nic_In (ApiNic.of (args.getD 0 .dead).cells) (argI args 1)
def nic_In_m : Model := mkR 130 [] true nic_In_sig nic_In_rsig nic_In_val nic_In_enc nic_In_out
set_option maxRecDepth 100000 in
theorem nic_In_nf (n : ApiNic) (port : Int) (Q : D → List Row → Prop) : (fnVC tab [] (LL tab [] Tryz.f130.ntmps 0 [] 2) Tryz.f130 (nic_In_args n port) (nic_In_rows n port) fun d R => canonVC (nic_In_rows n port).length nic_In_dirs d R Q) = (nic_In_t n port).q (fun X => Q (nic_In_enc X) (nic_In_out X)) := by kernel_rfl
set_option maxRecDepth 100000 in
theorem nic_In_calls (n : ApiNic) (port : Int) : ACalls Tryz.prog 130 (nic_In_args n port) (nic_In_rows n port) (nic_In_enc (nic_In n port)) (nic_In_out (nic_In n port)) :=
  have hG : AllOK Tryz.prog [] := .nil
  FnOK.calls drawn tabOK hG Tryz.func130 (LL_ok drawn tabOK hG 2 (invs := [])) (FnOK.of (nic_In_nf n port _) (Tree.main' (nic_In_tot n port) ⟨rfl, rfl⟩))
set_option maxRecDepth 100000 in
theorem nic_In_conv (args : List D) (rows : List Row) : convA nic_In_sig args 0 = nic_In_args (ApiNic.of (args.getD 0 .dead).cells) (argI args 1) := by kernel_rfl
set_option maxRecDepth 100000 in
theorem nic_In_convR (args : List D) (rows : List Row) : convRs nic_In_rsig rows 0 = nic_In_rows (ApiNic.of (args.getD 0 .dead).cells) (argI args 1) := by kernel_rfl
set_option maxRecDepth 100000 in
theorem nic_In_ff (X : Int) : (ffB (nic_In_enc X) && ffBR (nic_In_out X)) = true := by kernel_rfl
theorem nic_In_ok : ModelOK Tryz.prog nic_In_m := mkR_ok Tryz.call130 (fun args rows => by rw [nic_In_conv args rows, nic_In_convR args rows]; exact nic_In_calls (ApiNic.of (args.getD 0 .dead).cells) (argI args 1)) (fun _ X => nic_In_ff X)
def balloon_In_t (b : ApiBalloon) (port : Int) : Tree Int :=
.br (port == (10 : Int)) (.lf b.Target) (.br (port == (11 : Int)) (.an (balloon_Count_pre b) (.lv (balloon_Count b) fun (x0 : Int) => .lf (IntKind.wrap IntKind.u32 x0))) (.lf (0 : Int)))
def balloon_In (b : ApiBalloon) (port : Int) : Int := (balloon_In_t b port).m
abbrev balloon_In_pre (b : ApiBalloon) (port : Int) : Prop := (balloon_In_t b port).p
def balloon_In_args (b : ApiBalloon) (port : Int) : List D := [.agg (ApiBalloon.cells b), .int .i64 port]
def balloon_In_rows (b : ApiBalloon) (port : Int) : List Row := []
def balloon_In_enc (X : Int) : D := .int .u32 X
def balloon_In_out (X : Int) : List Row := []
def balloon_In_dirs : List Dir := []
def balloon_In_sig : List PT := [.agg ApiBalloon.sig, .one (.int .i64)]
def balloon_In_rsig : List RT := []
def balloon_In_val (args : List D) (rows : List Row) : Int := balloon_In (ApiBalloon.of (args.getD 0 .dead).cells) (argI args 1)
def balloon_In_prf (args : List D) (rows : List Row) : Prop := balloon_In_pre (ApiBalloon.of (args.getD 0 .dead).cells) (argI args 1)
def balloon_In_m : Model := mkP 131 [] true balloon_In_sig balloon_In_rsig balloon_In_prf balloon_In_val balloon_In_enc balloon_In_out
set_option maxRecDepth 100000 in
theorem balloon_In_nf (b : ApiBalloon) (port : Int) (Q : D → List Row → Prop) : (fnVC tab [balloon_Count_m] (LL tab [balloon_Count_m] Tryz.f131.ntmps 0 [] 2) Tryz.f131 (balloon_In_args b port) (balloon_In_rows b port) fun d R => canonVC (balloon_In_rows b port).length balloon_In_dirs d R Q) = (balloon_In_t b port).q (fun X => Q (balloon_In_enc X) (balloon_In_out X)) := by kernel_rfl
set_option maxRecDepth 100000 in
theorem balloon_In_calls (b : ApiBalloon) (port : Int) (hw : balloon_In_pre b port) : ACalls Tryz.prog 131 (balloon_In_args b port) (balloon_In_rows b port) (balloon_In_enc (balloon_In b port)) (balloon_In_out (balloon_In b port)) :=
  have hG : AllOK Tryz.prog [balloon_Count_m] := .cons balloon_Count_ok (.nil)
  FnOK.calls drawn tabOK hG Tryz.func131 (LL_ok drawn tabOK hG 2 (invs := [])) (FnOK.of (balloon_In_nf b port _) (Tree.main' hw ⟨rfl, rfl⟩))
set_option maxRecDepth 100000 in
theorem balloon_In_conv (args : List D) (rows : List Row) : convA balloon_In_sig args 0 = balloon_In_args (ApiBalloon.of (args.getD 0 .dead).cells) (argI args 1) := by kernel_rfl
set_option maxRecDepth 100000 in
theorem balloon_In_convR (args : List D) (rows : List Row) : convRs balloon_In_rsig rows 0 = balloon_In_rows (ApiBalloon.of (args.getD 0 .dead).cells) (argI args 1) := by kernel_rfl
set_option maxRecDepth 100000 in
theorem balloon_In_ff (X : Int) : (ffB (balloon_In_enc X) && ffBR (balloon_In_out X)) = true := by kernel_rfl
theorem balloon_In_ok : ModelOK Tryz.prog balloon_In_m := mkP_ok Tryz.call131 (fun args rows hp => by rw [balloon_In_conv args rows, balloon_In_convR args rows]; exact balloon_In_calls (ApiBalloon.of (args.getD 0 .dead).cells) (argI args 1) hp) (fun _ X => balloon_In_ff X)
def machine_readPort_t (m : ApiMachine) (port : Int) (clock : Int) : Tree (ApiMachine × Int) :=
.br (port == (0 : Int)) (.lv (console_In m.Console port) fun (x0 : ApiConsole × Int) => .lf ({ Cpu := m.Cpu, Mem := m.Mem, Console := x0.fst, Timer := m.Timer, Disk := m.Disk, Nic := m.Nic, Balloon := m.Balloon, Count := m.Count, Waiting := m.Waiting, Halted := m.Halted }, x0.snd)) (.br (port == (1 : Int)) (.lv (console_In m.Console port) fun (x1 : ApiConsole × Int) => .lf ({ Cpu := m.Cpu, Mem := m.Mem, Console := x1.fst, Timer := m.Timer, Disk := m.Disk, Nic := m.Nic, Balloon := m.Balloon, Count := m.Count, Waiting := m.Waiting, Halted := m.Halted }, x1.snd)) (.br (port == (2 : Int)) (.lf (m, clock)) (.br (port == (3 : Int)) (.lv (timer_In m.Timer) fun (x2 : Int) => .lf (m, x2)) (.br (port == (4 : Int)) (.lv (disk_In m.Disk port) fun (x3 : Int) => .lf (m, x3)) (.br (port == (5 : Int)) (.lv (disk_In m.Disk port) fun (x4 : Int) => .lf (m, x4)) (.br (port == (6 : Int)) (.lv (disk_In m.Disk port) fun (x5 : Int) => .lf (m, x5)) (.br (port == (7 : Int)) (.lv (nic_In m.Nic port) fun (x6 : Int) => .lf (m, x6)) (.br (port == (8 : Int)) (.lv (nic_In m.Nic port) fun (x7 : Int) => .lf (m, x7)) (.br (port == (9 : Int)) (.lv (nic_In m.Nic port) fun (x8 : Int) => .lf (m, x8)) (.br (port == (10 : Int)) (.an (balloon_In_pre m.Balloon port) (.lv (balloon_In m.Balloon port) fun (x9 : Int) => .lf (m, x9))) (.br (port == (11 : Int)) (.an (balloon_In_pre m.Balloon port) (.lv (balloon_In m.Balloon port) fun (x10 : Int) => .lf (m, x10))) (.lf (m, (0 : Int))))))))))))))
def machine_readPort (m : ApiMachine) (port : Int) (clock : Int) : (ApiMachine × Int) := (machine_readPort_t m port clock).m
abbrev machine_readPort_pre (m : ApiMachine) (port : Int) (clock : Int) : Prop := (machine_readPort_t m port clock).p
def machine_readPort_args (m : ApiMachine) (port : Int) (clock : Int) : List D := [.agg (ApiMachine.cells m), .int .i64 port, .int .u32 clock]
def machine_readPort_rows (m : ApiMachine) (port : Int) (clock : Int) : List Row := []
def machine_readPort_enc (X : (ApiMachine × Int)) : D := .tup [.agg (ApiMachine.cells (X.1)), .int .u32 (X.2)]
def machine_readPort_out (X : (ApiMachine × Int)) : List Row := []
def machine_readPort_dirs : List Dir := [.sl (.ints .u32) false]
def machine_readPort_sig : List PT := [.agg ApiMachine.sig, .one (.int .i64), .one (.int .u32)]
def machine_readPort_rsig : List RT := []
def machine_readPort_val (args : List D) (rows : List Row) : (ApiMachine × Int) := machine_readPort (ApiMachine.of (args.getD 0 .dead).cells) (argI args 1) (argI args 2)
def machine_readPort_prf (args : List D) (rows : List Row) : Prop := machine_readPort_pre (ApiMachine.of (args.getD 0 .dead).cells) (argI args 1) (argI args 2)
def machine_readPort_m : Model := Model.fz <| mkP 63 [] false machine_readPort_sig machine_readPort_rsig machine_readPort_prf machine_readPort_val machine_readPort_enc machine_readPort_out
set_option maxRecDepth 100000 in
theorem machine_readPort_nf (m : ApiMachine) (port : Int) (clock : Int) (Q : D → List Row → Prop) : (fnVC tab [console_In_m, timer_In_m, disk_In_m, nic_In_m, balloon_In_m] (LL tab [console_In_m, timer_In_m, disk_In_m, nic_In_m, balloon_In_m] Tryz.f63.ntmps 0 [] 2) Tryz.f63 (machine_readPort_args m port clock) (machine_readPort_rows m port clock) fun d R => canonVC (machine_readPort_rows m port clock).length machine_readPort_dirs d R Q) = (machine_readPort_t m port clock).q (fun X => Q (machine_readPort_enc X) (machine_readPort_out X)) := by kernel_rfl
set_option maxRecDepth 100000 in
theorem machine_readPort_calls (m : ApiMachine) (port : Int) (clock : Int) (hw : machine_readPort_pre m port clock) : ACalls Tryz.prog 63 (machine_readPort_args m port clock) (machine_readPort_rows m port clock) (machine_readPort_enc (machine_readPort m port clock)) (machine_readPort_out (machine_readPort m port clock)) :=
  have hG : AllOK Tryz.prog [console_In_m, timer_In_m, disk_In_m, nic_In_m, balloon_In_m] := .cons console_In_ok (.cons timer_In_ok (.cons disk_In_ok (.cons nic_In_ok (.cons balloon_In_ok (.nil)))))
  FnOK.calls drawn tabOK hG Tryz.func63 (LL_ok drawn tabOK hG 2 (invs := [])) (FnOK.of (machine_readPort_nf m port clock _) (Tree.main' hw ⟨rfl, rfl⟩))
set_option maxRecDepth 100000 in
theorem machine_readPort_conv (args : List D) (rows : List Row) : convA machine_readPort_sig args 0 = machine_readPort_args (ApiMachine.of (args.getD 0 .dead).cells) (argI args 1) (argI args 2) := by kernel_rfl
set_option maxRecDepth 100000 in
theorem machine_readPort_convR (args : List D) (rows : List Row) : convRs machine_readPort_rsig rows 0 = machine_readPort_rows (ApiMachine.of (args.getD 0 .dead).cells) (argI args 1) (argI args 2) := by kernel_rfl
theorem machine_readPort_ok : ModelOK Tryz.prog machine_readPort_m := fz_ok <| mkP_ok Tryz.call63 (fun args rows hp => by rw [machine_readPort_conv args rows, machine_readPort_convR args rows]; exact machine_readPort_calls (ApiMachine.of (args.getD 0 .dead).cells) (argI args 1) (argI args 2) hp) (fun h => by cases h)
def timer_Arm_t (t : ApiTimer) (deadline : Int) : Tree ApiTimer :=
.lf ({ Armed := deadline != (0 : Int), Deadline := deadline, Fired := false })
def timer_Arm (t : ApiTimer) (deadline : Int) : ApiTimer := (timer_Arm_t t deadline).m
theorem timer_Arm_tot (t : ApiTimer) (deadline : Int) : (timer_Arm_t t deadline).p := wL
def timer_Arm_args (t : ApiTimer) (deadline : Int) : List D := [.agg (ApiTimer.cells t), .int .u32 deadline]
def timer_Arm_rows (t : ApiTimer) (deadline : Int) : List Row := []
def timer_Arm_enc (X : ApiTimer) : D := .agg (ApiTimer.cells X)
def timer_Arm_out (X : ApiTimer) : List Row := []
def timer_Arm_dirs : List Dir := []
def timer_Arm_sig : List PT := [.agg ApiTimer.sig, .one (.int .u32)]
def timer_Arm_rsig : List RT := []
def timer_Arm_val (args : List D) (rows : List Row) : ApiTimer := timer_Arm (ApiTimer.of (args.getD 0 .dead).cells) (argI args 1)
def timer_Arm_m : Model := mkR 132 [] true timer_Arm_sig timer_Arm_rsig timer_Arm_val timer_Arm_enc timer_Arm_out
set_option maxRecDepth 100000 in
theorem timer_Arm_nf (t : ApiTimer) (deadline : Int) (Q : D → List Row → Prop) : (fnVC tab [] (LL tab [] Tryz.f132.ntmps 0 [] 2) Tryz.f132 (timer_Arm_args t deadline) (timer_Arm_rows t deadline) fun d R => canonVC (timer_Arm_rows t deadline).length timer_Arm_dirs d R Q) = (timer_Arm_t t deadline).q (fun X => Q (timer_Arm_enc X) (timer_Arm_out X)) := by kernel_rfl
set_option maxRecDepth 100000 in
theorem timer_Arm_calls (t : ApiTimer) (deadline : Int) : ACalls Tryz.prog 132 (timer_Arm_args t deadline) (timer_Arm_rows t deadline) (timer_Arm_enc (timer_Arm t deadline)) (timer_Arm_out (timer_Arm t deadline)) :=
  have hG : AllOK Tryz.prog [] := .nil
  FnOK.calls drawn tabOK hG Tryz.func132 (LL_ok drawn tabOK hG 2 (invs := [])) (FnOK.of (timer_Arm_nf t deadline _) (Tree.main' (timer_Arm_tot t deadline) ⟨rfl, rfl⟩))
set_option maxRecDepth 100000 in
theorem timer_Arm_conv (args : List D) (rows : List Row) : convA timer_Arm_sig args 0 = timer_Arm_args (ApiTimer.of (args.getD 0 .dead).cells) (argI args 1) := by kernel_rfl
set_option maxRecDepth 100000 in
theorem timer_Arm_convR (args : List D) (rows : List Row) : convRs timer_Arm_rsig rows 0 = timer_Arm_rows (ApiTimer.of (args.getD 0 .dead).cells) (argI args 1) := by kernel_rfl
set_option maxRecDepth 100000 in
theorem timer_Arm_ff (X : ApiTimer) : (ffB (timer_Arm_enc X) && ffBR (timer_Arm_out X)) = true := by kernel_rfl
theorem timer_Arm_ok : ModelOK Tryz.prog timer_Arm_m := mkR_ok Tryz.call132 (fun args rows => by rw [timer_Arm_conv args rows, timer_Arm_convR args rows]; exact timer_Arm_calls (ApiTimer.of (args.getD 0 .dead).cells) (argI args 1)) (fun _ X => timer_Arm_ff X)
def disk_isPage_t (m : (List Int)) (frame : Int) : Tree Bool :=
.lv (memory_Pages m) fun (x0 : Int) => .lf (decide (IntKind.wrap IntKind.u64 frame < IntKind.wrap IntKind.u64 x0))
def disk_isPage (m : (List Int)) (frame : Int) : Bool := (disk_isPage_t m frame).m
theorem disk_isPage_tot (m : (List Int)) (frame : Int) : (disk_isPage_t m frame).p := (wV fun _ => wL)
def disk_isPage_args (m : (List Int)) (frame : Int) : List D := [.sl 1 (.ints .u32 m) false, .int .u32 frame]
def disk_isPage_rows (m : (List Int)) (frame : Int) : List Row := []
def disk_isPage_enc (X : Bool) : D := .bool X
def disk_isPage_out (X : Bool) : List Row := []
def disk_isPage_dirs : List Dir := []
def disk_isPage_sig : List PT := [.one (.ints .u32), .one (.int .u32)]
def disk_isPage_rsig : List RT := []
def disk_isPage_val (args : List D) (rows : List Row) : Bool := disk_isPage (argL .u32 args 0) (argI args 1)
def disk_isPage_m : Model := mkR 158 [] true disk_isPage_sig disk_isPage_rsig disk_isPage_val disk_isPage_enc disk_isPage_out
set_option maxRecDepth 100000 in
theorem disk_isPage_nf (m : (List Int)) (frame : Int) (Q : D → List Row → Prop) : (fnVC tab [memory_Pages_m] (LL tab [memory_Pages_m] Tryz.f158.ntmps 0 [] 2) Tryz.f158 (disk_isPage_args m frame) (disk_isPage_rows m frame) fun d R => canonVC (disk_isPage_rows m frame).length disk_isPage_dirs d R Q) = (disk_isPage_t m frame).q (fun X => Q (disk_isPage_enc X) (disk_isPage_out X)) := by kernel_rfl
set_option maxRecDepth 100000 in
theorem disk_isPage_calls (m : (List Int)) (frame : Int) : ACalls Tryz.prog 158 (disk_isPage_args m frame) (disk_isPage_rows m frame) (disk_isPage_enc (disk_isPage m frame)) (disk_isPage_out (disk_isPage m frame)) :=
  have hG : AllOK Tryz.prog [memory_Pages_m] := .cons memory_Pages_ok (.nil)
  FnOK.calls drawn tabOK hG Tryz.func158 (LL_ok drawn tabOK hG 2 (invs := [])) (FnOK.of (disk_isPage_nf m frame _) (Tree.main' (disk_isPage_tot m frame) ⟨rfl, rfl⟩))
set_option maxRecDepth 100000 in
theorem disk_isPage_conv (args : List D) (rows : List Row) : convA disk_isPage_sig args 0 = disk_isPage_args (argL .u32 args 0) (argI args 1) := by kernel_rfl
set_option maxRecDepth 100000 in
theorem disk_isPage_convR (args : List D) (rows : List Row) : convRs disk_isPage_rsig rows 0 = disk_isPage_rows (argL .u32 args 0) (argI args 1) := by kernel_rfl
set_option maxRecDepth 100000 in
theorem disk_isPage_ff (X : Bool) : (ffB (disk_isPage_enc X) && ffBR (disk_isPage_out X)) = true := by kernel_rfl
theorem disk_isPage_ok : ModelOK Tryz.prog disk_isPage_m := mkR_ok Tryz.call158 (fun args rows => by rw [disk_isPage_conv args rows, disk_isPage_convR args rows]; exact disk_isPage_calls (argL .u32 args 0) (argI args 1)) (fun _ X => disk_isPage_ff X)
def memory_hasPage_t (m : (List Int)) (frame : Int) : Tree Bool :=
.br (decide (frame ≥ (0 : Int))) (.lv (memory_Pages m) fun (x0 : Int) => .lf (decide (frame < x0))) (.lf false)
def memory_hasPage (m : (List Int)) (frame : Int) : Bool := (memory_hasPage_t m frame).m
theorem memory_hasPage_tot (m : (List Int)) (frame : Int) : (memory_hasPage_t m frame).p := (wB (wV fun _ => wL) wL)
def memory_hasPage_args (m : (List Int)) (frame : Int) : List D := [.sl 1 (.ints .u32 m) false, .int .i64 frame]
def memory_hasPage_rows (m : (List Int)) (frame : Int) : List Row := []
def memory_hasPage_enc (X : Bool) : D := .bool X
def memory_hasPage_out (X : Bool) : List Row := []
def memory_hasPage_dirs : List Dir := []
def memory_hasPage_sig : List PT := [.one (.ints .u32), .one (.int .i64)]
def memory_hasPage_rsig : List RT := []
def memory_hasPage_val (args : List D) (rows : List Row) : Bool := memory_hasPage (argL .u32 args 0) (argI args 1)
def memory_hasPage_m : Model := mkR 207 [] true memory_hasPage_sig memory_hasPage_rsig memory_hasPage_val memory_hasPage_enc memory_hasPage_out
set_option maxRecDepth 100000 in
theorem memory_hasPage_nf (m : (List Int)) (frame : Int) (Q : D → List Row → Prop) : (fnVC tab [memory_Pages_m] (LL tab [memory_Pages_m] Tryz.f207.ntmps 0 [] 2) Tryz.f207 (memory_hasPage_args m frame) (memory_hasPage_rows m frame) fun d R => canonVC (memory_hasPage_rows m frame).length memory_hasPage_dirs d R Q) = (memory_hasPage_t m frame).q (fun X => Q (memory_hasPage_enc X) (memory_hasPage_out X)) := by kernel_rfl
set_option maxRecDepth 100000 in
theorem memory_hasPage_calls (m : (List Int)) (frame : Int) : ACalls Tryz.prog 207 (memory_hasPage_args m frame) (memory_hasPage_rows m frame) (memory_hasPage_enc (memory_hasPage m frame)) (memory_hasPage_out (memory_hasPage m frame)) :=
  have hG : AllOK Tryz.prog [memory_Pages_m] := .cons memory_Pages_ok (.nil)
  FnOK.calls drawn tabOK hG Tryz.func207 (LL_ok drawn tabOK hG 2 (invs := [])) (FnOK.of (memory_hasPage_nf m frame _) (Tree.main' (memory_hasPage_tot m frame) ⟨rfl, rfl⟩))
set_option maxRecDepth 100000 in
theorem memory_hasPage_conv (args : List D) (rows : List Row) : convA memory_hasPage_sig args 0 = memory_hasPage_args (argL .u32 args 0) (argI args 1) := by kernel_rfl
set_option maxRecDepth 100000 in
theorem memory_hasPage_convR (args : List D) (rows : List Row) : convRs memory_hasPage_rsig rows 0 = memory_hasPage_rows (argL .u32 args 0) (argI args 1) := by kernel_rfl
set_option maxRecDepth 100000 in
theorem memory_hasPage_ff (X : Bool) : (ffB (memory_hasPage_enc X) && ffBR (memory_hasPage_out X)) = true := by kernel_rfl
theorem memory_hasPage_ok : ModelOK Tryz.prog memory_hasPage_m := mkR_ok Tryz.call207 (fun args rows => by rw [memory_hasPage_conv args rows, memory_hasPage_convR args rows]; exact memory_hasPage_calls (argL .u32 args 0) (argI args 1)) (fun _ X => memory_hasPage_ff X)
def memory_text_inv0 (words : (List Int)) (z : (Int) × (List Int)) : Prop := 0 ≤ z.1 ∧ z.1 ≤ words.length ∧ (z.2.length : Int) = 4 * z.1
def memory_text_meas0 (words : (List Int)) (z : (Int) × (List Int)) : Nat := (words.length - z.1).toNat
def memory_text_t (words : (List Int)) : Tree (List UInt8) :=
.cn (Nat.blt (0 : Nat) (1 : Nat) && Nat.beq (List.length [D.int IntKind.u8 (0 : Int)]) (1 : Nat) && List.all [D.int IntKind.u8 (0 : Int)] D.plain && decide ((0 : Int) ≤ (0 : Int) ∧ (0 : Int) ≤ IntKind.wrap IntKind.i64 ((4 : Int) * (↑(List.length words) : Int)) ∧ IntKind.wrap IntKind.i64 ((4 : Int) * (↑(List.length words) : Int)) ≤ (9223372036854775807 : Int) ∧ (↑(1 : Nat) : Int) * IntKind.wrap IntKind.i64 ((4 : Int) * (↑(List.length words) : Int)) ≤ (140737488355328 : Int))) (.lp inferInstance (memory_text_inv0 words) (memory_text_meas0 words) ((((Els.Nil (Els.ints IntKind.u32 words) ∨ eqAt Nat (1 : Nat) (1 : Nat)) ∧ eqAt (List Int) words words) ∧ eqAt (List UInt8) [] [] ∧ True ∧ ((Els.Nil (Els.ints IntKind.u32 words) ∨ eqAt Nat (1 : Nat) (1 : Nat)) ∧ eqAt (List Int) words words) ∧ eqAt Int (↑(List.length words) : Int) (↑(List.length words) : Int) ∧ eqAt Int (IntKind.wrap IntKind.i64 ((4 : Int) * (↑(List.length words) : Int))) (IntKind.wrap IntKind.i64 ((4 : Int) * (↑(List.length words) : Int))) ∧ ((Els.Nil (Els.ints IntKind.u32 words) ∨ eqAt Nat (1 : Nat) (1 : Nat)) ∧ eqAt (List Int) words words) ∧ eqAt Int (↑(List.length words) : Int) (↑(List.length words) : Int) ∧ eqAt Int (0 : Int) (0 : Int) ∧ True) ∧ eqAt (List Int) [] [] ∧ True) ((0 : Int), []) fun (v0 : Int × List Int) => .br (decide (v0.fst < (↑(List.length words) : Int))) (.cn (Nat.beq (1 : Nat) (1 : Nat) && Nat.blt (0 : Nat) (1 : Nat) && decide ((0 : Int) ≤ v0.fst ∧ v0.fst < (↑(List.length words) : Int))) (.cn (decide ((1 : Nat) * (List.length v0.snd + List.length [IntKind.wrap IntKind.u8 (List.getD words (Int.toNat v0.fst) (0 : Int)), IntKind.wrap IntKind.u8 (ishr IntKind.u32 (List.getD words (Int.toNat v0.fst) (0 : Int)) (8 : Int)), IntKind.wrap IntKind.u8 (ishr IntKind.u32 (List.getD words (Int.toNat v0.fst) (0 : Int)) (16 : Int)), IntKind.wrap IntKind.u8 (ishr IntKind.u32 (List.getD words (Int.toNat v0.fst) (0 : Int)) (24 : Int))]) ≤ (140737488355328 : Nat))) (.nx ((((Els.Nil (Els.ints IntKind.u32 words) ∨ eqAt Nat (1 : Nat) (1 : Nat)) ∧ eqAt (List Int) words words) ∧ eqAt (List UInt8) [] [] ∧ True ∧ ((Els.Nil (Els.ints IntKind.u32 words) ∨ eqAt Nat (1 : Nat) (1 : Nat)) ∧ eqAt (List Int) words words) ∧ eqAt Int (↑(List.length words) : Int) (↑(List.length words) : Int) ∧ eqAt Int (IntKind.wrap IntKind.i64 ((4 : Int) * (↑(List.length words) : Int))) (IntKind.wrap IntKind.i64 ((4 : Int) * (↑(List.length words) : Int))) ∧ ((Els.Nil (Els.ints IntKind.u32 words) ∨ eqAt Nat (1 : Nat) (1 : Nat)) ∧ eqAt (List Int) words words) ∧ eqAt Int (↑(List.length words) : Int) (↑(List.length words) : Int) ∧ eqAt Int (IntKind.wrap IntKind.i64 (v0.fst + (1 : Int))) (IntKind.wrap IntKind.i64 (v0.fst + (1 : Int))) ∧ True) ∧ eqAt (List Int) (v0.snd ++ [IntKind.wrap IntKind.u8 (List.getD words (Int.toNat v0.fst) (0 : Int)), IntKind.wrap IntKind.u8 (ishr IntKind.u32 (List.getD words (Int.toNat v0.fst) (0 : Int)) (8 : Int)), IntKind.wrap IntKind.u8 (ishr IntKind.u32 (List.getD words (Int.toNat v0.fst) (0 : Int)) (16 : Int)), IntKind.wrap IntKind.u8 (ishr IntKind.u32 (List.getD words (Int.toNat v0.fst) (0 : Int)) (24 : Int))]) (v0.snd ++ [IntKind.wrap IntKind.u8 (List.getD words (Int.toNat v0.fst) (0 : Int)), IntKind.wrap IntKind.u8 (ishr IntKind.u32 (List.getD words (Int.toNat v0.fst) (0 : Int)) (8 : Int)), IntKind.wrap IntKind.u8 (ishr IntKind.u32 (List.getD words (Int.toNat v0.fst) (0 : Int)) (16 : Int)), IntKind.wrap IntKind.u8 (ishr IntKind.u32 (List.getD words (Int.toNat v0.fst) (0 : Int)) (24 : Int))]) ∧ True) (Sum.inl (IntKind.wrap IntKind.i64 (v0.fst + (1 : Int)), v0.snd ++ [IntKind.wrap IntKind.u8 (List.getD words (Int.toNat v0.fst) (0 : Int)), IntKind.wrap IntKind.u8 (ishr IntKind.u32 (List.getD words (Int.toNat v0.fst) (0 : Int)) (8 : Int)), IntKind.wrap IntKind.u8 (ishr IntKind.u32 (List.getD words (Int.toNat v0.fst) (0 : Int)) (16 : Int)), IntKind.wrap IntKind.u8 (ishr IntKind.u32 (List.getD words (Int.toNat v0.fst) (0 : Int)) (24 : Int))]))))) (.lf (Sum.inr (bytesOf v0.snd))))
def memory_text (words : (List Int)) : (List UInt8) := (memory_text_t words).m
def memory_text_pre (words : (List Int)) : Prop :=
words.length ≤ 1000000000000
theorem memory_text_tot (words : (List Int)) (hw : memory_text_pre words) : (memory_text_t words).p := by
  simp only [memory_text_pre] at hw
  simp only [memory_text_t, Tree.w, memory_text_inv0, memory_text_meas0]
  (((( repeat' (first | exact trivial | refine bcase_i (fun _ => ?_) (fun _ => ?_) | refine cand_iff.2 ⟨?_, ?_⟩ | refine And.intro ?_ ?_ | (intro _ _) | (intro _)))); all_goals ((subst_vars; first | trivial | assumption | omega | ((simp (config := { decide := true, failIfUnchanged := false }) only [Bool.and_eq_true, Bool.or_eq_true, Bool.and_eq_false_iff, Bool.or_eq_false_iff, Bool.not_eq_true', Bool.not_eq_false', Bool.not_eq_true, Bool.not_eq_false, decide_eq_true_eq, decide_eq_false_iff_not, blt_iff, blt_niff, beq_iff, beq_niff, beq_iff_eq, beq_eq_false_iff_ne, bne_iff_ne, bne_eq_false_iff_eq, ne_eq, List.all_cons, List.all_nil, D.plain, List.length_cons, List.length_nil, List.length_append, List.length_set, List.length_replicate, IntKind.wrap_i64, IntKind.wrap_u64, IntKind.wrap_u32, IntKind.wrap_i32, IntKind.wrap_u8, true_and, and_true, or_false, false_or, or_true, true_or, not_true_eq_false, not_false_eq_true, Prod.fst, Prod.snd] at *); first | done | assumption | omega) | (simp_all; done) | (have := @len_pos; simp_all; try omega)))))
def memory_text_args (words : (List Int)) : List D := [.sl 1 (.ints .u32 words) false]
def memory_text_rows (words : (List Int)) : List Row := []
def memory_text_enc (X : (List UInt8)) : D := .str X
def memory_text_out (X : (List UInt8)) : List Row := []
def memory_text_dirs : List Dir := []
def memory_text_sig : List PT := [.one (.ints .u32)]
def memory_text_rsig : List RT := []
def memory_text_val (args : List D) (rows : List Row) : (List UInt8) := memory_text (argL .u32 args 0)
def memory_text_prf (args : List D) (rows : List Row) : Prop := memory_text_pre (argL .u32 args 0)
def memory_text_m : Model := mkP 208 [] true memory_text_sig memory_text_rsig memory_text_prf memory_text_val memory_text_enc memory_text_out
def memory_text_i0 : LInv := {
  α := (Int) × (List Int)
  F := fun st a => ([(0, (GD.look st.env 0)), (2, (GD.look st.env 2)), (3, .all 0), (6, (GD.look st.env 6)), (7, (GD.look st.env 7)), (8, (GD.look st.env 8)), (10, (GD.look st.env 10)), (11, (GD.look st.env 11)), (12, .int IntKind.i64 a.1)], [⟨false, 5, 1, .ints IntKind.u8 a.2⟩])
  a0 := fun st => ((GD.look st.env 12).toInt, (intsOf st.rows (rowNo (GD.look st.env 3) 1000000)))
  ex0 := fun st => [] ++ [(rowNo (GD.look st.env 3) (st.rows.length + 0))]
  next := fun st => ((GD.look st.env 12).toInt, (intsOf st.rows (rowNo (GD.look st.env 3) 1000000)))
  ex := fun st => [] ++ [(rowNo (GD.look st.env 3) (st.rows.length + 0))] }
def memory_text_invs : List (Nat × LInv) := [(3, memory_text_i0)]
set_option maxRecDepth 100000 in
theorem memory_text_nf (words : (List Int)) (Q : D → List Row → Prop) : (fnVC tab [] (LL tab [] Tryz.f208.ntmps 0 memory_text_invs 3) Tryz.f208 (memory_text_args words) (memory_text_rows words) fun d R => canonVC (memory_text_rows words).length memory_text_dirs d R Q) = (memory_text_t words).q (fun X => Q (memory_text_enc X) (memory_text_out X)) := by kernel_rfl
set_option maxRecDepth 100000 in
theorem memory_text_calls (words : (List Int)) (hw : memory_text_pre words) : ACalls Tryz.prog 208 (memory_text_args words) (memory_text_rows words) (memory_text_enc (memory_text words)) (memory_text_out (memory_text words)) :=
  have hG : AllOK Tryz.prog [] := .nil
  FnOK.calls drawn tabOK hG Tryz.func208 (LL_ok drawn tabOK hG 3 (invs := memory_text_invs)) (FnOK.of (memory_text_nf words _) (Tree.main' (memory_text_tot words hw) ⟨rfl, rfl⟩))
set_option maxRecDepth 100000 in
theorem memory_text_conv (args : List D) (rows : List Row) : convA memory_text_sig args 0 = memory_text_args (argL .u32 args 0) := by kernel_rfl
set_option maxRecDepth 100000 in
theorem memory_text_convR (args : List D) (rows : List Row) : convRs memory_text_rsig rows 0 = memory_text_rows (argL .u32 args 0) := by kernel_rfl
set_option maxRecDepth 100000 in
theorem memory_text_ff (X : (List UInt8)) : (ffB (memory_text_enc X) && ffBR (memory_text_out X)) = true := by kernel_rfl
theorem memory_text_ok : ModelOK Tryz.prog memory_text_m := mkP_ok Tryz.call208 (fun args rows hp => by rw [memory_text_conv args rows, memory_text_convR args rows]; exact memory_text_calls (argL .u32 args 0) hp) (fun _ X => memory_text_ff X)
def memory_Page_t (m : (List Int)) (frame : Int) : Tree ((List UInt8) × Bool) :=
.lv (memory_hasPage m frame) fun (x0 : Bool) => .br (!x0) (.lf ([], false)) (.cn (Nat.beq (1 : Nat) (1 : Nat) && Nat.blt (0 : Nat) (1 : Nat) && decide ((0 : Int) ≤ IntKind.wrap IntKind.i64 (frame * (32 : Int)) ∧ IntKind.wrap IntKind.i64 (frame * (32 : Int)) ≤ IntKind.wrap IntKind.i64 (IntKind.wrap IntKind.i64 (frame * (32 : Int)) + (32 : Int)) ∧ IntKind.wrap IntKind.i64 (IntKind.wrap IntKind.i64 (frame * (32 : Int)) + (32 : Int)) ≤ (↑(List.length m) : Int))) (.an (memory_text_pre (List.take (Int.toNat (IntKind.wrap IntKind.i64 (IntKind.wrap IntKind.i64 (frame * (32 : Int)) + (32 : Int))) - Int.toNat (IntKind.wrap IntKind.i64 (frame * (32 : Int)))) (List.drop (Int.toNat (IntKind.wrap IntKind.i64 (frame * (32 : Int)))) m))) (.lv (memory_text (List.take (Int.toNat (IntKind.wrap IntKind.i64 (IntKind.wrap IntKind.i64 (frame * (32 : Int)) + (32 : Int))) - Int.toNat (IntKind.wrap IntKind.i64 (frame * (32 : Int)))) (List.drop (Int.toNat (IntKind.wrap IntKind.i64 (frame * (32 : Int)))) m))) fun (x1 : List UInt8) => .lf (x1, true))))
def memory_Page (m : (List Int)) (frame : Int) : ((List UInt8) × Bool) := (memory_Page_t m frame).m
abbrev memory_Page_pre (m : (List Int)) (frame : Int) : Prop := (memory_Page_t m frame).p
def memory_Page_args (m : (List Int)) (frame : Int) : List D := [.sl 1 (.ints .u32 m) false, .int .i64 frame]
def memory_Page_rows (m : (List Int)) (frame : Int) : List Row := []
def memory_Page_enc (X : ((List UInt8) × Bool)) : D := .tup [.str (X.1), .bool (X.2)]
def memory_Page_out (X : ((List UInt8) × Bool)) : List Row := []
def memory_Page_dirs : List Dir := []
def memory_Page_sig : List PT := [.one (.ints .u32), .one (.int .i64)]
def memory_Page_rsig : List RT := []
def memory_Page_val (args : List D) (rows : List Row) : ((List UInt8) × Bool) := memory_Page (argL .u32 args 0) (argI args 1)
def memory_Page_prf (args : List D) (rows : List Row) : Prop := memory_Page_pre (argL .u32 args 0) (argI args 1)
def memory_Page_m : Model := mkP 161 [] true memory_Page_sig memory_Page_rsig memory_Page_prf memory_Page_val memory_Page_enc memory_Page_out
set_option maxRecDepth 100000 in
theorem memory_Page_nf (m : (List Int)) (frame : Int) (Q : D → List Row → Prop) : (fnVC tab [memory_hasPage_m, memory_text_m] (LL tab [memory_hasPage_m, memory_text_m] Tryz.f161.ntmps 0 [] 2) Tryz.f161 (memory_Page_args m frame) (memory_Page_rows m frame) fun d R => canonVC (memory_Page_rows m frame).length memory_Page_dirs d R Q) = (memory_Page_t m frame).q (fun X => Q (memory_Page_enc X) (memory_Page_out X)) := by kernel_rfl
set_option maxRecDepth 100000 in
theorem memory_Page_calls (m : (List Int)) (frame : Int) (hw : memory_Page_pre m frame) : ACalls Tryz.prog 161 (memory_Page_args m frame) (memory_Page_rows m frame) (memory_Page_enc (memory_Page m frame)) (memory_Page_out (memory_Page m frame)) :=
  have hG : AllOK Tryz.prog [memory_hasPage_m, memory_text_m] := .cons memory_hasPage_ok (.cons memory_text_ok (.nil))
  FnOK.calls drawn tabOK hG Tryz.func161 (LL_ok drawn tabOK hG 2 (invs := [])) (FnOK.of (memory_Page_nf m frame _) (Tree.main' hw ⟨rfl, rfl⟩))
set_option maxRecDepth 100000 in
theorem memory_Page_conv (args : List D) (rows : List Row) : convA memory_Page_sig args 0 = memory_Page_args (argL .u32 args 0) (argI args 1) := by kernel_rfl
set_option maxRecDepth 100000 in
theorem memory_Page_convR (args : List D) (rows : List Row) : convRs memory_Page_rsig rows 0 = memory_Page_rows (argL .u32 args 0) (argI args 1) := by kernel_rfl
set_option maxRecDepth 100000 in
theorem memory_Page_ff (X : ((List UInt8) × Bool)) : (ffB (memory_Page_enc X) && ffBR (memory_Page_out X)) = true := by kernel_rfl
theorem memory_Page_ok : ModelOK Tryz.prog memory_Page_m := mkP_ok Tryz.call161 (fun args rows hp => by rw [memory_Page_conv args rows, memory_Page_convR args rows]; exact memory_Page_calls (argL .u32 args 0) (argI args 1) hp) (fun _ X => memory_Page_ff X)
def disk_Request_t (d0 : ApiDisk) (at0 : Int) : Tree (ApiOutput × Bool) :=
.br (d0.State != (1 : Int)) (.lf ({ Kind := (0 : Int), At := (0 : Int), Block := (0 : Int), Data := [] }, false)) (.br (d0.Cmd == (1 : Int)) (.lf ({ Kind := (3 : Int), At := at0, Block := d0.OpBlock, Data := [] }, true)) (.br (d0.Cmd == (2 : Int)) (.lf ({ Kind := (4 : Int), At := at0, Block := d0.OpBlock, Data := d0.OpData }, true)) (.lf ({ Kind := (0 : Int), At := (0 : Int), Block := (0 : Int), Data := [] }, false))))
def disk_Request (d0 : ApiDisk) (at0 : Int) : (ApiOutput × Bool) := (disk_Request_t d0 at0).m
theorem disk_Request_tot (d0 : ApiDisk) (at0 : Int) : (disk_Request_t d0 at0).p := (wB wL (wB wL (wB wL wL)))
def disk_Request_args (d0 : ApiDisk) (at0 : Int) : List D := [.agg (ApiDisk.cells d0), .int .u64 at0]
def disk_Request_rows (d0 : ApiDisk) (at0 : Int) : List Row := []
def disk_Request_enc (X : (ApiOutput × Bool)) : D := .tup [.agg (ApiOutput.cells (X.1)), .bool (X.2)]
def disk_Request_out (X : (ApiOutput × Bool)) : List Row := []
def disk_Request_dirs : List Dir := []
def disk_Request_sig : List PT := [.agg ApiDisk.sig, .one (.int .u64)]
def disk_Request_rsig : List RT := []
def disk_Request_val (args : List D) (rows : List Row) : (ApiOutput × Bool) := disk_Request (ApiDisk.of (args.getD 0 .dead).cells) (argI args 1)
def disk_Request_m : Model := mkR 223 [] true disk_Request_sig disk_Request_rsig disk_Request_val disk_Request_enc disk_Request_out
set_option maxRecDepth 100000 in
theorem disk_Request_nf (d0 : ApiDisk) (at0 : Int) (Q : D → List Row → Prop) : (fnVC tab [] (LL tab [] Tryz.f223.ntmps 0 [] 2) Tryz.f223 (disk_Request_args d0 at0) (disk_Request_rows d0 at0) fun d R => canonVC (disk_Request_rows d0 at0).length disk_Request_dirs d R Q) = (disk_Request_t d0 at0).q (fun X => Q (disk_Request_enc X) (disk_Request_out X)) := by kernel_rfl
set_option maxRecDepth 100000 in
theorem disk_Request_calls (d0 : ApiDisk) (at0 : Int) : ACalls Tryz.prog 223 (disk_Request_args d0 at0) (disk_Request_rows d0 at0) (disk_Request_enc (disk_Request d0 at0)) (disk_Request_out (disk_Request d0 at0)) :=
  have hG : AllOK Tryz.prog [] := .nil
  FnOK.calls drawn tabOK hG Tryz.func223 (LL_ok drawn tabOK hG 2 (invs := [])) (FnOK.of (disk_Request_nf d0 at0 _) (Tree.main' (disk_Request_tot d0 at0) ⟨rfl, rfl⟩))
set_option maxRecDepth 100000 in
theorem disk_Request_conv (args : List D) (rows : List Row) : convA disk_Request_sig args 0 = disk_Request_args (ApiDisk.of (args.getD 0 .dead).cells) (argI args 1) := by kernel_rfl
set_option maxRecDepth 100000 in
theorem disk_Request_convR (args : List D) (rows : List Row) : convRs disk_Request_rsig rows 0 = disk_Request_rows (ApiDisk.of (args.getD 0 .dead).cells) (argI args 1) := by kernel_rfl
set_option maxRecDepth 100000 in
theorem disk_Request_ff (X : (ApiOutput × Bool)) : (ffB (disk_Request_enc X) && ffBR (disk_Request_out X)) = true := by kernel_rfl
theorem disk_Request_ok : ModelOK Tryz.prog disk_Request_m := mkR_ok Tryz.call223 (fun args rows => by rw [disk_Request_conv args rows, disk_Request_convR args rows]; exact disk_Request_calls (ApiDisk.of (args.getD 0 .dead).cells) (argI args 1)) (fun _ X => disk_Request_ff X)
def disk_issue_t (d0 : ApiDisk) (m : (List Int)) (cmd : Int) (at0 : Int) : Tree (ApiDisk × (List ApiOutput)) :=
.br (d0.State != (0 : Int)) (.lf (d0, [])) (.br (decide (d0.Block ≥ d0.Blocks)) (.lf ({ Blocks := d0.Blocks, Block := d0.Block, Frame := d0.Frame, State := (3 : Int), Cmd := d0.Cmd, OpBlock := d0.OpBlock, OpFrame := d0.OpFrame, OpData := d0.OpData }, [])) (.lv (disk_isPage m d0.Frame) fun (x0 : Bool) => .br (!x0) (.lf ({ Blocks := d0.Blocks, Block := d0.Block, Frame := d0.Frame, State := (3 : Int), Cmd := d0.Cmd, OpBlock := d0.OpBlock, OpFrame := d0.OpFrame, OpData := d0.OpData }, [])) (.br (cmd == (2 : Int)) (.an (memory_Page_pre m (IntKind.wrap IntKind.i64 d0.Frame)) (.lv (memory_Page m (IntKind.wrap IntKind.i64 d0.Frame)) fun (x1 : List UInt8 × Bool) => .lv (disk_Request { Blocks := d0.Blocks, Block := d0.Block, Frame := d0.Frame, State := (1 : Int), Cmd := cmd, OpBlock := d0.Block, OpFrame := d0.Frame, OpData := x1.fst } at0) fun (x2 : ApiOutput × Bool) => .lf ({ Blocks := d0.Blocks, Block := d0.Block, Frame := d0.Frame, State := (1 : Int), Cmd := cmd, OpBlock := d0.Block, OpFrame := d0.Frame, OpData := x1.fst }, [x2.fst]))) (.lv (disk_Request { Blocks := d0.Blocks, Block := d0.Block, Frame := d0.Frame, State := (1 : Int), Cmd := cmd, OpBlock := d0.Block, OpFrame := d0.Frame, OpData := [] } at0) fun (x3 : ApiOutput × Bool) => .lf ({ Blocks := d0.Blocks, Block := d0.Block, Frame := d0.Frame, State := (1 : Int), Cmd := cmd, OpBlock := d0.Block, OpFrame := d0.Frame, OpData := [] }, [x3.fst])))))
def disk_issue (d0 : ApiDisk) (m : (List Int)) (cmd : Int) (at0 : Int) : (ApiDisk × (List ApiOutput)) := (disk_issue_t d0 m cmd at0).m
abbrev disk_issue_pre (d0 : ApiDisk) (m : (List Int)) (cmd : Int) (at0 : Int) : Prop := (disk_issue_t d0 m cmd at0).p
def disk_issue_args (d0 : ApiDisk) (m : (List Int)) (cmd : Int) (at0 : Int) : List D := [.agg (ApiDisk.cells d0), .sl 1 (.ints .u32 m) false, .int .i64 cmd, .int .u64 at0]
def disk_issue_rows (d0 : ApiDisk) (m : (List Int)) (cmd : Int) (at0 : Int) : List Row := []
def disk_issue_enc (X : (ApiDisk × (List ApiOutput))) : D := .tup [.agg (ApiDisk.cells (X.1)), .sl 4 (.recs .apiOutput (X.2)) true]
def disk_issue_out (X : (ApiDisk × (List ApiOutput))) : List Row := []
def disk_issue_dirs : List Dir := [.sl (.recs .apiOutput) true]
def disk_issue_sig : List PT := [.agg ApiDisk.sig, .one (.ints .u32), .one (.int .i64), .one (.int .u64)]
def disk_issue_rsig : List RT := []
def disk_issue_val (args : List D) (rows : List Row) : (ApiDisk × (List ApiOutput)) := disk_issue (ApiDisk.of (args.getD 0 .dead).cells) (argL .u32 args 1) (argI args 2) (argI args 3)
def disk_issue_prf (args : List D) (rows : List Row) : Prop := disk_issue_pre (ApiDisk.of (args.getD 0 .dead).cells) (argL .u32 args 1) (argI args 2) (argI args 3)
def disk_issue_m : Model := mkP 180 [] true disk_issue_sig disk_issue_rsig disk_issue_prf disk_issue_val disk_issue_enc disk_issue_out
set_option maxRecDepth 100000 in
theorem disk_issue_nf (d0 : ApiDisk) (m : (List Int)) (cmd : Int) (at0 : Int) (Q : D → List Row → Prop) : (fnVC tab [disk_isPage_m, memory_Page_m, disk_Request_m] (LL tab [disk_isPage_m, memory_Page_m, disk_Request_m] Tryz.f180.ntmps 0 [] 2) Tryz.f180 (disk_issue_args d0 m cmd at0) (disk_issue_rows d0 m cmd at0) fun d R => canonVC (disk_issue_rows d0 m cmd at0).length disk_issue_dirs d R Q) = (disk_issue_t d0 m cmd at0).q (fun X => Q (disk_issue_enc X) (disk_issue_out X)) := by kernel_rfl
set_option maxRecDepth 100000 in
theorem disk_issue_calls (d0 : ApiDisk) (m : (List Int)) (cmd : Int) (at0 : Int) (hw : disk_issue_pre d0 m cmd at0) : ACalls Tryz.prog 180 (disk_issue_args d0 m cmd at0) (disk_issue_rows d0 m cmd at0) (disk_issue_enc (disk_issue d0 m cmd at0)) (disk_issue_out (disk_issue d0 m cmd at0)) :=
  have hG : AllOK Tryz.prog [disk_isPage_m, memory_Page_m, disk_Request_m] := .cons disk_isPage_ok (.cons memory_Page_ok (.cons disk_Request_ok (.nil)))
  FnOK.calls drawn tabOK hG Tryz.func180 (LL_ok drawn tabOK hG 2 (invs := [])) (FnOK.of (disk_issue_nf d0 m cmd at0 _) (Tree.main' hw ⟨rfl, rfl⟩))
set_option maxRecDepth 100000 in
theorem disk_issue_conv (args : List D) (rows : List Row) : convA disk_issue_sig args 0 = disk_issue_args (ApiDisk.of (args.getD 0 .dead).cells) (argL .u32 args 1) (argI args 2) (argI args 3) := by kernel_rfl
set_option maxRecDepth 100000 in
theorem disk_issue_convR (args : List D) (rows : List Row) : convRs disk_issue_rsig rows 0 = disk_issue_rows (ApiDisk.of (args.getD 0 .dead).cells) (argL .u32 args 1) (argI args 2) (argI args 3) := by kernel_rfl
set_option maxRecDepth 100000 in
theorem disk_issue_ff (X : (ApiDisk × (List ApiOutput))) : (ffB (disk_issue_enc X) && ffBR (disk_issue_out X)) = true := by kernel_rfl
theorem disk_issue_ok : ModelOK Tryz.prog disk_issue_m := mkP_ok Tryz.call180 (fun args rows hp => by rw [disk_issue_conv args rows, disk_issue_convR args rows]; exact disk_issue_calls (ApiDisk.of (args.getD 0 .dead).cells) (argL .u32 args 1) (argI args 2) (argI args 3) hp) (fun _ X => disk_issue_ff X)
def disk_Out_t (d0 : ApiDisk) (m : (List Int)) (port : Int) (v : Int) (at0 : Int) : Tree (ApiDisk × (List ApiOutput)) :=
.br (port == (4 : Int)) (.lf ({ Blocks := d0.Blocks, Block := v, Frame := d0.Frame, State := d0.State, Cmd := d0.Cmd, OpBlock := d0.OpBlock, OpFrame := d0.OpFrame, OpData := d0.OpData }, [])) (.br (port == (5 : Int)) (.lf ({ Blocks := d0.Blocks, Block := d0.Block, Frame := v, State := d0.State, Cmd := d0.Cmd, OpBlock := d0.OpBlock, OpFrame := d0.OpFrame, OpData := d0.OpData }, [])) (.br (port == (6 : Int)) (.br (v == (1 : Int)) (.an (disk_issue_pre d0 m (IntKind.wrap IntKind.i64 v) at0) (.lv (disk_issue d0 m (IntKind.wrap IntKind.i64 v) at0) fun (x0 : ApiDisk × List ApiOutput) => .lf (x0.fst, x0.snd))) (.br (v == (2 : Int)) (.an (disk_issue_pre d0 m (IntKind.wrap IntKind.i64 v) at0) (.lv (disk_issue d0 m (IntKind.wrap IntKind.i64 v) at0) fun (x1 : ApiDisk × List ApiOutput) => .lf (x1.fst, x1.snd))) (.br (v == (0 : Int)) (.lv (disk_Pending d0) fun (x2 : Bool) => .br x2 (.lf ({ Blocks := d0.Blocks, Block := d0.Block, Frame := d0.Frame, State := (0 : Int), Cmd := d0.Cmd, OpBlock := d0.OpBlock, OpFrame := d0.OpFrame, OpData := d0.OpData }, [])) (.lf (d0, []))) (.lf (d0, []))))) (.lf (d0, []))))
def disk_Out (d0 : ApiDisk) (m : (List Int)) (port : Int) (v : Int) (at0 : Int) : (ApiDisk × (List ApiOutput)) := (disk_Out_t d0 m port v at0).m
abbrev disk_Out_pre (d0 : ApiDisk) (m : (List Int)) (port : Int) (v : Int) (at0 : Int) : Prop := (disk_Out_t d0 m port v at0).p
def disk_Out_args (d0 : ApiDisk) (m : (List Int)) (port : Int) (v : Int) (at0 : Int) : List D := [.agg (ApiDisk.cells d0), .sl 1 (.ints .u32 m) false, .int .i64 port, .int .u32 v, .int .u64 at0]
def disk_Out_rows (d0 : ApiDisk) (m : (List Int)) (port : Int) (v : Int) (at0 : Int) : List Row := []
def disk_Out_enc (X : (ApiDisk × (List ApiOutput))) : D := .tup [.agg (ApiDisk.cells (X.1)), .sl 4 (.recs .apiOutput (X.2)) true]
def disk_Out_out (X : (ApiDisk × (List ApiOutput))) : List Row := []
def disk_Out_dirs : List Dir := [.sl (.recs .apiOutput) true]
def disk_Out_sig : List PT := [.agg ApiDisk.sig, .one (.ints .u32), .one (.int .i64), .one (.int .u32), .one (.int .u64)]
def disk_Out_rsig : List RT := []
def disk_Out_val (args : List D) (rows : List Row) : (ApiDisk × (List ApiOutput)) := disk_Out (ApiDisk.of (args.getD 0 .dead).cells) (argL .u32 args 1) (argI args 2) (argI args 3) (argI args 4)
def disk_Out_prf (args : List D) (rows : List Row) : Prop := disk_Out_pre (ApiDisk.of (args.getD 0 .dead).cells) (argL .u32 args 1) (argI args 2) (argI args 3) (argI args 4)
def disk_Out_m : Model := mkP 133 [] true disk_Out_sig disk_Out_rsig disk_Out_prf disk_Out_val disk_Out_enc disk_Out_out
set_option maxRecDepth 100000 in
theorem disk_Out_nf (d0 : ApiDisk) (m : (List Int)) (port : Int) (v : Int) (at0 : Int) (Q : D → List Row → Prop) : (fnVC tab [disk_issue_m, disk_Pending_m] (LL tab [disk_issue_m, disk_Pending_m] Tryz.f133.ntmps 0 [] 2) Tryz.f133 (disk_Out_args d0 m port v at0) (disk_Out_rows d0 m port v at0) fun d R => canonVC (disk_Out_rows d0 m port v at0).length disk_Out_dirs d R Q) = (disk_Out_t d0 m port v at0).q (fun X => Q (disk_Out_enc X) (disk_Out_out X)) := by kernel_rfl
set_option maxRecDepth 100000 in
theorem disk_Out_calls (d0 : ApiDisk) (m : (List Int)) (port : Int) (v : Int) (at0 : Int) (hw : disk_Out_pre d0 m port v at0) : ACalls Tryz.prog 133 (disk_Out_args d0 m port v at0) (disk_Out_rows d0 m port v at0) (disk_Out_enc (disk_Out d0 m port v at0)) (disk_Out_out (disk_Out d0 m port v at0)) :=
  have hG : AllOK Tryz.prog [disk_issue_m, disk_Pending_m] := .cons disk_issue_ok (.cons disk_Pending_ok (.nil))
  FnOK.calls drawn tabOK hG Tryz.func133 (LL_ok drawn tabOK hG 2 (invs := [])) (FnOK.of (disk_Out_nf d0 m port v at0 _) (Tree.main' hw ⟨rfl, rfl⟩))
set_option maxRecDepth 100000 in
theorem disk_Out_conv (args : List D) (rows : List Row) : convA disk_Out_sig args 0 = disk_Out_args (ApiDisk.of (args.getD 0 .dead).cells) (argL .u32 args 1) (argI args 2) (argI args 3) (argI args 4) := by kernel_rfl
set_option maxRecDepth 100000 in
theorem disk_Out_convR (args : List D) (rows : List Row) : convRs disk_Out_rsig rows 0 = disk_Out_rows (ApiDisk.of (args.getD 0 .dead).cells) (argL .u32 args 1) (argI args 2) (argI args 3) (argI args 4) := by kernel_rfl
set_option maxRecDepth 100000 in
theorem disk_Out_ff (X : (ApiDisk × (List ApiOutput))) : (ffB (disk_Out_enc X) && ffBR (disk_Out_out X)) = true := by kernel_rfl
theorem disk_Out_ok : ModelOK Tryz.prog disk_Out_m := mkP_ok Tryz.call133 (fun args rows hp => by rw [disk_Out_conv args rows, disk_Out_convR args rows]; exact disk_Out_calls (ApiDisk.of (args.getD 0 .dead).cells) (argL .u32 args 1) (argI args 2) (argI args 3) (argI args 4) hp) (fun _ X => disk_Out_ff X)
def nic_isPage_t (m : (List Int)) (frame : Int) : Tree Bool :=
.lv (memory_Pages m) fun (x0 : Int) => .lf (decide (IntKind.wrap IntKind.u64 frame < IntKind.wrap IntKind.u64 x0))
def nic_isPage (m : (List Int)) (frame : Int) : Bool := (nic_isPage_t m frame).m
theorem nic_isPage_tot (m : (List Int)) (frame : Int) : (nic_isPage_t m frame).p := (wV fun _ => wL)
def nic_isPage_args (m : (List Int)) (frame : Int) : List D := [.sl 1 (.ints .u32 m) false, .int .u32 frame]
def nic_isPage_rows (m : (List Int)) (frame : Int) : List Row := []
def nic_isPage_enc (X : Bool) : D := .bool X
def nic_isPage_out (X : Bool) : List Row := []
def nic_isPage_dirs : List Dir := []
def nic_isPage_sig : List PT := [.one (.ints .u32), .one (.int .u32)]
def nic_isPage_rsig : List RT := []
def nic_isPage_val (args : List D) (rows : List Row) : Bool := nic_isPage (argL .u32 args 0) (argI args 1)
def nic_isPage_m : Model := mkR 160 [] true nic_isPage_sig nic_isPage_rsig nic_isPage_val nic_isPage_enc nic_isPage_out
set_option maxRecDepth 100000 in
theorem nic_isPage_nf (m : (List Int)) (frame : Int) (Q : D → List Row → Prop) : (fnVC tab [memory_Pages_m] (LL tab [memory_Pages_m] Tryz.f160.ntmps 0 [] 2) Tryz.f160 (nic_isPage_args m frame) (nic_isPage_rows m frame) fun d R => canonVC (nic_isPage_rows m frame).length nic_isPage_dirs d R Q) = (nic_isPage_t m frame).q (fun X => Q (nic_isPage_enc X) (nic_isPage_out X)) := by kernel_rfl
set_option maxRecDepth 100000 in
theorem nic_isPage_calls (m : (List Int)) (frame : Int) : ACalls Tryz.prog 160 (nic_isPage_args m frame) (nic_isPage_rows m frame) (nic_isPage_enc (nic_isPage m frame)) (nic_isPage_out (nic_isPage m frame)) :=
  have hG : AllOK Tryz.prog [memory_Pages_m] := .cons memory_Pages_ok (.nil)
  FnOK.calls drawn tabOK hG Tryz.func160 (LL_ok drawn tabOK hG 2 (invs := [])) (FnOK.of (nic_isPage_nf m frame _) (Tree.main' (nic_isPage_tot m frame) ⟨rfl, rfl⟩))
set_option maxRecDepth 100000 in
theorem nic_isPage_conv (args : List D) (rows : List Row) : convA nic_isPage_sig args 0 = nic_isPage_args (argL .u32 args 0) (argI args 1) := by kernel_rfl
set_option maxRecDepth 100000 in
theorem nic_isPage_convR (args : List D) (rows : List Row) : convRs nic_isPage_rsig rows 0 = nic_isPage_rows (argL .u32 args 0) (argI args 1) := by kernel_rfl
set_option maxRecDepth 100000 in
theorem nic_isPage_ff (X : Bool) : (ffB (nic_isPage_enc X) && ffBR (nic_isPage_out X)) = true := by kernel_rfl
theorem nic_isPage_ok : ModelOK Tryz.prog nic_isPage_m := mkR_ok Tryz.call160 (fun args rows => by rw [nic_isPage_conv args rows, nic_isPage_convR args rows]; exact nic_isPage_calls (argL .u32 args 0) (argI args 1)) (fun _ X => nic_isPage_ff X)
def nic_send_t (n : ApiNic) (m : (List Int)) (at0 : Int) : Tree (List ApiOutput) :=
.br (decide (n.Len < (1 : Int))) (.lf ([])) (.br (decide (n.Len > (128 : Int))) (.lf ([])) (.lv (nic_isPage m n.Frame) fun (x0 : Bool) => .br (!x0) (.lf ([])) (.an (memory_Page_pre m (IntKind.wrap IntKind.i64 n.Frame)) (.lv (memory_Page m (IntKind.wrap IntKind.i64 n.Frame)) fun (x1 : List UInt8 × Bool) => .cn (decide ((0 : Int) ≤ (0 : Int) ∧ (0 : Int) ≤ n.Len ∧ n.Len ≤ (↑(List.length x1.fst) : Int))) (.lf ([{ Kind := (2 : Int), At := at0, Block := (0 : Int), Data := List.take (Int.toNat n.Len - Int.toNat (0 : Int)) (List.drop (Int.toNat (0 : Int)) x1.fst) }]))))))
def nic_send (n : ApiNic) (m : (List Int)) (at0 : Int) : (List ApiOutput) := (nic_send_t n m at0).m
abbrev nic_send_pre (n : ApiNic) (m : (List Int)) (at0 : Int) : Prop := (nic_send_t n m at0).p
def nic_send_args (n : ApiNic) (m : (List Int)) (at0 : Int) : List D := [.agg (ApiNic.cells n), .sl 1 (.ints .u32 m) false, .int .u64 at0]
def nic_send_rows (n : ApiNic) (m : (List Int)) (at0 : Int) : List Row := []
def nic_send_enc (X : (List ApiOutput)) : D := .sl 4 (.recs .apiOutput X) true
def nic_send_out (X : (List ApiOutput)) : List Row := []
def nic_send_dirs : List Dir := [.sl (.recs .apiOutput) true]
def nic_send_sig : List PT := [.agg ApiNic.sig, .one (.ints .u32), .one (.int .u64)]
def nic_send_rsig : List RT := []
def nic_send_val (args : List D) (rows : List Row) : (List ApiOutput) := nic_send (ApiNic.of (args.getD 0 .dead).cells) (argL .u32 args 1) (argI args 2)
def nic_send_prf (args : List D) (rows : List Row) : Prop := nic_send_pre (ApiNic.of (args.getD 0 .dead).cells) (argL .u32 args 1) (argI args 2)
def nic_send_m : Model := mkP 181 [] true nic_send_sig nic_send_rsig nic_send_prf nic_send_val nic_send_enc nic_send_out
set_option maxRecDepth 100000 in
theorem nic_send_nf (n : ApiNic) (m : (List Int)) (at0 : Int) (Q : D → List Row → Prop) : (fnVC tab [nic_isPage_m, memory_Page_m] (LL tab [nic_isPage_m, memory_Page_m] Tryz.f181.ntmps 0 [] 2) Tryz.f181 (nic_send_args n m at0) (nic_send_rows n m at0) fun d R => canonVC (nic_send_rows n m at0).length nic_send_dirs d R Q) = (nic_send_t n m at0).q (fun X => Q (nic_send_enc X) (nic_send_out X)) := by kernel_rfl
set_option maxRecDepth 100000 in
theorem nic_send_calls (n : ApiNic) (m : (List Int)) (at0 : Int) (hw : nic_send_pre n m at0) : ACalls Tryz.prog 181 (nic_send_args n m at0) (nic_send_rows n m at0) (nic_send_enc (nic_send n m at0)) (nic_send_out (nic_send n m at0)) :=
  have hG : AllOK Tryz.prog [nic_isPage_m, memory_Page_m] := .cons nic_isPage_ok (.cons memory_Page_ok (.nil))
  FnOK.calls drawn tabOK hG Tryz.func181 (LL_ok drawn tabOK hG 2 (invs := [])) (FnOK.of (nic_send_nf n m at0 _) (Tree.main' hw ⟨rfl, rfl⟩))
set_option maxRecDepth 100000 in
theorem nic_send_conv (args : List D) (rows : List Row) : convA nic_send_sig args 0 = nic_send_args (ApiNic.of (args.getD 0 .dead).cells) (argL .u32 args 1) (argI args 2) := by kernel_rfl
set_option maxRecDepth 100000 in
theorem nic_send_convR (args : List D) (rows : List Row) : convRs nic_send_rsig rows 0 = nic_send_rows (ApiNic.of (args.getD 0 .dead).cells) (argL .u32 args 1) (argI args 2) := by kernel_rfl
set_option maxRecDepth 100000 in
theorem nic_send_ff (X : (List ApiOutput)) : (ffB (nic_send_enc X) && ffBR (nic_send_out X)) = true := by kernel_rfl
theorem nic_send_ok : ModelOK Tryz.prog nic_send_m := mkP_ok Tryz.call181 (fun args rows hp => by rw [nic_send_conv args rows, nic_send_convR args rows]; exact nic_send_calls (ApiNic.of (args.getD 0 .dead).cells) (argL .u32 args 1) (argI args 2) hp) (fun _ X => nic_send_ff X)
def nic_Out_t (n : ApiNic) (m : (List Int)) (port : Int) (v : Int) (at0 : Int) : Tree (ApiNic × (List ApiOutput)) :=
.br (port == (7 : Int)) (.lf ({ Frame := v, Len := n.Len, Posted := n.Posted, Buffer := n.Buffer, Received := n.Received, Got := n.Got }, [])) (.br (port == (8 : Int)) (.lf ({ Frame := n.Frame, Len := v, Posted := n.Posted, Buffer := n.Buffer, Received := n.Received, Got := n.Got }, [])) (.br (port == (9 : Int)) (.br (v == (1 : Int)) (.an (nic_send_pre n m at0) (.lv (nic_send n m at0) fun (x0 : List ApiOutput) => .lf (n, x0))) (.br (v == (2 : Int)) (.lv (nic_isPage m n.Frame) fun (x1 : Bool) => .br x1 (.br (!n.Posted) (.br (!n.Received) (.lf ({ Frame := n.Frame, Len := n.Len, Posted := true, Buffer := n.Frame, Received := n.Received, Got := n.Got }, [])) (.lf (n, []))) (.lf (n, []))) (.lf (n, []))) (.br (v == (0 : Int)) (.lf ({ Frame := n.Frame, Len := n.Len, Posted := n.Posted, Buffer := n.Buffer, Received := false, Got := (0 : Int) }, [])) (.lf (n, []))))) (.lf (n, []))))
def nic_Out (n : ApiNic) (m : (List Int)) (port : Int) (v : Int) (at0 : Int) : (ApiNic × (List ApiOutput)) := (nic_Out_t n m port v at0).m
abbrev nic_Out_pre (n : ApiNic) (m : (List Int)) (port : Int) (v : Int) (at0 : Int) : Prop := (nic_Out_t n m port v at0).p
def nic_Out_args (n : ApiNic) (m : (List Int)) (port : Int) (v : Int) (at0 : Int) : List D := [.agg (ApiNic.cells n), .sl 1 (.ints .u32 m) false, .int .i64 port, .int .u32 v, .int .u64 at0]
def nic_Out_rows (n : ApiNic) (m : (List Int)) (port : Int) (v : Int) (at0 : Int) : List Row := []
def nic_Out_enc (X : (ApiNic × (List ApiOutput))) : D := .tup [.agg (ApiNic.cells (X.1)), .sl 4 (.recs .apiOutput (X.2)) true]
def nic_Out_out (X : (ApiNic × (List ApiOutput))) : List Row := []
def nic_Out_dirs : List Dir := [.sl (.recs .apiOutput) true]
def nic_Out_sig : List PT := [.agg ApiNic.sig, .one (.ints .u32), .one (.int .i64), .one (.int .u32), .one (.int .u64)]
def nic_Out_rsig : List RT := []
def nic_Out_val (args : List D) (rows : List Row) : (ApiNic × (List ApiOutput)) := nic_Out (ApiNic.of (args.getD 0 .dead).cells) (argL .u32 args 1) (argI args 2) (argI args 3) (argI args 4)
def nic_Out_prf (args : List D) (rows : List Row) : Prop := nic_Out_pre (ApiNic.of (args.getD 0 .dead).cells) (argL .u32 args 1) (argI args 2) (argI args 3) (argI args 4)
def nic_Out_m : Model := mkP 134 [] true nic_Out_sig nic_Out_rsig nic_Out_prf nic_Out_val nic_Out_enc nic_Out_out
set_option maxRecDepth 100000 in
theorem nic_Out_nf (n : ApiNic) (m : (List Int)) (port : Int) (v : Int) (at0 : Int) (Q : D → List Row → Prop) : (fnVC tab [nic_send_m, nic_isPage_m] (LL tab [nic_send_m, nic_isPage_m] Tryz.f134.ntmps 0 [] 2) Tryz.f134 (nic_Out_args n m port v at0) (nic_Out_rows n m port v at0) fun d R => canonVC (nic_Out_rows n m port v at0).length nic_Out_dirs d R Q) = (nic_Out_t n m port v at0).q (fun X => Q (nic_Out_enc X) (nic_Out_out X)) := by kernel_rfl
set_option maxRecDepth 100000 in
theorem nic_Out_calls (n : ApiNic) (m : (List Int)) (port : Int) (v : Int) (at0 : Int) (hw : nic_Out_pre n m port v at0) : ACalls Tryz.prog 134 (nic_Out_args n m port v at0) (nic_Out_rows n m port v at0) (nic_Out_enc (nic_Out n m port v at0)) (nic_Out_out (nic_Out n m port v at0)) :=
  have hG : AllOK Tryz.prog [nic_send_m, nic_isPage_m] := .cons nic_send_ok (.cons nic_isPage_ok (.nil))
  FnOK.calls drawn tabOK hG Tryz.func134 (LL_ok drawn tabOK hG 2 (invs := [])) (FnOK.of (nic_Out_nf n m port v at0 _) (Tree.main' hw ⟨rfl, rfl⟩))
set_option maxRecDepth 100000 in
theorem nic_Out_conv (args : List D) (rows : List Row) : convA nic_Out_sig args 0 = nic_Out_args (ApiNic.of (args.getD 0 .dead).cells) (argL .u32 args 1) (argI args 2) (argI args 3) (argI args 4) := by kernel_rfl
set_option maxRecDepth 100000 in
theorem nic_Out_convR (args : List D) (rows : List Row) : convRs nic_Out_rsig rows 0 = nic_Out_rows (ApiNic.of (args.getD 0 .dead).cells) (argL .u32 args 1) (argI args 2) (argI args 3) (argI args 4) := by kernel_rfl
set_option maxRecDepth 100000 in
theorem nic_Out_ff (X : (ApiNic × (List ApiOutput))) : (ffB (nic_Out_enc X) && ffBR (nic_Out_out X)) = true := by kernel_rfl
theorem nic_Out_ok : ModelOK Tryz.prog nic_Out_m := mkP_ok Tryz.call134 (fun args rows hp => by rw [nic_Out_conv args rows, nic_Out_convR args rows]; exact nic_Out_calls (ApiNic.of (args.getD 0 .dead).cells) (argL .u32 args 1) (argI args 2) (argI args 3) (argI args 4) hp) (fun _ X => nic_Out_ff X)
def memory_SetPage_inv0 (m : (List Int)) (frame : Int) (s : (List UInt8)) (z : (Int) × (List Int)) : Prop := 0 ≤ z.1 ∧ z.1 ≤ 32 ∧ z.2.length = m.length
def memory_SetPage_meas0 (m : (List Int)) (frame : Int) (s : (List UInt8)) (z : (Int) × (List Int)) : Nat := (32 - z.1).toNat
def memory_SetPage_t (m : (List Int)) (frame : Int) (s : (List UInt8)) : Tree ((List Int) × Bool) :=
.an (slices_Clone_uint32_uint32_pre m) (.lv (slices_Clone_uint32_uint32 m) fun (x0 : List Int) => .lv (memory_hasPage m frame) fun (x1 : Bool) => .br (!x1) (.lf (x0, false)) (.br ((↑(List.length s) : Int) != (128 : Int)) (.lf (x0, false)) (.lp inferInstance (memory_SetPage_inv0 m frame s) (memory_SetPage_meas0 m frame s) ((((Els.Nil (Els.ints IntKind.u32 m) ∨ eqAt Nat (1 : Nat) (1 : Nat)) ∧ eqAt (List Int) m m) ∧ eqAt Int frame frame ∧ eqAt (List UInt8) s s ∧ True ∧ eqAt Bool false false ∧ True ∧ eqAt Int (IntKind.wrap IntKind.i64 (frame * (32 : Int))) (IntKind.wrap IntKind.i64 (frame * (32 : Int))) ∧ ((Els.Nil (Els.ints IntKind.u32 m) ∨ eqAt Nat (1 : Nat) (1 : Nat)) ∧ eqAt (List Int) m m) ∧ True ∧ ((Els.Nil (Els.ints IntKind.u32 m) ∨ eqAt Nat (1 : Nat) (1 : Nat)) ∧ eqAt (List Int) m m) ∧ eqAt Int frame frame ∧ eqAt Bool x1 x1 ∧ eqAt Bool (!x1) !x1 ∧ eqAt Bool false false ∧ eqAt (List UInt8) s s ∧ eqAt Int (↑(List.length s) : Int) (↑(List.length s) : Int) ∧ eqAt Bool ((↑(List.length s) : Int) != (128 : Int)) ((↑(List.length s) : Int) != (128 : Int)) ∧ eqAt Bool false false ∧ eqAt Int frame frame ∧ eqAt Int (IntKind.wrap IntKind.i64 (frame * (32 : Int))) (IntKind.wrap IntKind.i64 (frame * (32 : Int))) ∧ eqAt Int (0 : Int) (0 : Int) ∧ True) ∧ eqAt (List Int) x0 x0 ∧ True) ((0 : Int), x0) fun (v0 : Int × List Int) => .br (decide (v0.fst < (32 : Int))) (.cn (decide ((0 : Int) ≤ IntKind.wrap IntKind.i64 ((4 : Int) * v0.fst) ∧ IntKind.wrap IntKind.i64 ((4 : Int) * v0.fst) ≤ IntKind.wrap IntKind.i64 (IntKind.wrap IntKind.i64 ((4 : Int) * v0.fst) + (4 : Int)) ∧ IntKind.wrap IntKind.i64 (IntKind.wrap IntKind.i64 ((4 : Int) * v0.fst) + (4 : Int)) ≤ (↑(List.length s) : Int))) (.cn (decide ((0 : Int) ≤ (0 : Int) ∧ (0 : Int) < (↑(List.length (List.take (Int.toNat (IntKind.wrap IntKind.i64 (IntKind.wrap IntKind.i64 ((4 : Int) * v0.fst) + (4 : Int))) - Int.toNat (IntKind.wrap IntKind.i64 ((4 : Int) * v0.fst))) (List.drop (Int.toNat (IntKind.wrap IntKind.i64 ((4 : Int) * v0.fst))) s))) : Int))) (.cn (decide ((0 : Int) ≤ (1 : Int) ∧ (1 : Int) < (↑(List.length (List.take (Int.toNat (IntKind.wrap IntKind.i64 (IntKind.wrap IntKind.i64 ((4 : Int) * v0.fst) + (4 : Int))) - Int.toNat (IntKind.wrap IntKind.i64 ((4 : Int) * v0.fst))) (List.drop (Int.toNat (IntKind.wrap IntKind.i64 ((4 : Int) * v0.fst))) s))) : Int))) (.cn (decide ((0 : Int) ≤ (2 : Int) ∧ (2 : Int) < (↑(List.length (List.take (Int.toNat (IntKind.wrap IntKind.i64 (IntKind.wrap IntKind.i64 ((4 : Int) * v0.fst) + (4 : Int))) - Int.toNat (IntKind.wrap IntKind.i64 ((4 : Int) * v0.fst))) (List.drop (Int.toNat (IntKind.wrap IntKind.i64 ((4 : Int) * v0.fst))) s))) : Int))) (.cn (decide ((0 : Int) ≤ (3 : Int) ∧ (3 : Int) < (↑(List.length (List.take (Int.toNat (IntKind.wrap IntKind.i64 (IntKind.wrap IntKind.i64 ((4 : Int) * v0.fst) + (4 : Int))) - Int.toNat (IntKind.wrap IntKind.i64 ((4 : Int) * v0.fst))) (List.drop (Int.toNat (IntKind.wrap IntKind.i64 ((4 : Int) * v0.fst))) s))) : Int))) (.cn (Nat.beq (1 : Nat) (1 : Nat) && Nat.blt (0 : Nat) (1 : Nat) && decide ((0 : Int) ≤ IntKind.wrap IntKind.i64 (IntKind.wrap IntKind.i64 (frame * (32 : Int)) + v0.fst) ∧ IntKind.wrap IntKind.i64 (IntKind.wrap IntKind.i64 (frame * (32 : Int)) + v0.fst) < (↑(List.length v0.snd) : Int))) (.nx ((((Els.Nil (Els.ints IntKind.u32 m) ∨ eqAt Nat (1 : Nat) (1 : Nat)) ∧ eqAt (List Int) m m) ∧ eqAt Int frame frame ∧ eqAt (List UInt8) s s ∧ True ∧ eqAt Bool false false ∧ True ∧ eqAt Int (IntKind.wrap IntKind.i64 (frame * (32 : Int))) (IntKind.wrap IntKind.i64 (frame * (32 : Int))) ∧ ((Els.Nil (Els.ints IntKind.u32 m) ∨ eqAt Nat (1 : Nat) (1 : Nat)) ∧ eqAt (List Int) m m) ∧ True ∧ ((Els.Nil (Els.ints IntKind.u32 m) ∨ eqAt Nat (1 : Nat) (1 : Nat)) ∧ eqAt (List Int) m m) ∧ eqAt Int frame frame ∧ eqAt Bool x1 x1 ∧ eqAt Bool (!x1) !x1 ∧ eqAt Bool false false ∧ eqAt (List UInt8) s s ∧ eqAt Int (↑(List.length s) : Int) (↑(List.length s) : Int) ∧ eqAt Bool ((↑(List.length s) : Int) != (128 : Int)) ((↑(List.length s) : Int) != (128 : Int)) ∧ eqAt Bool false false ∧ eqAt Int frame frame ∧ eqAt Int (IntKind.wrap IntKind.i64 (frame * (32 : Int))) (IntKind.wrap IntKind.i64 (frame * (32 : Int))) ∧ eqAt Int (IntKind.wrap IntKind.i64 (v0.fst + (1 : Int))) (IntKind.wrap IntKind.i64 (v0.fst + (1 : Int))) ∧ True) ∧ eqAt (List Int) (List.set v0.snd (Int.toNat (IntKind.wrap IntKind.i64 (IntKind.wrap IntKind.i64 (frame * (32 : Int)) + v0.fst))) (ior IntKind.u32 (ior IntKind.u32 (ior IntKind.u32 (IntKind.wrap IntKind.u32 (↑(UInt8.toNat (List.getD (List.take (Int.toNat (IntKind.wrap IntKind.i64 (IntKind.wrap IntKind.i64 ((4 : Int) * v0.fst) + (4 : Int))) - Int.toNat (IntKind.wrap IntKind.i64 ((4 : Int) * v0.fst))) (List.drop (Int.toNat (IntKind.wrap IntKind.i64 ((4 : Int) * v0.fst))) s)) (Int.toNat (0 : Int)) (0 : UInt8))) : Int)) (ishl IntKind.u32 (IntKind.wrap IntKind.u32 (↑(UInt8.toNat (List.getD (List.take (Int.toNat (IntKind.wrap IntKind.i64 (IntKind.wrap IntKind.i64 ((4 : Int) * v0.fst) + (4 : Int))) - Int.toNat (IntKind.wrap IntKind.i64 ((4 : Int) * v0.fst))) (List.drop (Int.toNat (IntKind.wrap IntKind.i64 ((4 : Int) * v0.fst))) s)) (Int.toNat (1 : Int)) (0 : UInt8))) : Int)) (8 : Int))) (ishl IntKind.u32 (IntKind.wrap IntKind.u32 (↑(UInt8.toNat (List.getD (List.take (Int.toNat (IntKind.wrap IntKind.i64 (IntKind.wrap IntKind.i64 ((4 : Int) * v0.fst) + (4 : Int))) - Int.toNat (IntKind.wrap IntKind.i64 ((4 : Int) * v0.fst))) (List.drop (Int.toNat (IntKind.wrap IntKind.i64 ((4 : Int) * v0.fst))) s)) (Int.toNat (2 : Int)) (0 : UInt8))) : Int)) (16 : Int))) (ishl IntKind.u32 (IntKind.wrap IntKind.u32 (↑(UInt8.toNat (List.getD (List.take (Int.toNat (IntKind.wrap IntKind.i64 (IntKind.wrap IntKind.i64 ((4 : Int) * v0.fst) + (4 : Int))) - Int.toNat (IntKind.wrap IntKind.i64 ((4 : Int) * v0.fst))) (List.drop (Int.toNat (IntKind.wrap IntKind.i64 ((4 : Int) * v0.fst))) s)) (Int.toNat (3 : Int)) (0 : UInt8))) : Int)) (24 : Int)))) (List.set v0.snd (Int.toNat (IntKind.wrap IntKind.i64 (IntKind.wrap IntKind.i64 (frame * (32 : Int)) + v0.fst))) (ior IntKind.u32 (ior IntKind.u32 (ior IntKind.u32 (IntKind.wrap IntKind.u32 (↑(UInt8.toNat (List.getD (List.take (Int.toNat (IntKind.wrap IntKind.i64 (IntKind.wrap IntKind.i64 ((4 : Int) * v0.fst) + (4 : Int))) - Int.toNat (IntKind.wrap IntKind.i64 ((4 : Int) * v0.fst))) (List.drop (Int.toNat (IntKind.wrap IntKind.i64 ((4 : Int) * v0.fst))) s)) (Int.toNat (0 : Int)) (0 : UInt8))) : Int)) (ishl IntKind.u32 (IntKind.wrap IntKind.u32 (↑(UInt8.toNat (List.getD (List.take (Int.toNat (IntKind.wrap IntKind.i64 (IntKind.wrap IntKind.i64 ((4 : Int) * v0.fst) + (4 : Int))) - Int.toNat (IntKind.wrap IntKind.i64 ((4 : Int) * v0.fst))) (List.drop (Int.toNat (IntKind.wrap IntKind.i64 ((4 : Int) * v0.fst))) s)) (Int.toNat (1 : Int)) (0 : UInt8))) : Int)) (8 : Int))) (ishl IntKind.u32 (IntKind.wrap IntKind.u32 (↑(UInt8.toNat (List.getD (List.take (Int.toNat (IntKind.wrap IntKind.i64 (IntKind.wrap IntKind.i64 ((4 : Int) * v0.fst) + (4 : Int))) - Int.toNat (IntKind.wrap IntKind.i64 ((4 : Int) * v0.fst))) (List.drop (Int.toNat (IntKind.wrap IntKind.i64 ((4 : Int) * v0.fst))) s)) (Int.toNat (2 : Int)) (0 : UInt8))) : Int)) (16 : Int))) (ishl IntKind.u32 (IntKind.wrap IntKind.u32 (↑(UInt8.toNat (List.getD (List.take (Int.toNat (IntKind.wrap IntKind.i64 (IntKind.wrap IntKind.i64 ((4 : Int) * v0.fst) + (4 : Int))) - Int.toNat (IntKind.wrap IntKind.i64 ((4 : Int) * v0.fst))) (List.drop (Int.toNat (IntKind.wrap IntKind.i64 ((4 : Int) * v0.fst))) s)) (Int.toNat (3 : Int)) (0 : UInt8))) : Int)) (24 : Int)))) ∧ True) (Sum.inl (IntKind.wrap IntKind.i64 (v0.fst + (1 : Int)), List.set v0.snd (Int.toNat (IntKind.wrap IntKind.i64 (IntKind.wrap IntKind.i64 (frame * (32 : Int)) + v0.fst))) (ior IntKind.u32 (ior IntKind.u32 (ior IntKind.u32 (IntKind.wrap IntKind.u32 (↑(UInt8.toNat (List.getD (List.take (Int.toNat (IntKind.wrap IntKind.i64 (IntKind.wrap IntKind.i64 ((4 : Int) * v0.fst) + (4 : Int))) - Int.toNat (IntKind.wrap IntKind.i64 ((4 : Int) * v0.fst))) (List.drop (Int.toNat (IntKind.wrap IntKind.i64 ((4 : Int) * v0.fst))) s)) (Int.toNat (0 : Int)) (0 : UInt8))) : Int)) (ishl IntKind.u32 (IntKind.wrap IntKind.u32 (↑(UInt8.toNat (List.getD (List.take (Int.toNat (IntKind.wrap IntKind.i64 (IntKind.wrap IntKind.i64 ((4 : Int) * v0.fst) + (4 : Int))) - Int.toNat (IntKind.wrap IntKind.i64 ((4 : Int) * v0.fst))) (List.drop (Int.toNat (IntKind.wrap IntKind.i64 ((4 : Int) * v0.fst))) s)) (Int.toNat (1 : Int)) (0 : UInt8))) : Int)) (8 : Int))) (ishl IntKind.u32 (IntKind.wrap IntKind.u32 (↑(UInt8.toNat (List.getD (List.take (Int.toNat (IntKind.wrap IntKind.i64 (IntKind.wrap IntKind.i64 ((4 : Int) * v0.fst) + (4 : Int))) - Int.toNat (IntKind.wrap IntKind.i64 ((4 : Int) * v0.fst))) (List.drop (Int.toNat (IntKind.wrap IntKind.i64 ((4 : Int) * v0.fst))) s)) (Int.toNat (2 : Int)) (0 : UInt8))) : Int)) (16 : Int))) (ishl IntKind.u32 (IntKind.wrap IntKind.u32 (↑(UInt8.toNat (List.getD (List.take (Int.toNat (IntKind.wrap IntKind.i64 (IntKind.wrap IntKind.i64 ((4 : Int) * v0.fst) + (4 : Int))) - Int.toNat (IntKind.wrap IntKind.i64 ((4 : Int) * v0.fst))) (List.drop (Int.toNat (IntKind.wrap IntKind.i64 ((4 : Int) * v0.fst))) s)) (Int.toNat (3 : Int)) (0 : UInt8))) : Int)) (24 : Int)))))))))))) (.lf (Sum.inr (v0.snd, true))))))
def memory_SetPage (m : (List Int)) (frame : Int) (s : (List UInt8)) : ((List Int) × Bool) := (memory_SetPage_t m frame s).m
abbrev memory_SetPage_pre (m : (List Int)) (frame : Int) (s : (List UInt8)) : Prop := (memory_SetPage_t m frame s).p
def memory_SetPage_args (m : (List Int)) (frame : Int) (s : (List UInt8)) : List D := [.sl 1 (.ints .u32 m) false, .int .i64 frame, .str s]
def memory_SetPage_rows (m : (List Int)) (frame : Int) (s : (List UInt8)) : List Row := []
def memory_SetPage_enc (X : ((List Int) × Bool)) : D := .tup [.all 0, .bool (X.2)]
def memory_SetPage_out (X : ((List Int) × Bool)) : List Row := [⟨false, 27, 1, .ints .u32 (X.1)⟩]
def memory_SetPage_dirs : List Dir := [.row 27 1 (.ints .u32)]
def memory_SetPage_sig : List PT := [.one (.ints .u32), .one (.int .i64), .one (.str)]
def memory_SetPage_rsig : List RT := []
def memory_SetPage_val (args : List D) (rows : List Row) : ((List Int) × Bool) := memory_SetPage (argL .u32 args 0) (argI args 1) (argS args 2)
def memory_SetPage_prf (args : List D) (rows : List Row) : Prop := memory_SetPage_pre (argL .u32 args 0) (argI args 1) (argS args 2)
def memory_SetPage_m : Model := mkP 159 [] true memory_SetPage_sig memory_SetPage_rsig memory_SetPage_prf memory_SetPage_val memory_SetPage_enc memory_SetPage_out
def memory_SetPage_i0 : LInv := {
  α := (Int) × (List Int)
  F := fun st a => ([(0, (GD.look st.env 0)), (1, (GD.look st.env 1)), (2, (GD.look st.env 2)), (6, (GD.look st.env 6)), (7, (GD.look st.env 7)), (8, .all 0), (9, (GD.look st.env 9)), (12, (GD.look st.env 12)), (13, .all 0), (14, (GD.look st.env 14)), (15, (GD.look st.env 15)), (16, (GD.look st.env 16)), (17, (GD.look st.env 17)), (18, (GD.look st.env 18)), (19, (GD.look st.env 19)), (20, (GD.look st.env 20)), (21, (GD.look st.env 21)), (22, (GD.look st.env 22)), (24, (GD.look st.env 24)), (25, (GD.look st.env 25)), (26, .int IntKind.i64 a.1)], [⟨false, 27, 1, .ints IntKind.u32 a.2⟩])
  a0 := fun st => ((GD.look st.env 26).toInt, (intsOf st.rows (rowNo (GD.look st.env 8) 1000000)))
  ex0 := fun st => [] ++ [(rowNo (GD.look st.env 8) (st.rows.length + 0))]
  next := fun st => ((GD.look st.env 26).toInt, (intsOf st.rows (rowNo (GD.look st.env 8) 1000000)))
  ex := fun st => [] ++ [(rowNo (GD.look st.env 8) (st.rows.length + 0))] }
def memory_SetPage_invs : List (Nat × LInv) := [(6, memory_SetPage_i0)]
set_option maxRecDepth 100000 in
theorem memory_SetPage_nf (m : (List Int)) (frame : Int) (s : (List UInt8)) (Q : D → List Row → Prop) : (fnVC tab [slices_Clone_uint32_uint32_m, memory_hasPage_m] (LL tab [slices_Clone_uint32_uint32_m, memory_hasPage_m] Tryz.f159.ntmps 0 memory_SetPage_invs 3) Tryz.f159 (memory_SetPage_args m frame s) (memory_SetPage_rows m frame s) fun d R => canonVC (memory_SetPage_rows m frame s).length memory_SetPage_dirs d R Q) = (memory_SetPage_t m frame s).q (fun X => Q (memory_SetPage_enc X) (memory_SetPage_out X)) := by kernel_rfl
set_option maxRecDepth 100000 in
theorem memory_SetPage_calls (m : (List Int)) (frame : Int) (s : (List UInt8)) (hw : memory_SetPage_pre m frame s) : ACalls Tryz.prog 159 (memory_SetPage_args m frame s) (memory_SetPage_rows m frame s) (memory_SetPage_enc (memory_SetPage m frame s)) (memory_SetPage_out (memory_SetPage m frame s)) :=
  have hG : AllOK Tryz.prog [slices_Clone_uint32_uint32_m, memory_hasPage_m] := .cons slices_Clone_uint32_uint32_ok (.cons memory_hasPage_ok (.nil))
  FnOK.calls drawn tabOK hG Tryz.func159 (LL_ok drawn tabOK hG 3 (invs := memory_SetPage_invs)) (FnOK.of (memory_SetPage_nf m frame s _) (Tree.main' hw ⟨rfl, rfl⟩))
set_option maxRecDepth 100000 in
theorem memory_SetPage_conv (args : List D) (rows : List Row) : convA memory_SetPage_sig args 0 = memory_SetPage_args (argL .u32 args 0) (argI args 1) (argS args 2) := by kernel_rfl
set_option maxRecDepth 100000 in
theorem memory_SetPage_convR (args : List D) (rows : List Row) : convRs memory_SetPage_rsig rows 0 = memory_SetPage_rows (argL .u32 args 0) (argI args 1) (argS args 2) := by kernel_rfl
set_option maxRecDepth 100000 in
theorem memory_SetPage_ff (X : ((List Int) × Bool)) : (ffB (memory_SetPage_enc X) && ffBR (memory_SetPage_out X)) = true := by kernel_rfl
theorem memory_SetPage_ok : ModelOK Tryz.prog memory_SetPage_m := mkP_ok Tryz.call159 (fun args rows hp => by rw [memory_SetPage_conv args rows, memory_SetPage_convR args rows]; exact memory_SetPage_calls (argL .u32 args 0) (argI args 1) (argS args 2) hp) (fun _ X => memory_SetPage_ff X)
def strings_Repeat (s : (List UInt8)) (count : Int) : (List UInt8) :=
Lib.repeatL s count.toNat
def strings_Repeat_pre (s : (List UInt8)) (count : Int) : Prop :=
0 ≤ count ∧ count ≤ 9223372036854775807 ∧ s.length * count.toNat ≤ 140737488355328
def strings_Repeat_args (s : (List UInt8)) (count : Int) : List D := [.str s, .int .i64 count]
def strings_Repeat_rows (s : (List UInt8)) (count : Int) : List Row := []
def strings_Repeat_enc (X : (List UInt8)) : D := .str X
def strings_Repeat_out (X : (List UInt8)) : List Row := []
def strings_Repeat_sig : List PT := [.one (.str), .one (.int .i64)]
def strings_Repeat_rsig : List RT := []
def strings_Repeat_val (args : List D) (rows : List Row) : (List UInt8) := strings_Repeat (argS args 0) (argI args 1)
def strings_Repeat_prf (args : List D) (rows : List Row) : Prop := strings_Repeat_pre (argS args 0) (argI args 1)
def strings_Repeat_m : Model := mkP 182 [] true strings_Repeat_sig strings_Repeat_rsig strings_Repeat_prf strings_Repeat_val strings_Repeat_enc strings_Repeat_out
theorem strings_Repeat_calls (s : (List UInt8)) (count : Int) (hw : strings_Repeat_pre s count) : ACalls Tryz.prog 182 (strings_Repeat_args s count) (strings_Repeat_rows s count) (strings_Repeat_enc (strings_Repeat s count)) (strings_Repeat_out (strings_Repeat s count)) := by
  exact repeat_of Tryz.strings_Repeat hw.1 hw.2.1 hw.2.2
set_option maxRecDepth 100000 in
theorem strings_Repeat_conv (args : List D) (rows : List Row) : convA strings_Repeat_sig args 0 = strings_Repeat_args (argS args 0) (argI args 1) := by kernel_rfl
set_option maxRecDepth 100000 in
theorem strings_Repeat_convR (args : List D) (rows : List Row) : convRs strings_Repeat_rsig rows 0 = strings_Repeat_rows (argS args 0) (argI args 1) := by kernel_rfl
set_option maxRecDepth 100000 in
theorem strings_Repeat_ff (X : (List UInt8)) : (ffB (strings_Repeat_enc X) && ffBR (strings_Repeat_out X)) = true := by kernel_rfl
theorem strings_Repeat_ok : ModelOK Tryz.prog strings_Repeat_m := mkP_ok Tryz.call182 (fun args rows hp => by rw [strings_Repeat_conv args rows, strings_Repeat_convR args rows]; exact strings_Repeat_calls (argS args 0) (argI args 1) hp) (fun _ X => strings_Repeat_ff X)
def balloon_Out_t (b : ApiBalloon) (m : (List Int)) (port : Int) (v : Int) : Tree (ApiBalloon × (List Int)) :=
.br (decide (v ≥ (32 : Int))) (.an (slices_Clone_uint32_uint32_pre m) (.lv (slices_Clone_uint32_uint32 m) fun (x0 : List Int) => .lf (b, x0))) (.cn (decide ((0 : Int) ≤ v)) (.br (port == (10 : Int)) (.lv (memory_Pages m) fun (x1 : Int) => .br (decide (IntKind.wrap IntKind.i64 v < x1)) (.br (iand IntKind.u32 b.Given (ishl IntKind.u32 (1 : Int) v) == (0 : Int)) (.an (strings_Repeat_pre [(0 : UInt8)] (128 : Int)) (.lv (strings_Repeat [(0 : UInt8)] (128 : Int)) fun (x2 : List UInt8) => .an (memory_SetPage_pre m (IntKind.wrap IntKind.i64 v) x2) (.lv (memory_SetPage m (IntKind.wrap IntKind.i64 v) x2) fun (x3 : List Int × Bool) => .lf ({ Target := b.Target, Given := ior IntKind.u32 b.Given (ishl IntKind.u32 (1 : Int) v) }, x3.fst)))) (.an (slices_Clone_uint32_uint32_pre m) (.lv (slices_Clone_uint32_uint32 m) fun (x4 : List Int) => .lf (b, x4)))) (.an (slices_Clone_uint32_uint32_pre m) (.lv (slices_Clone_uint32_uint32 m) fun (x5 : List Int) => .lf (b, x5)))) (.br (port == (11 : Int)) (.an (slices_Clone_uint32_uint32_pre m) (.lv (slices_Clone_uint32_uint32 m) fun (x6 : List Int) => .lf ({ Target := b.Target, Given := iandn IntKind.u32 b.Given (ishl IntKind.u32 (1 : Int) v) }, x6))) (.an (slices_Clone_uint32_uint32_pre m) (.lv (slices_Clone_uint32_uint32 m) fun (x7 : List Int) => .lf (b, x7))))))
def balloon_Out (b : ApiBalloon) (m : (List Int)) (port : Int) (v : Int) : (ApiBalloon × (List Int)) := (balloon_Out_t b m port v).m
abbrev balloon_Out_pre (b : ApiBalloon) (m : (List Int)) (port : Int) (v : Int) : Prop := (balloon_Out_t b m port v).p
def balloon_Out_args (b : ApiBalloon) (m : (List Int)) (port : Int) (v : Int) : List D := [.agg (ApiBalloon.cells b), .sl 1 (.ints .u32 m) false, .int .i64 port, .int .u32 v]
def balloon_Out_rows (b : ApiBalloon) (m : (List Int)) (port : Int) (v : Int) : List Row := []
def balloon_Out_enc (X : (ApiBalloon × (List Int))) : D := .tup [.agg (ApiBalloon.cells (X.1)), .all 0]
def balloon_Out_out (X : (ApiBalloon × (List Int))) : List Row := [⟨false, 27, 1, .ints .u32 (X.2)⟩]
def balloon_Out_dirs : List Dir := [.row 27 1 (.ints .u32)]
def balloon_Out_sig : List PT := [.agg ApiBalloon.sig, .one (.ints .u32), .one (.int .i64), .one (.int .u32)]
def balloon_Out_rsig : List RT := []
def balloon_Out_val (args : List D) (rows : List Row) : (ApiBalloon × (List Int)) := balloon_Out (ApiBalloon.of (args.getD 0 .dead).cells) (argL .u32 args 1) (argI args 2) (argI args 3)
def balloon_Out_prf (args : List D) (rows : List Row) : Prop := balloon_Out_pre (ApiBalloon.of (args.getD 0 .dead).cells) (argL .u32 args 1) (argI args 2) (argI args 3)
def balloon_Out_m : Model := mkP 135 [] true balloon_Out_sig balloon_Out_rsig balloon_Out_prf balloon_Out_val balloon_Out_enc balloon_Out_out
set_option maxRecDepth 100000 in
theorem balloon_Out_nf (b : ApiBalloon) (m : (List Int)) (port : Int) (v : Int) (Q : D → List Row → Prop) : (fnVC tab [slices_Clone_uint32_uint32_m, memory_Pages_m, memory_SetPage_m, strings_Repeat_m] (LL tab [slices_Clone_uint32_uint32_m, memory_Pages_m, memory_SetPage_m, strings_Repeat_m] Tryz.f135.ntmps 0 [] 2) Tryz.f135 (balloon_Out_args b m port v) (balloon_Out_rows b m port v) fun d R => canonVC (balloon_Out_rows b m port v).length balloon_Out_dirs d R Q) = (balloon_Out_t b m port v).q (fun X => Q (balloon_Out_enc X) (balloon_Out_out X)) := by kernel_rfl
set_option maxRecDepth 100000 in
theorem balloon_Out_calls (b : ApiBalloon) (m : (List Int)) (port : Int) (v : Int) (hw : balloon_Out_pre b m port v) : ACalls Tryz.prog 135 (balloon_Out_args b m port v) (balloon_Out_rows b m port v) (balloon_Out_enc (balloon_Out b m port v)) (balloon_Out_out (balloon_Out b m port v)) :=
  have hG : AllOK Tryz.prog [slices_Clone_uint32_uint32_m, memory_Pages_m, memory_SetPage_m, strings_Repeat_m] := .cons slices_Clone_uint32_uint32_ok (.cons memory_Pages_ok (.cons memory_SetPage_ok (.cons strings_Repeat_ok (.nil))))
  FnOK.calls drawn tabOK hG Tryz.func135 (LL_ok drawn tabOK hG 2 (invs := [])) (FnOK.of (balloon_Out_nf b m port v _) (Tree.main' hw ⟨rfl, rfl⟩))
set_option maxRecDepth 100000 in
theorem balloon_Out_conv (args : List D) (rows : List Row) : convA balloon_Out_sig args 0 = balloon_Out_args (ApiBalloon.of (args.getD 0 .dead).cells) (argL .u32 args 1) (argI args 2) (argI args 3) := by kernel_rfl
set_option maxRecDepth 100000 in
theorem balloon_Out_convR (args : List D) (rows : List Row) : convRs balloon_Out_rsig rows 0 = balloon_Out_rows (ApiBalloon.of (args.getD 0 .dead).cells) (argL .u32 args 1) (argI args 2) (argI args 3) := by kernel_rfl
set_option maxRecDepth 100000 in
theorem balloon_Out_ff (X : (ApiBalloon × (List Int))) : (ffB (balloon_Out_enc X) && ffBR (balloon_Out_out X)) = true := by kernel_rfl
theorem balloon_Out_ok : ModelOK Tryz.prog balloon_Out_m := mkP_ok Tryz.call135 (fun args rows hp => by rw [balloon_Out_conv args rows, balloon_Out_convR args rows]; exact balloon_Out_calls (ApiBalloon.of (args.getD 0 .dead).cells) (argL .u32 args 1) (argI args 2) (argI args 3) hp) (fun _ X => balloon_Out_ff X)
def machine_writePort_t (m : ApiMachine) (port : Int) (v : Int) (at0 : Int) : Tree (ApiMachine × (List ApiOutput)) :=
.br (port == (0 : Int)) (.lf (m, [{ Kind := (1 : Int), At := at0, Block := (0 : Int), Data := [(fun (n : Int) => UInt8.ofNat (Int.toNat n)) (IntKind.wrap IntKind.u8 v)] }])) (.br (port == (3 : Int)) (.lv (timer_Arm m.Timer v) fun (x0 : ApiTimer) => .lf ({ Cpu := m.Cpu, Mem := m.Mem, Console := m.Console, Timer := x0, Disk := m.Disk, Nic := m.Nic, Balloon := m.Balloon, Count := m.Count, Waiting := m.Waiting, Halted := m.Halted }, [])) (.br (port == (4 : Int)) (.an (disk_Out_pre m.Disk m.Mem port v at0) (.lv (disk_Out m.Disk m.Mem port v at0) fun (x1 : ApiDisk × List ApiOutput) => .lf ({ Cpu := m.Cpu, Mem := m.Mem, Console := m.Console, Timer := m.Timer, Disk := x1.fst, Nic := m.Nic, Balloon := m.Balloon, Count := m.Count, Waiting := m.Waiting, Halted := m.Halted }, x1.snd))) (.br (port == (5 : Int)) (.an (disk_Out_pre m.Disk m.Mem port v at0) (.lv (disk_Out m.Disk m.Mem port v at0) fun (x2 : ApiDisk × List ApiOutput) => .lf ({ Cpu := m.Cpu, Mem := m.Mem, Console := m.Console, Timer := m.Timer, Disk := x2.fst, Nic := m.Nic, Balloon := m.Balloon, Count := m.Count, Waiting := m.Waiting, Halted := m.Halted }, x2.snd))) (.br (port == (6 : Int)) (.an (disk_Out_pre m.Disk m.Mem port v at0) (.lv (disk_Out m.Disk m.Mem port v at0) fun (x3 : ApiDisk × List ApiOutput) => .lf ({ Cpu := m.Cpu, Mem := m.Mem, Console := m.Console, Timer := m.Timer, Disk := x3.fst, Nic := m.Nic, Balloon := m.Balloon, Count := m.Count, Waiting := m.Waiting, Halted := m.Halted }, x3.snd))) (.br (port == (7 : Int)) (.an (nic_Out_pre m.Nic m.Mem port v at0) (.lv (nic_Out m.Nic m.Mem port v at0) fun (x4 : ApiNic × List ApiOutput) => .lf ({ Cpu := m.Cpu, Mem := m.Mem, Console := m.Console, Timer := m.Timer, Disk := m.Disk, Nic := x4.fst, Balloon := m.Balloon, Count := m.Count, Waiting := m.Waiting, Halted := m.Halted }, x4.snd))) (.br (port == (8 : Int)) (.an (nic_Out_pre m.Nic m.Mem port v at0) (.lv (nic_Out m.Nic m.Mem port v at0) fun (x5 : ApiNic × List ApiOutput) => .lf ({ Cpu := m.Cpu, Mem := m.Mem, Console := m.Console, Timer := m.Timer, Disk := m.Disk, Nic := x5.fst, Balloon := m.Balloon, Count := m.Count, Waiting := m.Waiting, Halted := m.Halted }, x5.snd))) (.br (port == (9 : Int)) (.an (nic_Out_pre m.Nic m.Mem port v at0) (.lv (nic_Out m.Nic m.Mem port v at0) fun (x6 : ApiNic × List ApiOutput) => .lf ({ Cpu := m.Cpu, Mem := m.Mem, Console := m.Console, Timer := m.Timer, Disk := m.Disk, Nic := x6.fst, Balloon := m.Balloon, Count := m.Count, Waiting := m.Waiting, Halted := m.Halted }, x6.snd))) (.br (port == (10 : Int)) (.an (balloon_Out_pre m.Balloon m.Mem port v) (.lv (balloon_Out m.Balloon m.Mem port v) fun (x7 : ApiBalloon × List Int) => .lf ({ Cpu := m.Cpu, Mem := x7.snd, Console := m.Console, Timer := m.Timer, Disk := m.Disk, Nic := m.Nic, Balloon := x7.fst, Count := m.Count, Waiting := m.Waiting, Halted := m.Halted }, []))) (.br (port == (11 : Int)) (.an (balloon_Out_pre m.Balloon m.Mem port v) (.lv (balloon_Out m.Balloon m.Mem port v) fun (x8 : ApiBalloon × List Int) => .lf ({ Cpu := m.Cpu, Mem := x8.snd, Console := m.Console, Timer := m.Timer, Disk := m.Disk, Nic := m.Nic, Balloon := x8.fst, Count := m.Count, Waiting := m.Waiting, Halted := m.Halted }, []))) (.lf (m, [])))))))))))
def machine_writePort (m : ApiMachine) (port : Int) (v : Int) (at0 : Int) : (ApiMachine × (List ApiOutput)) := (machine_writePort_t m port v at0).m
abbrev machine_writePort_pre (m : ApiMachine) (port : Int) (v : Int) (at0 : Int) : Prop := (machine_writePort_t m port v at0).p
def machine_writePort_args (m : ApiMachine) (port : Int) (v : Int) (at0 : Int) : List D := [.agg (ApiMachine.cells m), .int .i64 port, .int .u32 v, .int .u64 at0]
def machine_writePort_rows (m : ApiMachine) (port : Int) (v : Int) (at0 : Int) : List Row := []
def machine_writePort_enc (X : (ApiMachine × (List ApiOutput))) : D := .tup [.agg (ApiMachine.cells (X.1)), .sl 4 (.recs .apiOutput (X.2)) true]
def machine_writePort_out (X : (ApiMachine × (List ApiOutput))) : List Row := []
def machine_writePort_dirs : List Dir := [.sl (.ints .u32) false, .sl (.recs .apiOutput) true]
def machine_writePort_sig : List PT := [.agg ApiMachine.sig, .one (.int .i64), .one (.int .u32), .one (.int .u64)]
def machine_writePort_rsig : List RT := []
def machine_writePort_val (args : List D) (rows : List Row) : (ApiMachine × (List ApiOutput)) := machine_writePort (ApiMachine.of (args.getD 0 .dead).cells) (argI args 1) (argI args 2) (argI args 3)
def machine_writePort_prf (args : List D) (rows : List Row) : Prop := machine_writePort_pre (ApiMachine.of (args.getD 0 .dead).cells) (argI args 1) (argI args 2) (argI args 3)
def machine_writePort_m : Model := Model.fz <| mkP 64 [] false machine_writePort_sig machine_writePort_rsig machine_writePort_prf machine_writePort_val machine_writePort_enc machine_writePort_out
set_option maxRecDepth 100000 in
theorem machine_writePort_nf (m : ApiMachine) (port : Int) (v : Int) (at0 : Int) (Q : D → List Row → Prop) : (fnVC tab [timer_Arm_m, disk_Out_m, nic_Out_m, balloon_Out_m] (LL tab [timer_Arm_m, disk_Out_m, nic_Out_m, balloon_Out_m] Tryz.f64.ntmps 0 [] 2) Tryz.f64 (machine_writePort_args m port v at0) (machine_writePort_rows m port v at0) fun d R => canonVC (machine_writePort_rows m port v at0).length machine_writePort_dirs d R Q) = (machine_writePort_t m port v at0).q (fun X => Q (machine_writePort_enc X) (machine_writePort_out X)) := by kernel_rfl
set_option maxRecDepth 100000 in
theorem machine_writePort_calls (m : ApiMachine) (port : Int) (v : Int) (at0 : Int) (hw : machine_writePort_pre m port v at0) : ACalls Tryz.prog 64 (machine_writePort_args m port v at0) (machine_writePort_rows m port v at0) (machine_writePort_enc (machine_writePort m port v at0)) (machine_writePort_out (machine_writePort m port v at0)) :=
  have hG : AllOK Tryz.prog [timer_Arm_m, disk_Out_m, nic_Out_m, balloon_Out_m] := .cons timer_Arm_ok (.cons disk_Out_ok (.cons nic_Out_ok (.cons balloon_Out_ok (.nil))))
  FnOK.calls drawn tabOK hG Tryz.func64 (LL_ok drawn tabOK hG 2 (invs := [])) (FnOK.of (machine_writePort_nf m port v at0 _) (Tree.main' hw ⟨rfl, rfl⟩))
set_option maxRecDepth 100000 in
theorem machine_writePort_conv (args : List D) (rows : List Row) : convA machine_writePort_sig args 0 = machine_writePort_args (ApiMachine.of (args.getD 0 .dead).cells) (argI args 1) (argI args 2) (argI args 3) := by kernel_rfl
set_option maxRecDepth 100000 in
theorem machine_writePort_convR (args : List D) (rows : List Row) : convRs machine_writePort_rsig rows 0 = machine_writePort_rows (ApiMachine.of (args.getD 0 .dead).cells) (argI args 1) (argI args 2) (argI args 3) := by kernel_rfl
theorem machine_writePort_ok : ModelOK Tryz.prog machine_writePort_m := fz_ok <| mkP_ok Tryz.call64 (fun args rows hp => by rw [machine_writePort_conv args rows, machine_writePort_convR args rows]; exact machine_writePort_calls (ApiMachine.of (args.getD 0 .dead).cells) (argI args 1) (argI args 2) (argI args 3) hp) (fun h => by cases h)
def machine_Step_L_t (m : ApiMachine) (clock : Int) : Tree (ApiMachine × (List ApiOutput) × (List Int)) :=
.an (slices_Clone_uint32_uint32_pre m.Mem) (.lv (slices_Clone_uint32_uint32 m.Mem) fun (x0 : List Int) => .an (machine_runs_pre { Cpu := m.Cpu, Mem := x0, Console := m.Console, Timer := m.Timer, Disk := m.Disk, Nic := m.Nic, Balloon := m.Balloon, Count := m.Count, Waiting := m.Waiting, Halted := m.Halted }) (.lv (machine_runs { Cpu := m.Cpu, Mem := x0, Console := m.Console, Timer := m.Timer, Disk := m.Disk, Nic := m.Nic, Balloon := m.Balloon, Count := m.Count, Waiting := m.Waiting, Halted := m.Halted }) fun (x1 : Bool) => .br (!x1) (.lf ({ Cpu := m.Cpu, Mem := x0, Console := m.Console, Timer := m.Timer, Disk := m.Disk, Nic := m.Nic, Balloon := m.Balloon, Count := m.Count, Waiting := m.Waiting, Halted := m.Halted }, [], m.Mem)) (.an (machine_begin_pre { Cpu := m.Cpu, Mem := x0, Console := m.Console, Timer := m.Timer, Disk := m.Disk, Nic := m.Nic, Balloon := m.Balloon, Count := m.Count, Waiting := m.Waiting, Halted := m.Halted }) (.lv (machine_begin { Cpu := m.Cpu, Mem := x0, Console := m.Console, Timer := m.Timer, Disk := m.Disk, Nic := m.Nic, Balloon := m.Balloon, Count := m.Count, Waiting := m.Waiting, Halted := m.Halted }) fun (x2 : ApiMachine) => .an (cpu_Exec_pre x2.Cpu x2.Mem) (.lv (cpu_Exec x2.Cpu x2.Mem) fun (x3 : ApiCpu × List Int × ApiEffect) => .br (x3.snd.snd.Kind == (1 : Int)) (.an (machine_readPort_pre { Cpu := x3.fst, Mem := x3.snd.fst, Console := x2.Console, Timer := x2.Timer, Disk := x2.Disk, Nic := x2.Nic, Balloon := x2.Balloon, Count := x2.Count, Waiting := x2.Waiting, Halted := x2.Halted } x3.snd.snd.Port clock) (.lv (machine_readPort { Cpu := x3.fst, Mem := x3.snd.fst, Console := x2.Console, Timer := x2.Timer, Disk := x2.Disk, Nic := x2.Nic, Balloon := x2.Balloon, Count := x2.Count, Waiting := x2.Waiting, Halted := x2.Halted } x3.snd.snd.Port clock) fun (x4 : ApiMachine × Int) => .br (x3.snd.snd.Reg != (0 : Int)) (.cn (Nat.blt (0 : Nat) (1 : Nat) && decide ((0 : Int) ≤ x3.snd.snd.Reg ∧ x3.snd.snd.Reg < (↑(16 : Nat) : Int))) (.lf ({ Cpu := { X := A16.of (0 : Int) (List.set (A16.l x4.fst.Cpu.X) (Int.toNat x3.snd.snd.Reg) x4.snd), Pc := x4.fst.Cpu.Pc, Csr := x4.fst.Cpu.Csr }, Mem := x4.fst.Mem, Console := x4.fst.Console, Timer := x4.fst.Timer, Disk := x4.fst.Disk, Nic := x4.fst.Nic, Balloon := x4.fst.Balloon, Count := IntKind.wrap IntKind.u64 (x4.fst.Count + (1 : Int)), Waiting := x4.fst.Waiting, Halted := x4.fst.Halted }, [], m.Mem))) (.lf ({ Cpu := x4.fst.Cpu, Mem := x4.fst.Mem, Console := x4.fst.Console, Timer := x4.fst.Timer, Disk := x4.fst.Disk, Nic := x4.fst.Nic, Balloon := x4.fst.Balloon, Count := IntKind.wrap IntKind.u64 (x4.fst.Count + (1 : Int)), Waiting := x4.fst.Waiting, Halted := x4.fst.Halted }, [], m.Mem)))) (.br (x3.snd.snd.Kind == (2 : Int)) (.an (machine_writePort_pre { Cpu := x3.fst, Mem := x3.snd.fst, Console := x2.Console, Timer := x2.Timer, Disk := x2.Disk, Nic := x2.Nic, Balloon := x2.Balloon, Count := x2.Count, Waiting := x2.Waiting, Halted := x2.Halted } x3.snd.snd.Port x3.snd.snd.Value m.Count) (.lv (machine_writePort { Cpu := x3.fst, Mem := x3.snd.fst, Console := x2.Console, Timer := x2.Timer, Disk := x2.Disk, Nic := x2.Nic, Balloon := x2.Balloon, Count := x2.Count, Waiting := x2.Waiting, Halted := x2.Halted } x3.snd.snd.Port x3.snd.snd.Value m.Count) fun (x5 : ApiMachine × List ApiOutput) => .lf ({ Cpu := x5.fst.Cpu, Mem := x5.fst.Mem, Console := x5.fst.Console, Timer := x5.fst.Timer, Disk := x5.fst.Disk, Nic := x5.fst.Nic, Balloon := x5.fst.Balloon, Count := IntKind.wrap IntKind.u64 (x5.fst.Count + (1 : Int)), Waiting := x5.fst.Waiting, Halted := x5.fst.Halted }, x5.snd, m.Mem))) (.br (x3.snd.snd.Kind == (3 : Int)) (.lf ({ Cpu := x3.fst, Mem := x3.snd.fst, Console := x2.Console, Timer := x2.Timer, Disk := x2.Disk, Nic := x2.Nic, Balloon := x2.Balloon, Count := IntKind.wrap IntKind.u64 (x2.Count + (1 : Int)), Waiting := true, Halted := x2.Halted }, [], m.Mem)) (.br (x3.snd.snd.Kind == (4 : Int)) (.lf ({ Cpu := x3.fst, Mem := x3.snd.fst, Console := x2.Console, Timer := x2.Timer, Disk := x2.Disk, Nic := x2.Nic, Balloon := x2.Balloon, Count := IntKind.wrap IntKind.u64 (x2.Count + (1 : Int)), Waiting := x2.Waiting, Halted := true }, [], m.Mem)) (.lf ({ Cpu := x3.fst, Mem := x3.snd.fst, Console := x2.Console, Timer := x2.Timer, Disk := x2.Disk, Nic := x2.Nic, Balloon := x2.Balloon, Count := IntKind.wrap IntKind.u64 (x2.Count + (1 : Int)), Waiting := x2.Waiting, Halted := x2.Halted }, [], m.Mem))))))))))
def machine_Step_L (m : ApiMachine) (clock : Int) : (ApiMachine × (List ApiOutput) × (List Int)) := (machine_Step_L_t m clock).m
abbrev machine_Step_L_pre (m : ApiMachine) (clock : Int) : Prop := (machine_Step_L_t m clock).p
def machine_Step_L_args (m : ApiMachine) (clock : Int) : List D := [.agg (ApiMachine.cellsW m (.all 0)), .int .u32 clock]
def machine_Step_L_rows (m : ApiMachine) (clock : Int) : List Row := [⟨false, 27, 1, .ints .u32 m.Mem⟩]
def machine_Step_L_enc (X : (ApiMachine × (List ApiOutput) × (List Int))) : D := .tup [.agg (ApiMachine.cells (X.1)), .sl 4 (.recs .apiOutput (X.2.1)) false]
def machine_Step_L_out (X : (ApiMachine × (List ApiOutput) × (List Int))) : List Row := [⟨false, 27, 1, .ints .u32 (X.2.2)⟩]
def machine_Step_L_dirs : List Dir := [.sl (.ints .u32) false, .sl (.recs .apiOutput) false]
def machine_Step_L_sig : List PT := [.agg (ApiMachine.sigW (.row 0)), .one (.int .u32)]
def machine_Step_L_rsig : List RT := [.arr 27 1 (.ints .u32)]
def machine_Step_L_val (args : List D) (rows : List Row) : (ApiMachine × (List ApiOutput) × (List Int)) := machine_Step_L (ApiMachine.ofW (args.getD 0 .dead).cells (rowL .u32 rows 0)) (argI args 1)
def machine_Step_L_prf (args : List D) (rows : List Row) : Prop := machine_Step_L_pre (ApiMachine.ofW (args.getD 0 .dead).cells (rowL .u32 rows 0)) (argI args 1)
def machine_Step_L_m : Model := mkP 25 [true, false] false machine_Step_L_sig machine_Step_L_rsig machine_Step_L_prf machine_Step_L_val machine_Step_L_enc machine_Step_L_out
set_option maxRecDepth 100000 in
theorem machine_Step_L_nf (m : ApiMachine) (clock : Int) (Q : D → List Row → Prop) : (fnVC tab [slices_Clone_uint32_uint32_m, machine_runs_m, machine_begin_m, cpu_Exec_m, machine_readPort_m, machine_writePort_m] (LL tab [slices_Clone_uint32_uint32_m, machine_runs_m, machine_begin_m, cpu_Exec_m, machine_readPort_m, machine_writePort_m] Tryz.f25.ntmps 1 [] 2) Tryz.f25 (machine_Step_L_args m clock) (machine_Step_L_rows m clock) fun d R => canonVC (machine_Step_L_rows m clock).length machine_Step_L_dirs d R Q) = (machine_Step_L_t m clock).q (fun X => Q (machine_Step_L_enc X) (machine_Step_L_out X)) := by kernel_rfl
set_option maxRecDepth 100000 in
theorem machine_Step_L_calls (m : ApiMachine) (clock : Int) (hw : machine_Step_L_pre m clock) : ACalls Tryz.prog 25 (machine_Step_L_args m clock) (machine_Step_L_rows m clock) (machine_Step_L_enc (machine_Step_L m clock)) (machine_Step_L_out (machine_Step_L m clock)) :=
  have hG : AllOK Tryz.prog [slices_Clone_uint32_uint32_m, machine_runs_m, machine_begin_m, cpu_Exec_m, machine_readPort_m, machine_writePort_m] := .cons slices_Clone_uint32_uint32_ok (.cons machine_runs_ok (.cons machine_begin_ok (.cons cpu_Exec_ok (.cons machine_readPort_ok (.cons machine_writePort_ok (.nil))))))
  FnOK.calls drawn tabOK hG Tryz.func25 (LL_ok drawn tabOK hG 2 (invs := [])) (FnOK.of (machine_Step_L_nf m clock _) (Tree.main' hw ⟨rfl, rfl⟩))
set_option maxRecDepth 100000 in
theorem machine_Step_L_conv (args : List D) (rows : List Row) : convA machine_Step_L_sig args 0 = machine_Step_L_args (ApiMachine.ofW (args.getD 0 .dead).cells (rowL .u32 rows 0)) (argI args 1) := by kernel_rfl
set_option maxRecDepth 100000 in
theorem machine_Step_L_convR (args : List D) (rows : List Row) : convRs machine_Step_L_rsig rows 0 = machine_Step_L_rows (ApiMachine.ofW (args.getD 0 .dead).cells (rowL .u32 rows 0)) (argI args 1) := by kernel_rfl
theorem machine_Step_L_ok : ModelOK Tryz.prog machine_Step_L_m := mkP_ok Tryz.call25 (fun args rows hp => by rw [machine_Step_L_conv args rows, machine_Step_L_convR args rows]; exact machine_Step_L_calls (ApiMachine.ofW (args.getD 0 .dead).cells (rowL .u32 rows 0)) (argI args 1) hp) (fun h => by cases h)
end
end Go.Proofs.YtdkiadhigcfmkaaGreat

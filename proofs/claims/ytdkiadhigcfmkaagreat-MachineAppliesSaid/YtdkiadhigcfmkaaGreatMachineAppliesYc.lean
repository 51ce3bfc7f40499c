/-
  Functions of the program: models, and that its calls come to them (by a program: gen3.py).
-/
import Derived.Test.YtdkiadhigcfmkaaGreatMachineAppliesBase
import Derived.Test.YtdkiadhigcfmkaaGreatMachineAppliesYa
namespace Go.Proofs.YtdkiadhigcfmkaaGreat
open Go Go.GD Go.IntKind
set_option linter.unusedVariables false
set_option linter.unusedSimpArgs false
set_option maxRecDepth 100000
noncomputable section
def tblYc0:List UInt8:=[(0:UInt8),1,2,2,3,3,3,3,4,4,4,4,4,4,4,4,5,5,5,5,5,5,5,5,5,5,5,5,5,5,5,5,6,6,6,6,6,6,6,6,6,6,6,6,6,6,6,6,6,6,6,6,6,6,6,6,6,6,6,6,6,6,6,6]
def Z4q:List UInt8:=[(7:UInt8),7,7,7,7,7,7,7,7,7,7,7,7,7,7,7,7,7,7,7,7,7,7,7,7,7,7,7,7,7,7,7,7,7,7,7,7,7,7,7,7,7,7,7,7,7,7,7,7,7,7,7,7,7,7,7,7,7,7,7,7,7,7,7]
def Qkm:List UInt8:=[(8:UInt8),8,8,8,8,8,8,8,8,8,8,8,8,8,8,8,8,8,8,8,8,8,8,8,8,8,8,8,8,8,8,8,8,8,8,8,8,8,8,8,8,8,8,8,8,8,8,8,8,8,8,8,8,8,8,8,8,8,8,8,8,8,8,8]
def Zb5:List UInt8:=[(1:UInt8),2,2,3,3,3,3,4,4,4,4,4,4,4,4,5,5,5,5,5,5,5,5,5,5,5,5,5,5,5,5,6,6,6,6,6,6,6,6,6,6,6,6,6,6,6,6,6,6,6,6,6,6,6,6,6,6,6,6,6,6,6,6]
def tblYc4:List UInt8:=[(0:UInt8),1,1,2,1,2,2,3,1,2,2,3,2,3,3,4,1,2,2,3,2,3,3,4,2,3,3,4,3,4,4,5,1,2,2,3,2,3,3,4,2,3,3,4,3,4,4,5,2,3,3,4,3,4,4,5,3,4,4,5,4,5,5,6]
def Qla:List UInt8:=[(1:UInt8),2,2,3,2,3,3,4,2,3,3,4,3,4,4,5,2,3,3,4,3,4,4,5,3,4,4,5,4,5,5,6,2,3,3,4,3,4,4,5,3,4,4,5,4,5,5,6,3,4,4,5,4,5,5,6,4,5,5,6,5,6,6,7]
def Z4s:List UInt8:=[(2:UInt8),3,3,4,3,4,4,5,3,4,4,5,4,5,5,6,3,4,4,5,4,5,5,6,4,5,5,6,5,6,6,7,3,4,4,5,4,5,5,6,4,5,5,6,5,6,6,7,4,5,5,6,5,6,6,7,5,6,6,7,6,7,7,8]
def Zb3:List UInt8:=[(1:UInt8),1,2,1,2,2,3,1,2,2,3,2,3,3,4,1,2,2,3,2,3,3,4,2,3,3,4,3,4,4,5,1,2,2,3,2,3,3,4,2,3,3,4,3,4,4,5,2,3,3,4,3,4,4,5,3,4,4,5,4,5,5,6]
def Qns(c:Q09):Tree Bool:=
.lf (decide ((↑(List.length c.Keys):Int)≤(16:Int)))
def Q44(c:Q09):Bool:=(Qns c).m
def Z2z:Q08:=mkR 114 [] true [.agg Q09.sig] [] (fun args rows=>Q44 (Q09.of (args.getD 0 .dead).cells)) (fun X=> .bool X) (fun X=>[])
theorem Qxd:Q02 Tryz.prog Z2z:=Q0q Q0f Q0g (.nil) Tryz.func114 Tryz.call114 (fun args rows=>Qns (Q09.of (args.getD 0 .dead).cells)) [] [] 2 (fun _ _ _=>by kernel_rfl) (fun _ _=>rfl) (fun _ _=>Tree.free_ok (by kernel_rfl)) (fun _ X=>by kernel_rfl)
def Qm6(t:Q0h):Tree Bool:=
.br t.Armed (.br (!t.Fired) (.lf (t.Deadline !=0)) (.lf false)) (.br t.Fired (.lf true) (.lf (t.Deadline==0)))
def Q50(t:Q0h):Bool:=(Qm6 t).m
def Z98:Q08:=mkR 115 [] true [.agg Q0h.sig] [] (fun args rows=>Q50 (Q0h.of (args.getD 0 .dead).cells)) (fun X=> .bool X) (fun X=>[])
theorem Z4f:Q02 Tryz.prog Z98:=Q0q Q0f Q0g (.nil) Tryz.func115 Tryz.call115 (fun args rows=>Qm6 (Q0h.of (args.getD 0 .dead).cells)) [] [] 2 (fun _ _ _=>by kernel_rfl) (fun _ _=>rfl) (fun _ _=>Tree.free_ok (by kernel_rfl)) (fun _ X=>by kernel_rfl)
def Q8y(d0:Q0b):Tree Bool:=
.br (d0.Cmd==1) (.lf (decide (d0.OpData=[]))) (.br (d0.Cmd==2) (.lf ((↑(List.length d0.OpData):Int)==(128:Int))) (.lf false))
def Qd5(d0:Q0b):Bool:=(Q8y d0).m
def Qoy:Q08:=mkR 164 [] true [.agg Q0b.sig] [] (fun args rows=>Qd5 (Q0b.of (args.getD 0 .dead).cells)) (fun X=> .bool X) (fun X=>[])
theorem Qoj:Q02 Tryz.prog Qoy:=Q0q Q0f Q0g (.nil) Tryz.func164 Tryz.call164 (fun args rows=>Q8y (Q0b.of (args.getD 0 .dead).cells)) [] [] 2 (fun _ _ _=>by kernel_rfl) (fun _ _=>rfl) (fun _ _=>Tree.free_ok (by kernel_rfl)) (fun _ X=>by kernel_rfl)
def Qc1(d0:Q0b)(pages:Int):Tree Bool:=
.br (decide (d0.Blocks>64)) (.lf false) (let T1:Tree (Bool):= .br (d0.Cmd==0) (.br (d0.OpBlock==0) (.br (d0.OpFrame==0) (.lf (decide (d0.OpData=[]))) (.lf false)) (.lf false)) (.lf false); .br (d0.State==0) T1 (.br (d0.State==2) T1 (.br (d0.State==3) T1 (.br (d0.State==1) (.lv (Qd5 d0) fun(x0:Bool)=> .br x0 (.br (decide (d0.OpBlock<d0.Blocks)) (.lf (decide (wrap i64 d0.OpFrame<pages))) (.lf false)) (.lf false)) (.lf false)))))
def Q1p(d0:Q0b)(pages:Int):Bool:=(Qc1 d0 pages).m
def Zcp:Q08:=mkR 116 [] true [.agg Q0b.sig, .one (.int .i64)] [] (fun args rows=>Q1p (Q0b.of (args.getD 0 .dead).cells) (argI args 1)) (fun X=> .bool X) (fun X=>[])
theorem Z8g:Q02 Tryz.prog Zcp:=Q0q Q0f Q0g (.cons Qoj (.nil)) Tryz.func116 Tryz.call116 (fun args rows=>Qc1 (Q0b.of (args.getD 0 .dead).cells) (argI args 1)) [] [] 2 (fun _ _ _=>by kernel_rfl) (fun _ _=>rfl) (fun _ _=>Tree.free_ok (by kernel_rfl)) (fun _ X=>by kernel_rfl)
def Qmz(n:Q0k)(pages:Int):Tree Bool:=
let T1:Tree (Bool):=let T2:Tree (Bool):= .br n.Received (.br (decide (n.Got≥1)) (.lf (decide (n.Got≤128))) (.lf false)) (.lf (n.Got==0)); .br n.Posted (.br (decide (wrap i64 n.Buffer≥pages)) (.lf false) T2) (.br (n.Buffer !=0) (.lf false) T2); .br n.Posted (.br n.Received (.lf false) T1) T1
def Q7c(n:Q0k)(pages:Int):Bool:=(Qmz n pages).m
def nic_May_m:Q08:=mkR 117 [] true [.agg Q0k.sig, .one (.int .i64)] [] (fun args rows=>Q7c (Q0k.of (args.getD 0 .dead).cells) (argI args 1)) (fun X=> .bool X) (fun X=>[])
theorem Zdk:Q02 Tryz.prog nic_May_m:=Q0q Q0f Q0g (.nil) Tryz.func117 Tryz.call117 (fun args rows=>Qmz (Q0k.of (args.getD 0 .dead).cells) (argI args 1)) [] [] 2 (fun _ _ _=>by kernel_rfl) (fun _ _=>rfl) (fun _ _=>Tree.free_ok (by kernel_rfl)) (fun _ X=>by kernel_rfl)
def Q1m(x:Int):Tree Int:=
let E1:=(↑(List.length (List.append (List.append tblYc0 Z4q) (List.append Qkm Qkm))):Int); .br (decide (x≥65536)) (.br (decide (ishr u32 x (16:Int)≥(256:Int))) (.cn (decide (0≤wrap u8 (ishr u32 (ishr u32 x 16) 8)∧wrap u8 (ishr u32 (ishr u32 x 16) 8)<E1)) (.lf (wrap i64 (wrap i64 ((16:Int)+(8:Int))+wrap i64 (↑(UInt8.toNat (List.getD ((0:UInt8)::(Zb5++Z4q++(Qkm++Qkm))) (Int.toNat (wrap u8 (ishr u32 (ishr u32 x 16) 8))) (0:UInt8))):Int))))) (.cn (decide (0≤wrap u8 (ishr u32 x 16)∧wrap u8 (ishr u32 x 16)<E1)) (.lf (wrap i64 (16+wrap i64 (↑(UInt8.toNat (List.getD ((0:UInt8)::(Zb5++Z4q++(Qkm++Qkm))) (Int.toNat (wrap u8 (ishr u32 x 16))) (0:UInt8))):Int)))))) (.br (decide (x≥256)) (.cn (decide (0≤wrap u8 (ishr u32 x 8)∧wrap u8 (ishr u32 x 8)<E1)) (.lf (wrap i64 (wrap i64 ((0:Int)+(8:Int))+wrap i64 (↑(UInt8.toNat (List.getD ((0:UInt8)::(Zb5++Z4q++(Qkm++Qkm))) (Int.toNat (wrap u8 (ishr u32 x 8))) (0:UInt8))):Int))))) (.cn (decide (0≤wrap u8 x∧wrap u8 x<E1)) (.lf (wrap i64 (0+wrap i64 (↑(UInt8.toNat (List.getD ((0:UInt8)::(Zb5++Z4q++(Qkm++Qkm))) (Int.toNat (wrap u8 x)) (0:UInt8))):Int))))))
def Q10(x:Int):Int:=(Q1m x).m
abbrev Q4z(x:Int):Prop:=(Q1m x).p
def Qp1:Q08:=mkP 165 [] true [.one (.int .u32)] [] (fun args rows=>Q4z (argI args 0)) (fun args rows=>Q10 (argI args 0)) (fun X=> .int .i64 X) (fun X=>[])
theorem Qmc:Q02 Tryz.prog Qp1:=Q0j Q0f Q0g (.nil) Tryz.func165 Tryz.call165 (fun args rows=>Q1m (argI args 0)) [] [] 2 (fun _ _ _=>by kernel_rfl) (fun _ _=>rfl) (fun _ _ h=>h) (fun _ X=>by kernel_rfl)
def Q2u(b:Q04)(pages:Int):Tree Bool:=
.an (Q4z b.Given) (.lv (Q10 b.Given) fun(x0:Int)=> .lf (decide (x0≤if 0>pages then 0 else pages)))
def Q32(b:Q04)(pages:Int):Bool:=(Q2u b pages).m
abbrev Q5u(b:Q04)(pages:Int):Prop:=(Q2u b pages).p
def Z30:Q08:=mkP 118 [] true [.agg Q04.sig, .one (.int .i64)] [] (fun args rows=>Q5u (Q04.of (args.getD 0 .dead).cells) (argI args 1)) (fun args rows=>Q32 (Q04.of (args.getD 0 .dead).cells) (argI args 1)) (fun X=> .bool X) (fun X=>[])
theorem Qyi:Q02 Tryz.prog Z30:=Q0j Q0f Q0g (.cons Qmc (.nil)) Tryz.func118 Tryz.call118 (fun args rows=>Q2u (Q04.of (args.getD 0 .dead).cells) (argI args 1)) [] [] 2 (fun _ _ _=>by kernel_rfl) (fun _ _=>rfl) (fun _ _ h=>h) (fun _ X=>by kernel_rfl)
def Q1a(m:Q00):Tree Bool:=
.lv (Q0s m.Mem) fun(x0:Int)=> .lv (Q44 m.Console) fun(x1:Bool)=> .br x1 (.lv (Q50 m.Timer) fun(x2:Bool)=> .br x2 (.lv (Q1p m.Disk x0) fun(x3:Bool)=> .br x3 (.lv (Q7c m.Nic x0) fun(x4:Bool)=> .br x4 (.an (Q5u m.Balloon x0) (.lv (Q32 m.Balloon x0) fun(x5:Bool)=> .lf x5)) (.lf false)) (.lf false)) (.lf false)) (.lf false)
def Q0v(m:Q00):Bool:=(Q1a m).m
abbrev Q1g(m:Q00):Prop:=(Q1a m).p
def Qkf:Q08:=mkP 57 [] true [.agg Q00.sig] [] (fun args rows=>Q1g (Q00.of (args.getD 0 .dead).cells)) (fun args rows=>Q0v (Q00.of (args.getD 0 .dead).cells)) (fun X=> .bool X) (fun X=>[])
theorem Qid:Q02 Tryz.prog Qkf:=Q0j Q0f Q0g (.cons Q2b (.cons Qxd (.cons Z4f (.cons Z8g (.cons Zdk (.cons Qyi (.nil))))))) Tryz.func57 Tryz.call57 (fun args rows=>Q1a (Q00.of (args.getD 0 .dead).cells)) [] [] 2 (fun _ _ _=>by kernel_rfl) (fun _ _=>rfl) (fun _ _ h=>h) (fun _ X=>by kernel_rfl)
def Q3w(m:Q00):Tree Bool:=
.lv (Q0s m.Mem) fun(x0:Int)=> .br (x0==0) (.lf false) (.br (m.Cpu.X.a0 !=0) (.lf false) (.br (decide (m.Cpu.Csr.a0>31)) (.lf false) (.br (decide (m.Cpu.Csr.a7>31)) (.lf false) (.br (decide (m.Cpu.Csr.a6>255)) (.lf false) (.br (Int.tmod m.Cpu.Csr.a1 (4:Int) !=(0:Int)) (.lf false) (.br (decide (m.Count>1152921504606846976)) (.lf false) (.br m.Waiting (.br m.Halted (.lf false) (.an (Q1g m) (.lv (Q0v m) fun(x1:Bool)=> .lf x1))) (.an (Q1g m) (.lv (Q0v m) fun(x2:Bool)=> .lf x2)))))))))
def Q0y(m:Q00):Bool:=(Q3w m).m
abbrev Q1k(m:Q00):Prop:=(Q3w m).p
def Z21:Q08:=mkP 21 [] true [.agg Q00.sig] [] (fun args rows=>Q1k (Q00.of (args.getD 0 .dead).cells)) (fun args rows=>Q0y (Q00.of (args.getD 0 .dead).cells)) (fun X=> .bool X) (fun X=>[])
theorem Qf7:Q02 Tryz.prog Z21:=Q0j Q0f Q0g (.cons Q2b (.cons Qid (.nil))) Tryz.func21 Tryz.call21 (fun args rows=>Q3w (Q00.of (args.getD 0 .dead).cells)) [] [] 2 (fun _ _ _=>by kernel_rfl) (fun _ _=>rfl) (fun _ _ h=>h) (fun _ X=>by kernel_rfl)
def Qib(t:Q0h):Tree Bool:=
.lf t.Fired
def Qn5(t:Q0h):Bool:=(Qib t).m
def Qwo:Q08:=mkR 73 [] true [.agg Q0h.sig] [] (fun args rows=>Qn5 (Q0h.of (args.getD 0 .dead).cells)) (fun X=> .bool X) (fun X=>[])
theorem Qss:Q02 Tryz.prog Qwo:=Q0q Q0f Q0g (.nil) Tryz.func73 Tryz.call73 (fun args rows=>Qib (Q0h.of (args.getD 0 .dead).cells)) [] [] 2 (fun _ _ _=>by kernel_rfl) (fun _ _=>rfl) (fun _ _=>Tree.free_ok (by kernel_rfl)) (fun _ X=>by kernel_rfl)
def Qg5(c:Q09):Tree Bool:=
.lf (!decide (c.Keys=[]))
def Qi8(c:Q09):Bool:=(Qg5 c).m
def Qqj:Q08:=mkR 74 [] true [.agg Q09.sig] [] (fun args rows=>Qi8 (Q09.of (args.getD 0 .dead).cells)) (fun X=> .bool X) (fun X=>[])
theorem Qoi:Q02 Tryz.prog Qqj:=Q0q Q0f Q0g (.nil) Tryz.func74 Tryz.call74 (fun args rows=>Qg5 (Q09.of (args.getD 0 .dead).cells)) [] [] 2 (fun _ _ _=>by kernel_rfl) (fun _ _=>rfl) (fun _ _=>Tree.free_ok (by kernel_rfl)) (fun _ X=>by kernel_rfl)
def Ql6(d0:Q0b):Tree Bool:=
.br (d0.State==2) (.lf true) (.lf (d0.State==3))
def Qi6(d0:Q0b):Bool:=(Ql6 d0).m
def Qx2:Q08:=mkR 75 [] true [.agg Q0b.sig] [] (fun args rows=>Qi6 (Q0b.of (args.getD 0 .dead).cells)) (fun X=> .bool X) (fun X=>[])
theorem Qim:Q02 Tryz.prog Qx2:=Q0q Q0f Q0g (.nil) Tryz.func75 Tryz.call75 (fun args rows=>Ql6 (Q0b.of (args.getD 0 .dead).cells)) [] [] 2 (fun _ _ _=>by kernel_rfl) (fun _ _=>rfl) (fun _ _=>Tree.free_ok (by kernel_rfl)) (fun _ X=>by kernel_rfl)
def Qnz(n:Q0k):Tree Bool:=
.lf n.Received
def Qvz(n:Q0k):Bool:=(Qnz n).m
def Z34:Q08:=mkR 76 [] true [.agg Q0k.sig] [] (fun args rows=>Qvz (Q0k.of (args.getD 0 .dead).cells)) (fun X=> .bool X) (fun X=>[])
theorem Qxf:Q02 Tryz.prog Z34:=Q0q Q0f Q0g (.nil) Tryz.func76 Tryz.call76 (fun args rows=>Qnz (Q0k.of (args.getD 0 .dead).cells)) [] [] 2 (fun _ _ _=>by kernel_rfl) (fun _ _=>rfl) (fun _ _=>Tree.free_ok (by kernel_rfl)) (fun _ X=>by kernel_rfl)
def Q2r(x:Int):Tree Int:=
let E1:=(↑(List.length (List.append (List.append tblYc4 Qla) (List.append Qla Z4s))):Int); .cn (decide (0≤ishr u32 x 24∧ishr u32 x 24<E1)) (.cn (decide (0≤iand u32 (ishr u32 x 16) 255∧iand u32 (ishr u32 x 16) 255<E1)) (.cn (decide (0≤iand u32 (ishr u32 x 8) 255∧iand u32 (ishr u32 x 8) 255<E1)) (.cn (decide (0≤iand u32 x 255∧iand u32 x 255<E1)) (.lf (wrap i64 (wrap u8 (wrap u8 (wrap u8 ((↑(UInt8.toNat (List.getD ((0:UInt8)::(Zb3++Qla++(Qla++Z4s))) (Int.toNat (ishr u32 x 24)) (0:UInt8))):Int)+(↑(UInt8.toNat (List.getD ((0:UInt8)::(Zb3++Qla++(Qla++Z4s))) (Int.toNat (iand u32 (ishr u32 x 16) 255)) (0:UInt8))):Int))+(↑(UInt8.toNat (List.getD ((0:UInt8)::(Zb3++Qla++(Qla++Z4s))) (Int.toNat (iand u32 (ishr u32 x 8) 255)) (0:UInt8))):Int))+(↑(UInt8.toNat (List.getD ((0:UInt8)::(Zb3++Qla++(Qla++Z4s))) (Int.toNat (iand u32 x 255)) (0:UInt8))):Int))))))))
def Q9z(x:Int):Int:=(Q2r x).m
abbrev Q24(x:Int):Prop:=(Q2r x).p
def Qgh:Q08:=mkP 204 [] true [.one (.int .u32)] [] (fun args rows=>Q24 (argI args 0)) (fun args rows=>Q9z (argI args 0)) (fun X=> .int .i64 X) (fun X=>[])
theorem Qfj:Q02 Tryz.prog Qgh:=Q0j Q0f Q0g (.nil) Tryz.func204 Tryz.call204 (fun args rows=>Q2r (argI args 0)) [] [] 2 (fun _ _ _=>by kernel_rfl) (fun _ _=>rfl) (fun _ _ h=>h) (fun _ X=>by kernel_rfl)
def Q7x(b:Q04):Tree Int:=
.an (Q24 b.Given) (.lv (Q9z b.Given) fun(x0:Int)=> .lf x0)
def Qge(b:Q04):Int:=(Q7x b).m
abbrev Q4e(b:Q04):Prop:=(Q7x b).p
def Qum:Q08:=mkP 152 [] true [.agg Q04.sig] [] (fun args rows=>Q4e (Q04.of (args.getD 0 .dead).cells)) (fun args rows=>Qge (Q04.of (args.getD 0 .dead).cells)) (fun X=> .int .i64 X) (fun X=>[])
theorem Qhr:Q02 Tryz.prog Qum:=Q0j Q0f Q0g (.cons Qfj (.nil)) Tryz.func152 Tryz.call152 (fun args rows=>Q7x (Q04.of (args.getD 0 .dead).cells)) [] [] 2 (fun _ _ _=>by kernel_rfl) (fun _ _=>rfl) (fun _ _ h=>h) (fun _ X=>by kernel_rfl)
def Q65(b:Q04):Tree Bool:=
.an (Q4e b) (.lv (Qge b) fun(x0:Int)=> .lf (wrap u32 x0 !=b.Target))
def Qi2(b:Q04):Bool:=(Q65 b).m
abbrev Q4y(b:Q04):Prop:=(Q65 b).p
def Qq2:Q08:=mkP 77 [] true [.agg Q04.sig] [] (fun args rows=>Q4y (Q04.of (args.getD 0 .dead).cells)) (fun args rows=>Qi2 (Q04.of (args.getD 0 .dead).cells)) (fun X=> .bool X) (fun X=>[])
theorem Qmq:Q02 Tryz.prog Qq2:=Q0j Q0f Q0g (.cons Qhr (.nil)) Tryz.func77 Tryz.call77 (fun args rows=>Q65 (Q04.of (args.getD 0 .dead).cells)) [] [] 2 (fun _ _ _=>by kernel_rfl) (fun _ _=>rfl) (fun _ _ h=>h) (fun _ X=>by kernel_rfl)
def Qm1(m:Q00)(z:(Int)×(Int)):Nat:=(5-z.2).toNat
def Q8k(m:Q00):Tree Int:=
.lv (Qn5 m.Timer) fun(x0:Bool)=> .lv (Qi8 m.Console) fun(x1:Bool)=> .lv (Qi6 m.Disk) fun(x2:Bool)=> .lv (Qvz m.Nic) fun(x3:Bool)=> .an (Q4y m.Balloon) (.lv (Qi2 m.Balloon) fun(x4:Bool)=> .lp inferInstance (Qm1 m (0,0)+1) (((rE m.Cpu.X.a0∧rE m.Cpu.X.a1∧rE m.Cpu.X.a2∧rE m.Cpu.X.a3∧rE m.Cpu.X.a4∧rE m.Cpu.X.a5∧rE m.Cpu.X.a6∧rE m.Cpu.X.a7∧rE m.Cpu.X.a8∧rE m.Cpu.X.a9∧rE m.Cpu.X.a10∧rE m.Cpu.X.a11∧rE m.Cpu.X.a12∧rE m.Cpu.X.a13∧rE m.Cpu.X.a14∧rE m.Cpu.X.a15∧rE m.Cpu.Pc∧rE m.Cpu.Csr.a0∧rE m.Cpu.Csr.a1∧rE m.Cpu.Csr.a2∧rE m.Cpu.Csr.a3∧rE m.Cpu.Csr.a4∧rE m.Cpu.Csr.a5∧rE m.Cpu.Csr.a6∧rE m.Cpu.Csr.a7∧((Els.Nil (Els.ints u32 m.Mem)∨rE (1:Nat))∧rE m.Mem)∧rE m.Console.Keys∧rE m.Timer.Armed∧rE m.Timer.Deadline∧rE m.Timer.Fired∧rE m.Disk.Blocks∧rE m.Disk.Block∧rE m.Disk.Frame∧rE m.Disk.State∧rE m.Disk.Cmd∧rE m.Disk.OpBlock∧rE m.Disk.OpFrame∧rE m.Disk.OpData∧rE m.Nic.Frame∧rE m.Nic.Len∧rE m.Nic.Posted∧rE m.Nic.Buffer∧rE m.Nic.Received∧rE m.Nic.Got∧rE m.Balloon.Target∧rE m.Balloon.Given∧rE m.Count∧rE m.Waiting∧rE m.Halted∧True)∧(rE ((nat_lit 0):Nat)∧rE ((nat_lit 0):Nat))∧rE (0:Int)∧(rE ((nat_lit 0):Nat)∧rE ((nat_lit 0):Nat))∧rE (0:Int)∧(rE ((nat_lit 0):Nat)∧rE ((nat_lit 27):Nat))∧(rE m.Timer.Armed∧rE m.Timer.Deadline∧rE m.Timer.Fired∧True)∧rE (x0:Bool)∧(rE ((nat_lit 0):Nat)∧rE ((nat_lit 26):Nat))∧(rE m.Console.Keys∧True)∧rE (x1:Bool)∧(rE ((nat_lit 0):Nat)∧rE ((nat_lit 30):Nat))∧(rE m.Disk.Blocks∧rE m.Disk.Block∧rE m.Disk.Frame∧rE m.Disk.State∧rE m.Disk.Cmd∧rE m.Disk.OpBlock∧rE m.Disk.OpFrame∧rE m.Disk.OpData∧True)∧rE (x2:Bool)∧(rE ((nat_lit 0):Nat)∧rE ((nat_lit 38):Nat))∧(rE m.Nic.Frame∧rE m.Nic.Len∧rE m.Nic.Posted∧rE m.Nic.Buffer∧rE m.Nic.Received∧rE m.Nic.Got∧True)∧rE (x3:Bool)∧(rE ((nat_lit 0):Nat)∧rE ((nat_lit 44):Nat))∧(rE m.Balloon.Target∧rE m.Balloon.Given∧True)∧rE (x4:Bool)∧(rE (x0:Bool)∧rE (x1:Bool)∧rE (x2:Bool)∧rE (x3:Bool)∧rE (x4:Bool)∧True)∧(rE (x0:Bool)∧rE (x1:Bool)∧rE (x2:Bool)∧rE (x3:Bool)∧rE (x4:Bool)∧True)∧rE (0:Int)∧True)∧(rE m.Cpu.X.a0∧rE m.Cpu.X.a1∧rE m.Cpu.X.a2∧rE m.Cpu.X.a3∧rE m.Cpu.X.a4∧rE m.Cpu.X.a5∧rE m.Cpu.X.a6∧rE m.Cpu.X.a7∧rE m.Cpu.X.a8∧rE m.Cpu.X.a9∧rE m.Cpu.X.a10∧rE m.Cpu.X.a11∧rE m.Cpu.X.a12∧rE m.Cpu.X.a13∧rE m.Cpu.X.a14∧rE m.Cpu.X.a15∧rE m.Cpu.Pc∧rE m.Cpu.Csr.a0∧rE m.Cpu.Csr.a1∧rE m.Cpu.Csr.a2∧rE m.Cpu.Csr.a3∧rE m.Cpu.Csr.a4∧rE m.Cpu.Csr.a5∧rE m.Cpu.Csr.a6∧rE m.Cpu.Csr.a7∧((Els.Nil (Els.ints u32 m.Mem)∨rE (1:Nat))∧rE m.Mem)∧rE m.Console.Keys∧rE m.Timer.Armed∧rE m.Timer.Deadline∧rE m.Timer.Fired∧rE m.Disk.Blocks∧rE m.Disk.Block∧rE m.Disk.Frame∧rE m.Disk.State∧rE m.Disk.Cmd∧rE m.Disk.OpBlock∧rE m.Disk.OpFrame∧rE m.Disk.OpData∧rE m.Nic.Frame∧rE m.Nic.Len∧rE m.Nic.Posted∧rE m.Nic.Buffer∧rE m.Nic.Received∧rE m.Nic.Got∧rE m.Balloon.Target∧rE m.Balloon.Given∧rE m.Count∧rE m.Waiting∧rE m.Halted∧True)∧(rE (x0:Bool)∧rE (x1:Bool)∧rE (x2:Bool)∧rE (x3:Bool)∧rE (x4:Bool)∧True)∧True) (0,0) fun(v0:Int×Int)=> .br (decide (v0.snd<5)) (.cn (Nat.beq 1 1&&(Nat.beq (5) 5&&decide (0≤v0.snd∧v0.snd<(↑5:Int)))) (.br (List.getD [x0,x1,x2,x3,x4] (Int.toNat v0.snd) false) (.cn (decide (0≤v0.snd)) (.nx (((rE m.Cpu.X.a0∧rE m.Cpu.X.a1∧rE m.Cpu.X.a2∧rE m.Cpu.X.a3∧rE m.Cpu.X.a4∧rE m.Cpu.X.a5∧rE m.Cpu.X.a6∧rE m.Cpu.X.a7∧rE m.Cpu.X.a8∧rE m.Cpu.X.a9∧rE m.Cpu.X.a10∧rE m.Cpu.X.a11∧rE m.Cpu.X.a12∧rE m.Cpu.X.a13∧rE m.Cpu.X.a14∧rE m.Cpu.X.a15∧rE m.Cpu.Pc∧rE m.Cpu.Csr.a0∧rE m.Cpu.Csr.a1∧rE m.Cpu.Csr.a2∧rE m.Cpu.Csr.a3∧rE m.Cpu.Csr.a4∧rE m.Cpu.Csr.a5∧rE m.Cpu.Csr.a6∧rE m.Cpu.Csr.a7∧((Els.Nil (Els.ints u32 m.Mem)∨rE (1:Nat))∧rE m.Mem)∧rE m.Console.Keys∧rE m.Timer.Armed∧rE m.Timer.Deadline∧rE m.Timer.Fired∧rE m.Disk.Blocks∧rE m.Disk.Block∧rE m.Disk.Frame∧rE m.Disk.State∧rE m.Disk.Cmd∧rE m.Disk.OpBlock∧rE m.Disk.OpFrame∧rE m.Disk.OpData∧rE m.Nic.Frame∧rE m.Nic.Len∧rE m.Nic.Posted∧rE m.Nic.Buffer∧rE m.Nic.Received∧rE m.Nic.Got∧rE m.Balloon.Target∧rE m.Balloon.Given∧rE m.Count∧rE m.Waiting∧rE m.Halted∧True)∧(rE ((nat_lit 0):Nat)∧rE ((nat_lit 0):Nat))∧rE (0:Int)∧(rE ((nat_lit 0):Nat)∧rE ((nat_lit 0):Nat))∧rE ((ior u32 v0.fst (ishl u32 1 v0.snd)):Int)∧(rE ((nat_lit 0):Nat)∧rE ((nat_lit 27):Nat))∧(rE m.Timer.Armed∧rE m.Timer.Deadline∧rE m.Timer.Fired∧True)∧rE (x0:Bool)∧(rE ((nat_lit 0):Nat)∧rE ((nat_lit 26):Nat))∧(rE m.Console.Keys∧True)∧rE (x1:Bool)∧(rE ((nat_lit 0):Nat)∧rE ((nat_lit 30):Nat))∧(rE m.Disk.Blocks∧rE m.Disk.Block∧rE m.Disk.Frame∧rE m.Disk.State∧rE m.Disk.Cmd∧rE m.Disk.OpBlock∧rE m.Disk.OpFrame∧rE m.Disk.OpData∧True)∧rE (x2:Bool)∧(rE ((nat_lit 0):Nat)∧rE ((nat_lit 38):Nat))∧(rE m.Nic.Frame∧rE m.Nic.Len∧rE m.Nic.Posted∧rE m.Nic.Buffer∧rE m.Nic.Received∧rE m.Nic.Got∧True)∧rE (x3:Bool)∧(rE ((nat_lit 0):Nat)∧rE ((nat_lit 44):Nat))∧(rE m.Balloon.Target∧rE m.Balloon.Given∧True)∧rE (x4:Bool)∧(rE (x0:Bool)∧rE (x1:Bool)∧rE (x2:Bool)∧rE (x3:Bool)∧rE (x4:Bool)∧True)∧(rE (x0:Bool)∧rE (x1:Bool)∧rE (x2:Bool)∧rE (x3:Bool)∧rE (x4:Bool)∧True)∧rE ((wrap i64 (v0.snd+1)):Int)∧True)∧(rE m.Cpu.X.a0∧rE m.Cpu.X.a1∧rE m.Cpu.X.a2∧rE m.Cpu.X.a3∧rE m.Cpu.X.a4∧rE m.Cpu.X.a5∧rE m.Cpu.X.a6∧rE m.Cpu.X.a7∧rE m.Cpu.X.a8∧rE m.Cpu.X.a9∧rE m.Cpu.X.a10∧rE m.Cpu.X.a11∧rE m.Cpu.X.a12∧rE m.Cpu.X.a13∧rE m.Cpu.X.a14∧rE m.Cpu.X.a15∧rE m.Cpu.Pc∧rE m.Cpu.Csr.a0∧rE m.Cpu.Csr.a1∧rE m.Cpu.Csr.a2∧rE m.Cpu.Csr.a3∧rE m.Cpu.Csr.a4∧rE m.Cpu.Csr.a5∧rE m.Cpu.Csr.a6∧rE m.Cpu.Csr.a7∧((Els.Nil (Els.ints u32 m.Mem)∨rE (1:Nat))∧rE m.Mem)∧rE m.Console.Keys∧rE m.Timer.Armed∧rE m.Timer.Deadline∧rE m.Timer.Fired∧rE m.Disk.Blocks∧rE m.Disk.Block∧rE m.Disk.Frame∧rE m.Disk.State∧rE m.Disk.Cmd∧rE m.Disk.OpBlock∧rE m.Disk.OpFrame∧rE m.Disk.OpData∧rE m.Nic.Frame∧rE m.Nic.Len∧rE m.Nic.Posted∧rE m.Nic.Buffer∧rE m.Nic.Received∧rE m.Nic.Got∧rE m.Balloon.Target∧rE m.Balloon.Given∧rE m.Count∧rE m.Waiting∧rE m.Halted∧True)∧(rE (x0:Bool)∧rE (x1:Bool)∧rE (x2:Bool)∧rE (x3:Bool)∧rE (x4:Bool)∧True)∧True) (Sum.inl (ior u32 v0.fst (ishl u32 1 v0.snd),wrap i64 (v0.snd+1))))) (.nx (((rE m.Cpu.X.a0∧rE m.Cpu.X.a1∧rE m.Cpu.X.a2∧rE m.Cpu.X.a3∧rE m.Cpu.X.a4∧rE m.Cpu.X.a5∧rE m.Cpu.X.a6∧rE m.Cpu.X.a7∧rE m.Cpu.X.a8∧rE m.Cpu.X.a9∧rE m.Cpu.X.a10∧rE m.Cpu.X.a11∧rE m.Cpu.X.a12∧rE m.Cpu.X.a13∧rE m.Cpu.X.a14∧rE m.Cpu.X.a15∧rE m.Cpu.Pc∧rE m.Cpu.Csr.a0∧rE m.Cpu.Csr.a1∧rE m.Cpu.Csr.a2∧rE m.Cpu.Csr.a3∧rE m.Cpu.Csr.a4∧rE m.Cpu.Csr.a5∧rE m.Cpu.Csr.a6∧rE m.Cpu.Csr.a7∧((Els.Nil (Els.ints u32 m.Mem)∨rE (1:Nat))∧rE m.Mem)∧rE m.Console.Keys∧rE m.Timer.Armed∧rE m.Timer.Deadline∧rE m.Timer.Fired∧rE m.Disk.Blocks∧rE m.Disk.Block∧rE m.Disk.Frame∧rE m.Disk.State∧rE m.Disk.Cmd∧rE m.Disk.OpBlock∧rE m.Disk.OpFrame∧rE m.Disk.OpData∧rE m.Nic.Frame∧rE m.Nic.Len∧rE m.Nic.Posted∧rE m.Nic.Buffer∧rE m.Nic.Received∧rE m.Nic.Got∧rE m.Balloon.Target∧rE m.Balloon.Given∧rE m.Count∧rE m.Waiting∧rE m.Halted∧True)∧(rE ((nat_lit 0):Nat)∧rE ((nat_lit 0):Nat))∧rE (0:Int)∧(rE ((nat_lit 0):Nat)∧rE ((nat_lit 0):Nat))∧rE v0.fst∧(rE ((nat_lit 0):Nat)∧rE ((nat_lit 27):Nat))∧(rE m.Timer.Armed∧rE m.Timer.Deadline∧rE m.Timer.Fired∧True)∧rE (x0:Bool)∧(rE ((nat_lit 0):Nat)∧rE ((nat_lit 26):Nat))∧(rE m.Console.Keys∧True)∧rE (x1:Bool)∧(rE ((nat_lit 0):Nat)∧rE ((nat_lit 30):Nat))∧(rE m.Disk.Blocks∧rE m.Disk.Block∧rE m.Disk.Frame∧rE m.Disk.State∧rE m.Disk.Cmd∧rE m.Disk.OpBlock∧rE m.Disk.OpFrame∧rE m.Disk.OpData∧True)∧rE (x2:Bool)∧(rE ((nat_lit 0):Nat)∧rE ((nat_lit 38):Nat))∧(rE m.Nic.Frame∧rE m.Nic.Len∧rE m.Nic.Posted∧rE m.Nic.Buffer∧rE m.Nic.Received∧rE m.Nic.Got∧True)∧rE (x3:Bool)∧(rE ((nat_lit 0):Nat)∧rE ((nat_lit 44):Nat))∧(rE m.Balloon.Target∧rE m.Balloon.Given∧True)∧rE (x4:Bool)∧(rE (x0:Bool)∧rE (x1:Bool)∧rE (x2:Bool)∧rE (x3:Bool)∧rE (x4:Bool)∧True)∧(rE (x0:Bool)∧rE (x1:Bool)∧rE (x2:Bool)∧rE (x3:Bool)∧rE (x4:Bool)∧True)∧rE ((wrap i64 (v0.snd+1)):Int)∧True)∧(rE m.Cpu.X.a0∧rE m.Cpu.X.a1∧rE m.Cpu.X.a2∧rE m.Cpu.X.a3∧rE m.Cpu.X.a4∧rE m.Cpu.X.a5∧rE m.Cpu.X.a6∧rE m.Cpu.X.a7∧rE m.Cpu.X.a8∧rE m.Cpu.X.a9∧rE m.Cpu.X.a10∧rE m.Cpu.X.a11∧rE m.Cpu.X.a12∧rE m.Cpu.X.a13∧rE m.Cpu.X.a14∧rE m.Cpu.X.a15∧rE m.Cpu.Pc∧rE m.Cpu.Csr.a0∧rE m.Cpu.Csr.a1∧rE m.Cpu.Csr.a2∧rE m.Cpu.Csr.a3∧rE m.Cpu.Csr.a4∧rE m.Cpu.Csr.a5∧rE m.Cpu.Csr.a6∧rE m.Cpu.Csr.a7∧((Els.Nil (Els.ints u32 m.Mem)∨rE (1:Nat))∧rE m.Mem)∧rE m.Console.Keys∧rE m.Timer.Armed∧rE m.Timer.Deadline∧rE m.Timer.Fired∧rE m.Disk.Blocks∧rE m.Disk.Block∧rE m.Disk.Frame∧rE m.Disk.State∧rE m.Disk.Cmd∧rE m.Disk.OpBlock∧rE m.Disk.OpFrame∧rE m.Disk.OpData∧rE m.Nic.Frame∧rE m.Nic.Len∧rE m.Nic.Posted∧rE m.Nic.Buffer∧rE m.Nic.Received∧rE m.Nic.Got∧rE m.Balloon.Target∧rE m.Balloon.Given∧rE m.Count∧rE m.Waiting∧rE m.Halted∧True)∧(rE (x0:Bool)∧rE (x1:Bool)∧rE (x2:Bool)∧rE (x3:Bool)∧rE (x4:Bool)∧True)∧True) (Sum.inl (v0.fst,wrap i64 (v0.snd+1)))))) (.lf (Sum.inr v0.fst)))
def Qor(m:Q00):Int:=(Q8k m).m
abbrev Q69(m:Q00):Prop:=(Q8k m).p
def Qsm:LInv:={
 α:=(Int)×(Int)
 F:=fun st a=>([(0,(lk st 0)),(1, .ptr 0 0 0),(2,(lk st 2)),(3, .ptr 1 0 0),(4, .int IntKind.u32 a.1),(7, .ptr 0 0 27),(8,(lk st 8)),(9,(lk st 9)),(10, .ptr 0 0 26),(11,(lk st 11)),(12,(lk st 12)),(13, .ptr 0 0 30),(14,(lk st 14)),(15,(lk st 15)),(16, .ptr 0 0 38),(17,(lk st 17)),(18,(lk st 18)),(19, .ptr 0 0 44),(20,(lk st 20)),(21,(lk st 21)),(22,(lk st 22)),(23,(lk st 23)),(24, .int IntKind.i64 a.2)],[⟨true,44,49, .gen [[(cT st 1 0),(cT st 1 1),(cT st 1 2),(cT st 1 3),(cT st 1 4),(cT st 1 5),(cT st 1 6),(cT st 1 7),(cT st 1 8),(cT st 1 9),(cT st 1 10),(cT st 1 11),(cT st 1 12),(cT st 1 13),(cT st 1 14),(cT st 1 15),(cT st 1 16),(cT st 1 17),(cT st 1 18),(cT st 1 19),(cT st 1 20),(cT st 1 21),(cT st 1 22),(cT st 1 23),(cT st 1 24),(cT st 1 25),(cT st 1 26),(cT st 1 27),(cT st 1 28),(cT st 1 29),(cT st 1 30),(cT st 1 31),(cT st 1 32),(cT st 1 33),(cT st 1 34),(cT st 1 35),(cT st 1 36),(cT st 1 37),(cT st 1 38),(cT st 1 39),(cT st 1 40),(cT st 1 41),(cT st 1 42),(cT st 1 43),(cT st 1 44),(cT st 1 45),(cT st 1 46),(cT st 1 47),(cT st 1 48)]]⟩,⟨true,126,5, .gen [[(cT st 3 0),(cT st 3 1),(cT st 3 2),(cT st 3 3),(cT st 3 4)]]⟩])
 a0:=fun st=>((lk st 4).toInt,(lk st 24).toInt)
 ex0:=fun st=>[]++[(Q0p (lk st 1) (st.rows.length+0)),(Q0p (lk st 3) (st.rows.length+1))]
 next:=fun st=>((lk st 4).toInt,(lk st 24).toInt)
 ex:=fun st=>[]++[(Q0p (lk st 1) (st.rows.length+0)),(Q0p (lk st 3) (st.rows.length+1))]}
def Qny:List (Nat×LInv):=[(4,Qsm)]
def Qw:Q08:=mkP 32 [] true [.agg Q00.sig] [] (fun args rows=>Q69 (Q00.of (args.getD 0 .dead).cells)) (fun args rows=>Qor (Q00.of (args.getD 0 .dead).cells)) (fun X=> .int .u32 X) (fun X=>[])
theorem Qsj:Q02 Tryz.prog Qw:=Q0j Q0f Q0g (.cons Qss (.cons Qoi (.cons Qim (.cons Qxf (.cons Qmq (.nil)))))) Tryz.func32 Tryz.call32 (fun args rows=>Q8k (Q00.of (args.getD 0 .dead).cells)) [] Qny 3 (fun _ _ _=>by kernel_rfl) (fun _ _=>rfl) (fun _ _ h=>h) (fun _ X=>by kernel_rfl)
def Q5y(m:Q00):Tree Int:=
.an (Q69 m) (.lv (Qor m) fun(x0:Int)=> .lf (iand u32 x0 m.Cpu.Csr.a7))
def Qdl(m:Q00):Int:=(Q5y m).m
abbrev Q39(m:Q00):Prop:=(Q5y m).p
def Qov:Q08:=mkP 58 [] true [.agg Q00.sig] [] (fun args rows=>Q39 (Q00.of (args.getD 0 .dead).cells)) (fun args rows=>Qdl (Q00.of (args.getD 0 .dead).cells)) (fun X=> .int .u32 X) (fun X=>[])
theorem Qet:Q02 Tryz.prog Qov:=Q0j Q0f Q0g (.cons Qsj (.nil)) Tryz.func58 Tryz.call58 (fun args rows=>Q5y (Q00.of (args.getD 0 .dead).cells)) [] [] 2 (fun _ _ _=>by kernel_rfl) (fun _ _=>rfl) (fun _ _ h=>h) (fun _ X=>by kernel_rfl)
def Q56(m:Q00):Tree Bool:=
.br m.Waiting (.an (Q39 m) (.lv (Qdl m) fun(x0:Int)=> .lf (x0==0))) (.lf false)
def Q7r(m:Q00):Bool:=(Q56 m).m
abbrev Q1z(m:Q00):Prop:=(Q56 m).p
def Qxi:Q08:=mkP 22 [] true [.agg Q00.sig] [] (fun args rows=>Q1z (Q00.of (args.getD 0 .dead).cells)) (fun args rows=>Q7r (Q00.of (args.getD 0 .dead).cells)) (fun X=> .bool X) (fun X=>[])
theorem Qtt:Q02 Tryz.prog Qxi:=Q0j Q0f Q0g (.cons Qet (.nil)) Tryz.func22 Tryz.call22 (fun args rows=>Q56 (Q00.of (args.getD 0 .dead).cells)) [] [] 2 (fun _ _ _=>by kernel_rfl) (fun _ _=>rfl) (fun _ _ h=>h) (fun _ X=>by kernel_rfl)
end
end Go.Proofs.YtdkiadhigcfmkaaGreat

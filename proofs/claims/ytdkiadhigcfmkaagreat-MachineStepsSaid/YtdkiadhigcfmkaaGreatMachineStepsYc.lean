/-
  Functions of the program: models, and that its calls come to them (by a program: gen3.py).
-/
import Derived.Test.YtdkiadhigcfmkaaGreatMachineStepsBase
import Derived.Test.YtdkiadhigcfmkaaGreatMachineStepsYa
namespace Go.Proofs.YtdkiadhigcfmkaaGreat
open Go Go.GD Go.IntKind
set_option linter.unusedVariables false
set_option linter.unusedSimpArgs false
set_option maxRecDepth 100000
noncomputable section
def tblYc0:List UInt8:=[(0:UInt8),1,2,2,3,3,3,3,4,4,4,4,4,4,4,4,5,5,5,5,5,5,5,5,5,5,5,5,5,5,5,5,6,6,6,6,6,6,6,6,6,6,6,6,6,6,6,6,6,6,6,6,6,6,6,6,6,6,6,6,6,6,6,6]
def Z82:List UInt8:=[(7:UInt8),7,7,7,7,7,7,7,7,7,7,7,7,7,7,7,7,7,7,7,7,7,7,7,7,7,7,7,7,7,7,7,7,7,7,7,7,7,7,7,7,7,7,7,7,7,7,7,7,7,7,7,7,7,7,7,7,7,7,7,7,7,7,7]
def Qn6:List UInt8:=[(8:UInt8),8,8,8,8,8,8,8,8,8,8,8,8,8,8,8,8,8,8,8,8,8,8,8,8,8,8,8,8,8,8,8,8,8,8,8,8,8,8,8,8,8,8,8,8,8,8,8,8,8,8,8,8,8,8,8,8,8,8,8,8,8,8,8]
def Zde:List UInt8:=[(1:UInt8),2,2,3,3,3,3,4,4,4,4,4,4,4,4,5,5,5,5,5,5,5,5,5,5,5,5,5,5,5,5,6,6,6,6,6,6,6,6,6,6,6,6,6,6,6,6,6,6,6,6,6,6,6,6,6,6,6,6,6,6,6,6]
def tblYc4:List UInt8:=[(0:UInt8),1,1,2,1,2,2,3,1,2,2,3,2,3,3,4,1,2,2,3,2,3,3,4,2,3,3,4,3,4,4,5,1,2,2,3,2,3,3,4,2,3,3,4,3,4,4,5,2,3,3,4,3,4,4,5,3,4,4,5,4,5,5,6]
def Qn0:List UInt8:=[(1:UInt8),2,2,3,2,3,3,4,2,3,3,4,3,4,4,5,2,3,3,4,3,4,4,5,3,4,4,5,4,5,5,6,2,3,3,4,3,4,4,5,3,4,4,5,4,5,5,6,3,4,4,5,4,5,5,6,4,5,5,6,5,6,6,7]
def Z7y:List UInt8:=[(2:UInt8),3,3,4,3,4,4,5,3,4,4,5,4,5,5,6,3,4,4,5,4,5,5,6,4,5,5,6,5,6,6,7,3,4,4,5,4,5,5,6,4,5,5,6,5,6,6,7,4,5,5,6,5,6,6,7,5,6,6,7,6,7,7,8]
def Zcs:List UInt8:=[(1:UInt8),1,2,1,2,2,3,1,2,2,3,2,3,3,4,1,2,2,3,2,3,3,4,2,3,3,4,3,4,4,5,1,2,2,3,2,3,3,4,2,3,3,4,3,4,4,5,2,3,3,4,3,4,4,5,3,4,4,5,4,5,5,6]
def Qod(c:Q0c):Tree Bool:=
.lf (decide ((↑(List.length c.Keys):Int)≤(16:Int)))
def Q2r(c:Q0c):Bool:=(Qod c).m
def Z4w:Q0a:=mkR 114 [] true [.agg Q0c.sig] [] (fun args rows=>Q2r (Q0c.of (args.getD 0 .dead).cells)) (fun X=> .bool X) (fun X=>[])
theorem Z0c:Q03 Tryz.prog Z4w:=Q0t Q0g Q0h (.nil) Tryz.func114 Tryz.call114 (fun args rows=>Qod (Q0c.of (args.getD 0 .dead).cells)) [] [] 2 (fun _ _ _=>by kernel_rfl) (fun _ _=>rfl) (fun _ _=>Tree.free_ok (by kernel_rfl)) (fun _ X=>by kernel_rfl)
def Qif(t:Q0i):Tree Bool:=
.br t.Armed (.br (!t.Fired) (.lf (t.Deadline !=0)) (.lf false)) (.br t.Fired (.lf true) (.lf (t.Deadline==0)))
def Q5w(t:Q0i):Bool:=(Qif t).m
def Za1:Q0a:=mkR 115 [] true [.agg Q0i.sig] [] (fun args rows=>Q5w (Q0i.of (args.getD 0 .dead).cells)) (fun X=> .bool X) (fun X=>[])
theorem Z6z:Q03 Tryz.prog Za1:=Q0t Q0g Q0h (.nil) Tryz.func115 Tryz.call115 (fun args rows=>Qif (Q0i.of (args.getD 0 .dead).cells)) [] [] 2 (fun _ _ _=>by kernel_rfl) (fun _ _=>rfl) (fun _ _=>Tree.free_ok (by kernel_rfl)) (fun _ X=>by kernel_rfl)
def Q5v(d0:Q0d):Tree Bool:=
.br (d0.Cmd==1) (.lf (decide (d0.OpData=[]))) (.br (d0.Cmd==2) (.lf ((↑(List.length d0.OpData):Int)==(128:Int))) (.lf false))
def Q7s(d0:Q0d):Bool:=(Q5v d0).m
def Qr7:Q0a:=mkR 164 [] true [.agg Q0d.sig] [] (fun args rows=>Q7s (Q0d.of (args.getD 0 .dead).cells)) (fun X=> .bool X) (fun X=>[])
theorem Qof:Q03 Tryz.prog Qr7:=Q0t Q0g Q0h (.nil) Tryz.func164 Tryz.call164 (fun args rows=>Q5v (Q0d.of (args.getD 0 .dead).cells)) [] [] 2 (fun _ _ _=>by kernel_rfl) (fun _ _=>rfl) (fun _ _=>Tree.free_ok (by kernel_rfl)) (fun _ X=>by kernel_rfl)
def Q8g(d0:Q0d)(pages:Int):Tree Bool:=
.br (decide (d0.Blocks>64)) (.lf false) (let T1:Tree (Bool):= .br (d0.Cmd==0) (.br (d0.OpBlock==0) (.br (d0.OpFrame==0) (.lf (decide (d0.OpData=[]))) (.lf false)) (.lf false)) (.lf false); .br (d0.State==0) T1 (.br (d0.State==2) T1 (.br (d0.State==3) T1 (.br (d0.State==1) (.lv (Q7s d0) fun(x0:Bool)=> .br x0 (.br (decide (d0.OpBlock<d0.Blocks)) (.lf (decide (wrap i64 d0.OpFrame<pages))) (.lf false)) (.lf false)) (.lf false)))))
def Q3h(d0:Q0d)(pages:Int):Bool:=(Q8g d0 pages).m
def Zdz:Q0a:=mkR 116 [] true [.agg Q0d.sig, .one (.int .i64)] [] (fun args rows=>Q3h (Q0d.of (args.getD 0 .dead).cells) (argI args 1)) (fun X=> .bool X) (fun X=>[])
theorem Zad:Q03 Tryz.prog Zdz:=Q0t Q0g Q0h (.cons Qof (.nil)) Tryz.func116 Tryz.call116 (fun args rows=>Q8g (Q0d.of (args.getD 0 .dead).cells) (argI args 1)) [] [] 2 (fun _ _ _=>by kernel_rfl) (fun _ _=>rfl) (fun _ _=>Tree.free_ok (by kernel_rfl)) (fun _ X=>by kernel_rfl)
def Qlc(n:Q0m)(pages:Int):Tree Bool:=
let T1:Tree (Bool):=let T2:Tree (Bool):= .br n.Received (.br (decide (n.Got≥1)) (.lf (decide (n.Got≤128))) (.lf false)) (.lf (n.Got==0)); .br n.Posted (.br (decide (wrap i64 n.Buffer≥pages)) (.lf false) T2) (.br (n.Buffer !=0) (.lf false) T2); .br n.Posted (.br n.Received (.lf false) T1) T1
def Q9s(n:Q0m)(pages:Int):Bool:=(Qlc n pages).m
def nic_May_m:Q0a:=mkR 117 [] true [.agg Q0m.sig, .one (.int .i64)] [] (fun args rows=>Q9s (Q0m.of (args.getD 0 .dead).cells) (argI args 1)) (fun X=> .bool X) (fun X=>[])
theorem Zfp:Q03 Tryz.prog nic_May_m:=Q0t Q0g Q0h (.nil) Tryz.func117 Tryz.call117 (fun args rows=>Qlc (Q0m.of (args.getD 0 .dead).cells) (argI args 1)) [] [] 2 (fun _ _ _=>by kernel_rfl) (fun _ _=>rfl) (fun _ _=>Tree.free_ok (by kernel_rfl)) (fun _ X=>by kernel_rfl)
def Q1x(x:Int):Tree Int:=
let E1:=(↑(List.length (List.append (List.append tblYc0 Z82) (List.append Qn6 Qn6))):Int); .br (decide (x≥65536)) (.br (decide (ishr u32 x (16:Int)≥(256:Int))) (.cn (decide (0≤wrap u8 (ishr u32 (ishr u32 x 16) 8)∧wrap u8 (ishr u32 (ishr u32 x 16) 8)<E1)) (.lf (wrap i64 (wrap i64 ((16:Int)+(8:Int))+wrap i64 (↑(UInt8.toNat (List.getD ((0:UInt8)::(Zde++Z82++(Qn6++Qn6))) (Int.toNat (wrap u8 (ishr u32 (ishr u32 x 16) 8))) (0:UInt8))):Int))))) (.cn (decide (0≤wrap u8 (ishr u32 x 16)∧wrap u8 (ishr u32 x 16)<E1)) (.lf (wrap i64 (16+wrap i64 (↑(UInt8.toNat (List.getD ((0:UInt8)::(Zde++Z82++(Qn6++Qn6))) (Int.toNat (wrap u8 (ishr u32 x 16))) (0:UInt8))):Int)))))) (.br (decide (x≥256)) (.cn (decide (0≤wrap u8 (ishr u32 x 8)∧wrap u8 (ishr u32 x 8)<E1)) (.lf (wrap i64 (wrap i64 ((0:Int)+(8:Int))+wrap i64 (↑(UInt8.toNat (List.getD ((0:UInt8)::(Zde++Z82++(Qn6++Qn6))) (Int.toNat (wrap u8 (ishr u32 x 8))) (0:UInt8))):Int))))) (.cn (decide (0≤wrap u8 x∧wrap u8 x<E1)) (.lf (wrap i64 (0+wrap i64 (↑(UInt8.toNat (List.getD ((0:UInt8)::(Zde++Z82++(Qn6++Qn6))) (Int.toNat (wrap u8 x)) (0:UInt8))):Int))))))
def Q16(x:Int):Int:=(Q1x x).m
abbrev Q6e(x:Int):Prop:=(Q1x x).p
def Qqj:Q0a:=mkP 165 [] true [.one (.int .u32)] [] (fun args rows=>Q6e (argI args 0)) (fun args rows=>Q16 (argI args 0)) (fun X=> .int .i64 X) (fun X=>[])
theorem Qox:Q03 Tryz.prog Qqj:=Q0j Q0g Q0h (.nil) Tryz.func165 Tryz.call165 (fun args rows=>Q1x (argI args 0)) [] [] 2 (fun _ _ _=>by kernel_rfl) (fun _ _=>rfl) (fun _ _ h=>h) (fun _ X=>by kernel_rfl)
def Q59(b:Q05)(pages:Int):Tree Bool:=
.an (Q6e b.Given) (.lv (Q16 b.Given) fun(x0:Int)=> .lf (decide (x0≤if 0>pages then 0 else pages)))
def Q2x(b:Q05)(pages:Int):Bool:=(Q59 b pages).m
abbrev Q7j(b:Q05)(pages:Int):Prop:=(Q59 b pages).p
def Z4l:Q0a:=mkP 118 [] true [.agg Q05.sig, .one (.int .i64)] [] (fun args rows=>Q7j (Q05.of (args.getD 0 .dead).cells) (argI args 1)) (fun args rows=>Q2x (Q05.of (args.getD 0 .dead).cells) (argI args 1)) (fun X=> .bool X) (fun X=>[])
theorem Z0e:Q03 Tryz.prog Z4l:=Q0j Q0g Q0h (.cons Qox (.nil)) Tryz.func118 Tryz.call118 (fun args rows=>Q59 (Q05.of (args.getD 0 .dead).cells) (argI args 1)) [] [] 2 (fun _ _ _=>by kernel_rfl) (fun _ _=>rfl) (fun _ _ h=>h) (fun _ X=>by kernel_rfl)
def Q1e(m:Q00):Tree Bool:=
.lv (Q0s m.Mem) fun(x0:Int)=> .lv (Q2r m.Console) fun(x1:Bool)=> .br x1 (.lv (Q5w m.Timer) fun(x2:Bool)=> .br x2 (.lv (Q3h m.Disk x0) fun(x3:Bool)=> .br x3 (.lv (Q9s m.Nic x0) fun(x4:Bool)=> .br x4 (.an (Q7j m.Balloon x0) (.lv (Q2x m.Balloon x0) fun(x5:Bool)=> .lf x5)) (.lf false)) (.lf false)) (.lf false)) (.lf false)
def Q0u(m:Q00):Bool:=(Q1e m).m
abbrev Q1m(m:Q00):Prop:=(Q1e m).p
def Qm9:Q0a:=mkP 57 [] true [.agg Q00.sig] [] (fun args rows=>Q1m (Q00.of (args.getD 0 .dead).cells)) (fun args rows=>Q0u (Q00.of (args.getD 0 .dead).cells)) (fun X=> .bool X) (fun X=>[])
theorem Qla:Q03 Tryz.prog Qm9:=Q0j Q0g Q0h (.cons Q39 (.cons Z0c (.cons Z6z (.cons Zad (.cons Zfp (.cons Z0e (.nil))))))) Tryz.func57 Tryz.call57 (fun args rows=>Q1e (Q00.of (args.getD 0 .dead).cells)) [] [] 2 (fun _ _ _=>by kernel_rfl) (fun _ _=>rfl) (fun _ _ h=>h) (fun _ X=>by kernel_rfl)
def Q56(m:Q00):Tree Bool:=
.lv (Q0s m.Mem) fun(x0:Int)=> .br (x0==0) (.lf false) (.br (m.Cpu.X.a0 !=0) (.lf false) (.br (decide (m.Cpu.Csr.a0>31)) (.lf false) (.br (decide (m.Cpu.Csr.a7>31)) (.lf false) (.br (decide (m.Cpu.Csr.a6>255)) (.lf false) (.br (Int.tmod m.Cpu.Csr.a1 (4:Int) !=(0:Int)) (.lf false) (.br (decide (m.Count>1152921504606846976)) (.lf false) (.br m.Waiting (.br m.Halted (.lf false) (.an (Q1m m) (.lv (Q0u m) fun(x1:Bool)=> .lf x1))) (.an (Q1m m) (.lv (Q0u m) fun(x2:Bool)=> .lf x2)))))))))
def Q1y(m:Q00):Bool:=(Q56 m).m
abbrev Q22(m:Q00):Prop:=(Q56 m).p
def Z58:Q0a:=mkP 21 [] true [.agg Q00.sig] [] (fun args rows=>Q22 (Q00.of (args.getD 0 .dead).cells)) (fun args rows=>Q1y (Q00.of (args.getD 0 .dead).cells)) (fun X=> .bool X) (fun X=>[])
theorem Qmw:Q03 Tryz.prog Z58:=Q0j Q0g Q0h (.cons Q39 (.cons Qla (.nil))) Tryz.func21 Tryz.call21 (fun args rows=>Q56 (Q00.of (args.getD 0 .dead).cells)) [] [] 2 (fun _ _ _=>by kernel_rfl) (fun _ _=>rfl) (fun _ _ h=>h) (fun _ X=>by kernel_rfl)
def Ql9(t:Q0i):Tree Bool:=
.lf t.Fired
def Qdz(t:Q0i):Bool:=(Ql9 t).m
def Qv9:Q0a:=mkR 73 [] true [.agg Q0i.sig] [] (fun args rows=>Qdz (Q0i.of (args.getD 0 .dead).cells)) (fun X=> .bool X) (fun X=>[])
theorem Qtq:Q03 Tryz.prog Qv9:=Q0t Q0g Q0h (.nil) Tryz.func73 Tryz.call73 (fun args rows=>Ql9 (Q0i.of (args.getD 0 .dead).cells)) [] [] 2 (fun _ _ _=>by kernel_rfl) (fun _ _=>rfl) (fun _ _=>Tree.free_ok (by kernel_rfl)) (fun _ X=>by kernel_rfl)
def Qht(c:Q0c):Tree Bool:=
.lf (!decide (c.Keys=[]))
def Q82(c:Q0c):Bool:=(Qht c).m
def Qr6:Q0a:=mkR 74 [] true [.agg Q0c.sig] [] (fun args rows=>Q82 (Q0c.of (args.getD 0 .dead).cells)) (fun X=> .bool X) (fun X=>[])
theorem Qp4:Q03 Tryz.prog Qr6:=Q0t Q0g Q0h (.nil) Tryz.func74 Tryz.call74 (fun args rows=>Qht (Q0c.of (args.getD 0 .dead).cells)) [] [] 2 (fun _ _ _=>by kernel_rfl) (fun _ _=>rfl) (fun _ _=>Tree.free_ok (by kernel_rfl)) (fun _ X=>by kernel_rfl)
def Qh7(d0:Q0d):Tree Bool:=
.br (d0.State==2) (.lf true) (.lf (d0.State==3))
def Q7i(d0:Q0d):Bool:=(Qh7 d0).m
def Qza:Q0a:=mkR 75 [] true [.agg Q0d.sig] [] (fun args rows=>Q7i (Q0d.of (args.getD 0 .dead).cells)) (fun X=> .bool X) (fun X=>[])
theorem Ql7:Q03 Tryz.prog Qza:=Q0t Q0g Q0h (.nil) Tryz.func75 Tryz.call75 (fun args rows=>Qh7 (Q0d.of (args.getD 0 .dead).cells)) [] [] 2 (fun _ _ _=>by kernel_rfl) (fun _ _=>rfl) (fun _ _=>Tree.free_ok (by kernel_rfl)) (fun _ X=>by kernel_rfl)
def Qpk(n:Q0m):Tree Bool:=
.lf n.Received
def Qj2(n:Q0m):Bool:=(Qpk n).m
def Z3c:Q0a:=mkR 76 [] true [.agg Q0m.sig] [] (fun args rows=>Qj2 (Q0m.of (args.getD 0 .dead).cells)) (fun X=> .bool X) (fun X=>[])
theorem Qyu:Q03 Tryz.prog Z3c:=Q0t Q0g Q0h (.nil) Tryz.func76 Tryz.call76 (fun args rows=>Qpk (Q0m.of (args.getD 0 .dead).cells)) [] [] 2 (fun _ _ _=>by kernel_rfl) (fun _ _=>rfl) (fun _ _=>Tree.free_ok (by kernel_rfl)) (fun _ X=>by kernel_rfl)
def Q1t(x:Int):Tree Int:=
let E1:=(↑(List.length (List.append (List.append tblYc4 Qn0) (List.append Qn0 Z7y))):Int); .cn (decide (0≤ishr u32 x 24∧ishr u32 x 24<E1)) (.cn (decide (0≤iand u32 (ishr u32 x 16) 255∧iand u32 (ishr u32 x 16) 255<E1)) (.cn (decide (0≤iand u32 (ishr u32 x 8) 255∧iand u32 (ishr u32 x 8) 255<E1)) (.cn (decide (0≤iand u32 x 255∧iand u32 x 255<E1)) (.lf (wrap i64 (wrap u8 (wrap u8 (wrap u8 ((↑(UInt8.toNat (List.getD ((0:UInt8)::(Zcs++Qn0++(Qn0++Z7y))) (Int.toNat (ishr u32 x 24)) (0:UInt8))):Int)+(↑(UInt8.toNat (List.getD ((0:UInt8)::(Zcs++Qn0++(Qn0++Z7y))) (Int.toNat (iand u32 (ishr u32 x 16) 255)) (0:UInt8))):Int))+(↑(UInt8.toNat (List.getD ((0:UInt8)::(Zcs++Qn0++(Qn0++Z7y))) (Int.toNat (iand u32 (ishr u32 x 8) 255)) (0:UInt8))):Int))+(↑(UInt8.toNat (List.getD ((0:UInt8)::(Zcs++Qn0++(Qn0++Z7y))) (Int.toNat (iand u32 x 255)) (0:UInt8))):Int))))))))
def Q5a(x:Int):Int:=(Q1t x).m
abbrev Q2z(x:Int):Prop:=(Q1t x).p
def Qir:Q0a:=mkP 204 [] true [.one (.int .u32)] [] (fun args rows=>Q2z (argI args 0)) (fun args rows=>Q5a (argI args 0)) (fun X=> .int .i64 X) (fun X=>[])
theorem Qhm:Q03 Tryz.prog Qir:=Q0j Q0g Q0h (.nil) Tryz.func204 Tryz.call204 (fun args rows=>Q1t (argI args 0)) [] [] 2 (fun _ _ _=>by kernel_rfl) (fun _ _=>rfl) (fun _ _ h=>h) (fun _ X=>by kernel_rfl)
def Q5t(b:Q05):Tree Int:=
.an (Q2z b.Given) (.lv (Q5a b.Given) fun(x0:Int)=> .lf x0)
def Qaa(b:Q05):Int:=(Q5t b).m
abbrev Q66(b:Q05):Prop:=(Q5t b).p
def Qw6:Q0a:=mkP 152 [] true [.agg Q05.sig] [] (fun args rows=>Q66 (Q05.of (args.getD 0 .dead).cells)) (fun args rows=>Qaa (Q05.of (args.getD 0 .dead).cells)) (fun X=> .int .i64 X) (fun X=>[])
theorem Qjn:Q03 Tryz.prog Qw6:=Q0j Q0g Q0h (.cons Qhm (.nil)) Tryz.func152 Tryz.call152 (fun args rows=>Q5t (Q05.of (args.getD 0 .dead).cells)) [] [] 2 (fun _ _ _=>by kernel_rfl) (fun _ _=>rfl) (fun _ _ h=>h) (fun _ X=>by kernel_rfl)
def Q2v(b:Q05):Tree Bool:=
.an (Q66 b) (.lv (Qaa b) fun(x0:Int)=> .lf (wrap u32 x0 !=b.Target))
def Q64(b:Q05):Bool:=(Q2v b).m
abbrev Q6c(b:Q05):Prop:=(Q2v b).p
def Qqs:Q0a:=mkP 77 [] true [.agg Q05.sig] [] (fun args rows=>Q6c (Q05.of (args.getD 0 .dead).cells)) (fun args rows=>Q64 (Q05.of (args.getD 0 .dead).cells)) (fun X=> .bool X) (fun X=>[])
theorem Qoq:Q03 Tryz.prog Qqs:=Q0j Q0g Q0h (.cons Qjn (.nil)) Tryz.func77 Tryz.call77 (fun args rows=>Q2v (Q05.of (args.getD 0 .dead).cells)) [] [] 2 (fun _ _ _=>by kernel_rfl) (fun _ _=>rfl) (fun _ _ h=>h) (fun _ X=>by kernel_rfl)
def Qgf(m:Q00)(z:(Int)×(Int)):Nat:=(5-z.2).toNat
def Q4h(m:Q00):Tree Int:=
.lv (Qdz m.Timer) fun(x0:Bool)=> .lv (Q82 m.Console) fun(x1:Bool)=> .lv (Q7i m.Disk) fun(x2:Bool)=> .lv (Qj2 m.Nic) fun(x3:Bool)=> .an (Q6c m.Balloon) (.lv (Q64 m.Balloon) fun(x4:Bool)=> .lp inferInstance (Qgf m (0,0)+1) (((rE m.Cpu.X.a0∧rE m.Cpu.X.a1∧rE m.Cpu.X.a2∧rE m.Cpu.X.a3∧rE m.Cpu.X.a4∧rE m.Cpu.X.a5∧rE m.Cpu.X.a6∧rE m.Cpu.X.a7∧rE m.Cpu.X.a8∧rE m.Cpu.X.a9∧rE m.Cpu.X.a10∧rE m.Cpu.X.a11∧rE m.Cpu.X.a12∧rE m.Cpu.X.a13∧rE m.Cpu.X.a14∧rE m.Cpu.X.a15∧rE m.Cpu.Pc∧rE m.Cpu.Csr.a0∧rE m.Cpu.Csr.a1∧rE m.Cpu.Csr.a2∧rE m.Cpu.Csr.a3∧rE m.Cpu.Csr.a4∧rE m.Cpu.Csr.a5∧rE m.Cpu.Csr.a6∧rE m.Cpu.Csr.a7∧((Els.Nil (Els.ints u32 m.Mem)∨rE (1:Nat))∧rE m.Mem)∧rE m.Console.Keys∧rE m.Timer.Armed∧rE m.Timer.Deadline∧rE m.Timer.Fired∧rE m.Disk.Blocks∧rE m.Disk.Block∧rE m.Disk.Frame∧rE m.Disk.State∧rE m.Disk.Cmd∧rE m.Disk.OpBlock∧rE m.Disk.OpFrame∧rE m.Disk.OpData∧rE m.Nic.Frame∧rE m.Nic.Len∧rE m.Nic.Posted∧rE m.Nic.Buffer∧rE m.Nic.Received∧rE m.Nic.Got∧rE m.Balloon.Target∧rE m.Balloon.Given∧rE m.Count∧rE m.Waiting∧rE m.Halted∧True)∧(rE ((nat_lit 0):Nat)∧rE ((nat_lit 0):Nat))∧rE (0:Int)∧(rE ((nat_lit 0):Nat)∧rE ((nat_lit 0):Nat))∧rE (0:Int)∧(rE ((nat_lit 0):Nat)∧rE ((nat_lit 27):Nat))∧(rE m.Timer.Armed∧rE m.Timer.Deadline∧rE m.Timer.Fired∧True)∧rE (x0:Bool)∧(rE ((nat_lit 0):Nat)∧rE ((nat_lit 26):Nat))∧(rE m.Console.Keys∧True)∧rE (x1:Bool)∧(rE ((nat_lit 0):Nat)∧rE ((nat_lit 30):Nat))∧(rE m.Disk.Blocks∧rE m.Disk.Block∧rE m.Disk.Frame∧rE m.Disk.State∧rE m.Disk.Cmd∧rE m.Disk.OpBlock∧rE m.Disk.OpFrame∧rE m.Disk.OpData∧True)∧rE (x2:Bool)∧(rE ((nat_lit 0):Nat)∧rE ((nat_lit 38):Nat))∧(rE m.Nic.Frame∧rE m.Nic.Len∧rE m.Nic.Posted∧rE m.Nic.Buffer∧rE m.Nic.Received∧rE m.Nic.Got∧True)∧rE (x3:Bool)∧(rE ((nat_lit 0):Nat)∧rE ((nat_lit 44):Nat))∧(rE m.Balloon.Target∧rE m.Balloon.Given∧True)∧rE (x4:Bool)∧(rE (x0:Bool)∧rE (x1:Bool)∧rE (x2:Bool)∧rE (x3:Bool)∧rE (x4:Bool)∧True)∧(rE (x0:Bool)∧rE (x1:Bool)∧rE (x2:Bool)∧rE (x3:Bool)∧rE (x4:Bool)∧True)∧rE (0:Int)∧True)∧(rE m.Cpu.X.a0∧rE m.Cpu.X.a1∧rE m.Cpu.X.a2∧rE m.Cpu.X.a3∧rE m.Cpu.X.a4∧rE m.Cpu.X.a5∧rE m.Cpu.X.a6∧rE m.Cpu.X.a7∧rE m.Cpu.X.a8∧rE m.Cpu.X.a9∧rE m.Cpu.X.a10∧rE m.Cpu.X.a11∧rE m.Cpu.X.a12∧rE m.Cpu.X.a13∧rE m.Cpu.X.a14∧rE m.Cpu.X.a15∧rE m.Cpu.Pc∧rE m.Cpu.Csr.a0∧rE m.Cpu.Csr.a1∧rE m.Cpu.Csr.a2∧rE m.Cpu.Csr.a3∧rE m.Cpu.Csr.a4∧rE m.Cpu.Csr.a5∧rE m.Cpu.Csr.a6∧rE m.Cpu.Csr.a7∧((Els.Nil (Els.ints u32 m.Mem)∨rE (1:Nat))∧rE m.Mem)∧rE m.Console.Keys∧rE m.Timer.Armed∧rE m.Timer.Deadline∧rE m.Timer.Fired∧rE m.Disk.Blocks∧rE m.Disk.Block∧rE m.Disk.Frame∧rE m.Disk.State∧rE m.Disk.Cmd∧rE m.Disk.OpBlock∧rE m.Disk.OpFrame∧rE m.Disk.OpData∧rE m.Nic.Frame∧rE m.Nic.Len∧rE m.Nic.Posted∧rE m.Nic.Buffer∧rE m.Nic.Received∧rE m.Nic.Got∧rE m.Balloon.Target∧rE m.Balloon.Given∧rE m.Count∧rE m.Waiting∧rE m.Halted∧True)∧(rE (x0:Bool)∧rE (x1:Bool)∧rE (x2:Bool)∧rE (x3:Bool)∧rE (x4:Bool)∧True)∧True) (0,0) fun(v0:Int×Int)=> .br (decide (v0.snd<5)) (.cn (Nat.beq 1 1&&(Nat.beq (5) 5&&decide (0≤v0.snd∧v0.snd<(↑5:Int)))) (.br (List.getD [x0,x1,x2,x3,x4] (Int.toNat v0.snd) false) (.cn (decide (0≤v0.snd)) (.nx (((rE m.Cpu.X.a0∧rE m.Cpu.X.a1∧rE m.Cpu.X.a2∧rE m.Cpu.X.a3∧rE m.Cpu.X.a4∧rE m.Cpu.X.a5∧rE m.Cpu.X.a6∧rE m.Cpu.X.a7∧rE m.Cpu.X.a8∧rE m.Cpu.X.a9∧rE m.Cpu.X.a10∧rE m.Cpu.X.a11∧rE m.Cpu.X.a12∧rE m.Cpu.X.a13∧rE m.Cpu.X.a14∧rE m.Cpu.X.a15∧rE m.Cpu.Pc∧rE m.Cpu.Csr.a0∧rE m.Cpu.Csr.a1∧rE m.Cpu.Csr.a2∧rE m.Cpu.Csr.a3∧rE m.Cpu.Csr.a4∧rE m.Cpu.Csr.a5∧rE m.Cpu.Csr.a6∧rE m.Cpu.Csr.a7∧((Els.Nil (Els.ints u32 m.Mem)∨rE (1:Nat))∧rE m.Mem)∧rE m.Console.Keys∧rE m.Timer.Armed∧rE m.Timer.Deadline∧rE m.Timer.Fired∧rE m.Disk.Blocks∧rE m.Disk.Block∧rE m.Disk.Frame∧rE m.Disk.State∧rE m.Disk.Cmd∧rE m.Disk.OpBlock∧rE m.Disk.OpFrame∧rE m.Disk.OpData∧rE m.Nic.Frame∧rE m.Nic.Len∧rE m.Nic.Posted∧rE m.Nic.Buffer∧rE m.Nic.Received∧rE m.Nic.Got∧rE m.Balloon.Target∧rE m.Balloon.Given∧rE m.Count∧rE m.Waiting∧rE m.Halted∧True)∧(rE ((nat_lit 0):Nat)∧rE ((nat_lit 0):Nat))∧rE (0:Int)∧(rE ((nat_lit 0):Nat)∧rE ((nat_lit 0):Nat))∧rE ((ior u32 v0.fst (ishl u32 1 v0.snd)):Int)∧(rE ((nat_lit 0):Nat)∧rE ((nat_lit 27):Nat))∧(rE m.Timer.Armed∧rE m.Timer.Deadline∧rE m.Timer.Fired∧True)∧rE (x0:Bool)∧(rE ((nat_lit 0):Nat)∧rE ((nat_lit 26):Nat))∧(rE m.Console.Keys∧True)∧rE (x1:Bool)∧(rE ((nat_lit 0):Nat)∧rE ((nat_lit 30):Nat))∧(rE m.Disk.Blocks∧rE m.Disk.Block∧rE m.Disk.Frame∧rE m.Disk.State∧rE m.Disk.Cmd∧rE m.Disk.OpBlock∧rE m.Disk.OpFrame∧rE m.Disk.OpData∧True)∧rE (x2:Bool)∧(rE ((nat_lit 0):Nat)∧rE ((nat_lit 38):Nat))∧(rE m.Nic.Frame∧rE m.Nic.Len∧rE m.Nic.Posted∧rE m.Nic.Buffer∧rE m.Nic.Received∧rE m.Nic.Got∧True)∧rE (x3:Bool)∧(rE ((nat_lit 0):Nat)∧rE ((nat_lit 44):Nat))∧(rE m.Balloon.Target∧rE m.Balloon.Given∧True)∧rE (x4:Bool)∧(rE (x0:Bool)∧rE (x1:Bool)∧rE (x2:Bool)∧rE (x3:Bool)∧rE (x4:Bool)∧True)∧(rE (x0:Bool)∧rE (x1:Bool)∧rE (x2:Bool)∧rE (x3:Bool)∧rE (x4:Bool)∧True)∧rE ((wrap i64 (v0.snd+1)):Int)∧True)∧(rE m.Cpu.X.a0∧rE m.Cpu.X.a1∧rE m.Cpu.X.a2∧rE m.Cpu.X.a3∧rE m.Cpu.X.a4∧rE m.Cpu.X.a5∧rE m.Cpu.X.a6∧rE m.Cpu.X.a7∧rE m.Cpu.X.a8∧rE m.Cpu.X.a9∧rE m.Cpu.X.a10∧rE m.Cpu.X.a11∧rE m.Cpu.X.a12∧rE m.Cpu.X.a13∧rE m.Cpu.X.a14∧rE m.Cpu.X.a15∧rE m.Cpu.Pc∧rE m.Cpu.Csr.a0∧rE m.Cpu.Csr.a1∧rE m.Cpu.Csr.a2∧rE m.Cpu.Csr.a3∧rE m.Cpu.Csr.a4∧rE m.Cpu.Csr.a5∧rE m.Cpu.Csr.a6∧rE m.Cpu.Csr.a7∧((Els.Nil (Els.ints u32 m.Mem)∨rE (1:Nat))∧rE m.Mem)∧rE m.Console.Keys∧rE m.Timer.Armed∧rE m.Timer.Deadline∧rE m.Timer.Fired∧rE m.Disk.Blocks∧rE m.Disk.Block∧rE m.Disk.Frame∧rE m.Disk.State∧rE m.Disk.Cmd∧rE m.Disk.OpBlock∧rE m.Disk.OpFrame∧rE m.Disk.OpData∧rE m.Nic.Frame∧rE m.Nic.Len∧rE m.Nic.Posted∧rE m.Nic.Buffer∧rE m.Nic.Received∧rE m.Nic.Got∧rE m.Balloon.Target∧rE m.Balloon.Given∧rE m.Count∧rE m.Waiting∧rE m.Halted∧True)∧(rE (x0:Bool)∧rE (x1:Bool)∧rE (x2:Bool)∧rE (x3:Bool)∧rE (x4:Bool)∧True)∧True) (Sum.inl (ior u32 v0.fst (ishl u32 1 v0.snd),wrap i64 (v0.snd+1))))) (.nx (((rE m.Cpu.X.a0∧rE m.Cpu.X.a1∧rE m.Cpu.X.a2∧rE m.Cpu.X.a3∧rE m.Cpu.X.a4∧rE m.Cpu.X.a5∧rE m.Cpu.X.a6∧rE m.Cpu.X.a7∧rE m.Cpu.X.a8∧rE m.Cpu.X.a9∧rE m.Cpu.X.a10∧rE m.Cpu.X.a11∧rE m.Cpu.X.a12∧rE m.Cpu.X.a13∧rE m.Cpu.X.a14∧rE m.Cpu.X.a15∧rE m.Cpu.Pc∧rE m.Cpu.Csr.a0∧rE m.Cpu.Csr.a1∧rE m.Cpu.Csr.a2∧rE m.Cpu.Csr.a3∧rE m.Cpu.Csr.a4∧rE m.Cpu.Csr.a5∧rE m.Cpu.Csr.a6∧rE m.Cpu.Csr.a7∧((Els.Nil (Els.ints u32 m.Mem)∨rE (1:Nat))∧rE m.Mem)∧rE m.Console.Keys∧rE m.Timer.Armed∧rE m.Timer.Deadline∧rE m.Timer.Fired∧rE m.Disk.Blocks∧rE m.Disk.Block∧rE m.Disk.Frame∧rE m.Disk.State∧rE m.Disk.Cmd∧rE m.Disk.OpBlock∧rE m.Disk.OpFrame∧rE m.Disk.OpData∧rE m.Nic.Frame∧rE m.Nic.Len∧rE m.Nic.Posted∧rE m.Nic.Buffer∧rE m.Nic.Received∧rE m.Nic.Got∧rE m.Balloon.Target∧rE m.Balloon.Given∧rE m.Count∧rE m.Waiting∧rE m.Halted∧True)∧(rE ((nat_lit 0):Nat)∧rE ((nat_lit 0):Nat))∧rE (0:Int)∧(rE ((nat_lit 0):Nat)∧rE ((nat_lit 0):Nat))∧rE v0.fst∧(rE ((nat_lit 0):Nat)∧rE ((nat_lit 27):Nat))∧(rE m.Timer.Armed∧rE m.Timer.Deadline∧rE m.Timer.Fired∧True)∧rE (x0:Bool)∧(rE ((nat_lit 0):Nat)∧rE ((nat_lit 26):Nat))∧(rE m.Console.Keys∧True)∧rE (x1:Bool)∧(rE ((nat_lit 0):Nat)∧rE ((nat_lit 30):Nat))∧(rE m.Disk.Blocks∧rE m.Disk.Block∧rE m.Disk.Frame∧rE m.Disk.State∧rE m.Disk.Cmd∧rE m.Disk.OpBlock∧rE m.Disk.OpFrame∧rE m.Disk.OpData∧True)∧rE (x2:Bool)∧(rE ((nat_lit 0):Nat)∧rE ((nat_lit 38):Nat))∧(rE m.Nic.Frame∧rE m.Nic.Len∧rE m.Nic.Posted∧rE m.Nic.Buffer∧rE m.Nic.Received∧rE m.Nic.Got∧True)∧rE (x3:Bool)∧(rE ((nat_lit 0):Nat)∧rE ((nat_lit 44):Nat))∧(rE m.Balloon.Target∧rE m.Balloon.Given∧True)∧rE (x4:Bool)∧(rE (x0:Bool)∧rE (x1:Bool)∧rE (x2:Bool)∧rE (x3:Bool)∧rE (x4:Bool)∧True)∧(rE (x0:Bool)∧rE (x1:Bool)∧rE (x2:Bool)∧rE (x3:Bool)∧rE (x4:Bool)∧True)∧rE ((wrap i64 (v0.snd+1)):Int)∧True)∧(rE m.Cpu.X.a0∧rE m.Cpu.X.a1∧rE m.Cpu.X.a2∧rE m.Cpu.X.a3∧rE m.Cpu.X.a4∧rE m.Cpu.X.a5∧rE m.Cpu.X.a6∧rE m.Cpu.X.a7∧rE m.Cpu.X.a8∧rE m.Cpu.X.a9∧rE m.Cpu.X.a10∧rE m.Cpu.X.a11∧rE m.Cpu.X.a12∧rE m.Cpu.X.a13∧rE m.Cpu.X.a14∧rE m.Cpu.X.a15∧rE m.Cpu.Pc∧rE m.Cpu.Csr.a0∧rE m.Cpu.Csr.a1∧rE m.Cpu.Csr.a2∧rE m.Cpu.Csr.a3∧rE m.Cpu.Csr.a4∧rE m.Cpu.Csr.a5∧rE m.Cpu.Csr.a6∧rE m.Cpu.Csr.a7∧((Els.Nil (Els.ints u32 m.Mem)∨rE (1:Nat))∧rE m.Mem)∧rE m.Console.Keys∧rE m.Timer.Armed∧rE m.Timer.Deadline∧rE m.Timer.Fired∧rE m.Disk.Blocks∧rE m.Disk.Block∧rE m.Disk.Frame∧rE m.Disk.State∧rE m.Disk.Cmd∧rE m.Disk.OpBlock∧rE m.Disk.OpFrame∧rE m.Disk.OpData∧rE m.Nic.Frame∧rE m.Nic.Len∧rE m.Nic.Posted∧rE m.Nic.Buffer∧rE m.Nic.Received∧rE m.Nic.Got∧rE m.Balloon.Target∧rE m.Balloon.Given∧rE m.Count∧rE m.Waiting∧rE m.Halted∧True)∧(rE (x0:Bool)∧rE (x1:Bool)∧rE (x2:Bool)∧rE (x3:Bool)∧rE (x4:Bool)∧True)∧True) (Sum.inl (v0.fst,wrap i64 (v0.snd+1)))))) (.lf (Sum.inr v0.fst)))
def Qaf(m:Q00):Int:=(Q4h m).m
abbrev Q8d(m:Q00):Prop:=(Q4h m).p
def Quc:LInv:={
 α:=(Int)×(Int)
 F:=fun st a=>([(0,(lk st 0)),(1, .ptr 0 0 0),(2,(lk st 2)),(3, .ptr 1 0 0),(4, .int IntKind.u32 a.1),(7, .ptr 0 0 27),(8,(lk st 8)),(9,(lk st 9)),(10, .ptr 0 0 26),(11,(lk st 11)),(12,(lk st 12)),(13, .ptr 0 0 30),(14,(lk st 14)),(15,(lk st 15)),(16, .ptr 0 0 38),(17,(lk st 17)),(18,(lk st 18)),(19, .ptr 0 0 44),(20,(lk st 20)),(21,(lk st 21)),(22,(lk st 22)),(23,(lk st 23)),(24, .int IntKind.i64 a.2)],[⟨true,44,49, .gen [[(cT st 1 0),(cT st 1 1),(cT st 1 2),(cT st 1 3),(cT st 1 4),(cT st 1 5),(cT st 1 6),(cT st 1 7),(cT st 1 8),(cT st 1 9),(cT st 1 10),(cT st 1 11),(cT st 1 12),(cT st 1 13),(cT st 1 14),(cT st 1 15),(cT st 1 16),(cT st 1 17),(cT st 1 18),(cT st 1 19),(cT st 1 20),(cT st 1 21),(cT st 1 22),(cT st 1 23),(cT st 1 24),(cT st 1 25),(cT st 1 26),(cT st 1 27),(cT st 1 28),(cT st 1 29),(cT st 1 30),(cT st 1 31),(cT st 1 32),(cT st 1 33),(cT st 1 34),(cT st 1 35),(cT st 1 36),(cT st 1 37),(cT st 1 38),(cT st 1 39),(cT st 1 40),(cT st 1 41),(cT st 1 42),(cT st 1 43),(cT st 1 44),(cT st 1 45),(cT st 1 46),(cT st 1 47),(cT st 1 48)]]⟩,⟨true,126,5, .gen [[(cT st 3 0),(cT st 3 1),(cT st 3 2),(cT st 3 3),(cT st 3 4)]]⟩])
 a0:=fun st=>((lk st 4).toInt,(lk st 24).toInt)
 ex0:=fun st=>[]++[(Q0q (lk st 1) (st.rows.length+0)),(Q0q (lk st 3) (st.rows.length+1))]
 next:=fun st=>((lk st 4).toInt,(lk st 24).toInt)
 ex:=fun st=>[]++[(Q0q (lk st 1) (st.rows.length+0)),(Q0q (lk st 3) (st.rows.length+1))]}
def Qq:List (Nat×LInv):=[(4,Quc)]
def Qwg:Q0a:=mkP 32 [] true [.agg Q00.sig] [] (fun args rows=>Q8d (Q00.of (args.getD 0 .dead).cells)) (fun args rows=>Qaf (Q00.of (args.getD 0 .dead).cells)) (fun X=> .int .u32 X) (fun X=>[])
theorem Qtz:Q03 Tryz.prog Qwg:=Q0j Q0g Q0h (.cons Qtq (.cons Qp4 (.cons Ql7 (.cons Qyu (.cons Qoq (.nil)))))) Tryz.func32 Tryz.call32 (fun args rows=>Q4h (Q00.of (args.getD 0 .dead).cells)) [] Qq 3 (fun _ _ _=>by kernel_rfl) (fun _ _=>rfl) (fun _ _ h=>h) (fun _ X=>by kernel_rfl)
def Q2s(m:Q00):Tree Int:=
.an (Q8d m) (.lv (Qaf m) fun(x0:Int)=> .lf (iand u32 x0 m.Cpu.Csr.a7))
def Q46(m:Q00):Int:=(Q2s m).m
abbrev Q4k(m:Q00):Prop:=(Q2s m).p
def Qqp:Q0a:=mkP 58 [] true [.agg Q00.sig] [] (fun args rows=>Q4k (Q00.of (args.getD 0 .dead).cells)) (fun args rows=>Q46 (Q00.of (args.getD 0 .dead).cells)) (fun X=> .int .u32 X) (fun X=>[])
theorem Qgm:Q03 Tryz.prog Qqp:=Q0j Q0g Q0h (.cons Qtz (.nil)) Tryz.func58 Tryz.call58 (fun args rows=>Q2s (Q00.of (args.getD 0 .dead).cells)) [] [] 2 (fun _ _ _=>by kernel_rfl) (fun _ _=>rfl) (fun _ _ h=>h) (fun _ X=>by kernel_rfl)
def Q31(m:Q00):Tree Bool:=
.br m.Waiting (.an (Q4k m) (.lv (Q46 m) fun(x0:Int)=> .lf (x0==0))) (.lf false)
def Q5f(m:Q00):Bool:=(Q31 m).m
abbrev Q2n(m:Q00):Prop:=(Q31 m).p
def Z05:Q0a:=mkP 22 [] true [.agg Q00.sig] [] (fun args rows=>Q2n (Q00.of (args.getD 0 .dead).cells)) (fun args rows=>Q5f (Q00.of (args.getD 0 .dead).cells)) (fun X=> .bool X) (fun X=>[])
theorem Qxp:Q03 Tryz.prog Z05:=Q0j Q0g Q0h (.cons Qgm (.nil)) Tryz.func22 Tryz.call22 (fun args rows=>Q31 (Q00.of (args.getD 0 .dead).cells)) [] [] 2 (fun _ _ _=>by kernel_rfl) (fun _ _=>rfl) (fun _ _ h=>h) (fun _ X=>by kernel_rfl)
end
end Go.Proofs.YtdkiadhigcfmkaaGreat

/-
  Functions of the program: models, and that its calls come to them (by a program: gen3.py).
-/
import Derived.Test.YtdkiadhigcfmkaaGreatMachineInterruptsBase
import Derived.Test.YtdkiadhigcfmkaaGreatMachineInterruptsYa
namespace Go.Proofs.YtdkiadhigcfmkaaGreat
open Go Go.GD Go.IntKind
set_option linter.unusedVariables false
set_option linter.unusedSimpArgs false
set_option maxRecDepth 100000
noncomputable section
def tblYc0:List UInt8:=[(0:UInt8),1,2,2,3,3,3,3,4,4,4,4,4,4,4,4,5,5,5,5,5,5,5,5,5,5,5,5,5,5,5,5,6,6,6,6,6,6,6,6,6,6,6,6,6,6,6,6,6,6,6,6,6,6,6,6,6,6,6,6,6,6,6,6]
def Z9x:List UInt8:=[(7:UInt8),7,7,7,7,7,7,7,7,7,7,7,7,7,7,7,7,7,7,7,7,7,7,7,7,7,7,7,7,7,7,7,7,7,7,7,7,7,7,7,7,7,7,7,7,7,7,7,7,7,7,7,7,7,7,7,7,7,7,7,7,7,7,7]
def Qnk:List UInt8:=[(8:UInt8),8,8,8,8,8,8,8,8,8,8,8,8,8,8,8,8,8,8,8,8,8,8,8,8,8,8,8,8,8,8,8,8,8,8,8,8,8,8,8,8,8,8,8,8,8,8,8,8,8,8,8,8,8,8,8,8,8,8,8,8,8,8,8]
def Ze1:List UInt8:=[(1:UInt8),2,2,3,3,3,3,4,4,4,4,4,4,4,4,5,5,5,5,5,5,5,5,5,5,5,5,5,5,5,5,6,6,6,6,6,6,6,6,6,6,6,6,6,6,6,6,6,6,6,6,6,6,6,6,6,6,6,6,6,6,6,6]
def tblYc4:List UInt8:=[(0:UInt8),1,1,2,1,2,2,3,1,2,2,3,2,3,3,4,1,2,2,3,2,3,3,4,2,3,3,4,3,4,4,5,1,2,2,3,2,3,3,4,2,3,3,4,3,4,4,5,2,3,3,4,3,4,4,5,3,4,4,5,4,5,5,6]
def Qng:List UInt8:=[(1:UInt8),2,2,3,2,3,3,4,2,3,3,4,3,4,4,5,2,3,3,4,3,4,4,5,3,4,4,5,4,5,5,6,2,3,3,4,3,4,4,5,3,4,4,5,4,5,5,6,3,4,4,5,4,5,5,6,4,5,5,6,5,6,6,7]
def Z7g:List UInt8:=[(2:UInt8),3,3,4,3,4,4,5,3,4,4,5,4,5,5,6,3,4,4,5,4,5,5,6,4,5,5,6,5,6,6,7,3,4,4,5,4,5,5,6,4,5,5,6,5,6,6,7,4,5,5,6,5,6,6,7,5,6,6,7,6,7,7,8]
def Zel:List UInt8:=[(1:UInt8),1,2,1,2,2,3,1,2,2,3,2,3,3,4,1,2,2,3,2,3,3,4,2,3,3,4,3,4,4,5,1,2,2,3,2,3,3,4,2,3,3,4,3,4,4,5,2,3,3,4,3,4,4,5,3,4,4,5,4,5,5,6]
def Qp0(c:Q0c):Tree Bool:=
.lf (decide ((↑(List.length c.Keys):Int)≤(16:Int)))
def Q1z(c:Q0c):Bool:=(Qp0 c).m
def Z30:Q0b:=mkR 114 [] true [.agg Q0c.sig] [] (fun args rows=>Q1z (Q0c.of (args.getD 0 .dead).cells)) (fun X=> .bool X) (fun X=>[])
theorem Z0r:Q04 Tryz.prog Z30:=Q0v Q0i Q0j (.nil) Tryz.func114 Tryz.call114 (fun args rows=>Qp0 (Q0c.of (args.getD 0 .dead).cells)) [] [] 2 (fun _ _ _=>by kernel_rfl) (fun _ _=>rfl) (fun _ _=>Tree.free_ok (by kernel_rfl)) (fun _ X=>by kernel_rfl)
def Qjb(t:Q0h):Tree Bool:=
.br t.Armed (.br (!t.Fired) (.lf (t.Deadline !=0)) (.lf false)) (.br t.Fired (.lf true) (.lf (t.Deadline==0)))
def Q36(t:Q0h):Bool:=(Qjb t).m
def Zaq:Q0b:=mkR 115 [] true [.agg Q0h.sig] [] (fun args rows=>Q36 (Q0h.of (args.getD 0 .dead).cells)) (fun X=> .bool X) (fun X=>[])
theorem Z74:Q04 Tryz.prog Zaq:=Q0v Q0i Q0j (.nil) Tryz.func115 Tryz.call115 (fun args rows=>Qjb (Q0h.of (args.getD 0 .dead).cells)) [] [] 2 (fun _ _ _=>by kernel_rfl) (fun _ _=>rfl) (fun _ _=>Tree.free_ok (by kernel_rfl)) (fun _ X=>by kernel_rfl)
def Q6r(d0:Q0d):Tree Bool:=
.br (d0.Cmd==1) (.lf (decide (d0.OpData=[]))) (.br (d0.Cmd==2) (.lf ((↑(List.length d0.OpData):Int)==(128:Int))) (.lf false))
def Q8b(d0:Q0d):Bool:=(Q6r d0).m
def Qsa:Q0b:=mkR 164 [] true [.agg Q0d.sig] [] (fun args rows=>Q8b (Q0d.of (args.getD 0 .dead).cells)) (fun X=> .bool X) (fun X=>[])
theorem Qqi:Q04 Tryz.prog Qsa:=Q0v Q0i Q0j (.nil) Tryz.func164 Tryz.call164 (fun args rows=>Q6r (Q0d.of (args.getD 0 .dead).cells)) [] [] 2 (fun _ _ _=>by kernel_rfl) (fun _ _=>rfl) (fun _ _=>Tree.free_ok (by kernel_rfl)) (fun _ X=>by kernel_rfl)
def Q5f(d0:Q0d)(pages:Int):Tree Bool:=
.br (decide (d0.Blocks>64)) (.lf false) (let T1:Tree (Bool):= .br (d0.Cmd==0) (.br (d0.OpBlock==0) (.br (d0.OpFrame==0) (.lf (decide (d0.OpData=[]))) (.lf false)) (.lf false)) (.lf false); .br (d0.State==0) T1 (.br (d0.State==2) T1 (.br (d0.State==3) T1 (.br (d0.State==1) (.lv (Q8b d0) fun(x0:Bool)=> .br x0 (.br (decide (d0.OpBlock<d0.Blocks)) (.lf (decide (wrap i64 d0.OpFrame<pages))) (.lf false)) (.lf false)) (.lf false)))))
def Q18(d0:Q0d)(pages:Int):Bool:=(Q5f d0 pages).m
def Zey:Q0b:=mkR 116 [] true [.agg Q0d.sig, .one (.int .i64)] [] (fun args rows=>Q18 (Q0d.of (args.getD 0 .dead).cells) (argI args 1)) (fun X=> .bool X) (fun X=>[])
theorem Zco:Q04 Tryz.prog Zey:=Q0v Q0i Q0j (.cons Qqi (.nil)) Tryz.func116 Tryz.call116 (fun args rows=>Q5f (Q0d.of (args.getD 0 .dead).cells) (argI args 1)) [] [] 2 (fun _ _ _=>by kernel_rfl) (fun _ _=>rfl) (fun _ _=>Tree.free_ok (by kernel_rfl)) (fun _ X=>by kernel_rfl)
def Qig(n:Q0m)(pages:Int):Tree Bool:=
let T1:Tree (Bool):=let T2:Tree (Bool):= .br n.Received (.br (decide (n.Got≥1)) (.lf (decide (n.Got≤128))) (.lf false)) (.lf (n.Got==0)); .br n.Posted (.br (decide (wrap i64 n.Buffer≥pages)) (.lf false) T2) (.br (n.Buffer !=0) (.lf false) T2); .br n.Posted (.br n.Received (.lf false) T1) T1
def Q4m(n:Q0m)(pages:Int):Bool:=(Qig n pages).m
def nic_May_m:Q0b:=mkR 117 [] true [.agg Q0m.sig, .one (.int .i64)] [] (fun args rows=>Q4m (Q0m.of (args.getD 0 .dead).cells) (argI args 1)) (fun X=> .bool X) (fun X=>[])
theorem Zfg:Q04 Tryz.prog nic_May_m:=Q0v Q0i Q0j (.nil) Tryz.func117 Tryz.call117 (fun args rows=>Qig (Q0m.of (args.getD 0 .dead).cells) (argI args 1)) [] [] 2 (fun _ _ _=>by kernel_rfl) (fun _ _=>rfl) (fun _ _=>Tree.free_ok (by kernel_rfl)) (fun _ X=>by kernel_rfl)
def Q2d(x:Int):Tree Int:=
let E1:=(↑(List.length (List.append (List.append tblYc0 Z9x) (List.append Qnk Qnk))):Int); .br (decide (x≥65536)) (.br (decide (ishr u32 x (16:Int)≥(256:Int))) (.cn (decide (0≤wrap u8 (ishr u32 (ishr u32 x 16) 8)∧wrap u8 (ishr u32 (ishr u32 x 16) 8)<E1)) (.lf (wrap i64 (wrap i64 ((16:Int)+(8:Int))+wrap i64 (↑(UInt8.toNat (List.getD ((0:UInt8)::(Ze1++Z9x++(Qnk++Qnk))) (Int.toNat (wrap u8 (ishr u32 (ishr u32 x 16) 8))) (0:UInt8))):Int))))) (.cn (decide (0≤wrap u8 (ishr u32 x 16)∧wrap u8 (ishr u32 x 16)<E1)) (.lf (wrap i64 (16+wrap i64 (↑(UInt8.toNat (List.getD ((0:UInt8)::(Ze1++Z9x++(Qnk++Qnk))) (Int.toNat (wrap u8 (ishr u32 x 16))) (0:UInt8))):Int)))))) (.br (decide (x≥256)) (.cn (decide (0≤wrap u8 (ishr u32 x 8)∧wrap u8 (ishr u32 x 8)<E1)) (.lf (wrap i64 (wrap i64 ((0:Int)+(8:Int))+wrap i64 (↑(UInt8.toNat (List.getD ((0:UInt8)::(Ze1++Z9x++(Qnk++Qnk))) (Int.toNat (wrap u8 (ishr u32 x 8))) (0:UInt8))):Int))))) (.cn (decide (0≤wrap u8 x∧wrap u8 x<E1)) (.lf (wrap i64 (0+wrap i64 (↑(UInt8.toNat (List.getD ((0:UInt8)::(Ze1++Z9x++(Qnk++Qnk))) (Int.toNat (wrap u8 x)) (0:UInt8))):Int))))))
def Q1c(x:Int):Int:=(Q2d x).m
abbrev Q7b(x:Int):Prop:=(Q2d x).p
def Qs8:Q0b:=mkP 165 [] true [.one (.int .u32)] [] (fun args rows=>Q7b (argI args 0)) (fun args rows=>Q1c (argI args 0)) (fun X=> .int .i64 X) (fun X=>[])
theorem Qpp:Q04 Tryz.prog Qs8:=Q0k Q0i Q0j (.nil) Tryz.func165 Tryz.call165 (fun args rows=>Q2d (argI args 0)) [] [] 2 (fun _ _ _=>by kernel_rfl) (fun _ _=>rfl) (fun _ _ h=>h) (fun _ X=>by kernel_rfl)
def Q4b(b:Q05)(pages:Int):Tree Bool:=
.an (Q7b b.Given) (.lv (Q1c b.Given) fun(x0:Int)=> .lf (decide (x0≤if 0>pages then 0 else pages)))
def Q27(b:Q05)(pages:Int):Bool:=(Q4b b pages).m
abbrev Q8g(b:Q05)(pages:Int):Prop:=(Q4b b pages).p
def Z5k:Q0b:=mkP 118 [] true [.agg Q05.sig, .one (.int .i64)] [] (fun args rows=>Q8g (Q05.of (args.getD 0 .dead).cells) (argI args 1)) (fun args rows=>Q27 (Q05.of (args.getD 0 .dead).cells) (argI args 1)) (fun X=> .bool X) (fun X=>[])
theorem Z06:Q04 Tryz.prog Z5k:=Q0k Q0i Q0j (.cons Qpp (.nil)) Tryz.func118 Tryz.call118 (fun args rows=>Q4b (Q05.of (args.getD 0 .dead).cells) (argI args 1)) [] [] 2 (fun _ _ _=>by kernel_rfl) (fun _ _=>rfl) (fun _ _ h=>h) (fun _ X=>by kernel_rfl)
def Q1l(m:Q00):Tree Bool:=
.lv (Q0q m.Mem) fun(x0:Int)=> .lv (Q1z m.Console) fun(x1:Bool)=> .br x1 (.lv (Q36 m.Timer) fun(x2:Bool)=> .br x2 (.lv (Q18 m.Disk x0) fun(x3:Bool)=> .br x3 (.lv (Q4m m.Nic x0) fun(x4:Bool)=> .br x4 (.an (Q8g m.Balloon x0) (.lv (Q27 m.Balloon x0) fun(x5:Bool)=> .lf x5)) (.lf false)) (.lf false)) (.lf false)) (.lf false)
def Q0r(m:Q00):Bool:=(Q1l m).m
abbrev Q1x(m:Q00):Prop:=(Q1l m).p
def Qn6:Q0b:=mkP 57 [] true [.agg Q00.sig] [] (fun args rows=>Q1x (Q00.of (args.getD 0 .dead).cells)) (fun args rows=>Q0r (Q00.of (args.getD 0 .dead).cells)) (fun X=> .bool X) (fun X=>[])
theorem Qkx:Q04 Tryz.prog Qn6:=Q0k Q0i Q0j (.cons Q3l (.cons Z0r (.cons Z74 (.cons Zco (.cons Zfg (.cons Z06 (.nil))))))) Tryz.func57 Tryz.call57 (fun args rows=>Q1l (Q00.of (args.getD 0 .dead).cells)) [] [] 2 (fun _ _ _=>by kernel_rfl) (fun _ _=>rfl) (fun _ _ h=>h) (fun _ X=>by kernel_rfl)
def Q5p(m:Q00):Tree Bool:=
.lv (Q0q m.Mem) fun(x0:Int)=> .br (x0==0) (.lf false) (.br (m.Cpu.X.a0 !=0) (.lf false) (.br (decide (m.Cpu.Csr.a0>31)) (.lf false) (.br (decide (m.Cpu.Csr.a7>31)) (.lf false) (.br (decide (m.Cpu.Csr.a6>255)) (.lf false) (.br (Int.tmod m.Cpu.Csr.a1 (4:Int) !=(0:Int)) (.lf false) (.br (decide (m.Count>1152921504606846976)) (.lf false) (.br m.Waiting (.br m.Halted (.lf false) (.an (Q1x m) (.lv (Q0r m) fun(x1:Bool)=> .lf x1))) (.an (Q1x m) (.lv (Q0r m) fun(x2:Bool)=> .lf x2)))))))))
def Q0z(m:Q00):Bool:=(Q5p m).m
abbrev Q22(m:Q00):Prop:=(Q5p m).p
def Z4r:Q0b:=mkP 21 [] true [.agg Q00.sig] [] (fun args rows=>Q22 (Q00.of (args.getD 0 .dead).cells)) (fun args rows=>Q0z (Q00.of (args.getD 0 .dead).cells)) (fun X=> .bool X) (fun X=>[])
theorem Qnn:Q04 Tryz.prog Z4r:=Q0k Q0i Q0j (.cons Q3l (.cons Qkx (.nil))) Tryz.func21 Tryz.call21 (fun args rows=>Q5p (Q00.of (args.getD 0 .dead).cells)) [] [] 2 (fun _ _ _=>by kernel_rfl) (fun _ _=>rfl) (fun _ _ h=>h) (fun _ X=>by kernel_rfl)
def Qlo(t:Q0h):Tree Bool:=
.lf t.Fired
def Q9k(t:Q0h):Bool:=(Qlo t).m
def Qyv:Q0b:=mkR 73 [] true [.agg Q0h.sig] [] (fun args rows=>Q9k (Q0h.of (args.getD 0 .dead).cells)) (fun X=> .bool X) (fun X=>[])
theorem Quo:Q04 Tryz.prog Qyv:=Q0v Q0i Q0j (.nil) Tryz.func73 Tryz.call73 (fun args rows=>Qlo (Q0h.of (args.getD 0 .dead).cells)) [] [] 2 (fun _ _ _=>by kernel_rfl) (fun _ _=>rfl) (fun _ _=>Tree.free_ok (by kernel_rfl)) (fun _ X=>by kernel_rfl)
def Qiy(c:Q0c):Tree Bool:=
.lf (!decide (c.Keys=[]))
def Q4p(c:Q0c):Bool:=(Qiy c).m
def Qr8:Q0b:=mkR 74 [] true [.agg Q0c.sig] [] (fun args rows=>Q4p (Q0c.of (args.getD 0 .dead).cells)) (fun X=> .bool X) (fun X=>[])
theorem Qp8:Q04 Tryz.prog Qr8:=Q0v Q0i Q0j (.nil) Tryz.func74 Tryz.call74 (fun args rows=>Qiy (Q0c.of (args.getD 0 .dead).cells)) [] [] 2 (fun _ _ _=>by kernel_rfl) (fun _ _=>rfl) (fun _ _=>Tree.free_ok (by kernel_rfl)) (fun _ X=>by kernel_rfl)
def Qi1(d0:Q0d):Tree Bool:=
.br (d0.State==2) (.lf true) (.lf (d0.State==3))
def Q5v(d0:Q0d):Bool:=(Qi1 d0).m
def Qzj:Q0b:=mkR 75 [] true [.agg Q0d.sig] [] (fun args rows=>Q5v (Q0d.of (args.getD 0 .dead).cells)) (fun X=> .bool X) (fun X=>[])
theorem Qld:Q04 Tryz.prog Qzj:=Q0v Q0i Q0j (.nil) Tryz.func75 Tryz.call75 (fun args rows=>Qi1 (Q0d.of (args.getD 0 .dead).cells)) [] [] 2 (fun _ _ _=>by kernel_rfl) (fun _ _=>rfl) (fun _ _=>Tree.free_ok (by kernel_rfl)) (fun _ X=>by kernel_rfl)
def Qqg(n:Q0m):Tree Bool:=
.lf n.Received
def Qcq(n:Q0m):Bool:=(Qqg n).m
def Z50:Q0b:=mkR 76 [] true [.agg Q0m.sig] [] (fun args rows=>Qcq (Q0m.of (args.getD 0 .dead).cells)) (fun X=> .bool X) (fun X=>[])
theorem Z0h:Q04 Tryz.prog Z50:=Q0v Q0i Q0j (.nil) Tryz.func76 Tryz.call76 (fun args rows=>Qqg (Q0m.of (args.getD 0 .dead).cells)) [] [] 2 (fun _ _ _=>by kernel_rfl) (fun _ _=>rfl) (fun _ _=>Tree.free_ok (by kernel_rfl)) (fun _ X=>by kernel_rfl)
def Q2a(x:Int):Tree Int:=
let E1:=(↑(List.length (List.append (List.append tblYc4 Qng) (List.append Qng Z7g))):Int); .cn (decide (0≤ishr u32 x 24∧ishr u32 x 24<E1)) (.cn (decide (0≤iand u32 (ishr u32 x 16) 255∧iand u32 (ishr u32 x 16) 255<E1)) (.cn (decide (0≤iand u32 (ishr u32 x 8) 255∧iand u32 (ishr u32 x 8) 255<E1)) (.cn (decide (0≤iand u32 x 255∧iand u32 x 255<E1)) (.lf (wrap i64 (wrap u8 (wrap u8 (wrap u8 ((↑(UInt8.toNat (List.getD ((0:UInt8)::(Zel++Qng++(Qng++Z7g))) (Int.toNat (ishr u32 x 24)) (0:UInt8))):Int)+(↑(UInt8.toNat (List.getD ((0:UInt8)::(Zel++Qng++(Qng++Z7g))) (Int.toNat (iand u32 (ishr u32 x 16) 255)) (0:UInt8))):Int))+(↑(UInt8.toNat (List.getD ((0:UInt8)::(Zel++Qng++(Qng++Z7g))) (Int.toNat (iand u32 (ishr u32 x 8) 255)) (0:UInt8))):Int))+(↑(UInt8.toNat (List.getD ((0:UInt8)::(Zel++Qng++(Qng++Z7g))) (Int.toNat (iand u32 x 255)) (0:UInt8))):Int))))))))
def Q5l(x:Int):Int:=(Q2a x).m
abbrev Q3h(x:Int):Prop:=(Q2a x).p
def Qjg:Q0b:=mkP 204 [] true [.one (.int .u32)] [] (fun args rows=>Q3h (argI args 0)) (fun args rows=>Q5l (argI args 0)) (fun X=> .int .i64 X) (fun X=>[])
theorem Qiv:Q04 Tryz.prog Qjg:=Q0k Q0i Q0j (.nil) Tryz.func204 Tryz.call204 (fun args rows=>Q2a (argI args 0)) [] [] 2 (fun _ _ _=>by kernel_rfl) (fun _ _=>rfl) (fun _ _ h=>h) (fun _ X=>by kernel_rfl)
def Q6i(b:Q05):Tree Int:=
.an (Q3h b.Given) (.lv (Q5l b.Given) fun(x0:Int)=> .lf x0)
def Qby(b:Q05):Int:=(Q6i b).m
abbrev Q6p(b:Q05):Prop:=(Q6i b).p
def Qxl:Q0b:=mkP 152 [] true [.agg Q05.sig] [] (fun args rows=>Q6p (Q05.of (args.getD 0 .dead).cells)) (fun args rows=>Qby (Q05.of (args.getD 0 .dead).cells)) (fun X=> .int .i64 X) (fun X=>[])
theorem Qkp:Q04 Tryz.prog Qxl:=Q0k Q0i Q0j (.cons Qiv (.nil)) Tryz.func152 Tryz.call152 (fun args rows=>Q6i (Q05.of (args.getD 0 .dead).cells)) [] [] 2 (fun _ _ _=>by kernel_rfl) (fun _ _=>rfl) (fun _ _ h=>h) (fun _ X=>by kernel_rfl)
def Q3a(b:Q05):Tree Bool:=
.an (Q6p b) (.lv (Qby b) fun(x0:Int)=> .lf (wrap u32 x0 !=b.Target))
def Q3q(b:Q05):Bool:=(Q3a b).m
abbrev Q76(b:Q05):Prop:=(Q3a b).p
def Qr0:Q0b:=mkP 77 [] true [.agg Q05.sig] [] (fun args rows=>Q76 (Q05.of (args.getD 0 .dead).cells)) (fun args rows=>Q3q (Q05.of (args.getD 0 .dead).cells)) (fun X=> .bool X) (fun X=>[])
theorem Qqj:Q04 Tryz.prog Qr0:=Q0k Q0i Q0j (.cons Qkp (.nil)) Tryz.func77 Tryz.call77 (fun args rows=>Q3a (Q05.of (args.getD 0 .dead).cells)) [] [] 2 (fun _ _ _=>by kernel_rfl) (fun _ _=>rfl) (fun _ _ h=>h) (fun _ X=>by kernel_rfl)
def Qgc(m:Q00)(z:(Int)×(Int)):Nat:=(5-z.2).toNat
def Q4o(m:Q00):Tree Int:=
.lv (Q9k m.Timer) fun(x0:Bool)=> .lv (Q4p m.Console) fun(x1:Bool)=> .lv (Q5v m.Disk) fun(x2:Bool)=> .lv (Qcq m.Nic) fun(x3:Bool)=> .an (Q76 m.Balloon) (.lv (Q3q m.Balloon) fun(x4:Bool)=> .lp inferInstance (Qgc m (0,0)+1) (((rE m.Cpu.X.a0∧rE m.Cpu.X.a1∧rE m.Cpu.X.a2∧rE m.Cpu.X.a3∧rE m.Cpu.X.a4∧rE m.Cpu.X.a5∧rE m.Cpu.X.a6∧rE m.Cpu.X.a7∧rE m.Cpu.X.a8∧rE m.Cpu.X.a9∧rE m.Cpu.X.a10∧rE m.Cpu.X.a11∧rE m.Cpu.X.a12∧rE m.Cpu.X.a13∧rE m.Cpu.X.a14∧rE m.Cpu.X.a15∧rE m.Cpu.Pc∧rE m.Cpu.Csr.a0∧rE m.Cpu.Csr.a1∧rE m.Cpu.Csr.a2∧rE m.Cpu.Csr.a3∧rE m.Cpu.Csr.a4∧rE m.Cpu.Csr.a5∧rE m.Cpu.Csr.a6∧rE m.Cpu.Csr.a7∧((Els.Nil (Els.ints u32 m.Mem)∨rE (1:Nat))∧rE m.Mem)∧rE m.Console.Keys∧rE m.Timer.Armed∧rE m.Timer.Deadline∧rE m.Timer.Fired∧rE m.Disk.Blocks∧rE m.Disk.Block∧rE m.Disk.Frame∧rE m.Disk.State∧rE m.Disk.Cmd∧rE m.Disk.OpBlock∧rE m.Disk.OpFrame∧rE m.Disk.OpData∧rE m.Nic.Frame∧rE m.Nic.Len∧rE m.Nic.Posted∧rE m.Nic.Buffer∧rE m.Nic.Received∧rE m.Nic.Got∧rE m.Balloon.Target∧rE m.Balloon.Given∧rE m.Count∧rE m.Waiting∧rE m.Halted∧True)∧(rE ((nat_lit 0):Nat)∧rE ((nat_lit 0):Nat))∧rE (0:Int)∧(rE ((nat_lit 0):Nat)∧rE ((nat_lit 0):Nat))∧rE (0:Int)∧(rE ((nat_lit 0):Nat)∧rE ((nat_lit 27):Nat))∧(rE m.Timer.Armed∧rE m.Timer.Deadline∧rE m.Timer.Fired∧True)∧rE (x0:Bool)∧(rE ((nat_lit 0):Nat)∧rE ((nat_lit 26):Nat))∧(rE m.Console.Keys∧True)∧rE (x1:Bool)∧(rE ((nat_lit 0):Nat)∧rE ((nat_lit 30):Nat))∧(rE m.Disk.Blocks∧rE m.Disk.Block∧rE m.Disk.Frame∧rE m.Disk.State∧rE m.Disk.Cmd∧rE m.Disk.OpBlock∧rE m.Disk.OpFrame∧rE m.Disk.OpData∧True)∧rE (x2:Bool)∧(rE ((nat_lit 0):Nat)∧rE ((nat_lit 38):Nat))∧(rE m.Nic.Frame∧rE m.Nic.Len∧rE m.Nic.Posted∧rE m.Nic.Buffer∧rE m.Nic.Received∧rE m.Nic.Got∧True)∧rE (x3:Bool)∧(rE ((nat_lit 0):Nat)∧rE ((nat_lit 44):Nat))∧(rE m.Balloon.Target∧rE m.Balloon.Given∧True)∧rE (x4:Bool)∧(rE (x0:Bool)∧rE (x1:Bool)∧rE (x2:Bool)∧rE (x3:Bool)∧rE (x4:Bool)∧True)∧(rE (x0:Bool)∧rE (x1:Bool)∧rE (x2:Bool)∧rE (x3:Bool)∧rE (x4:Bool)∧True)∧rE (0:Int)∧True)∧(rE m.Cpu.X.a0∧rE m.Cpu.X.a1∧rE m.Cpu.X.a2∧rE m.Cpu.X.a3∧rE m.Cpu.X.a4∧rE m.Cpu.X.a5∧rE m.Cpu.X.a6∧rE m.Cpu.X.a7∧rE m.Cpu.X.a8∧rE m.Cpu.X.a9∧rE m.Cpu.X.a10∧rE m.Cpu.X.a11∧rE m.Cpu.X.a12∧rE m.Cpu.X.a13∧rE m.Cpu.X.a14∧rE m.Cpu.X.a15∧rE m.Cpu.Pc∧rE m.Cpu.Csr.a0∧rE m.Cpu.Csr.a1∧rE m.Cpu.Csr.a2∧rE m.Cpu.Csr.a3∧rE m.Cpu.Csr.a4∧rE m.Cpu.Csr.a5∧rE m.Cpu.Csr.a6∧rE m.Cpu.Csr.a7∧((Els.Nil (Els.ints u32 m.Mem)∨rE (1:Nat))∧rE m.Mem)∧rE m.Console.Keys∧rE m.Timer.Armed∧rE m.Timer.Deadline∧rE m.Timer.Fired∧rE m.Disk.Blocks∧rE m.Disk.Block∧rE m.Disk.Frame∧rE m.Disk.State∧rE m.Disk.Cmd∧rE m.Disk.OpBlock∧rE m.Disk.OpFrame∧rE m.Disk.OpData∧rE m.Nic.Frame∧rE m.Nic.Len∧rE m.Nic.Posted∧rE m.Nic.Buffer∧rE m.Nic.Received∧rE m.Nic.Got∧rE m.Balloon.Target∧rE m.Balloon.Given∧rE m.Count∧rE m.Waiting∧rE m.Halted∧True)∧(rE (x0:Bool)∧rE (x1:Bool)∧rE (x2:Bool)∧rE (x3:Bool)∧rE (x4:Bool)∧True)∧True) (0,0) fun(v0:Int×Int)=> .br (decide (v0.snd<5)) (.cn (Nat.beq 1 1&&(Nat.beq (5) 5&&decide (0≤v0.snd∧v0.snd<(↑5:Int)))) (.br (List.getD [x0,x1,x2,x3,x4] (Int.toNat v0.snd) false) (.cn (decide (0≤v0.snd)) (.nx (((rE m.Cpu.X.a0∧rE m.Cpu.X.a1∧rE m.Cpu.X.a2∧rE m.Cpu.X.a3∧rE m.Cpu.X.a4∧rE m.Cpu.X.a5∧rE m.Cpu.X.a6∧rE m.Cpu.X.a7∧rE m.Cpu.X.a8∧rE m.Cpu.X.a9∧rE m.Cpu.X.a10∧rE m.Cpu.X.a11∧rE m.Cpu.X.a12∧rE m.Cpu.X.a13∧rE m.Cpu.X.a14∧rE m.Cpu.X.a15∧rE m.Cpu.Pc∧rE m.Cpu.Csr.a0∧rE m.Cpu.Csr.a1∧rE m.Cpu.Csr.a2∧rE m.Cpu.Csr.a3∧rE m.Cpu.Csr.a4∧rE m.Cpu.Csr.a5∧rE m.Cpu.Csr.a6∧rE m.Cpu.Csr.a7∧((Els.Nil (Els.ints u32 m.Mem)∨rE (1:Nat))∧rE m.Mem)∧rE m.Console.Keys∧rE m.Timer.Armed∧rE m.Timer.Deadline∧rE m.Timer.Fired∧rE m.Disk.Blocks∧rE m.Disk.Block∧rE m.Disk.Frame∧rE m.Disk.State∧rE m.Disk.Cmd∧rE m.Disk.OpBlock∧rE m.Disk.OpFrame∧rE m.Disk.OpData∧rE m.Nic.Frame∧rE m.Nic.Len∧rE m.Nic.Posted∧rE m.Nic.Buffer∧rE m.Nic.Received∧rE m.Nic.Got∧rE m.Balloon.Target∧rE m.Balloon.Given∧rE m.Count∧rE m.Waiting∧rE m.Halted∧True)∧(rE ((nat_lit 0):Nat)∧rE ((nat_lit 0):Nat))∧rE (0:Int)∧(rE ((nat_lit 0):Nat)∧rE ((nat_lit 0):Nat))∧rE ((ior u32 v0.fst (ishl u32 1 v0.snd)):Int)∧(rE ((nat_lit 0):Nat)∧rE ((nat_lit 27):Nat))∧(rE m.Timer.Armed∧rE m.Timer.Deadline∧rE m.Timer.Fired∧True)∧rE (x0:Bool)∧(rE ((nat_lit 0):Nat)∧rE ((nat_lit 26):Nat))∧(rE m.Console.Keys∧True)∧rE (x1:Bool)∧(rE ((nat_lit 0):Nat)∧rE ((nat_lit 30):Nat))∧(rE m.Disk.Blocks∧rE m.Disk.Block∧rE m.Disk.Frame∧rE m.Disk.State∧rE m.Disk.Cmd∧rE m.Disk.OpBlock∧rE m.Disk.OpFrame∧rE m.Disk.OpData∧True)∧rE (x2:Bool)∧(rE ((nat_lit 0):Nat)∧rE ((nat_lit 38):Nat))∧(rE m.Nic.Frame∧rE m.Nic.Len∧rE m.Nic.Posted∧rE m.Nic.Buffer∧rE m.Nic.Received∧rE m.Nic.Got∧True)∧rE (x3:Bool)∧(rE ((nat_lit 0):Nat)∧rE ((nat_lit 44):Nat))∧(rE m.Balloon.Target∧rE m.Balloon.Given∧True)∧rE (x4:Bool)∧(rE (x0:Bool)∧rE (x1:Bool)∧rE (x2:Bool)∧rE (x3:Bool)∧rE (x4:Bool)∧True)∧(rE (x0:Bool)∧rE (x1:Bool)∧rE (x2:Bool)∧rE (x3:Bool)∧rE (x4:Bool)∧True)∧rE ((wrap i64 (v0.snd+1)):Int)∧True)∧(rE m.Cpu.X.a0∧rE m.Cpu.X.a1∧rE m.Cpu.X.a2∧rE m.Cpu.X.a3∧rE m.Cpu.X.a4∧rE m.Cpu.X.a5∧rE m.Cpu.X.a6∧rE m.Cpu.X.a7∧rE m.Cpu.X.a8∧rE m.Cpu.X.a9∧rE m.Cpu.X.a10∧rE m.Cpu.X.a11∧rE m.Cpu.X.a12∧rE m.Cpu.X.a13∧rE m.Cpu.X.a14∧rE m.Cpu.X.a15∧rE m.Cpu.Pc∧rE m.Cpu.Csr.a0∧rE m.Cpu.Csr.a1∧rE m.Cpu.Csr.a2∧rE m.Cpu.Csr.a3∧rE m.Cpu.Csr.a4∧rE m.Cpu.Csr.a5∧rE m.Cpu.Csr.a6∧rE m.Cpu.Csr.a7∧((Els.Nil (Els.ints u32 m.Mem)∨rE (1:Nat))∧rE m.Mem)∧rE m.Console.Keys∧rE m.Timer.Armed∧rE m.Timer.Deadline∧rE m.Timer.Fired∧rE m.Disk.Blocks∧rE m.Disk.Block∧rE m.Disk.Frame∧rE m.Disk.State∧rE m.Disk.Cmd∧rE m.Disk.OpBlock∧rE m.Disk.OpFrame∧rE m.Disk.OpData∧rE m.Nic.Frame∧rE m.Nic.Len∧rE m.Nic.Posted∧rE m.Nic.Buffer∧rE m.Nic.Received∧rE m.Nic.Got∧rE m.Balloon.Target∧rE m.Balloon.Given∧rE m.Count∧rE m.Waiting∧rE m.Halted∧True)∧(rE (x0:Bool)∧rE (x1:Bool)∧rE (x2:Bool)∧rE (x3:Bool)∧rE (x4:Bool)∧True)∧True) (Sum.inl (ior u32 v0.fst (ishl u32 1 v0.snd),wrap i64 (v0.snd+1))))) (.nx (((rE m.Cpu.X.a0∧rE m.Cpu.X.a1∧rE m.Cpu.X.a2∧rE m.Cpu.X.a3∧rE m.Cpu.X.a4∧rE m.Cpu.X.a5∧rE m.Cpu.X.a6∧rE m.Cpu.X.a7∧rE m.Cpu.X.a8∧rE m.Cpu.X.a9∧rE m.Cpu.X.a10∧rE m.Cpu.X.a11∧rE m.Cpu.X.a12∧rE m.Cpu.X.a13∧rE m.Cpu.X.a14∧rE m.Cpu.X.a15∧rE m.Cpu.Pc∧rE m.Cpu.Csr.a0∧rE m.Cpu.Csr.a1∧rE m.Cpu.Csr.a2∧rE m.Cpu.Csr.a3∧rE m.Cpu.Csr.a4∧rE m.Cpu.Csr.a5∧rE m.Cpu.Csr.a6∧rE m.Cpu.Csr.a7∧((Els.Nil (Els.ints u32 m.Mem)∨rE (1:Nat))∧rE m.Mem)∧rE m.Console.Keys∧rE m.Timer.Armed∧rE m.Timer.Deadline∧rE m.Timer.Fired∧rE m.Disk.Blocks∧rE m.Disk.Block∧rE m.Disk.Frame∧rE m.Disk.State∧rE m.Disk.Cmd∧rE m.Disk.OpBlock∧rE m.Disk.OpFrame∧rE m.Disk.OpData∧rE m.Nic.Frame∧rE m.Nic.Len∧rE m.Nic.Posted∧rE m.Nic.Buffer∧rE m.Nic.Received∧rE m.Nic.Got∧rE m.Balloon.Target∧rE m.Balloon.Given∧rE m.Count∧rE m.Waiting∧rE m.Halted∧True)∧(rE ((nat_lit 0):Nat)∧rE ((nat_lit 0):Nat))∧rE (0:Int)∧(rE ((nat_lit 0):Nat)∧rE ((nat_lit 0):Nat))∧rE v0.fst∧(rE ((nat_lit 0):Nat)∧rE ((nat_lit 27):Nat))∧(rE m.Timer.Armed∧rE m.Timer.Deadline∧rE m.Timer.Fired∧True)∧rE (x0:Bool)∧(rE ((nat_lit 0):Nat)∧rE ((nat_lit 26):Nat))∧(rE m.Console.Keys∧True)∧rE (x1:Bool)∧(rE ((nat_lit 0):Nat)∧rE ((nat_lit 30):Nat))∧(rE m.Disk.Blocks∧rE m.Disk.Block∧rE m.Disk.Frame∧rE m.Disk.State∧rE m.Disk.Cmd∧rE m.Disk.OpBlock∧rE m.Disk.OpFrame∧rE m.Disk.OpData∧True)∧rE (x2:Bool)∧(rE ((nat_lit 0):Nat)∧rE ((nat_lit 38):Nat))∧(rE m.Nic.Frame∧rE m.Nic.Len∧rE m.Nic.Posted∧rE m.Nic.Buffer∧rE m.Nic.Received∧rE m.Nic.Got∧True)∧rE (x3:Bool)∧(rE ((nat_lit 0):Nat)∧rE ((nat_lit 44):Nat))∧(rE m.Balloon.Target∧rE m.Balloon.Given∧True)∧rE (x4:Bool)∧(rE (x0:Bool)∧rE (x1:Bool)∧rE (x2:Bool)∧rE (x3:Bool)∧rE (x4:Bool)∧True)∧(rE (x0:Bool)∧rE (x1:Bool)∧rE (x2:Bool)∧rE (x3:Bool)∧rE (x4:Bool)∧True)∧rE ((wrap i64 (v0.snd+1)):Int)∧True)∧(rE m.Cpu.X.a0∧rE m.Cpu.X.a1∧rE m.Cpu.X.a2∧rE m.Cpu.X.a3∧rE m.Cpu.X.a4∧rE m.Cpu.X.a5∧rE m.Cpu.X.a6∧rE m.Cpu.X.a7∧rE m.Cpu.X.a8∧rE m.Cpu.X.a9∧rE m.Cpu.X.a10∧rE m.Cpu.X.a11∧rE m.Cpu.X.a12∧rE m.Cpu.X.a13∧rE m.Cpu.X.a14∧rE m.Cpu.X.a15∧rE m.Cpu.Pc∧rE m.Cpu.Csr.a0∧rE m.Cpu.Csr.a1∧rE m.Cpu.Csr.a2∧rE m.Cpu.Csr.a3∧rE m.Cpu.Csr.a4∧rE m.Cpu.Csr.a5∧rE m.Cpu.Csr.a6∧rE m.Cpu.Csr.a7∧((Els.Nil (Els.ints u32 m.Mem)∨rE (1:Nat))∧rE m.Mem)∧rE m.Console.Keys∧rE m.Timer.Armed∧rE m.Timer.Deadline∧rE m.Timer.Fired∧rE m.Disk.Blocks∧rE m.Disk.Block∧rE m.Disk.Frame∧rE m.Disk.State∧rE m.Disk.Cmd∧rE m.Disk.OpBlock∧rE m.Disk.OpFrame∧rE m.Disk.OpData∧rE m.Nic.Frame∧rE m.Nic.Len∧rE m.Nic.Posted∧rE m.Nic.Buffer∧rE m.Nic.Received∧rE m.Nic.Got∧rE m.Balloon.Target∧rE m.Balloon.Given∧rE m.Count∧rE m.Waiting∧rE m.Halted∧True)∧(rE (x0:Bool)∧rE (x1:Bool)∧rE (x2:Bool)∧rE (x3:Bool)∧rE (x4:Bool)∧True)∧True) (Sum.inl (v0.fst,wrap i64 (v0.snd+1)))))) (.lf (Sum.inr v0.fst)))
def Q5j(m:Q00):Int:=(Q4o m).m
abbrev Q4h(m:Q00):Prop:=(Q4o m).p
def Qu6:LInv:={
 α:=(Int)×(Int)
 F:=fun st a=>([(0,(lk st 0)),(1, .ptr 0 0 0),(2,(lk st 2)),(3, .ptr 1 0 0),(4, .int IntKind.u32 a.1),(7, .ptr 0 0 27),(8,(lk st 8)),(9,(lk st 9)),(10, .ptr 0 0 26),(11,(lk st 11)),(12,(lk st 12)),(13, .ptr 0 0 30),(14,(lk st 14)),(15,(lk st 15)),(16, .ptr 0 0 38),(17,(lk st 17)),(18,(lk st 18)),(19, .ptr 0 0 44),(20,(lk st 20)),(21,(lk st 21)),(22,(lk st 22)),(23,(lk st 23)),(24, .int IntKind.i64 a.2)],[⟨true,44,49, .gen [[(cT st 1 0),(cT st 1 1),(cT st 1 2),(cT st 1 3),(cT st 1 4),(cT st 1 5),(cT st 1 6),(cT st 1 7),(cT st 1 8),(cT st 1 9),(cT st 1 10),(cT st 1 11),(cT st 1 12),(cT st 1 13),(cT st 1 14),(cT st 1 15),(cT st 1 16),(cT st 1 17),(cT st 1 18),(cT st 1 19),(cT st 1 20),(cT st 1 21),(cT st 1 22),(cT st 1 23),(cT st 1 24),(cT st 1 25),(cT st 1 26),(cT st 1 27),(cT st 1 28),(cT st 1 29),(cT st 1 30),(cT st 1 31),(cT st 1 32),(cT st 1 33),(cT st 1 34),(cT st 1 35),(cT st 1 36),(cT st 1 37),(cT st 1 38),(cT st 1 39),(cT st 1 40),(cT st 1 41),(cT st 1 42),(cT st 1 43),(cT st 1 44),(cT st 1 45),(cT st 1 46),(cT st 1 47),(cT st 1 48)]]⟩,⟨true,126,5, .gen [[(cT st 3 0),(cT st 3 1),(cT st 3 2),(cT st 3 3),(cT st 3 4)]]⟩])
 a0:=fun st=>((lk st 4).toInt,(lk st 24).toInt)
 ex0:=fun st=>[]++[(Q0s (lk st 1) (st.rows.length+0)),(Q0s (lk st 3) (st.rows.length+1))]
 next:=fun st=>((lk st 4).toInt,(lk st 24).toInt)
 ex:=fun st=>[]++[(Q0s (lk st 1) (st.rows.length+0)),(Q0s (lk st 3) (st.rows.length+1))]}
def Qpd:List (Nat×LInv):=[(4,Qu6)]
def Qwo:Q0b:=mkP 32 [] true [.agg Q00.sig] [] (fun args rows=>Q4h (Q00.of (args.getD 0 .dead).cells)) (fun args rows=>Q5j (Q00.of (args.getD 0 .dead).cells)) (fun X=> .int .u32 X) (fun X=>[])
theorem Qkc:Q04 Tryz.prog Qwo:=Q0k Q0i Q0j (.cons Quo (.cons Qp8 (.cons Qld (.cons Z0h (.cons Qqj (.nil)))))) Tryz.func32 Tryz.call32 (fun args rows=>Q4o (Q00.of (args.getD 0 .dead).cells)) [] Qpd 3 (fun _ _ _=>by kernel_rfl) (fun _ _=>rfl) (fun _ _ h=>h) (fun _ X=>by kernel_rfl)
def Q2e(m:Q00):Tree Int:=
.an (Q4h m) (.lv (Q5j m) fun(x0:Int)=> .lf (iand u32 x0 m.Cpu.Csr.a7))
def Q0l(m:Q00):Int:=(Q2e m).m
abbrev Q5(m:Q00):Prop:=(Q2e m).p
def Qr9:Q0b:=mkP 58 [] true [.agg Q00.sig] [] (fun args rows=>Q5 (Q00.of (args.getD 0 .dead).cells)) (fun args rows=>Q0l (Q00.of (args.getD 0 .dead).cells)) (fun X=> .int .u32 X) (fun X=>[])
theorem Qhn:Q04 Tryz.prog Qr9:=Q0k Q0i Q0j (.cons Qkc (.nil)) Tryz.func58 Tryz.call58 (fun args rows=>Q2e (Q00.of (args.getD 0 .dead).cells)) [] [] 2 (fun _ _ _=>by kernel_rfl) (fun _ _=>rfl) (fun _ _ h=>h) (fun _ X=>by kernel_rfl)
def Q1s(m:Q00):Tree Bool:=
.br m.Waiting (.an (Q5 m) (.lv (Q0l m) fun(x0:Int)=> .lf (x0==0))) (.lf false)
def Q2i(m:Q00):Bool:=(Q1s m).m
abbrev Q1q(m:Q00):Prop:=(Q1s m).p
def Z09:Q0b:=mkP 22 [] true [.agg Q00.sig] [] (fun args rows=>Q1q (Q00.of (args.getD 0 .dead).cells)) (fun args rows=>Q2i (Q00.of (args.getD 0 .dead).cells)) (fun X=> .bool X) (fun X=>[])
theorem Ql:Q04 Tryz.prog Z09:=Q0k Q0i Q0j (.cons Qhn (.nil)) Tryz.func22 Tryz.call22 (fun args rows=>Q1s (Q00.of (args.getD 0 .dead).cells)) [] [] 2 (fun _ _ _=>by kernel_rfl) (fun _ _=>rfl) (fun _ _ h=>h) (fun _ X=>by kernel_rfl)
end
end Go.Proofs.YtdkiadhigcfmkaaGreat

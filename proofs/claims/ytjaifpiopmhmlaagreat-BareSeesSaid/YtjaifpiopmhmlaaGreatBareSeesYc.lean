/-
  Functions of the program: models, and that its calls come to them (by a program: gen3.py).
-/
import Derived.Test.YtjaifpiopmhmlaaGreatBareSeesBase
import Derived.Test.YtjaifpiopmhmlaaGreatBareSeesYa
set_option maxRecDepth 100000
set_option linter.all false
namespace Go.Proofs.YtjaifpiopmhmlaaGreat
open Go Go.GD Go.IntKind
noncomputable section
def tblYc0:List UInt8:=[(0:UInt8),1,2,2,3,3,3,3,4,4,4,4,4,4,4,4,5,5,5,5,5,5,5,5,5,5,5,5,5,5,5,5,6,6,6,6,6,6,6,6,6,6,6,6,6,6,6,6,6,6,6,6,6,6,6,6,6,6,6,6,6,6,6,6]
def Zcf:List UInt8:=[(7:UInt8),7,7,7,7,7,7,7,7,7,7,7,7,7,7,7,7,7,7,7,7,7,7,7,7,7,7,7,7,7,7,7,7,7,7,7,7,7,7,7,7,7,7,7,7,7,7,7,7,7,7,7,7,7,7,7,7,7,7,7,7,7,7,7]
def Qq1:List UInt8:=[(8:UInt8),8,8,8,8,8,8,8,8,8,8,8,8,8,8,8,8,8,8,8,8,8,8,8,8,8,8,8,8,8,8,8,8,8,8,8,8,8,8,8,8,8,8,8,8,8,8,8,8,8,8,8,8,8,8,8,8,8,8,8,8,8,8,8]
def Zjc:List UInt8:=[(1:UInt8),2,2,3,3,3,3,4,4,4,4,4,4,4,4,5,5,5,5,5,5,5,5,5,5,5,5,5,5,5,5,6,6,6,6,6,6,6,6,6,6,6,6,6,6,6,6,6,6,6,6,6,6,6,6,6,6,6,6,6,6,6,6]
def tblYc4:List UInt8:=[(0:UInt8),1,1,2,1,2,2,3,1,2,2,3,2,3,3,4,1,2,2,3,2,3,3,4,2,3,3,4,3,4,4,5,1,2,2,3,2,3,3,4,2,3,3,4,3,4,4,5,2,3,3,4,3,4,4,5,3,4,4,5,4,5,5,6]
def Qpl:List UInt8:=[(1:UInt8),2,2,3,2,3,3,4,2,3,3,4,3,4,4,5,2,3,3,4,3,4,4,5,3,4,4,5,4,5,5,6,2,3,3,4,3,4,4,5,3,4,4,5,4,5,5,6,3,4,4,5,4,5,5,6,4,5,5,6,5,6,6,7]
def Zel:List UInt8:=[(2:UInt8),3,3,4,3,4,4,5,3,4,4,5,4,5,5,6,3,4,4,5,4,5,5,6,4,5,5,6,5,6,6,7,3,4,4,5,4,5,5,6,4,5,5,6,5,6,6,7,4,5,5,6,5,6,6,7,5,6,6,7,6,7,7,8]
def Zj5:List UInt8:=[(1:UInt8),1,2,1,2,2,3,1,2,2,3,2,3,3,4,1,2,2,3,2,3,3,4,2,3,3,4,3,4,4,5,1,2,2,3,2,3,3,4,2,3,3,4,3,4,4,5,2,3,3,4,3,4,4,5,3,4,4,5,4,5,5,6]
def Qrz(c:Q0a):Tree Bool:=
.lf (decide ((c.D5.length:Int)<=(16:Int)))
def Q29(c:Q0a):Bool:=(Qrz c).m
def Z7m:Q0b:=mkR 147 [] true [.agg Q0a.sig] [] (λargs rows=>Q29 (Q0a.of (args.getD 0 .dead).cells)) (λX=> .bool X) (λX=>[])
theorem Z32:Q05 Tryz.prog Z7m:=Q0x Q0j Q0h (.nil) Tryz.func147 Tryz.call147 (λargs rows=>Qrz (Q0a.of (args.getD 0 .dead).cells)) [] [] 2 (λ_ _ _=>by kernel_rfl) (λ_ _=>rfl) (λ_ _=>Tree.free_ok (by kernel_rfl)) (λ_ X=>by kernel_rfl)
def Qll(t:Q0f):Tree Bool:=
.br t.D4 (.br (!t.D9) (.lf (t.D1 !=0)) (.lf false)) (.br t.D9 (.lf true) (.lf (t.D1==0)))
def Q3u(t:Q0f):Bool:=(Qll t).m
def Zg5:Q0b:=mkR 148 [] true [.agg Q0f.sig] [] (λargs rows=>Q3u (Q0f.of (args.getD 0 .dead).cells)) (λX=> .bool X) (λX=>[])
theorem Zdl:Q05 Tryz.prog Zg5:=Q0x Q0j Q0h (.nil) Tryz.func148 Tryz.call148 (λargs rows=>Qll (Q0f.of (args.getD 0 .dead).cells)) [] [] 2 (λ_ _ _=>by kernel_rfl) (λ_ _=>rfl) (λ_ _=>Tree.free_ok (by kernel_rfl)) (λ_ X=>by kernel_rfl)
def Q6y(d0:Q0d):Tree Bool:=
.br (d0.F1==1) (.lf (decide (d0.C5=[]))) (.br (d0.F1==2) (.lf ((d0.C5.length:Int)==(128:Int))) (.lf false))
def Q8r(d0:Q0d):Bool:=(Q6y d0).m
def Qtw:Q0b:=mkR 206 [] true [.agg Q0d.sig] [] (λargs rows=>Q8r (Q0d.of (args.getD 0 .dead).cells)) (λX=> .bool X) (λX=>[])
theorem Qt6:Q05 Tryz.prog Qtw:=Q0x Q0j Q0h (.nil) Tryz.func206 Tryz.call206 (λargs rows=>Q6y (Q0d.of (args.getD 0 .dead).cells)) [] [] 2 (λ_ _ _=>by kernel_rfl) (λ_ _=>rfl) (λ_ _=>Tree.free_ok (by kernel_rfl)) (λ_ X=>by kernel_rfl)
def Q5t(d0:Q0d)(pages:Int):Tree Bool:=
.br (decide (d0.Blocks>64)) (.lf false) (let T1:Tree (Bool):= .br (d0.F1==0) (.br (d0.B8==0) (.br (d0.B2==0) (.lf (decide (d0.C5=[]))) (.lf false)) (.lf false)) (.lf false); .br (d0.C1==0) T1 (.br (d0.C1==2) T1 (.br (d0.C1==3) T1 (.br (d0.C1==1) (.lv (Q8r d0) λ(x0:Bool)=> .br x0 (.br (decide (d0.B8<d0.Blocks)) (.lf (decide (wrap i64 d0.B2<pages))) (.lf false)) (.lf false)) (.lf false)))))
def Q1b(d0:Q0d)(pages:Int):Bool:=(Q5t d0 pages).m
def Zk6:Q0b:=mkR 149 [] true [.agg Q0d.sig, .one (.int .i64)] [] (λargs rows=>Q1b (Q0d.of (args.getD 0 .dead).cells) (argI args 1)) (λX=> .bool X) (λX=>[])
theorem Zhh:Q05 Tryz.prog Zk6:=Q0x Q0j Q0h (.cons Qt6 (.nil)) Tryz.func149 Tryz.call149 (λargs rows=>Q5t (Q0d.of (args.getD 0 .dead).cells) (argI args 1)) [] [] 2 (λ_ _ _=>by kernel_rfl) (λ_ _=>rfl) (λ_ _=>Tree.free_ok (by kernel_rfl)) (λ_ X=>by kernel_rfl)
def Qjs(n:Q0p)(pages:Int):Tree Bool:=
let T1:Tree (Bool):=let T2:Tree (Bool):= .br n.C0 (.br (decide (n.F6>=1)) (.lf (decide (n.F6<=128))) (.lf false)) (.lf (n.F6==0)); .br n.C9 (.br (decide (wrap i64 n.C3>=pages)) (.lf false) T2) (.br (n.C3 !=0) (.lf false) T2); .br n.C9 (.br n.C0 (.lf false) T1) T1
def Q5m(n:Q0p)(pages:Int):Bool:=(Qjs n pages).m
def xB:Q0b:=mkR 150 [] true [.agg Q0p.sig, .one (.int .i64)] [] (λargs rows=>Q5m (Q0p.of (args.getD 0 .dead).cells) (argI args 1)) (λX=> .bool X) (λX=>[])
theorem Zln:Q05 Tryz.prog xB:=Q0x Q0j Q0h (.nil) Tryz.func150 Tryz.call150 (λargs rows=>Qjs (Q0p.of (args.getD 0 .dead).cells) (argI args 1)) [] [] 2 (λ_ _ _=>by kernel_rfl) (λ_ _=>rfl) (λ_ _=>Tree.free_ok (by kernel_rfl)) (λ_ X=>by kernel_rfl)
def Q1n(x:Int):Tree Int:=
let E1:=(↑(List.length (List.append (List.append tblYc0 Zcf) (List.append Qq1 Qq1))):Int); .br (decide (x>=65536)) (.br (decide (ishr u32 x (16:Int)>=(256:Int))) (.cn (decide (0<=wrap u8 (ishr u32 (ishr u32 x 16) 8)/\wrap u8 (ishr u32 (ishr u32 x 16) 8)<E1)) (.lf (wrap i64 (wrap i64 ((16:Int)+(8:Int))+wrap i64 (↑(UInt8.toNat (List.getD ((0:UInt8)::(Zjc++Zcf++(Qq1++Qq1))) (Int.toNat (wrap u8 (ishr u32 (ishr u32 x 16) 8))) (0:UInt8))):Int))))) (.cn (decide (0<=wrap u8 (ishr u32 x 16)/\wrap u8 (ishr u32 x 16)<E1)) (.lf (wrap i64 (16+wrap i64 (↑(UInt8.toNat (List.getD ((0:UInt8)::(Zjc++Zcf++(Qq1++Qq1))) (Int.toNat (wrap u8 (ishr u32 x 16))) (0:UInt8))):Int)))))) (.br (decide (x>=256)) (.cn (decide (0<=wrap u8 (ishr u32 x 8)/\wrap u8 (ishr u32 x 8)<E1)) (.lf (wrap i64 (wrap i64 ((0:Int)+(8:Int))+wrap i64 (↑(UInt8.toNat (List.getD ((0:UInt8)::(Zjc++Zcf++(Qq1++Qq1))) (Int.toNat (wrap u8 (ishr u32 x 8))) (0:UInt8))):Int))))) (.cn (decide (0<=wrap u8 x/\wrap u8 x<E1)) (.lf (wrap i64 (0+wrap i64 (↑(UInt8.toNat (List.getD ((0:UInt8)::(Zjc++Zcf++(Qq1++Qq1))) (Int.toNat (wrap u8 x)) (0:UInt8))):Int))))))
def Q1f(x:Int):Int:=(Q1n x).m
abbrev Qb5(x:Int):Prop:=(Q1n x).p
def Qu2:Q0b:=mkP 207 [] true [.one (.int .u32)] [] (λargs rows=>Qb5 (argI args 0)) (λargs rows=>Q1f (argI args 0)) (λX=> .int .i64 X) (λX=>[])
theorem Qre:Q05 Tryz.prog Qu2:=Q0k Q0j Q0h (.nil) Tryz.func207 Tryz.call207 (λargs rows=>Q1n (argI args 0)) [] [] 2 (λ_ _ _=>by kernel_rfl) (λ_ _=>rfl) (λ_ _ h=>h) (λ_ X=>by kernel_rfl)
def Q3m(b:Q07)(pages:Int):Tree Bool:=
.an (Qb5 b.C4) (.lv (Q1f b.C4) λ(x0:Int)=> .lf (decide (x0<=if 0>pages then 0 else pages)))
def Q2f(b:Q07)(pages:Int):Bool:=(Q3m b pages).m
abbrev Qc(b:Q07)(pages:Int):Prop:=(Q3m b pages).p
def Z7g:Q0b:=mkP 151 [] true [.agg Q07.sig, .one (.int .i64)] [] (λargs rows=>Qc (Q07.of (args.getD 0 .dead).cells) (argI args 1)) (λargs rows=>Q2f (Q07.of (args.getD 0 .dead).cells) (argI args 1)) (λX=> .bool X) (λX=>[])
theorem Z2y:Q05 Tryz.prog Z7g:=Q0k Q0j Q0h (.cons Qre (.nil)) Tryz.func151 Tryz.call151 (λargs rows=>Q3m (Q07.of (args.getD 0 .dead).cells) (argI args 1)) [] [] 2 (λ_ _ _=>by kernel_rfl) (λ_ _=>rfl) (λ_ _ h=>h) (λ_ X=>by kernel_rfl)
def Q1k(m:Q00):Tree Bool:=
.lv (Q0t m.Mem) λ(x0:Int)=> .lv (Q29 m.A1) λ(x1:Bool)=> .br x1 (.lv (Q3u m.B1) λ(x2:Bool)=> .br x2 (.lv (Q1b m.B0 x0) λ(x3:Bool)=> .br x3 (.lv (Q5m m.C7 x0) λ(x4:Bool)=> .br x4 (.an (Qc m.A2 x0) (.lv (Q2f m.A2 x0) λ(x5:Bool)=> .lf x5)) (.lf false)) (.lf false)) (.lf false)) (.lf false)
def Q0v(m:Q00):Bool:=(Q1k m).m
abbrev Q2i(m:Q00):Prop:=(Q1k m).p
def Qpg:Q0b:=mkP 85 [] true [.agg Q00.sig] [] (λargs rows=>Q2i (Q00.of (args.getD 0 .dead).cells)) (λargs rows=>Q0v (Q00.of (args.getD 0 .dead).cells)) (λX=> .bool X) (λX=>[])
theorem Qo7:Q05 Tryz.prog Qpg:=Q0k Q0j Q0h (.cons Q3w (.cons Z32 (.cons Zdl (.cons Zhh (.cons Zln (.cons Z2y (.nil))))))) Tryz.func85 Tryz.call85 (λargs rows=>Q1k (Q00.of (args.getD 0 .dead).cells)) [] [] 2 (λ_ _ _=>by kernel_rfl) (λ_ _=>rfl) (λ_ _ h=>h) (λ_ X=>by kernel_rfl)
def Q4p(m:Q00):Tree Bool:=
.lv (Q0t m.Mem) λ(x0:Int)=> .br (x0==0) (.lf false) (.br (m.B3.X.a0 !=0) (.lf false) (.br (decide (m.B3.B7.a0>31)) (.lf false) (.br (decide (m.B3.B7.a7>31)) (.lf false) (.br (decide (m.B3.B7.a6>255)) (.lf false) (.br (Int.tmod m.B3.B7.a1 (4:Int) !=(0:Int)) (.lf false) (.br (decide (m.A3>1152921504606846976)) (.lf false) (.br m.A6 (.br m.A7 (.lf false) (.an (Q2i m) (.lv (Q0v m) λ(x1:Bool)=> .lf x1))) (.an (Q2i m) (.lv (Q0v m) λ(x2:Bool)=> .lf x2)))))))))
def Q1c(m:Q00):Bool:=(Q4p m).m
abbrev Q57(m:Q00):Prop:=(Q4p m).p
def Z6t:Q0b:=mkP 43 [] true [.agg Q00.sig] [] (λargs rows=>Q57 (Q00.of (args.getD 0 .dead).cells)) (λargs rows=>Q1c (Q00.of (args.getD 0 .dead).cells)) (λX=> .bool X) (λX=>[])
theorem Qjh:Q05 Tryz.prog Z6t:=Q0k Q0j Q0h (.cons Q3w (.cons Qo7 (.nil))) Tryz.func43 Tryz.call43 (λargs rows=>Q4p (Q00.of (args.getD 0 .dead).cells)) [] [] 2 (λ_ _ _=>by kernel_rfl) (λ_ _=>rfl) (λ_ _ h=>h) (λ_ X=>by kernel_rfl)
def Qna(t:Q0f):Tree Bool:=
.lf t.D9
def Qg6(t:Q0f):Bool:=(Qna t).m
def Z22:Q0b:=mkR 92 [] true [.agg Q0f.sig] [] (λargs rows=>Qg6 (Q0f.of (args.getD 0 .dead).cells)) (λX=> .bool X) (λX=>[])
theorem Qx6:Q05 Tryz.prog Z22:=Q0x Q0j Q0h (.nil) Tryz.func92 Tryz.call92 (λargs rows=>Qna (Q0f.of (args.getD 0 .dead).cells)) [] [] 2 (λ_ _ _=>by kernel_rfl) (λ_ _=>rfl) (λ_ _=>Tree.free_ok (by kernel_rfl)) (λ_ X=>by kernel_rfl)
def Qkl(c:Q0a):Tree Bool:=
.lf (!decide (c.D5=[]))
def Q9g(c:Q0a):Bool:=(Qkl c).m
def Qum:Q0b:=mkR 93 [] true [.agg Q0a.sig] [] (λargs rows=>Q9g (Q0a.of (args.getD 0 .dead).cells)) (λX=> .bool X) (λX=>[])
theorem Qrn:Q05 Tryz.prog Qum:=Q0x Q0j Q0h (.nil) Tryz.func93 Tryz.call93 (λargs rows=>Qkl (Q0a.of (args.getD 0 .dead).cells)) [] [] 2 (λ_ _ _=>by kernel_rfl) (λ_ _=>rfl) (λ_ _=>Tree.free_ok (by kernel_rfl)) (λ_ X=>by kernel_rfl)
def Qjk(d0:Q0d):Tree Bool:=
.br (d0.C1==2) (.lf true) (.lf (d0.C1==3))
def Q95(d0:Q0d):Bool:=(Qjk d0).m
def Z31:Q0b:=mkR 94 [] true [.agg Q0d.sig] [] (λargs rows=>Q95 (Q0d.of (args.getD 0 .dead).cells)) (λX=> .bool X) (λX=>[])
theorem Qmz:Q05 Tryz.prog Z31:=Q0x Q0j Q0h (.nil) Tryz.func94 Tryz.call94 (λargs rows=>Qjk (Q0d.of (args.getD 0 .dead).cells)) [] [] 2 (λ_ _ _=>by kernel_rfl) (λ_ _=>rfl) (λ_ _=>Tree.free_ok (by kernel_rfl)) (λ_ X=>by kernel_rfl)
def Qrb(n:Q0p):Tree Bool:=
.lf n.C0
def Qlz(n:Q0p):Bool:=(Qrb n).m
def Z76:Q0b:=mkR 95 [] true [.agg Q0p.sig] [] (λargs rows=>Qlz (Q0p.of (args.getD 0 .dead).cells)) (λX=> .bool X) (λX=>[])
theorem Z3k:Q05 Tryz.prog Z76:=Q0x Q0j Q0h (.nil) Tryz.func95 Tryz.call95 (λargs rows=>Qrb (Q0p.of (args.getD 0 .dead).cells)) [] [] 2 (λ_ _ _=>by kernel_rfl) (λ_ _=>rfl) (λ_ _=>Tree.free_ok (by kernel_rfl)) (λ_ X=>by kernel_rfl)
def Q2x(x:Int):Tree Int:=
let E1:=(↑(List.length (List.append (List.append tblYc4 Qpl) (List.append Qpl Zel))):Int); .cn (decide (0<=ishr u32 x 24/\ishr u32 x 24<E1)) (.cn (decide (0<=iand u32 (ishr u32 x 16) 255/\iand u32 (ishr u32 x 16) 255<E1)) (.cn (decide (0<=iand u32 (ishr u32 x 8) 255/\iand u32 (ishr u32 x 8) 255<E1)) (.cn (decide (0<=iand u32 x 255/\iand u32 x 255<E1)) (.lf (wrap i64 (wrap u8 (wrap u8 (wrap u8 ((↑(UInt8.toNat (List.getD ((0:UInt8)::(Zj5++Qpl++(Qpl++Zel))) (Int.toNat (ishr u32 x 24)) (0:UInt8))):Int)+(↑(UInt8.toNat (List.getD ((0:UInt8)::(Zj5++Qpl++(Qpl++Zel))) (Int.toNat (iand u32 (ishr u32 x 16) 255)) (0:UInt8))):Int))+(↑(UInt8.toNat (List.getD ((0:UInt8)::(Zj5++Qpl++(Qpl++Zel))) (Int.toNat (iand u32 (ishr u32 x 8) 255)) (0:UInt8))):Int))+(↑(UInt8.toNat (List.getD ((0:UInt8)::(Zj5++Qpl++(Qpl++Zel))) (Int.toNat (iand u32 x 255)) (0:UInt8))):Int))))))))
def Q5w(x:Int):Int:=(Q2x x).m
abbrev Qad(x:Int):Prop:=(Q2x x).p
def Qlv:Q0b:=mkP 208 [] true [.one (.int .u32)] [] (λargs rows=>Qad (argI args 0)) (λargs rows=>Q5w (argI args 0)) (λX=> .int .i64 X) (λX=>[])
theorem Qk8:Q05 Tryz.prog Qlv:=Q0k Q0j Q0h (.nil) Tryz.func208 Tryz.call208 (λargs rows=>Q2x (argI args 0)) [] [] 2 (λ_ _ _=>by kernel_rfl) (λ_ _=>rfl) (λ_ _ h=>h) (λ_ X=>by kernel_rfl)
def Q99(b:Q07):Tree Int:=
.an (Qad b.C4) (.lv (Q5w b.C4) λ(x0:Int)=> .lf x0)
def Qbm(b:Q07):Int:=(Q99 b).m
abbrev Qds(b:Q07):Prop:=(Q99 b).p
def Z1f:Q0b:=mkP 152 [] true [.agg Q07.sig] [] (λargs rows=>Qds (Q07.of (args.getD 0 .dead).cells)) (λargs rows=>Qbm (Q07.of (args.getD 0 .dead).cells)) (λX=> .int .i64 X) (λX=>[])
theorem Qmf:Q05 Tryz.prog Z1f:=Q0k Q0j Q0h (.cons Qk8 (.nil)) Tryz.func152 Tryz.call152 (λargs rows=>Q99 (Q07.of (args.getD 0 .dead).cells)) [] [] 2 (λ_ _ _=>by kernel_rfl) (λ_ _=>rfl) (λ_ _ h=>h) (λ_ X=>by kernel_rfl)
def Q51(b:Q07):Tree Bool:=
.an (Qds b) (.lv (Qbm b) λ(x0:Int)=> .lf (wrap u32 x0 !=b.D0))
def Q6p(b:Q07):Bool:=(Q51 b).m
abbrev Qhs(b:Q07):Prop:=(Q51 b).p
def Qtp:Q0b:=mkP 96 [] true [.agg Q07.sig] [] (λargs rows=>Qhs (Q07.of (args.getD 0 .dead).cells)) (λargs rows=>Q6p (Q07.of (args.getD 0 .dead).cells)) (λX=> .bool X) (λX=>[])
theorem Qsc:Q05 Tryz.prog Qtp:=Q0k Q0j Q0h (.cons Qmf (.nil)) Tryz.func96 Tryz.call96 (λargs rows=>Q51 (Q07.of (args.getD 0 .dead).cells)) [] [] 2 (λ_ _ _=>by kernel_rfl) (λ_ _=>rfl) (λ_ _ h=>h) (λ_ X=>by kernel_rfl)
def Qhj(m:Q00)(z:(Int)×(Int)):Nat:=(5-z.2).toNat
def Q6x(m:Q00):Tree Int:=
.lv (Qg6 m.B1) λ(x0:Bool)=> .lv (Q9g m.A1) λ(x1:Bool)=> .lv (Q95 m.B0) λ(x2:Bool)=> .lv (Qlz m.C7) λ(x3:Bool)=> .an (Qhs m.A2) (.lv (Q6p m.A2) λ(x4:Bool)=> .lp inferInstance (Qhj m (0,0)+1) ((rE (0:Int)/\(rE (x0:Bool)/\rE (x1:Bool)/\rE (x2:Bool)/\rE (x3:Bool)/\rE (x4:Bool)/\True)/\rE (0:Int)/\True)/\True) (0,0) λ(v0:Int×Int)=> .br (decide (v0.2<5)) (.cn (Nat.beq 1 1&&(Nat.beq 5 5&&decide (0<=v0.2/\v0.2<(↑5:Int)))) (.br (List.getD [x0,x1,x2,x3,x4] v0.2.toNat false) (.cn (decide (0<=v0.2)) (.nx ((rE ((ior u32 v0.1 (ishl u32 1 v0.2)):Int)/\(rE (x0:Bool)/\rE (x1:Bool)/\rE (x2:Bool)/\rE (x3:Bool)/\rE (x4:Bool)/\True)/\rE ((wrap i64 (v0.2+1)):Int)/\True)/\True) (Sum.inl (ior u32 v0.1 (ishl u32 1 v0.2),wrap i64 (v0.2+1))))) (.nx ((rE v0.1/\(rE (x0:Bool)/\rE (x1:Bool)/\rE (x2:Bool)/\rE (x3:Bool)/\rE (x4:Bool)/\True)/\rE ((wrap i64 (v0.2+1)):Int)/\True)/\True) (Sum.inl (v0.1,wrap i64 (v0.2+1)))))) (.lf (Sum.inr v0.1)))
def Qc6(m:Q00):Int:=(Q6x m).m
abbrev Qjw(m:Q00):Prop:=(Q6x m).p
def Qxh:LInv:={
 α:=(Int)×(Int)
 F:=λst a=>([(4, .int u32 a.1),(23,(lk st 23)),(24, .int i64 a.2)],[])
 a0:=λst=>((lk st 4).toInt,(lk st 24).toInt)
 ex0:=λst=>[]++[]
 next:=λst=>((lk st 4).toInt,(lk st 24).toInt)
 ex:=λst=>[]++[]}
def Qra:List (Nat×LInv):=[(4,Qxh)]
def Qzx:Q0b:=mkP 45 [] true [.agg Q00.sig] [] (λargs rows=>Qjw (Q00.of (args.getD 0 .dead).cells)) (λargs rows=>Qc6 (Q00.of (args.getD 0 .dead).cells)) (λX=> .int .u32 X) (λX=>[])
theorem Qwy:Q05 Tryz.prog Qzx:=Q0k Q0j Q0h (.cons Qx6 (.cons Qrn (.cons Qmz (.cons Z3k (.cons Qsc (.nil)))))) Tryz.func45 Tryz.call45 (λargs rows=>Q6x (Q00.of (args.getD 0 .dead).cells)) [] Qra 3 (λ_ _ _=>by kernel_rfl) (λ_ _=>rfl) (λ_ _ h=>h) (λ_ X=>by kernel_rfl)
def Q53(m:Q00):Tree Int:=
.an (Qjw m) (.lv (Qc6 m) λ(x0:Int)=> .lf (iand u32 x0 m.B3.B7.a7))
def Q56(m:Q00):Int:=(Q53 m).m
abbrev Qb3(m:Q00):Prop:=(Q53 m).p
def Qu9:Q0b:=mkP 103 [] true [.agg Q00.sig] [] (λargs rows=>Qb3 (Q00.of (args.getD 0 .dead).cells)) (λargs rows=>Q56 (Q00.of (args.getD 0 .dead).cells)) (λX=> .int .u32 X) (λX=>[])
theorem Qiv:Q05 Tryz.prog Qu9:=Q0k Q0j Q0h (.cons Qwy (.nil)) Tryz.func103 Tryz.call103 (λargs rows=>Q53 (Q00.of (args.getD 0 .dead).cells)) [] [] 2 (λ_ _ _=>by kernel_rfl) (λ_ _=>rfl) (λ_ _ h=>h) (λ_ X=>by kernel_rfl)
def Q4z(m:Q00):Tree Bool:=
.br m.A6 (.an (Qb3 m) (.lv (Q56 m) λ(x0:Int)=> .lf (x0==0))) (.lf false)
def Qbf(m:Q00):Bool:=(Q4z m).m
abbrev Qaq(m:Q00):Prop:=(Q4z m).p
def Z3h:Q0b:=mkP 47 [] true [.agg Q00.sig] [] (λargs rows=>Qaq (Q00.of (args.getD 0 .dead).cells)) (λargs rows=>Qbf (Q00.of (args.getD 0 .dead).cells)) (λX=> .bool X) (λX=>[])
theorem Qn6:Q05 Tryz.prog Z3h:=Q0k Q0j Q0h (.cons Qiv (.nil)) Tryz.func47 Tryz.call47 (λargs rows=>Q4z (Q00.of (args.getD 0 .dead).cells)) [] [] 2 (λ_ _ _=>by kernel_rfl) (λ_ _=>rfl) (λ_ _ h=>h) (λ_ X=>by kernel_rfl)
end
end Go.Proofs.YtjaifpiopmhmlaaGreat

/-
  Functions of the program: models, and that its calls come to them (by a program: gen3.py).
-/
import Derived.Test.YtjaifpiopmhmlaaGreatBareDriversBase
import Derived.Test.YtjaifpiopmhmlaaGreatBareDriversYa
set_option maxRecDepth 100000
set_option linter.unusedVariables false
set_option linter.unusedSimpArgs false
namespace Go.Proofs.YtjaifpiopmhmlaaGreat
open Go Go.GD Go.IntKind
noncomputable section
def tblYc0:List UInt8:=[(0:UInt8),1,2,2,3,3,3,3,4,4,4,4,4,4,4,4,5,5,5,5,5,5,5,5,5,5,5,5,5,5,5,5,6,6,6,6,6,6,6,6,6,6,6,6,6,6,6,6,6,6,6,6,6,6,6,6,6,6,6,6,6,6,6,6]
def Z3b:List UInt8:=[(7:UInt8),7,7,7,7,7,7,7,7,7,7,7,7,7,7,7,7,7,7,7,7,7,7,7,7,7,7,7,7,7,7,7,7,7,7,7,7,7,7,7,7,7,7,7,7,7,7,7,7,7,7,7,7,7,7,7,7,7,7,7,7,7,7,7]
def Qkz:List UInt8:=[(8:UInt8),8,8,8,8,8,8,8,8,8,8,8,8,8,8,8,8,8,8,8,8,8,8,8,8,8,8,8,8,8,8,8,8,8,8,8,8,8,8,8,8,8,8,8,8,8,8,8,8,8,8,8,8,8,8,8,8,8,8,8,8,8,8,8]
def Z90:List UInt8:=[(1:UInt8),2,2,3,3,3,3,4,4,4,4,4,4,4,4,5,5,5,5,5,5,5,5,5,5,5,5,5,5,5,5,6,6,6,6,6,6,6,6,6,6,6,6,6,6,6,6,6,6,6,6,6,6,6,6,6,6,6,6,6,6,6,6]
def tblYc4:List UInt8:=[(0:UInt8),1,1,2,1,2,2,3,1,2,2,3,2,3,3,4,1,2,2,3,2,3,3,4,2,3,3,4,3,4,4,5,1,2,2,3,2,3,3,4,2,3,3,4,3,4,4,5,2,3,3,4,3,4,4,5,3,4,4,5,4,5,5,6]
def Qkw:List UInt8:=[(1:UInt8),2,2,3,2,3,3,4,2,3,3,4,3,4,4,5,2,3,3,4,3,4,4,5,3,4,4,5,4,5,5,6,2,3,3,4,3,4,4,5,3,4,4,5,4,5,5,6,3,4,4,5,4,5,5,6,4,5,5,6,5,6,6,7]
def Z2y:List UInt8:=[(2:UInt8),3,3,4,3,4,4,5,3,4,4,5,4,5,5,6,3,4,4,5,4,5,5,6,4,5,5,6,5,6,6,7,3,4,4,5,4,5,5,6,4,5,5,6,5,6,6,7,4,5,5,6,5,6,6,7,5,6,6,7,6,7,7,8]
def Z8d:List UInt8:=[(1:UInt8),1,2,1,2,2,3,1,2,2,3,2,3,3,4,1,2,2,3,2,3,3,4,2,3,3,4,3,4,4,5,1,2,2,3,2,3,3,4,2,3,3,4,3,4,4,5,2,3,3,4,3,4,4,5,3,4,4,5,4,5,5,6]
def Qn6(c:Q0b):Tree Bool:=
.lf (decide ((c.C9.length:Int)≤(16:Int)))
def Q2s(c:Q0b):Bool:=(Qn6 c).m
def Qyg:Q0e:=mkR 147 [] true [.agg Q0b.sig] [] (λargs rows=>Q2s (Q0b.of (args.getD 0 .dead).cells)) (λX=> .bool X) (λX=>[])
theorem Qw4:Q08 Tryz.prog Qyg:=Q2j Q0r Q0s (.nil) Tryz.func147 Tryz.call147 (λargs rows=>Qn6 (Q0b.of (args.getD 0 .dead).cells)) [] [] 2 (λ_ _ _=>by kernel_rfl) (λ_ _=>rfl) (λ_ _=>Tree.free_ok (by kernel_rfl)) (λ_ X=>by kernel_rfl)
def Qhv(t:Q0i):Tree Bool:=
.br t.D5 (.br (!t.D4) (.lf (t.C7 !=0)) (.lf false)) (.br t.D4 (.lf true) (.lf (t.C7==0)))
def Q4w(t:Q0i):Bool:=(Qhv t).m
def Z6e:Q0e:=mkR 148 [] true [.agg Q0i.sig] [] (λargs rows=>Q4w (Q0i.of (args.getD 0 .dead).cells)) (λX=> .bool X) (λX=>[])
theorem Z4u:Q08 Tryz.prog Z6e:=Q2j Q0r Q0s (.nil) Tryz.func148 Tryz.call148 (λargs rows=>Qhv (Q0i.of (args.getD 0 .dead).cells)) [] [] 2 (λ_ _ _=>by kernel_rfl) (λ_ _=>rfl) (λ_ _=>Tree.free_ok (by kernel_rfl)) (λ_ X=>by kernel_rfl)
def Q6(d0:Q0a):Tree Bool:=
.br (d0.D6==1) (.lf (decide (d0.C1=[]))) (.br (d0.D6==2) (.lf ((d0.C1.length:Int)==(128:Int))) (.lf false))
def Q7n(d0:Q0a):Bool:=(Q6 d0).m
def Qod:Q0e:=mkR 206 [] true [.agg Q0a.sig] [] (λargs rows=>Q7n (Q0a.of (args.getD 0 .dead).cells)) (λX=> .bool X) (λX=>[])
theorem Qms:Q08 Tryz.prog Qod:=Q2j Q0r Q0s (.nil) Tryz.func206 Tryz.call206 (λargs rows=>Q6 (Q0a.of (args.getD 0 .dead).cells)) [] [] 2 (λ_ _ _=>by kernel_rfl) (λ_ _=>rfl) (λ_ _=>Tree.free_ok (by kernel_rfl)) (λ_ X=>by kernel_rfl)
def Q59(d0:Q0a)(pages:Int):Tree Bool:=
.br (decide (d0.Blocks>64)) (.lf false) (let T1:Tree (Bool):= .br (d0.D6==0) (.br (d0.B5==0) (.br (d0.A9==0) (.lf (decide (d0.C1=[]))) (.lf false)) (.lf false)) (.lf false); .br (d0.B8==0) T1 (.br (d0.B8==2) T1 (.br (d0.B8==3) T1 (.br (d0.B8==1) (.lv (Q7n d0) λ(x0:Bool)=> .br x0 (.br (decide (d0.B5<d0.Blocks)) (.lf (decide (wrap i64 d0.A9<pages))) (.lf false)) (.lf false)) (.lf false)))))
def Q18(d0:Q0a)(pages:Int):Bool:=(Q59 d0 pages).m
def Za9:Q0e:=mkR 149 [] true [.agg Q0a.sig, .one (.int .i64)] [] (λargs rows=>Q18 (Q0a.of (args.getD 0 .dead).cells) (argI args 1)) (λX=> .bool X) (λX=>[])
theorem Z6f:Q08 Tryz.prog Za9:=Q2j Q0r Q0s (.cons Qms (.nil)) Tryz.func149 Tryz.call149 (λargs rows=>Q59 (Q0a.of (args.getD 0 .dead).cells) (argI args 1)) [] [] 2 (λ_ _ _=>by kernel_rfl) (λ_ _=>rfl) (λ_ _=>Tree.free_ok (by kernel_rfl)) (λ_ X=>by kernel_rfl)
def Qge(n:Q0n)(pages:Int):Tree Bool:=
let T1:Tree (Bool):=let T2:Tree (Bool):= .br n.B7 (.br (decide (n.F0≥1)) (.lf (decide (n.F0≤128))) (.lf false)) (.lf (n.F0==0)); .br n.C4 (.br (decide (wrap i64 n.B9≥pages)) (.lf false) T2) (.br (n.B9 !=0) (.lf false) T2); .br n.C4 (.br n.B7 (.lf false) T1) T1
def Q5x(n:Q0n)(pages:Int):Bool:=(Qge n pages).m
def nic_May_m:Q0e:=mkR 150 [] true [.agg Q0n.sig, .one (.int .i64)] [] (λargs rows=>Q5x (Q0n.of (args.getD 0 .dead).cells) (argI args 1)) (λX=> .bool X) (λX=>[])
theorem Z9o:Q08 Tryz.prog nic_May_m:=Q2j Q0r Q0s (.nil) Tryz.func150 Tryz.call150 (λargs rows=>Qge (Q0n.of (args.getD 0 .dead).cells) (argI args 1)) [] [] 2 (λ_ _ _=>by kernel_rfl) (λ_ _=>rfl) (λ_ _=>Tree.free_ok (by kernel_rfl)) (λ_ X=>by kernel_rfl)
def Q1j(x:Int):Tree Int:=
let E1:=(↑(List.length (List.append (List.append tblYc0 Z3b) (List.append Qkz Qkz))):Int); .br (decide (x≥65536)) (.br (decide (ishr u32 x (16:Int)≥(256:Int))) (.cn (decide (0≤wrap u8 (ishr u32 (ishr u32 x 16) 8)∧wrap u8 (ishr u32 (ishr u32 x 16) 8)<E1)) (.lf (wrap i64 (wrap i64 ((16:Int)+(8:Int))+wrap i64 (↑(UInt8.toNat (List.getD ((0:UInt8)::(Z90++Z3b++(Qkz++Qkz))) (Int.toNat (wrap u8 (ishr u32 (ishr u32 x 16) 8))) (0:UInt8))):Int))))) (.cn (decide (0≤wrap u8 (ishr u32 x 16)∧wrap u8 (ishr u32 x 16)<E1)) (.lf (wrap i64 (16+wrap i64 (↑(UInt8.toNat (List.getD ((0:UInt8)::(Z90++Z3b++(Qkz++Qkz))) (Int.toNat (wrap u8 (ishr u32 x 16))) (0:UInt8))):Int)))))) (.br (decide (x≥256)) (.cn (decide (0≤wrap u8 (ishr u32 x 8)∧wrap u8 (ishr u32 x 8)<E1)) (.lf (wrap i64 (wrap i64 ((0:Int)+(8:Int))+wrap i64 (↑(UInt8.toNat (List.getD ((0:UInt8)::(Z90++Z3b++(Qkz++Qkz))) (Int.toNat (wrap u8 (ishr u32 x 8))) (0:UInt8))):Int))))) (.cn (decide (0≤wrap u8 x∧wrap u8 x<E1)) (.lf (wrap i64 (0+wrap i64 (↑(UInt8.toNat (List.getD ((0:UInt8)::(Z90++Z3b++(Qkz++Qkz))) (Int.toNat (wrap u8 x)) (0:UInt8))):Int))))))
def Q1k(x:Int):Int:=(Q1j x).m
abbrev Q6i(x:Int):Prop:=(Q1j x).p
def Qo:Q0e:=mkP 207 [] true [.one (.int .u32)] [] (λargs rows=>Q6i (argI args 0)) (λargs rows=>Q1k (argI args 0)) (λX=> .int .i64 X) (λX=>[])
theorem Qnd:Q08 Tryz.prog Qo:=Q0x Q0r Q0s (.nil) Tryz.func207 Tryz.call207 (λargs rows=>Q1j (argI args 0)) [] [] 2 (λ_ _ _=>by kernel_rfl) (λ_ _=>rfl) (λ_ _ h=>h) (λ_ X=>by kernel_rfl)
def Q33(b:Q07)(pages:Int):Tree Bool:=
.an (Q6i b.C0) (.lv (Q1k b.C0) λ(x0:Int)=> .lf (decide (x0≤if 0>pages then 0 else pages)))
def Q2z(b:Q07)(pages:Int):Bool:=(Q33 b pages).m
abbrev Q9y(b:Q07)(pages:Int):Prop:=(Q33 b pages).p
def Qzp:Q0e:=mkP 151 [] true [.agg Q07.sig, .one (.int .i64)] [] (λargs rows=>Q9y (Q07.of (args.getD 0 .dead).cells) (argI args 1)) (λargs rows=>Q2z (Q07.of (args.getD 0 .dead).cells) (argI args 1)) (λX=> .bool X) (λX=>[])
theorem Qv4:Q08 Tryz.prog Qzp:=Q0x Q0r Q0s (.cons Qnd (.nil)) Tryz.func151 Tryz.call151 (λargs rows=>Q33 (Q07.of (args.getD 0 .dead).cells) (argI args 1)) [] [] 2 (λ_ _ _=>by kernel_rfl) (λ_ _=>rfl) (λ_ _ h=>h) (λ_ X=>by kernel_rfl)
def Q1e(m:Q00):Tree Bool:=
.lv (Q0q m.Mem) λ(x0:Int)=> .lv (Q2s m.A2) λ(x1:Bool)=> .br x1 (.lv (Q4w m.A7) λ(x2:Bool)=> .br x2 (.lv (Q18 m.A6 x0) λ(x3:Bool)=> .br x3 (.lv (Q5x m.C5 x0) λ(x4:Bool)=> .br x4 (.an (Q9y m.A1 x0) (.lv (Q2z m.A1 x0) λ(x5:Bool)=> .lf x5)) (.lf false)) (.lf false)) (.lf false)) (.lf false)
def Q0v(m:Q00):Bool:=(Q1e m).m
abbrev Q37(m:Q00):Prop:=(Q1e m).p
def Qkn:Q0e:=mkP 85 [] true [.agg Q00.sig] [] (λargs rows=>Q37 (Q00.of (args.getD 0 .dead).cells)) (λargs rows=>Q0v (Q00.of (args.getD 0 .dead).cells)) (λX=> .bool X) (λX=>[])
theorem Qjm:Q08 Tryz.prog Qkn:=Q0x Q0r Q0s (.cons Q3u (.cons Qw4 (.cons Z4u (.cons Z6f (.cons Z9o (.cons Qv4 (.nil))))))) Tryz.func85 Tryz.call85 (λargs rows=>Q1e (Q00.of (args.getD 0 .dead).cells)) [] [] 2 (λ_ _ _=>by kernel_rfl) (λ_ _=>rfl) (λ_ _ h=>h) (λ_ X=>by kernel_rfl)
def Q4d(m:Q00):Tree Bool:=
.lv (Q0q m.Mem) λ(x0:Int)=> .br (x0==0) (.lf false) (.br (m.B1.X.a0 !=0) (.lf false) (.br (decide (m.B1.B4.a0>31)) (.lf false) (.br (decide (m.B1.B4.a7>31)) (.lf false) (.br (decide (m.B1.B4.a6>255)) (.lf false) (.br (Int.tmod m.B1.B4.a1 (4:Int) !=(0:Int)) (.lf false) (.br (decide (m.A0>1152921504606846976)) (.lf false) (.br m.A3 (.br m.A4 (.lf false) (.an (Q37 m) (.lv (Q0v m) λ(x1:Bool)=> .lf x1))) (.an (Q37 m) (.lv (Q0v m) λ(x2:Bool)=> .lf x2)))))))))
def Q16(m:Q00):Bool:=(Q4d m).m
abbrev Q5u(m:Q00):Prop:=(Q4d m).p
def Z0u:Q0e:=mkP 43 [] true [.agg Q00.sig] [] (λargs rows=>Q5u (Q00.of (args.getD 0 .dead).cells)) (λargs rows=>Q16 (Q00.of (args.getD 0 .dead).cells)) (λX=> .bool X) (λX=>[])
theorem Qg0:Q08 Tryz.prog Z0u:=Q0x Q0r Q0s (.cons Q3u (.cons Qjm (.nil))) Tryz.func43 Tryz.call43 (λargs rows=>Q4d (Q00.of (args.getD 0 .dead).cells)) [] [] 2 (λ_ _ _=>by kernel_rfl) (λ_ _=>rfl) (λ_ _ h=>h) (λ_ X=>by kernel_rfl)
def Qj8(t:Q0i):Tree Bool:=
.lf t.D4
def Qd6(t:Q0i):Bool:=(Qj8 t).m
def Qu0:Q0e:=mkR 92 [] true [.agg Q0i.sig] [] (λargs rows=>Qd6 (Q0i.of (args.getD 0 .dead).cells)) (λX=> .bool X) (λX=>[])
theorem Qqo:Q08 Tryz.prog Qu0:=Q2j Q0r Q0s (.nil) Tryz.func92 Tryz.call92 (λargs rows=>Qj8 (Q0i.of (args.getD 0 .dead).cells)) [] [] 2 (λ_ _ _=>by kernel_rfl) (λ_ _=>rfl) (λ_ _=>Tree.free_ok (by kernel_rfl)) (λ_ X=>by kernel_rfl)
def Qgl(c:Q0b):Tree Bool:=
.lf (!decide (c.C9=[]))
def Q7w(c:Q0b):Bool:=(Qgl c).m
def Qp:Q0e:=mkR 93 [] true [.agg Q0b.sig] [] (λargs rows=>Q7w (Q0b.of (args.getD 0 .dead).cells)) (λX=> .bool X) (λX=>[])
theorem Qnn:Q08 Tryz.prog Qp:=Q2j Q0r Q0s (.nil) Tryz.func93 Tryz.call93 (λargs rows=>Qgl (Q0b.of (args.getD 0 .dead).cells)) [] [] 2 (λ_ _ _=>by kernel_rfl) (λ_ _=>rfl) (λ_ _=>Tree.free_ok (by kernel_rfl)) (λ_ X=>by kernel_rfl)
def Qg(d0:Q0a):Tree Bool:=
.br (d0.B8==2) (.lf true) (.lf (d0.B8==3))
def Q8(d0:Q0a):Bool:=(Qg d0).m
def Qvr:Q0e:=mkR 94 [] true [.agg Q0a.sig] [] (λargs rows=>Q8 (Q0a.of (args.getD 0 .dead).cells)) (λX=> .bool X) (λX=>[])
theorem Qiy:Q08 Tryz.prog Qvr:=Q2j Q0r Q0s (.nil) Tryz.func94 Tryz.call94 (λargs rows=>Qg (Q0a.of (args.getD 0 .dead).cells)) [] [] 2 (λ_ _ _=>by kernel_rfl) (λ_ _=>rfl) (λ_ _=>Tree.free_ok (by kernel_rfl)) (λ_ X=>by kernel_rfl)
def Qmz(n:Q0n):Tree Bool:=
.lf n.B7
def Qhd(n:Q0n):Bool:=(Qmz n).m
def Qyq:Q0e:=mkR 95 [] true [.agg Q0n.sig] [] (λargs rows=>Qhd (Q0n.of (args.getD 0 .dead).cells)) (λX=> .bool X) (λX=>[])
theorem Qvo:Q08 Tryz.prog Qyq:=Q2j Q0r Q0s (.nil) Tryz.func95 Tryz.call95 (λargs rows=>Qmz (Q0n.of (args.getD 0 .dead).cells)) [] [] 2 (λ_ _ _=>by kernel_rfl) (λ_ _=>rfl) (λ_ _=>Tree.free_ok (by kernel_rfl)) (λ_ X=>by kernel_rfl)
def Q1s(x:Int):Tree Int:=
let E1:=(↑(List.length (List.append (List.append tblYc4 Qkw) (List.append Qkw Z2y))):Int); .cn (decide (0≤ishr u32 x 24∧ishr u32 x 24<E1)) (.cn (decide (0≤iand u32 (ishr u32 x 16) 255∧iand u32 (ishr u32 x 16) 255<E1)) (.cn (decide (0≤iand u32 (ishr u32 x 8) 255∧iand u32 (ishr u32 x 8) 255<E1)) (.cn (decide (0≤iand u32 x 255∧iand u32 x 255<E1)) (.lf (wrap i64 (wrap u8 (wrap u8 (wrap u8 ((↑(UInt8.toNat (List.getD ((0:UInt8)::(Z8d++Qkw++(Qkw++Z2y))) (Int.toNat (ishr u32 x 24)) (0:UInt8))):Int)+(↑(UInt8.toNat (List.getD ((0:UInt8)::(Z8d++Qkw++(Qkw++Z2y))) (Int.toNat (iand u32 (ishr u32 x 16) 255)) (0:UInt8))):Int))+(↑(UInt8.toNat (List.getD ((0:UInt8)::(Z8d++Qkw++(Qkw++Z2y))) (Int.toNat (iand u32 (ishr u32 x 8) 255)) (0:UInt8))):Int))+(↑(UInt8.toNat (List.getD ((0:UInt8)::(Z8d++Qkw++(Qkw++Z2y))) (Int.toNat (iand u32 x 255)) (0:UInt8))):Int))))))))
def Q5a(x:Int):Int:=(Q1s x).m
abbrev Q5o(x:Int):Prop:=(Q1s x).p
def Qhm:Q0e:=mkP 208 [] true [.one (.int .u32)] [] (λargs rows=>Q5o (argI args 0)) (λargs rows=>Q5a (argI args 0)) (λX=> .int .i64 X) (λX=>[])
theorem Qgk:Q08 Tryz.prog Qhm:=Q0x Q0r Q0s (.nil) Tryz.func208 Tryz.call208 (λargs rows=>Q1s (argI args 0)) [] [] 2 (λ_ _ _=>by kernel_rfl) (λ_ _=>rfl) (λ_ _ h=>h) (λ_ X=>by kernel_rfl)
def Q4t(b:Q07):Tree Int:=
.an (Q5o b.C0) (.lv (Q5a b.C0) λ(x0:Int)=> .lf x0)
def Qa6(b:Q07):Int:=(Q4t b).m
abbrev Q8h(b:Q07):Prop:=(Q4t b).p
def Qux:Q0e:=mkP 152 [] true [.agg Q07.sig] [] (λargs rows=>Q8h (Q07.of (args.getD 0 .dead).cells)) (λargs rows=>Qa6 (Q07.of (args.getD 0 .dead).cells)) (λX=> .int .i64 X) (λX=>[])
theorem Qi2:Q08 Tryz.prog Qux:=Q0x Q0r Q0s (.cons Qgk (.nil)) Tryz.func152 Tryz.call152 (λargs rows=>Q4t (Q07.of (args.getD 0 .dead).cells)) [] [] 2 (λ_ _ _=>by kernel_rfl) (λ_ _=>rfl) (λ_ _ h=>h) (λ_ X=>by kernel_rfl)
def Q2x(b:Q07):Tree Bool:=
.an (Q8h b) (.lv (Qa6 b) λ(x0:Int)=> .lf (wrap u32 x0 !=b.C6))
def Q60(b:Q07):Bool:=(Q2x b).m
abbrev Q9d(b:Q07):Prop:=(Q2x b).p
def Qp0:Q0e:=mkP 96 [] true [.agg Q07.sig] [] (λargs rows=>Q9d (Q07.of (args.getD 0 .dead).cells)) (λargs rows=>Q60 (Q07.of (args.getD 0 .dead).cells)) (λX=> .bool X) (λX=>[])
theorem Qma:Q08 Tryz.prog Qp0:=Q0x Q0r Q0s (.cons Qi2 (.nil)) Tryz.func96 Tryz.call96 (λargs rows=>Q2x (Q07.of (args.getD 0 .dead).cells)) [] [] 2 (λ_ _ _=>by kernel_rfl) (λ_ _=>rfl) (λ_ _ h=>h) (λ_ X=>by kernel_rfl)
def Qf6(m:Q00)(z:(Int)×(Int)):Nat:=(5-z.2).toNat
def Q3t(m:Q00):Tree Int:=
.lv (Qd6 m.A7) λ(x0:Bool)=> .lv (Q7w m.A2) λ(x1:Bool)=> .lv (Q8 m.A6) λ(x2:Bool)=> .lv (Qhd m.C5) λ(x3:Bool)=> .an (Q9d m.A1) (.lv (Q60 m.A1) λ(x4:Bool)=> .lp inferInstance (Qf6 m (0,0)+1) ((rE (0:Int)∧(rE (x0:Bool)∧rE (x1:Bool)∧rE (x2:Bool)∧rE (x3:Bool)∧rE (x4:Bool)∧True)∧rE (0:Int)∧True)∧True) (0,0) λ(v0:Int×Int)=> .br (decide (v0.2<5)) (.cn (Nat.beq 1 1&&(Nat.beq 5 5&&decide (0≤v0.2∧v0.2<(↑5:Int)))) (.br (List.getD [x0,x1,x2,x3,x4] v0.2.toNat false) (.cn (decide (0≤v0.2)) (.nx ((rE ((ior u32 v0.1 (ishl u32 1 v0.2)):Int)∧(rE (x0:Bool)∧rE (x1:Bool)∧rE (x2:Bool)∧rE (x3:Bool)∧rE (x4:Bool)∧True)∧rE ((wrap i64 (v0.2+1)):Int)∧True)∧True) (Sum.inl (ior u32 v0.1 (ishl u32 1 v0.2),wrap i64 (v0.2+1))))) (.nx ((rE v0.1∧(rE (x0:Bool)∧rE (x1:Bool)∧rE (x2:Bool)∧rE (x3:Bool)∧rE (x4:Bool)∧True)∧rE ((wrap i64 (v0.2+1)):Int)∧True)∧True) (Sum.inl (v0.1,wrap i64 (v0.2+1)))))) (.lf (Sum.inr v0.1)))
def Qa7(m:Q00):Int:=(Q3t m).m
abbrev Qbc(m:Q00):Prop:=(Q3t m).p
def Qr0:LInv:={
 α:=(Int)×(Int)
 F:=λst a=>([(4, .int u32 a.1),(23,(lk st 23)),(24, .int i64 a.2)],[])
 a0:=λst=>((lk st 4).toInt,(lk st 24).toInt)
 ex0:=λst=>[]++[]
 next:=λst=>((lk st 4).toInt,(lk st 24).toInt)
 ex:=λst=>[]++[]}
def Qml:List (Nat×LInv):=[(4,Qr0)]
def Qs1:Q0e:=mkP 45 [] true [.agg Q00.sig] [] (λargs rows=>Qbc (Q00.of (args.getD 0 .dead).cells)) (λargs rows=>Qa7 (Q00.of (args.getD 0 .dead).cells)) (λX=> .int .u32 X) (λX=>[])
theorem Qrg:Q08 Tryz.prog Qs1:=Q0x Q0r Q0s (.cons Qqo (.cons Qnn (.cons Qiy (.cons Qvo (.cons Qma (.nil)))))) Tryz.func45 Tryz.call45 (λargs rows=>Q3t (Q00.of (args.getD 0 .dead).cells)) [] Qml 3 (λ_ _ _=>by kernel_rfl) (λ_ _=>rfl) (λ_ _ h=>h) (λ_ X=>by kernel_rfl)
def Q1y(m:Q00):Tree Int:=
.an (Qbc m) (.lv (Qa7 m) λ(x0:Int)=> .lf (iand u32 x0 m.B1.B4.a7))
def Q5(m:Q00):Int:=(Q1y m).m
abbrev Q6e(m:Q00):Prop:=(Q1y m).p
def Qp9:Q0e:=mkP 103 [] true [.agg Q00.sig] [] (λargs rows=>Q6e (Q00.of (args.getD 0 .dead).cells)) (λargs rows=>Q5 (Q00.of (args.getD 0 .dead).cells)) (λX=> .int .u32 X) (λX=>[])
theorem Qfq:Q08 Tryz.prog Qp9:=Q0x Q0r Q0s (.cons Qrg (.nil)) Tryz.func103 Tryz.call103 (λargs rows=>Q1y (Q00.of (args.getD 0 .dead).cells)) [] [] 2 (λ_ _ _=>by kernel_rfl) (λ_ _=>rfl) (λ_ _ h=>h) (λ_ X=>by kernel_rfl)
def Q29(m:Q00):Tree Bool:=
.br m.A3 (.an (Q6e m) (.lv (Q5 m) λ(x0:Int)=> .lf (x0==0))) (.lf false)
def Q2w(m:Q00):Bool:=(Q29 m).m
abbrev Q47(m:Q00):Prop:=(Q29 m).p
def Qve:Q0e:=mkP 47 [] true [.agg Q00.sig] [] (λargs rows=>Q47 (Q00.of (args.getD 0 .dead).cells)) (λargs rows=>Q2w (Q00.of (args.getD 0 .dead).cells)) (λX=> .bool X) (λX=>[])
theorem Qjg:Q08 Tryz.prog Qve:=Q0x Q0r Q0s (.cons Qfq (.nil)) Tryz.func47 Tryz.call47 (λargs rows=>Q29 (Q00.of (args.getD 0 .dead).cells)) [] [] 2 (λ_ _ _=>by kernel_rfl) (λ_ _=>rfl) (λ_ _ h=>h) (λ_ X=>by kernel_rfl)
end
end Go.Proofs.YtjaifpiopmhmlaaGreat

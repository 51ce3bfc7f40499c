/-
  Functions of the program: models, and that its calls come to them (by a program: gen3.py).
-/
import Derived.Test.YtjaifpiopmhmlaaGreatBareClockBase
import Derived.Test.YtjaifpiopmhmlaaGreatBareClockYa
set_option maxRecDepth 100000
set_option linter.unusedVariables false
set_option linter.unusedSimpArgs false
namespace Go.Proofs.YtjaifpiopmhmlaaGreat
open Go Go.GD Go.IntKind
noncomputable section
def tblYc0:List UInt8:=[(0:UInt8),1,2,2,3,3,3,3,4,4,4,4,4,4,4,4,5,5,5,5,5,5,5,5,5,5,5,5,5,5,5,5,6,6,6,6,6,6,6,6,6,6,6,6,6,6,6,6,6,6,6,6,6,6,6,6,6,6,6,6,6,6,6,6]
def Z39:List UInt8:=[(7:UInt8),7,7,7,7,7,7,7,7,7,7,7,7,7,7,7,7,7,7,7,7,7,7,7,7,7,7,7,7,7,7,7,7,7,7,7,7,7,7,7,7,7,7,7,7,7,7,7,7,7,7,7,7,7,7,7,7,7,7,7,7,7,7,7]
def Qkq:List UInt8:=[(8:UInt8),8,8,8,8,8,8,8,8,8,8,8,8,8,8,8,8,8,8,8,8,8,8,8,8,8,8,8,8,8,8,8,8,8,8,8,8,8,8,8,8,8,8,8,8,8,8,8,8,8,8,8,8,8,8,8,8,8,8,8,8,8,8,8]
def Z6n:List UInt8:=[(1:UInt8),2,2,3,3,3,3,4,4,4,4,4,4,4,4,5,5,5,5,5,5,5,5,5,5,5,5,5,5,5,5,6,6,6,6,6,6,6,6,6,6,6,6,6,6,6,6,6,6,6,6,6,6,6,6,6,6,6,6,6,6,6,6]
def tblYc4:List UInt8:=[(0:UInt8),1,1,2,1,2,2,3,1,2,2,3,2,3,3,4,1,2,2,3,2,3,3,4,2,3,3,4,3,4,4,5,1,2,2,3,2,3,3,4,2,3,3,4,3,4,4,5,2,3,3,4,3,4,4,5,3,4,4,5,4,5,5,6]
def Qkt:List UInt8:=[(1:UInt8),2,2,3,2,3,3,4,2,3,3,4,3,4,4,5,2,3,3,4,3,4,4,5,3,4,4,5,4,5,5,6,2,3,3,4,3,4,4,5,3,4,4,5,4,5,5,6,3,4,4,5,4,5,5,6,4,5,5,6,5,6,6,7]
def Z2e:List UInt8:=[(2:UInt8),3,3,4,3,4,4,5,3,4,4,5,4,5,5,6,3,4,4,5,4,5,5,6,4,5,5,6,5,6,6,7,3,4,4,5,4,5,5,6,4,5,5,6,5,6,6,7,4,5,5,6,5,6,6,7,5,6,6,7,6,7,7,8]
def Z6m:List UInt8:=[(1:UInt8),1,2,1,2,2,3,1,2,2,3,2,3,3,4,1,2,2,3,2,3,3,4,2,3,3,4,3,4,4,5,1,2,2,3,2,3,3,4,2,3,3,4,3,4,4,5,2,3,3,4,3,4,4,5,3,4,4,5,4,5,5,6]
def Qma(c:Q0a):Tree Bool:=
.lf (decide ((c.C9.length:Int)≤(16:Int)))
def Q2e(c:Q0a):Bool:=(Qma c).m
def Qyc:Q0c:=mkR 147 [] true [.agg Q0a.sig] [] (λargs rows=>Q2e (Q0a.of (args.getD 0 .dead).cells)) (λX=> .bool X) (λX=>[])
theorem Qv8:Q08 Tryz.prog Qyc:=Q27 Q0p Q0o (.nil) Tryz.func147 Tryz.call147 (λargs rows=>Qma (Q0a.of (args.getD 0 .dead).cells)) [] [] 2 (λ_ _ _=>by kernel_rfl) (λ_ _=>rfl) (λ_ _=>Tree.free_ok (by kernel_rfl)) (λ_ X=>by kernel_rfl)
def Qh(t:Q0f):Tree Bool:=
.br t.D3 (.br (!t.D2) (.lf (t.C5 !=0)) (.lf false)) (.br t.D2 (.lf true) (.lf (t.C5==0)))
def Q4m(t:Q0f):Bool:=(Qh t).m
def Z4h:Q0c:=mkR 148 [] true [.agg Q0f.sig] [] (λargs rows=>Q4m (Q0f.of (args.getD 0 .dead).cells)) (λX=> .bool X) (λX=>[])
theorem Z3l:Q08 Tryz.prog Z4h:=Q27 Q0p Q0o (.nil) Tryz.func148 Tryz.call148 (λargs rows=>Qh (Q0f.of (args.getD 0 .dead).cells)) [] [] 2 (λ_ _ _=>by kernel_rfl) (λ_ _=>rfl) (λ_ _=>Tree.free_ok (by kernel_rfl)) (λ_ X=>by kernel_rfl)
def Q5m(d0:Q09):Tree Bool:=
.br (d0.D6==1) (.lf (decide (d0.C0=[]))) (.br (d0.D6==2) (.lf ((d0.C0.length:Int)==(128:Int))) (.lf false))
def Q7k(d0:Q09):Bool:=(Q5m d0).m
def Qom:Q0c:=mkR 206 [] true [.agg Q09.sig] [] (λargs rows=>Q7k (Q09.of (args.getD 0 .dead).cells)) (λX=> .bool X) (λX=>[])
theorem Qmx:Q08 Tryz.prog Qom:=Q27 Q0p Q0o (.nil) Tryz.func206 Tryz.call206 (λargs rows=>Q5m (Q09.of (args.getD 0 .dead).cells)) [] [] 2 (λ_ _ _=>by kernel_rfl) (λ_ _=>rfl) (λ_ _=>Tree.free_ok (by kernel_rfl)) (λ_ X=>by kernel_rfl)
def Q4x(d0:Q09)(pages:Int):Tree Bool:=
.br (decide (d0.Blocks>64)) (.lf false) (let T1:Tree (Bool):= .br (d0.D6==0) (.br (d0.B2==0) (.br (d0.A9==0) (.lf (decide (d0.C0=[]))) (.lf false)) (.lf false)) (.lf false); .br (d0.B7==0) T1 (.br (d0.B7==2) T1 (.br (d0.B7==3) T1 (.br (d0.B7==1) (.lv (Q7k d0) λ(x0:Bool)=> .br x0 (.br (decide (d0.B2<d0.Blocks)) (.lf (decide (wrap i64 d0.A9<pages))) (.lf false)) (.lf false)) (.lf false)))))
def Q14(d0:Q09)(pages:Int):Bool:=(Q4x d0 pages).m
def Z94:Q0c:=mkR 149 [] true [.agg Q09.sig, .one (.int .i64)] [] (λargs rows=>Q14 (Q09.of (args.getD 0 .dead).cells) (argI args 1)) (λX=> .bool X) (λX=>[])
theorem Z4m:Q08 Tryz.prog Z94:=Q27 Q0p Q0o (.cons Qmx (.nil)) Tryz.func149 Tryz.call149 (λargs rows=>Q4x (Q09.of (args.getD 0 .dead).cells) (argI args 1)) [] [] 2 (λ_ _ _=>by kernel_rfl) (λ_ _=>rfl) (λ_ _=>Tree.free_ok (by kernel_rfl)) (λ_ X=>by kernel_rfl)
def Qgq(n:Q0j)(pages:Int):Tree Bool:=
let T1:Tree (Bool):=let T2:Tree (Bool):= .br n.B5 (.br (decide (n.F0≥1)) (.lf (decide (n.F0≤128))) (.lf false)) (.lf (n.F0==0)); .br n.C2 (.br (decide (wrap i64 n.B8≥pages)) (.lf false) T2) (.br (n.B8 !=0) (.lf false) T2); .br n.C2 (.br n.B5 (.lf false) T1) T1
def Q5s(n:Q0j)(pages:Int):Bool:=(Qgq n pages).m
def nic_May_m:Q0c:=mkR 150 [] true [.agg Q0j.sig, .one (.int .i64)] [] (λargs rows=>Q5s (Q0j.of (args.getD 0 .dead).cells) (argI args 1)) (λX=> .bool X) (λX=>[])
theorem Za:Q08 Tryz.prog nic_May_m:=Q27 Q0p Q0o (.nil) Tryz.func150 Tryz.call150 (λargs rows=>Qgq (Q0j.of (args.getD 0 .dead).cells) (argI args 1)) [] [] 2 (λ_ _ _=>by kernel_rfl) (λ_ _=>rfl) (λ_ _=>Tree.free_ok (by kernel_rfl)) (λ_ X=>by kernel_rfl)
def Q1f(x:Int):Tree Int:=
let E1:=(↑(List.length (List.append (List.append tblYc0 Z39) (List.append Qkq Qkq))):Int); .br (decide (x≥65536)) (.br (decide (ishr u32 x (16:Int)≥(256:Int))) (.cn (decide (0≤wrap u8 (ishr u32 (ishr u32 x 16) 8)∧wrap u8 (ishr u32 (ishr u32 x 16) 8)<E1)) (.lf (wrap i64 (wrap i64 ((16:Int)+(8:Int))+wrap i64 (↑(UInt8.toNat (List.getD ((0:UInt8)::(Z6n++Z39++(Qkq++Qkq))) (Int.toNat (wrap u8 (ishr u32 (ishr u32 x 16) 8))) (0:UInt8))):Int))))) (.cn (decide (0≤wrap u8 (ishr u32 x 16)∧wrap u8 (ishr u32 x 16)<E1)) (.lf (wrap i64 (16+wrap i64 (↑(UInt8.toNat (List.getD ((0:UInt8)::(Z6n++Z39++(Qkq++Qkq))) (Int.toNat (wrap u8 (ishr u32 x 16))) (0:UInt8))):Int)))))) (.br (decide (x≥256)) (.cn (decide (0≤wrap u8 (ishr u32 x 8)∧wrap u8 (ishr u32 x 8)<E1)) (.lf (wrap i64 (wrap i64 ((0:Int)+(8:Int))+wrap i64 (↑(UInt8.toNat (List.getD ((0:UInt8)::(Z6n++Z39++(Qkq++Qkq))) (Int.toNat (wrap u8 (ishr u32 x 8))) (0:UInt8))):Int))))) (.cn (decide (0≤wrap u8 x∧wrap u8 x<E1)) (.lf (wrap i64 (0+wrap i64 (↑(UInt8.toNat (List.getD ((0:UInt8)::(Z6n++Z39++(Qkq++Qkq))) (Int.toNat (wrap u8 x)) (0:UInt8))):Int))))))
def Q1h(x:Int):Int:=(Q1f x).m
abbrev Q6a(x:Int):Prop:=(Q1f x).p
def Qo4:Q0c:=mkP 207 [] true [.one (.int .u32)] [] (λargs rows=>Q6a (argI args 0)) (λargs rows=>Q1h (argI args 0)) (λX=> .int .i64 X) (λX=>[])
theorem Qly:Q08 Tryz.prog Qo4:=Q0t Q0p Q0o (.nil) Tryz.func207 Tryz.call207 (λargs rows=>Q1f (argI args 0)) [] [] 2 (λ_ _ _=>by kernel_rfl) (λ_ _=>rfl) (λ_ _ h=>h) (λ_ X=>by kernel_rfl)
def Q2r(b:Q06)(pages:Int):Tree Bool:=
.an (Q6a b.B9) (.lv (Q1h b.B9) λ(x0:Int)=> .lf (decide (x0≤if 0>pages then 0 else pages)))
def Q2p(b:Q06)(pages:Int):Bool:=(Q2r b pages).m
abbrev Q9i(b:Q06)(pages:Int):Prop:=(Q2r b pages).p
def Qyw:Q0c:=mkP 151 [] true [.agg Q06.sig, .one (.int .i64)] [] (λargs rows=>Q9i (Q06.of (args.getD 0 .dead).cells) (argI args 1)) (λargs rows=>Q2p (Q06.of (args.getD 0 .dead).cells) (argI args 1)) (λX=> .bool X) (λX=>[])
theorem Qvx:Q08 Tryz.prog Qyw:=Q0t Q0p Q0o (.cons Qly (.nil)) Tryz.func151 Tryz.call151 (λargs rows=>Q2r (Q06.of (args.getD 0 .dead).cells) (argI args 1)) [] [] 2 (λ_ _ _=>by kernel_rfl) (λ_ _=>rfl) (λ_ _ h=>h) (λ_ X=>by kernel_rfl)
def Q1a(m:Q00):Tree Bool:=
.lv (Q0l m.Mem) λ(x0:Int)=> .lv (Q2e m.A1) λ(x1:Bool)=> .br x1 (.lv (Q4m m.A6) λ(x2:Bool)=> .br x2 (.lv (Q14 m.A7 x0) λ(x3:Bool)=> .br x3 (.lv (Q5s m.C3 x0) λ(x4:Bool)=> .br x4 (.an (Q9i m.A0 x0) (.lv (Q2p m.A0 x0) λ(x5:Bool)=> .lf x5)) (.lf false)) (.lf false)) (.lf false)) (.lf false)
def Q0r(m:Q00):Bool:=(Q1a m).m
abbrev Q2x(m:Q00):Prop:=(Q1a m).p
def Qk8:Q0c:=mkP 85 [] true [.agg Q00.sig] [] (λargs rows=>Q2x (Q00.of (args.getD 0 .dead).cells)) (λargs rows=>Q0r (Q00.of (args.getD 0 .dead).cells)) (λX=> .bool X) (λX=>[])
theorem Qir:Q08 Tryz.prog Qk8:=Q0t Q0p Q0o (.cons Q3a (.cons Qv8 (.cons Z3l (.cons Z4m (.cons Za (.cons Qvx (.nil))))))) Tryz.func85 Tryz.call85 (λargs rows=>Q1a (Q00.of (args.getD 0 .dead).cells)) [] [] 2 (λ_ _ _=>by kernel_rfl) (λ_ _=>rfl) (λ_ _ h=>h) (λ_ X=>by kernel_rfl)
def Q44(m:Q00):Tree Bool:=
.lv (Q0l m.Mem) λ(x0:Int)=> .br (x0==0) (.lf false) (.br (m.B1.X.a0 !=0) (.lf false) (.br (decide (m.B1.B3.a0>31)) (.lf false) (.br (decide (m.B1.B3.a7>31)) (.lf false) (.br (decide (m.B1.B3.a6>255)) (.lf false) (.br (Int.tmod m.B1.B3.a1 (4:Int) !=(0:Int)) (.lf false) (.br (decide (m.A3>1152921504606846976)) (.lf false) (.br m.A2 (.br m.A4 (.lf false) (.an (Q2x m) (.lv (Q0r m) λ(x1:Bool)=> .lf x1))) (.an (Q2x m) (.lv (Q0r m) λ(x2:Bool)=> .lf x2)))))))))
def Q1d(m:Q00):Bool:=(Q44 m).m
abbrev Q5l(m:Q00):Prop:=(Q44 m).p
def Qzm:Q0c:=mkP 43 [] true [.agg Q00.sig] [] (λargs rows=>Q5l (Q00.of (args.getD 0 .dead).cells)) (λargs rows=>Q1d (Q00.of (args.getD 0 .dead).cells)) (λX=> .bool X) (λX=>[])
theorem Qfr:Q08 Tryz.prog Qzm:=Q0t Q0p Q0o (.cons Q3a (.cons Qir (.nil))) Tryz.func43 Tryz.call43 (λargs rows=>Q44 (Q00.of (args.getD 0 .dead).cells)) [] [] 2 (λ_ _ _=>by kernel_rfl) (λ_ _=>rfl) (λ_ _ h=>h) (λ_ X=>by kernel_rfl)
def Qjj(t:Q0f):Tree Bool:=
.lf t.D2
def Qcx(t:Q0f):Bool:=(Qjj t).m
def Que:Q0c:=mkR 92 [] true [.agg Q0f.sig] [] (λargs rows=>Qcx (Q0f.of (args.getD 0 .dead).cells)) (λX=> .bool X) (λX=>[])
theorem Qqy:Q08 Tryz.prog Que:=Q27 Q0p Q0o (.nil) Tryz.func92 Tryz.call92 (λargs rows=>Qjj (Q0f.of (args.getD 0 .dead).cells)) [] [] 2 (λ_ _ _=>by kernel_rfl) (λ_ _=>rfl) (λ_ _=>Tree.free_ok (by kernel_rfl)) (λ_ X=>by kernel_rfl)
def Qgl(c:Q0a):Tree Bool:=
.lf (!decide (c.C9=[]))
def Q7f(c:Q0a):Bool:=(Qgl c).m
def Qnh:Q0c:=mkR 93 [] true [.agg Q0a.sig] [] (λargs rows=>Q7f (Q0a.of (args.getD 0 .dead).cells)) (λX=> .bool X) (λX=>[])
theorem Qm1:Q08 Tryz.prog Qnh:=Q27 Q0p Q0o (.nil) Tryz.func93 Tryz.call93 (λargs rows=>Qgl (Q0a.of (args.getD 0 .dead).cells)) [] [] 2 (λ_ _ _=>by kernel_rfl) (λ_ _=>rfl) (λ_ _=>Tree.free_ok (by kernel_rfl)) (λ_ X=>by kernel_rfl)
def Qfv(d0:Q09):Tree Bool:=
.br (d0.B7==2) (.lf true) (.lf (d0.B7==3))
def Q7x(d0:Q09):Bool:=(Qfv d0).m
def Qvy:Q0c:=mkR 94 [] true [.agg Q09.sig] [] (λargs rows=>Q7x (Q09.of (args.getD 0 .dead).cells)) (λX=> .bool X) (λX=>[])
theorem Qiz:Q08 Tryz.prog Qvy:=Q27 Q0p Q0o (.nil) Tryz.func94 Tryz.call94 (λargs rows=>Qfv (Q09.of (args.getD 0 .dead).cells)) [] [] 2 (λ_ _ _=>by kernel_rfl) (λ_ _=>rfl) (λ_ _=>Tree.free_ok (by kernel_rfl)) (λ_ X=>by kernel_rfl)
def Qlq(n:Q0j):Tree Bool:=
.lf n.B5
def Qhg(n:Q0j):Bool:=(Qlq n).m
def Qxs:Q0c:=mkR 95 [] true [.agg Q0j.sig] [] (λargs rows=>Qhg (Q0j.of (args.getD 0 .dead).cells)) (λX=> .bool X) (λX=>[])
theorem Qvf:Q08 Tryz.prog Qxs:=Q27 Q0p Q0o (.nil) Tryz.func95 Tryz.call95 (λargs rows=>Qlq (Q0j.of (args.getD 0 .dead).cells)) [] [] 2 (λ_ _ _=>by kernel_rfl) (λ_ _=>rfl) (λ_ _=>Tree.free_ok (by kernel_rfl)) (λ_ X=>by kernel_rfl)
def Q1o(x:Int):Tree Int:=
let E1:=(↑(List.length (List.append (List.append tblYc4 Qkt) (List.append Qkt Z2e))):Int); .cn (decide (0≤ishr u32 x 24∧ishr u32 x 24<E1)) (.cn (decide (0≤iand u32 (ishr u32 x 16) 255∧iand u32 (ishr u32 x 16) 255<E1)) (.cn (decide (0≤iand u32 (ishr u32 x 8) 255∧iand u32 (ishr u32 x 8) 255<E1)) (.cn (decide (0≤iand u32 x 255∧iand u32 x 255<E1)) (.lf (wrap i64 (wrap u8 (wrap u8 (wrap u8 ((↑(UInt8.toNat (List.getD ((0:UInt8)::(Z6m++Qkt++(Qkt++Z2e))) (Int.toNat (ishr u32 x 24)) (0:UInt8))):Int)+(↑(UInt8.toNat (List.getD ((0:UInt8)::(Z6m++Qkt++(Qkt++Z2e))) (Int.toNat (iand u32 (ishr u32 x 16) 255)) (0:UInt8))):Int))+(↑(UInt8.toNat (List.getD ((0:UInt8)::(Z6m++Qkt++(Qkt++Z2e))) (Int.toNat (iand u32 (ishr u32 x 8) 255)) (0:UInt8))):Int))+(↑(UInt8.toNat (List.getD ((0:UInt8)::(Z6m++Qkt++(Qkt++Z2e))) (Int.toNat (iand u32 x 255)) (0:UInt8))):Int))))))))
def Q52(x:Int):Int:=(Q1o x).m
abbrev Q5c(x:Int):Prop:=(Q1o x).p
def Qh8:Q0c:=mkP 208 [] true [.one (.int .u32)] [] (λargs rows=>Q5c (argI args 0)) (λargs rows=>Q52 (argI args 0)) (λX=> .int .i64 X) (λX=>[])
theorem Qgk:Q08 Tryz.prog Qh8:=Q0t Q0p Q0o (.nil) Tryz.func208 Tryz.call208 (λargs rows=>Q1o (argI args 0)) [] [] 2 (λ_ _ _=>by kernel_rfl) (λ_ _=>rfl) (λ_ _ h=>h) (λ_ X=>by kernel_rfl)
def Q4k(b:Q06):Tree Int:=
.an (Q5c b.B9) (.lv (Q52 b.B9) λ(x0:Int)=> .lf x0)
def Qa2(b:Q06):Int:=(Q4k b).m
abbrev Q87(b:Q06):Prop:=(Q4k b).p
def Qsc:Q0c:=mkP 152 [] true [.agg Q06.sig] [] (λargs rows=>Q87 (Q06.of (args.getD 0 .dead).cells)) (λargs rows=>Qa2 (Q06.of (args.getD 0 .dead).cells)) (λX=> .int .i64 X) (λX=>[])
theorem Qi3:Q08 Tryz.prog Qsc:=Q0t Q0p Q0o (.cons Qgk (.nil)) Tryz.func152 Tryz.call152 (λargs rows=>Q4k (Q06.of (args.getD 0 .dead).cells)) [] [] 2 (λ_ _ _=>by kernel_rfl) (λ_ _=>rfl) (λ_ _ h=>h) (λ_ X=>by kernel_rfl)
def Q2h(b:Q06):Tree Bool:=
.an (Q87 b) (.lv (Qa2 b) λ(x0:Int)=> .lf (wrap u32 x0 !=b.C4))
def Q5q(b:Q06):Bool:=(Q2h b).m
abbrev Q92(b:Q06):Prop:=(Q2h b).p
def Qnx:Q0c:=mkP 96 [] true [.agg Q06.sig] [] (λargs rows=>Q92 (Q06.of (args.getD 0 .dead).cells)) (λargs rows=>Q5q (Q06.of (args.getD 0 .dead).cells)) (λX=> .bool X) (λX=>[])
theorem Qm9:Q08 Tryz.prog Qnx:=Q0t Q0p Q0o (.cons Qi3 (.nil)) Tryz.func96 Tryz.call96 (λargs rows=>Q2h (Q06.of (args.getD 0 .dead).cells)) [] [] 2 (λ_ _ _=>by kernel_rfl) (λ_ _=>rfl) (λ_ _ h=>h) (λ_ X=>by kernel_rfl)
def Qet(m:Q00)(z:(Int)×(Int)):Nat:=(5-z.2).toNat
def Q3f(m:Q00):Tree Int:=
.lv (Qcx m.A6) λ(x0:Bool)=> .lv (Q7f m.A1) λ(x1:Bool)=> .lv (Q7x m.A7) λ(x2:Bool)=> .lv (Qhg m.C3) λ(x3:Bool)=> .an (Q92 m.A0) (.lv (Q5q m.A0) λ(x4:Bool)=> .lp inferInstance (Qet m (0,0)+1) ((rE (0:Int)∧(rE (x0:Bool)∧rE (x1:Bool)∧rE (x2:Bool)∧rE (x3:Bool)∧rE (x4:Bool)∧True)∧rE (0:Int)∧True)∧True) (0,0) λ(v0:Int×Int)=> .br (decide (v0.2<5)) (.cn (Nat.beq 1 1&&(Nat.beq 5 5&&decide (0≤v0.2∧v0.2<(↑5:Int)))) (.br (List.getD [x0,x1,x2,x3,x4] v0.2.toNat false) (.cn (decide (0≤v0.2)) (.nx ((rE ((ior u32 v0.1 (ishl u32 1 v0.2)):Int)∧(rE (x0:Bool)∧rE (x1:Bool)∧rE (x2:Bool)∧rE (x3:Bool)∧rE (x4:Bool)∧True)∧rE ((wrap i64 (v0.2+1)):Int)∧True)∧True) (Sum.inl (ior u32 v0.1 (ishl u32 1 v0.2),wrap i64 (v0.2+1))))) (.nx ((rE v0.1∧(rE (x0:Bool)∧rE (x1:Bool)∧rE (x2:Bool)∧rE (x3:Bool)∧rE (x4:Bool)∧True)∧rE ((wrap i64 (v0.2+1)):Int)∧True)∧True) (Sum.inl (v0.1,wrap i64 (v0.2+1)))))) (.lf (Sum.inr v0.1)))
def Q9k(m:Q00):Int:=(Q3f m).m
abbrev Qag(m:Q00):Prop:=(Q3f m).p
def Qqv:LInv:={
 α:=(Int)×(Int)
 F:=λst a=>([(4, .int u32 a.1),(23,(lk st 23)),(24, .int i64 a.2)],[])
 a0:=λst=>((lk st 4).toInt,(lk st 24).toInt)
 ex0:=λst=>[]++[]
 next:=λst=>((lk st 4).toInt,(lk st 24).toInt)
 ex:=λst=>[]++[]}
def Qn:List (Nat×LInv):=[(4,Qqv)]
def Qry:Q0c:=mkP 45 [] true [.agg Q00.sig] [] (λargs rows=>Qag (Q00.of (args.getD 0 .dead).cells)) (λargs rows=>Q9k (Q00.of (args.getD 0 .dead).cells)) (λX=> .int .u32 X) (λX=>[])
theorem Qq1:Q08 Tryz.prog Qry:=Q0t Q0p Q0o (.cons Qqy (.cons Qm1 (.cons Qiz (.cons Qvf (.cons Qm9 (.nil)))))) Tryz.func45 Tryz.call45 (λargs rows=>Q3f (Q00.of (args.getD 0 .dead).cells)) [] Qn 3 (λ_ _ _=>by kernel_rfl) (λ_ _=>rfl) (λ_ _ h=>h) (λ_ X=>by kernel_rfl)
def Q2j(m:Q00):Tree Int:=
.an (Qag m) (.lv (Q9k m) λ(x0:Int)=> .lf (iand u32 x0 m.B1.B3.a7))
def Q4o(m:Q00):Int:=(Q2j m).m
abbrev Q6k(m:Q00):Prop:=(Q2j m).p
def Qod:Q0c:=mkP 103 [] true [.agg Q00.sig] [] (λargs rows=>Q6k (Q00.of (args.getD 0 .dead).cells)) (λargs rows=>Q4o (Q00.of (args.getD 0 .dead).cells)) (λX=> .int .u32 X) (λX=>[])
theorem Qf8:Q08 Tryz.prog Qod:=Q0t Q0p Q0o (.cons Qq1 (.nil)) Tryz.func103 Tryz.call103 (λargs rows=>Q2j (Q00.of (args.getD 0 .dead).cells)) [] [] 2 (λ_ _ _=>by kernel_rfl) (λ_ _=>rfl) (λ_ _ h=>h) (λ_ X=>by kernel_rfl)
def Q2l(m:Q00):Tree Bool:=
.br m.A2 (.an (Q6k m) (.lv (Q4o m) λ(x0:Int)=> .lf (x0==0))) (.lf false)
def Q9a(m:Q00):Bool:=(Q2l m).m
abbrev Q6r(m:Q00):Prop:=(Q2l m).p
def Quo:Q0c:=mkP 47 [] true [.agg Q00.sig] [] (λargs rows=>Q6r (Q00.of (args.getD 0 .dead).cells)) (λargs rows=>Q9a (Q00.of (args.getD 0 .dead).cells)) (λX=> .bool X) (λX=>[])
theorem Qjb:Q08 Tryz.prog Quo:=Q0t Q0p Q0o (.cons Qf8 (.nil)) Tryz.func47 Tryz.call47 (λargs rows=>Q2l (Q00.of (args.getD 0 .dead).cells)) [] [] 2 (λ_ _ _=>by kernel_rfl) (λ_ _=>rfl) (λ_ _ h=>h) (λ_ X=>by kernel_rfl)
end
end Go.Proofs.YtjaifpiopmhmlaaGreat

/-
  Functions of the program: models, and that its calls come to them (by a program: gen3.py).
-/
import Derived.Test.YtpcbkbalabgnlaaGreatRecordOrderedBase
import Derived.Test.YtpcbkbalabgnlaaGreatRecordOrderedYa
set_option linter.unusedVariables false
set_option linter.unusedSimpArgs false
namespace Go.Proofs.YtpcbkbalabgnlaaGreat
open Go Go.GD Go.IntKind
set_option maxRecDepth 100000
noncomputable section
def tblYc0:List UInt8:=[(0:UInt8),1,2,2,3,3,3,3,4,4,4,4,4,4,4,4,5,5,5,5,5,5,5,5,5,5,5,5,5,5,5,5,6,6,6,6,6,6,6,6,6,6,6,6,6,6,6,6,6,6,6,6,6,6,6,6,6,6,6,6,6,6,6,6]
def Zbf:List UInt8:=[(7:UInt8),7,7,7,7,7,7,7,7,7,7,7,7,7,7,7,7,7,7,7,7,7,7,7,7,7,7,7,7,7,7,7,7,7,7,7,7,7,7,7,7,7,7,7,7,7,7,7,7,7,7,7,7,7,7,7,7,7,7,7,7,7,7,7]
def Qoz:List UInt8:=[(8:UInt8),8,8,8,8,8,8,8,8,8,8,8,8,8,8,8,8,8,8,8,8,8,8,8,8,8,8,8,8,8,8,8,8,8,8,8,8,8,8,8,8,8,8,8,8,8,8,8,8,8,8,8,8,8,8,8,8,8,8,8,8,8,8,8]
def Zh:List UInt8:=[(1:UInt8),2,2,3,3,3,3,4,4,4,4,4,4,4,4,5,5,5,5,5,5,5,5,5,5,5,5,5,5,5,5,6,6,6,6,6,6,6,6,6,6,6,6,6,6,6,6,6,6,6,6,6,6,6,6,6,6,6,6,6,6,6,6]
def tblYc4:List UInt8:=[(0:UInt8),1,1,2,1,2,2,3,1,2,2,3,2,3,3,4,1,2,2,3,2,3,3,4,2,3,3,4,3,4,4,5,1,2,2,3,2,3,3,4,2,3,3,4,3,4,4,5,2,3,3,4,3,4,4,5,3,4,4,5,4,5,5,6]
def Qp:List UInt8:=[(1:UInt8),2,2,3,2,3,3,4,2,3,3,4,3,4,4,5,2,3,3,4,3,4,4,5,3,4,4,5,4,5,5,6,2,3,3,4,3,4,4,5,3,4,4,5,4,5,5,6,3,4,4,5,4,5,5,6,4,5,5,6,5,6,6,7]
def Zbl:List UInt8:=[(2:UInt8),3,3,4,3,4,4,5,3,4,4,5,4,5,5,6,3,4,4,5,4,5,5,6,4,5,5,6,5,6,6,7,3,4,4,5,4,5,5,6,4,5,5,6,5,6,6,7,4,5,5,6,5,6,6,7,5,6,6,7,6,7,7,8]
def Zfl:List UInt8:=[(1:UInt8),1,2,1,2,2,3,1,2,2,3,2,3,3,4,1,2,2,3,2,3,3,4,2,3,3,4,3,4,4,5,1,2,2,3,2,3,3,4,2,3,3,4,3,4,4,5,2,3,3,4,3,4,4,5,3,4,4,5,4,5,5,6]
def Qrc(c:Q0b):Tree Bool:=
.lf (decide ((c.D1.length:Int)≤(16:Int)))
def Q2e(c:Q0b):Bool:=(Qrc c).m
def Z5z:Q0d:=mkR 119 [] true [.agg Q0b.sig] [] (λargs rows=>Q2e (Q0b.of (args.getD 0 .dead).cells)) (λX=> .bool X) (λX=>[])
theorem Z1z:Q05 Tryz.prog Z5z:=Q0z Q0i Q0j (.nil) Tryz.func119 Tryz.call119 (λargs rows=>Qrc (Q0b.of (args.getD 0 .dead).cells)) [] [] 2 (λ_ _ _=>by kernel_rfl) (λ_ _=>rfl) (λ_ _=>Tree.free_ok (by kernel_rfl)) (λ_ X=>by kernel_rfl)
def Qkx(t:Q0h):Tree Bool:=
.br t.D7 (.br (!t.D6) (.lf (t.C8 !=0)) (.lf false)) (.br t.D6 (.lf true) (.lf (t.C8==0)))
def Q4i(t:Q0h):Bool:=(Qkx t).m
def Zet:Q0d:=mkR 120 [] true [.agg Q0h.sig] [] (λargs rows=>Q4i (Q0h.of (args.getD 0 .dead).cells)) (λX=> .bool X) (λX=>[])
theorem Zb6:Q05 Tryz.prog Zet:=Q0z Q0i Q0j (.nil) Tryz.func120 Tryz.call120 (λargs rows=>Qkx (Q0h.of (args.getD 0 .dead).cells)) [] [] 2 (λ_ _ _=>by kernel_rfl) (λ_ _=>rfl) (λ_ _=>Tree.free_ok (by kernel_rfl)) (λ_ X=>by kernel_rfl)
def Q7q(d0:Q0c):Tree Bool:=
.br (d0.D8==1) (.lf (decide (d0.C3=[]))) (.br (d0.D8==2) (.lf ((d0.C3.length:Int)==(128:Int))) (.lf false))
def Q9t(d0:Q0c):Bool:=(Q7q d0).m
def Qto:Q0d:=mkR 171 [] true [.agg Q0c.sig] [] (λargs rows=>Q9t (Q0c.of (args.getD 0 .dead).cells)) (λX=> .bool X) (λX=>[])
theorem Qqq:Q05 Tryz.prog Qto:=Q0z Q0i Q0j (.nil) Tryz.func171 Tryz.call171 (λargs rows=>Q7q (Q0c.of (args.getD 0 .dead).cells)) [] [] 2 (λ_ _ _=>by kernel_rfl) (λ_ _=>rfl) (λ_ _=>Tree.free_ok (by kernel_rfl)) (λ_ X=>by kernel_rfl)
def Q6g(d0:Q0c)(pages:Int):Tree Bool:=
.br (decide (d0.Blocks>64)) (.lf false) (let T1:Tree (Bool):= .br (d0.D8==0) (.br (d0.B7==0) (.br (d0.B2==0) (.lf (decide (d0.C3=[]))) (.lf false)) (.lf false)) (.lf false); .br (d0.B9==0) T1 (.br (d0.B9==2) T1 (.br (d0.B9==3) T1 (.br (d0.B9==1) (.lv (Q9t d0) λ(x0:Bool)=> .br x0 (.br (decide (d0.B7<d0.Blocks)) (.lf (decide (wrap i64 d0.B2<pages))) (.lf false)) (.lf false)) (.lf false)))))
def Q1i(d0:Q0c)(pages:Int):Bool:=(Q6g d0 pages).m
def Zjn:Q0d:=mkR 121 [] true [.agg Q0c.sig, .one (.int .i64)] [] (λargs rows=>Q1i (Q0c.of (args.getD 0 .dead).cells) (argI args 1)) (λX=> .bool X) (λX=>[])
theorem Zd5:Q05 Tryz.prog Zjn:=Q0z Q0i Q0j (.cons Qqq (.nil)) Tryz.func121 Tryz.call121 (λargs rows=>Q6g (Q0c.of (args.getD 0 .dead).cells) (argI args 1)) [] [] 2 (λ_ _ _=>by kernel_rfl) (λ_ _=>rfl) (λ_ _=>Tree.free_ok (by kernel_rfl)) (λ_ X=>by kernel_rfl)
def Qjk(n:Q0m)(pages:Int):Tree Bool:=
let T1:Tree (Bool):=let T2:Tree (Bool):= .br n.B8 (.br (decide (n.F2≥1)) (.lf (decide (n.F2≤128))) (.lf false)) (.lf (n.F2==0)); .br n.C7 (.br (decide (wrap i64 n.C0≥pages)) (.lf false) T2) (.br (n.C0 !=0) (.lf false) T2); .br n.C7 (.br n.B8 (.lf false) T1) T1
def Q69(n:Q0m)(pages:Int):Bool:=(Qjk n pages).m
def nic_May_m:Q0d:=mkR 122 [] true [.agg Q0m.sig, .one (.int .i64)] [] (λargs rows=>Q69 (Q0m.of (args.getD 0 .dead).cells) (argI args 1)) (λX=> .bool X) (λX=>[])
theorem Zi7:Q05 Tryz.prog nic_May_m:=Q0z Q0i Q0j (.nil) Tryz.func122 Tryz.call122 (λargs rows=>Qjk (Q0m.of (args.getD 0 .dead).cells) (argI args 1)) [] [] 2 (λ_ _ _=>by kernel_rfl) (λ_ _=>rfl) (λ_ _=>Tree.free_ok (by kernel_rfl)) (λ_ X=>by kernel_rfl)
def Q1y(x:Int):Tree Int:=
let E1:=(↑(List.length (List.append (List.append tblYc0 Zbf) (List.append Qoz Qoz))):Int); .br (decide (x≥65536)) (.br (decide (ishr u32 x (16:Int)≥(256:Int))) (.cn (decide (0≤wrap u8 (ishr u32 (ishr u32 x 16) 8)∧wrap u8 (ishr u32 (ishr u32 x 16) 8)<E1)) (.lf (wrap i64 (wrap i64 ((16:Int)+(8:Int))+wrap i64 (↑(UInt8.toNat (List.getD ((0:UInt8)::(Zh++Zbf++(Qoz++Qoz))) (Int.toNat (wrap u8 (ishr u32 (ishr u32 x 16) 8))) (0:UInt8))):Int))))) (.cn (decide (0≤wrap u8 (ishr u32 x 16)∧wrap u8 (ishr u32 x 16)<E1)) (.lf (wrap i64 (16+wrap i64 (↑(UInt8.toNat (List.getD ((0:UInt8)::(Zh++Zbf++(Qoz++Qoz))) (Int.toNat (wrap u8 (ishr u32 x 16))) (0:UInt8))):Int)))))) (.br (decide (x≥256)) (.cn (decide (0≤wrap u8 (ishr u32 x 8)∧wrap u8 (ishr u32 x 8)<E1)) (.lf (wrap i64 (wrap i64 ((0:Int)+(8:Int))+wrap i64 (↑(UInt8.toNat (List.getD ((0:UInt8)::(Zh++Zbf++(Qoz++Qoz))) (Int.toNat (wrap u8 (ishr u32 x 8))) (0:UInt8))):Int))))) (.cn (decide (0≤wrap u8 x∧wrap u8 x<E1)) (.lf (wrap i64 (0+wrap i64 (↑(UInt8.toNat (List.getD ((0:UInt8)::(Zh++Zbf++(Qoz++Qoz))) (Int.toNat (wrap u8 x)) (0:UInt8))):Int))))))
def Q1l(x:Int):Int:=(Q1y x).m
abbrev Q5x(x:Int):Prop:=(Q1y x).p
def Qu6:Q0d:=mkP 172 [] true [.one (.int .u32)] [] (λargs rows=>Q5x (argI args 0)) (λargs rows=>Q1l (argI args 0)) (λX=> .int .i64 X) (λX=>[])
theorem Qqw:Q05 Tryz.prog Qu6:=Q0n Q0i Q0j (.nil) Tryz.func172 Tryz.call172 (λargs rows=>Q1y (argI args 0)) [] [] 2 (λ_ _ _=>by kernel_rfl) (λ_ _=>rfl) (λ_ _ h=>h) (λ_ X=>by kernel_rfl)
def Q3l(b:Q06)(pages:Int):Tree Bool:=
.an (Q5x b.C1) (.lv (Q1l b.C1) λ(x0:Int)=> .lf (decide (x0≤if 0>pages then 0 else pages)))
def Q2r(b:Q06)(pages:Int):Bool:=(Q3l b pages).m
abbrev Q7p(b:Q06)(pages:Int):Prop:=(Q3l b pages).p
def Z67:Q0d:=mkP 123 [] true [.agg Q06.sig, .one (.int .i64)] [] (λargs rows=>Q7p (Q06.of (args.getD 0 .dead).cells) (argI args 1)) (λargs rows=>Q2r (Q06.of (args.getD 0 .dead).cells) (argI args 1)) (λX=> .bool X) (λX=>[])
theorem Z15:Q05 Tryz.prog Z67:=Q0n Q0i Q0j (.cons Qqw (.nil)) Tryz.func123 Tryz.call123 (λargs rows=>Q3l (Q06.of (args.getD 0 .dead).cells) (argI args 1)) [] [] 2 (λ_ _ _=>by kernel_rfl) (λ_ _=>rfl) (λ_ _ h=>h) (λ_ X=>by kernel_rfl)
def Q1h(m:Q00):Tree Bool:=
.lv (Q0r m.Mem) λ(x0:Int)=> .lv (Q2e m.A3) λ(x1:Bool)=> .br x1 (.lv (Q4i m.B0) λ(x2:Bool)=> .br x2 (.lv (Q1i m.B1 x0) λ(x3:Bool)=> .br x3 (.lv (Q69 m.C5 x0) λ(x4:Bool)=> .br x4 (.an (Q7p m.A1 x0) (.lv (Q2r m.A1 x0) λ(x5:Bool)=> .lf x5)) (.lf false)) (.lf false)) (.lf false)) (.lf false)
def Q0v(m:Q00):Bool:=(Q1h m).m
abbrev Q1s(m:Q00):Prop:=(Q1h m).p
def Qom:Q0d:=mkP 90 [] true [.agg Q00.sig] [] (λargs rows=>Q1s (Q00.of (args.getD 0 .dead).cells)) (λargs rows=>Q0v (Q00.of (args.getD 0 .dead).cells)) (λX=> .bool X) (λX=>[])
theorem Qnf:Q05 Tryz.prog Qom:=Q0n Q0i Q0j (.cons Q4l (.cons Z1z (.cons Zb6 (.cons Zd5 (.cons Zi7 (.cons Z15 (.nil))))))) Tryz.func90 Tryz.call90 (λargs rows=>Q1h (Q00.of (args.getD 0 .dead).cells)) [] [] 2 (λ_ _ _=>by kernel_rfl) (λ_ _=>rfl) (λ_ _ h=>h) (λ_ X=>by kernel_rfl)
def Q4f(m:Q00):Tree Bool:=
.lv (Q0r m.Mem) λ(x0:Int)=> .br (x0==0) (.lf false) (.br (m.B3.X.a0 !=0) (.lf false) (.br (decide (m.B3.B6.a0>31)) (.lf false) (.br (decide (m.B3.B6.a7>31)) (.lf false) (.br (decide (m.B3.B6.a6>255)) (.lf false) (.br (Int.tmod m.B3.B6.a1 (4:Int) !=(0:Int)) (.lf false) (.br (decide (m.A2>1152921504606846976)) (.lf false) (.br m.A6 (.br m.A9 (.lf false) (.an (Q1s m) (.lv (Q0v m) λ(x1:Bool)=> .lf x1))) (.an (Q1s m) (.lv (Q0v m) λ(x2:Bool)=> .lf x2)))))))))
def Q1e(m:Q00):Bool:=(Q4f m).m
abbrev Q3j(m:Q00):Prop:=(Q4f m).p
def Z71:Q0d:=mkP 51 [] true [.agg Q00.sig] [] (λargs rows=>Q3j (Q00.of (args.getD 0 .dead).cells)) (λargs rows=>Q1e (Q00.of (args.getD 0 .dead).cells)) (λX=> .bool X) (λX=>[])
theorem Qjd:Q05 Tryz.prog Z71:=Q0n Q0i Q0j (.cons Q4l (.cons Qnf (.nil))) Tryz.func51 Tryz.call51 (λargs rows=>Q4f (Q00.of (args.getD 0 .dead).cells)) [] [] 2 (λ_ _ _=>by kernel_rfl) (λ_ _=>rfl) (λ_ _ h=>h) (λ_ X=>by kernel_rfl)
def Qm6(t:Q0h):Tree Bool:=
.lf t.D6
def Qg5(t:Q0h):Bool:=(Qm6 t).m
def Qzo:Q0d:=mkR 175 [] true [.agg Q0h.sig] [] (λargs rows=>Qg5 (Q0h.of (args.getD 0 .dead).cells)) (λX=> .bool X) (λX=>[])
theorem Qwh:Q05 Tryz.prog Qzo:=Q0z Q0i Q0j (.nil) Tryz.func175 Tryz.call175 (λargs rows=>Qm6 (Q0h.of (args.getD 0 .dead).cells)) [] [] 2 (λ_ _ _=>by kernel_rfl) (λ_ _=>rfl) (λ_ _=>Tree.free_ok (by kernel_rfl)) (λ_ X=>by kernel_rfl)
def Qka(c:Q0b):Tree Bool:=
.lf (!decide (c.D1=[]))
def Q9a(c:Q0b):Bool:=(Qka c).m
def Qsv:Q0d:=mkR 176 [] true [.agg Q0b.sig] [] (λargs rows=>Q9a (Q0b.of (args.getD 0 .dead).cells)) (λX=> .bool X) (λX=>[])
theorem Qrn:Q05 Tryz.prog Qsv:=Q0z Q0i Q0j (.nil) Tryz.func176 Tryz.call176 (λargs rows=>Qka (Q0b.of (args.getD 0 .dead).cells)) [] [] 2 (λ_ _ _=>by kernel_rfl) (λ_ _=>rfl) (λ_ _=>Tree.free_ok (by kernel_rfl)) (λ_ X=>by kernel_rfl)
def Qiy(d0:Q0c):Tree Bool:=
.br (d0.B9==2) (.lf true) (.lf (d0.B9==3))
def Q99(d0:Q0c):Bool:=(Qiy d0).m
def Z1w:Q0d:=mkR 177 [] true [.agg Q0c.sig] [] (λargs rows=>Q99 (Q0c.of (args.getD 0 .dead).cells)) (λX=> .bool X) (λX=>[])
theorem Qmf:Q05 Tryz.prog Z1w:=Q0z Q0i Q0j (.nil) Tryz.func177 Tryz.call177 (λargs rows=>Qiy (Q0c.of (args.getD 0 .dead).cells)) [] [] 2 (λ_ _ _=>by kernel_rfl) (λ_ _=>rfl) (λ_ _=>Tree.free_ok (by kernel_rfl)) (λ_ X=>by kernel_rfl)
def Qrl(n:Q0m):Tree Bool:=
.lf n.B8
def Qld(n:Q0m):Bool:=(Qrl n).m
def Z6w:Q0d:=mkR 178 [] true [.agg Q0m.sig] [] (λargs rows=>Qld (Q0m.of (args.getD 0 .dead).cells)) (λX=> .bool X) (λX=>[])
theorem Z1o:Q05 Tryz.prog Z6w:=Q0z Q0i Q0j (.nil) Tryz.func178 Tryz.call178 (λargs rows=>Qrl (Q0m.of (args.getD 0 .dead).cells)) [] [] 2 (λ_ _ _=>by kernel_rfl) (λ_ _=>rfl) (λ_ _=>Tree.free_ok (by kernel_rfl)) (λ_ X=>by kernel_rfl)
def Q1o(x:Int):Tree Int:=
let E1:=(↑(List.length (List.append (List.append tblYc4 Qp) (List.append Qp Zbl))):Int); .cn (decide (0≤ishr u32 x 24∧ishr u32 x 24<E1)) (.cn (decide (0≤iand u32 (ishr u32 x 16) 255∧iand u32 (ishr u32 x 16) 255<E1)) (.cn (decide (0≤iand u32 (ishr u32 x 8) 255∧iand u32 (ishr u32 x 8) 255<E1)) (.cn (decide (0≤iand u32 x 255∧iand u32 x 255<E1)) (.lf (wrap i64 (wrap u8 (wrap u8 (wrap u8 ((↑(UInt8.toNat (List.getD ((0:UInt8)::(Zfl++Qp++(Qp++Zbl))) (Int.toNat (ishr u32 x 24)) (0:UInt8))):Int)+(↑(UInt8.toNat (List.getD ((0:UInt8)::(Zfl++Qp++(Qp++Zbl))) (Int.toNat (iand u32 (ishr u32 x 16) 255)) (0:UInt8))):Int))+(↑(UInt8.toNat (List.getD ((0:UInt8)::(Zfl++Qp++(Qp++Zbl))) (Int.toNat (iand u32 (ishr u32 x 8) 255)) (0:UInt8))):Int))+(↑(UInt8.toNat (List.getD ((0:UInt8)::(Zfl++Qp++(Qp++Zbl))) (Int.toNat (iand u32 x 255)) (0:UInt8))):Int))))))))
def Q70(x:Int):Int:=(Q1o x).m
abbrev Q30(x:Int):Prop:=(Q1o x).p
def Qky:Q0d:=mkP 234 [] true [.one (.int .u32)] [] (λargs rows=>Q30 (argI args 0)) (λargs rows=>Q70 (argI args 0)) (λX=> .int .i64 X) (λX=>[])
theorem Qk0:Q05 Tryz.prog Qky:=Q0n Q0i Q0j (.nil) Tryz.func234 Tryz.call234 (λargs rows=>Q1o (argI args 0)) [] [] 2 (λ_ _ _=>by kernel_rfl) (λ_ _=>rfl) (λ_ _ h=>h) (λ_ X=>by kernel_rfl)
def Q4q(b:Q06):Tree Int:=
.an (Q30 b.C1) (.lv (Q70 b.C1) λ(x0:Int)=> .lf x0)
def Qd0(b:Q06):Int:=(Q4q b).m
abbrev Q5p(b:Q06):Prop:=(Q4q b).p
def Qy4:Q0d:=mkP 194 [] true [.agg Q06.sig] [] (λargs rows=>Q5p (Q06.of (args.getD 0 .dead).cells)) (λargs rows=>Qd0 (Q06.of (args.getD 0 .dead).cells)) (λX=> .int .i64 X) (λX=>[])
theorem Qlg:Q05 Tryz.prog Qy4:=Q0n Q0i Q0j (.cons Qk0 (.nil)) Tryz.func194 Tryz.call194 (λargs rows=>Q4q (Q06.of (args.getD 0 .dead).cells)) [] [] 2 (λ_ _ _=>by kernel_rfl) (λ_ _=>rfl) (λ_ _ h=>h) (λ_ X=>by kernel_rfl)
def Q2k(b:Q06):Tree Bool:=
.an (Q5p b) (.lv (Qd0 b) λ(x0:Int)=> .lf (wrap u32 x0 !=b.C9))
def Q7l(b:Q06):Bool:=(Q2k b).m
abbrev Q5y(b:Q06):Prop:=(Q2k b).p
def Qty:Q0d:=mkP 179 [] true [.agg Q06.sig] [] (λargs rows=>Q5y (Q06.of (args.getD 0 .dead).cells)) (λargs rows=>Q7l (Q06.of (args.getD 0 .dead).cells)) (λX=> .bool X) (λX=>[])
theorem Qrj:Q05 Tryz.prog Qty:=Q0n Q0i Q0j (.cons Qlg (.nil)) Tryz.func179 Tryz.call179 (λargs rows=>Q2k (Q06.of (args.getD 0 .dead).cells)) [] [] 2 (λ_ _ _=>by kernel_rfl) (λ_ _=>rfl) (λ_ _ h=>h) (λ_ X=>by kernel_rfl)
def Qhz(m:Q00)(z:(Int)×(Int)):Nat:=(5-z.2).toNat
def Q3t(m:Q00):Tree Int:=
.lv (Qg5 m.B0) λ(x0:Bool)=> .lv (Q9a m.A3) λ(x1:Bool)=> .lv (Q99 m.B1) λ(x2:Bool)=> .lv (Qld m.C5) λ(x3:Bool)=> .an (Q5y m.A1) (.lv (Q7l m.A1) λ(x4:Bool)=> .lp inferInstance (Qhz m (0,0)+1) ((rE (0:Int)∧(rE (x0:Bool)∧rE (x1:Bool)∧rE (x2:Bool)∧rE (x3:Bool)∧rE (x4:Bool)∧True)∧rE (0:Int)∧True)∧True) (0,0) λ(v0:Int×Int)=> .br (decide (v0.2<5)) (.cn (Nat.beq 1 1&&(Nat.beq 5 5&&decide (0≤v0.2∧v0.2<(↑5:Int)))) (.br (List.getD [x0,x1,x2,x3,x4] v0.2.toNat false) (.cn (decide (0≤v0.2)) (.nx ((rE ((ior u32 v0.1 (ishl u32 1 v0.2)):Int)∧(rE (x0:Bool)∧rE (x1:Bool)∧rE (x2:Bool)∧rE (x3:Bool)∧rE (x4:Bool)∧True)∧rE ((wrap i64 (v0.2+1)):Int)∧True)∧True) (Sum.inl (ior u32 v0.1 (ishl u32 1 v0.2),wrap i64 (v0.2+1))))) (.nx ((rE v0.1∧(rE (x0:Bool)∧rE (x1:Bool)∧rE (x2:Bool)∧rE (x3:Bool)∧rE (x4:Bool)∧True)∧rE ((wrap i64 (v0.2+1)):Int)∧True)∧True) (Sum.inl (v0.1,wrap i64 (v0.2+1)))))) (.lf (Sum.inr v0.1)))
def Qcx(m:Q00):Int:=(Q3t m).m
abbrev Q7r(m:Q00):Prop:=(Q3t m).p
def Qvz:LInv:={
 α:=(Int)×(Int)
 F:=λst a=>([(4, .int u32 a.1),(23,(lk st 23)),(24, .int i64 a.2)],[])
 a0:=λst=>((lk st 4).toInt,(lk st 24).toInt)
 ex0:=λst=>[]++[]
 next:=λst=>((lk st 4).toInt,(lk st 24).toInt)
 ex:=λst=>[]++[]}
def Qrg:List (Nat×LInv):=[(4,Qvz)]
def Z0h:Q0d:=mkP 128 [] true [.agg Q00.sig] [] (λargs rows=>Q7r (Q00.of (args.getD 0 .dead).cells)) (λargs rows=>Qcx (Q00.of (args.getD 0 .dead).cells)) (λX=> .int .u32 X) (λX=>[])
theorem Qwa:Q05 Tryz.prog Z0h:=Q0n Q0i Q0j (.cons Qwh (.cons Qrn (.cons Qmf (.cons Z1o (.cons Qrj (.nil)))))) Tryz.func128 Tryz.call128 (λargs rows=>Q3t (Q00.of (args.getD 0 .dead).cells)) [] Qrg 3 (λ_ _ _=>by kernel_rfl) (λ_ _=>rfl) (λ_ _ h=>h) (λ_ X=>by kernel_rfl)
def Q1x(m:Q00):Tree Int:=
.an (Q7r m) (.lv (Qcx m) λ(x0:Int)=> .lf (iand u32 x0 m.B3.B6.a7))
def Q63(m:Q00):Int:=(Q1x m).m
abbrev Q48(m:Q00):Prop:=(Q1x m).p
def Qst:Q0d:=mkP 95 [] true [.agg Q00.sig] [] (λargs rows=>Q48 (Q00.of (args.getD 0 .dead).cells)) (λargs rows=>Q63 (Q00.of (args.getD 0 .dead).cells)) (λX=> .int .u32 X) (λX=>[])
theorem Qis:Q05 Tryz.prog Qst:=Q0n Q0i Q0j (.cons Qwa (.nil)) Tryz.func95 Tryz.call95 (λargs rows=>Q1x (Q00.of (args.getD 0 .dead).cells)) [] [] 2 (λ_ _ _=>by kernel_rfl) (λ_ _=>rfl) (λ_ _ h=>h) (λ_ X=>by kernel_rfl)
def Q2z(m:Q00):Tree Bool:=
.br m.A6 (.an (Q48 m) (.lv (Q63 m) λ(x0:Int)=> .lf (x0==0))) (.lf false)
def Q6r(m:Q00):Bool:=(Q2z m).m
abbrev Q34(m:Q00):Prop:=(Q2z m).p
def Z1x:Q0d:=mkP 56 [] true [.agg Q00.sig] [] (λargs rows=>Q34 (Q00.of (args.getD 0 .dead).cells)) (λargs rows=>Q6r (Q00.of (args.getD 0 .dead).cells)) (λX=> .bool X) (λX=>[])
theorem Qmc:Q05 Tryz.prog Z1x:=Q0n Q0i Q0j (.cons Qis (.nil)) Tryz.func56 Tryz.call56 (λargs rows=>Q2z (Q00.of (args.getD 0 .dead).cells)) [] [] 2 (λ_ _ _=>by kernel_rfl) (λ_ _=>rfl) (λ_ _ h=>h) (λ_ X=>by kernel_rfl)
end
end Go.Proofs.YtpcbkbalabgnlaaGreat

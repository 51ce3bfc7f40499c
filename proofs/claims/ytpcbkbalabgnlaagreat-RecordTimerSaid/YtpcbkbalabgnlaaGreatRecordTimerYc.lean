/-
  Functions of the program: models, and that its calls come to them (by a program: gen3.py).
-/
import Derived.Test.YtpcbkbalabgnlaaGreatRecordTimerBase
import Derived.Test.YtpcbkbalabgnlaaGreatRecordTimerYa
set_option linter.unusedVariables false
set_option linter.unusedSimpArgs false
namespace Go.Proofs.YtpcbkbalabgnlaaGreat
open Go Go.GD Go.IntKind
set_option maxRecDepth 100000
noncomputable section
def tblYc0:List UInt8:=[(0:UInt8),1,2,2,3,3,3,3,4,4,4,4,4,4,4,4,5,5,5,5,5,5,5,5,5,5,5,5,5,5,5,5,6,6,6,6,6,6,6,6,6,6,6,6,6,6,6,6,6,6,6,6,6,6,6,6,6,6,6,6,6,6,6,6]
def Z31:List UInt8:=[(7:UInt8),7,7,7,7,7,7,7,7,7,7,7,7,7,7,7,7,7,7,7,7,7,7,7,7,7,7,7,7,7,7,7,7,7,7,7,7,7,7,7,7,7,7,7,7,7,7,7,7,7,7,7,7,7,7,7,7,7,7,7,7,7,7,7]
def Ql3:List UInt8:=[(8:UInt8),8,8,8,8,8,8,8,8,8,8,8,8,8,8,8,8,8,8,8,8,8,8,8,8,8,8,8,8,8,8,8,8,8,8,8,8,8,8,8,8,8,8,8,8,8,8,8,8,8,8,8,8,8,8,8,8,8,8,8,8,8,8,8]
def Z78:List UInt8:=[(1:UInt8),2,2,3,3,3,3,4,4,4,4,4,4,4,4,5,5,5,5,5,5,5,5,5,5,5,5,5,5,5,5,6,6,6,6,6,6,6,6,6,6,6,6,6,6,6,6,6,6,6,6,6,6,6,6,6,6,6,6,6,6,6,6]
def tblYc4:List UInt8:=[(0:UInt8),1,1,2,1,2,2,3,1,2,2,3,2,3,3,4,1,2,2,3,2,3,3,4,2,3,3,4,3,4,4,5,1,2,2,3,2,3,3,4,2,3,3,4,3,4,4,5,2,3,3,4,3,4,4,5,3,4,4,5,4,5,5,6]
def Ql0:List UInt8:=[(1:UInt8),2,2,3,2,3,3,4,2,3,3,4,3,4,4,5,2,3,3,4,3,4,4,5,3,4,4,5,4,5,5,6,2,3,3,4,3,4,4,5,3,4,4,5,4,5,5,6,3,4,4,5,4,5,5,6,4,5,5,6,5,6,6,7]
def Z1q:List UInt8:=[(2:UInt8),3,3,4,3,4,4,5,3,4,4,5,4,5,5,6,3,4,4,5,4,5,5,6,4,5,5,6,5,6,6,7,3,4,4,5,4,5,5,6,4,5,5,6,5,6,6,7,4,5,5,6,5,6,6,7,5,6,6,7,6,7,7,8]
def Z8i:List UInt8:=[(1:UInt8),1,2,1,2,2,3,1,2,2,3,2,3,3,4,1,2,2,3,2,3,3,4,2,3,3,4,3,4,4,5,1,2,2,3,2,3,3,4,2,3,3,4,3,4,4,5,2,3,3,4,3,4,4,5,3,4,4,5,4,5,5,6]
def Qmv(c:Q0d):Tree Bool:=
.lf (decide ((c.D3.length:Int)≤(16:Int)))
def Q30(c:Q0d):Bool:=(Qmv c).m
def Qzp:Q0f:=mkR 119 [] true [.agg Q0d.sig] [] (λargs rows=>Q30 (Q0d.of (args.getD 0 .dead).cells)) (λX=> .bool X) (λX=>[])
theorem Qw7:Q08 Tryz.prog Qzp:=Q2c Q0s Q0t (.nil) Tryz.func119 Tryz.call119 (λargs rows=>Qmv (Q0d.of (args.getD 0 .dead).cells)) [] [] 2 (λ_ _ _=>by kernel_rfl) (λ_ _=>rfl) (λ_ _=>Tree.free_ok (by kernel_rfl)) (λ_ X=>by kernel_rfl)
def Qhy(t:Q0g):Tree Bool:=
.br t.D4 (.br (!t.D6) (.lf (t.C6 !=0)) (.lf false)) (.br t.D6 (.lf true) (.lf (t.C6==0)))
def Q5o(t:Q0g):Bool:=(Qhy t).m
def Z5t:Q0f:=mkR 120 [] true [.agg Q0g.sig] [] (λargs rows=>Q5o (Q0g.of (args.getD 0 .dead).cells)) (λX=> .bool X) (λX=>[])
theorem Z35:Q08 Tryz.prog Z5t:=Q2c Q0s Q0t (.nil) Tryz.func120 Tryz.call120 (λargs rows=>Qhy (Q0g.of (args.getD 0 .dead).cells)) [] [] 2 (λ_ _ _=>by kernel_rfl) (λ_ _=>rfl) (λ_ _=>Tree.free_ok (by kernel_rfl)) (λ_ X=>by kernel_rfl)
def Q6r(d0:Q0b):Tree Bool:=
.br (d0.D9==1) (.lf (decide (d0.C2=[]))) (.br (d0.D9==2) (.lf ((d0.C2.length:Int)==(128:Int))) (.lf false))
def Q8b(d0:Q0b):Bool:=(Q6r d0).m
def Qol:Q0f:=mkR 171 [] true [.agg Q0b.sig] [] (λargs rows=>Q8b (Q0b.of (args.getD 0 .dead).cells)) (λX=> .bool X) (λX=>[])
theorem Qna:Q08 Tryz.prog Qol:=Q2c Q0s Q0t (.nil) Tryz.func171 Tryz.call171 (λargs rows=>Q6r (Q0b.of (args.getD 0 .dead).cells)) [] [] 2 (λ_ _ _=>by kernel_rfl) (λ_ _=>rfl) (λ_ _=>Tree.free_ok (by kernel_rfl)) (λ_ X=>by kernel_rfl)
def Q5u(d0:Q0b)(pages:Int):Tree Bool:=
.br (decide (d0.Blocks>64)) (.lf false) (let T1:Tree (Bool):= .br (d0.D9==0) (.br (d0.B6==0) (.br (d0.A9==0) (.lf (decide (d0.C2=[]))) (.lf false)) (.lf false)) (.lf false); .br (d0.B8==0) T1 (.br (d0.B8==2) T1 (.br (d0.B8==3) T1 (.br (d0.B8==1) (.lv (Q8b d0) λ(x0:Bool)=> .br x0 (.br (decide (d0.B6<d0.Blocks)) (.lf (decide (wrap i64 d0.A9<pages))) (.lf false)) (.lf false)) (.lf false)))))
def Q1e(d0:Q0b)(pages:Int):Bool:=(Q5u d0 pages).m
def Zad:Q0f:=mkR 121 [] true [.agg Q0b.sig, .one (.int .i64)] [] (λargs rows=>Q1e (Q0b.of (args.getD 0 .dead).cells) (argI args 1)) (λX=> .bool X) (λX=>[])
theorem Z4y:Q08 Tryz.prog Zad:=Q2c Q0s Q0t (.cons Qna (.nil)) Tryz.func121 Tryz.call121 (λargs rows=>Q5u (Q0b.of (args.getD 0 .dead).cells) (argI args 1)) [] [] 2 (λ_ _ _=>by kernel_rfl) (λ_ _=>rfl) (λ_ _=>Tree.free_ok (by kernel_rfl)) (λ_ X=>by kernel_rfl)
def Qh1(n:Q0m)(pages:Int):Tree Bool:=
let T1:Tree (Bool):=let T2:Tree (Bool):= .br n.B7 (.br (decide (n.F3≥1)) (.lf (decide (n.F3≤128))) (.lf false)) (.lf (n.F3==0)); .br n.C4 (.br (decide (wrap i64 n.B9≥pages)) (.lf false) T2) (.br (n.B9 !=0) (.lf false) T2); .br n.C4 (.br n.B7 (.lf false) T1) T1
def Q6t(n:Q0m)(pages:Int):Bool:=(Qh1 n pages).m
def nic_May_m:Q0f:=mkR 122 [] true [.agg Q0m.sig, .one (.int .i64)] [] (λargs rows=>Q6t (Q0m.of (args.getD 0 .dead).cells) (argI args 1)) (λX=> .bool X) (λX=>[])
theorem Zat:Q08 Tryz.prog nic_May_m:=Q2c Q0s Q0t (.nil) Tryz.func122 Tryz.call122 (λargs rows=>Qh1 (Q0m.of (args.getD 0 .dead).cells) (argI args 1)) [] [] 2 (λ_ _ _=>by kernel_rfl) (λ_ _=>rfl) (λ_ _=>Tree.free_ok (by kernel_rfl)) (λ_ X=>by kernel_rfl)
def Q1q(x:Int):Tree Int:=
let E1:=(↑(List.length (List.append (List.append tblYc0 Z31) (List.append Ql3 Ql3))):Int); .br (decide (x≥65536)) (.br (decide (ishr u32 x (16:Int)≥(256:Int))) (.cn (decide (0≤wrap u8 (ishr u32 (ishr u32 x 16) 8)∧wrap u8 (ishr u32 (ishr u32 x 16) 8)<E1)) (.lf (wrap i64 (wrap i64 ((16:Int)+(8:Int))+wrap i64 (↑(UInt8.toNat (List.getD ((0:UInt8)::(Z78++Z31++(Ql3++Ql3))) (Int.toNat (wrap u8 (ishr u32 (ishr u32 x 16) 8))) (0:UInt8))):Int))))) (.cn (decide (0≤wrap u8 (ishr u32 x 16)∧wrap u8 (ishr u32 x 16)<E1)) (.lf (wrap i64 (16+wrap i64 (↑(UInt8.toNat (List.getD ((0:UInt8)::(Z78++Z31++(Ql3++Ql3))) (Int.toNat (wrap u8 (ishr u32 x 16))) (0:UInt8))):Int)))))) (.br (decide (x≥256)) (.cn (decide (0≤wrap u8 (ishr u32 x 8)∧wrap u8 (ishr u32 x 8)<E1)) (.lf (wrap i64 (wrap i64 ((0:Int)+(8:Int))+wrap i64 (↑(UInt8.toNat (List.getD ((0:UInt8)::(Z78++Z31++(Ql3++Ql3))) (Int.toNat (wrap u8 (ishr u32 x 8))) (0:UInt8))):Int))))) (.cn (decide (0≤wrap u8 x∧wrap u8 x<E1)) (.lf (wrap i64 (0+wrap i64 (↑(UInt8.toNat (List.getD ((0:UInt8)::(Z78++Z31++(Ql3++Ql3))) (Int.toNat (wrap u8 x)) (0:UInt8))):Int))))))
def Q1k(x:Int):Int:=(Q1q x).m
abbrev Q5q(x:Int):Prop:=(Q1q x).p
def Qpo:Q0f:=mkP 172 [] true [.one (.int .u32)] [] (λargs rows=>Q5q (argI args 0)) (λargs rows=>Q1k (argI args 0)) (λX=> .int .i64 X) (λX=>[])
theorem Qnu:Q08 Tryz.prog Qpo:=Q0z Q0s Q0t (.nil) Tryz.func172 Tryz.call172 (λargs rows=>Q1q (argI args 0)) [] [] 2 (λ_ _ _=>by kernel_rfl) (λ_ _=>rfl) (λ_ _ h=>h) (λ_ X=>by kernel_rfl)
def Q3y(b:Q07)(pages:Int):Tree Bool:=
.an (Q5q b.C1) (.lv (Q1k b.C1) λ(x0:Int)=> .lf (decide (x0≤if 0>pages then 0 else pages)))
def Q3c(b:Q07)(pages:Int):Bool:=(Q3y b pages).m
abbrev Q8k(b:Q07)(pages:Int):Prop:=(Q3y b pages).p
def Z0k:Q0f:=mkP 123 [] true [.agg Q07.sig, .one (.int .i64)] [] (λargs rows=>Q8k (Q07.of (args.getD 0 .dead).cells) (argI args 1)) (λargs rows=>Q3c (Q07.of (args.getD 0 .dead).cells) (argI args 1)) (λX=> .bool X) (λX=>[])
theorem Qvr:Q08 Tryz.prog Z0k:=Q0z Q0s Q0t (.cons Qnu (.nil)) Tryz.func123 Tryz.call123 (λargs rows=>Q3y (Q07.of (args.getD 0 .dead).cells) (argI args 1)) [] [] 2 (λ_ _ _=>by kernel_rfl) (λ_ _=>rfl) (λ_ _ h=>h) (λ_ X=>by kernel_rfl)
def Q1n(m:Q00):Tree Bool:=
.lv (Q0o m.Mem) λ(x0:Int)=> .lv (Q30 m.A2) λ(x1:Bool)=> .br x1 (.lv (Q5o m.A7) λ(x2:Bool)=> .br x2 (.lv (Q1e m.B0 x0) λ(x3:Bool)=> .br x3 (.lv (Q6t m.C5 x0) λ(x4:Bool)=> .br x4 (.an (Q8k m.A1 x0) (.lv (Q3c m.A1 x0) λ(x5:Bool)=> .lf x5)) (.lf false)) (.lf false)) (.lf false)) (.lf false)
def Q0v(m:Q00):Bool:=(Q1n m).m
abbrev Q2p(m:Q00):Prop:=(Q1n m).p
def Qko:Q0f:=mkP 90 [] true [.agg Q00.sig] [] (λargs rows=>Q2p (Q00.of (args.getD 0 .dead).cells)) (λargs rows=>Q0v (Q00.of (args.getD 0 .dead).cells)) (λX=> .bool X) (λX=>[])
theorem Qjk:Q08 Tryz.prog Qko:=Q0z Q0s Q0t (.cons Q48 (.cons Qw7 (.cons Z35 (.cons Z4y (.cons Zat (.cons Qvr (.nil))))))) Tryz.func90 Tryz.call90 (λargs rows=>Q1n (Q00.of (args.getD 0 .dead).cells)) [] [] 2 (λ_ _ _=>by kernel_rfl) (λ_ _=>rfl) (λ_ _ h=>h) (λ_ X=>by kernel_rfl)
def Q61(m:Q00):Tree Bool:=
.lv (Q0o m.Mem) λ(x0:Int)=> .br (x0==0) (.lf false) (.br (m.B2.X.a0 !=0) (.lf false) (.br (decide (m.B2.B5.a0>31)) (.lf false) (.br (decide (m.B2.B5.a7>31)) (.lf false) (.br (decide (m.B2.B5.a6>255)) (.lf false) (.br (Int.tmod m.B2.B5.a1 (4:Int) !=(0:Int)) (.lf false) (.br (decide (m.A4>1152921504606846976)) (.lf false) (.br m.A3 (.br m.A6 (.lf false) (.an (Q2p m) (.lv (Q0v m) λ(x1:Bool)=> .lf x1))) (.an (Q2p m) (.lv (Q0v m) λ(x2:Bool)=> .lf x2)))))))))
def Q1c(m:Q00):Bool:=(Q61 m).m
abbrev Q5l(m:Q00):Prop:=(Q61 m).p
def Qyo:Q0f:=mkP 51 [] true [.agg Q00.sig] [] (λargs rows=>Q5l (Q00.of (args.getD 0 .dead).cells)) (λargs rows=>Q1c (Q00.of (args.getD 0 .dead).cells)) (λX=> .bool X) (λX=>[])
theorem Qgf:Q08 Tryz.prog Qyo:=Q0z Q0s Q0t (.cons Q48 (.cons Qjk (.nil))) Tryz.func51 Tryz.call51 (λargs rows=>Q61 (Q00.of (args.getD 0 .dead).cells)) [] [] 2 (λ_ _ _=>by kernel_rfl) (λ_ _=>rfl) (λ_ _ h=>h) (λ_ X=>by kernel_rfl)
def Qit(t:Q0g):Tree Bool:=
.lf t.D6
def Qe2(t:Q0g):Bool:=(Qit t).m
def Qu6:Q0f:=mkR 175 [] true [.agg Q0g.sig] [] (λargs rows=>Qe2 (Q0g.of (args.getD 0 .dead).cells)) (λX=> .bool X) (λX=>[])
theorem Qr:Q08 Tryz.prog Qu6:=Q2c Q0s Q0t (.nil) Tryz.func175 Tryz.call175 (λargs rows=>Qit (Q0g.of (args.getD 0 .dead).cells)) [] [] 2 (λ_ _ _=>by kernel_rfl) (λ_ _=>rfl) (λ_ _=>Tree.free_ok (by kernel_rfl)) (λ_ X=>by kernel_rfl)
def Qgt(c:Q0d):Tree Bool:=
.lf (!decide (c.D3=[]))
def Q8f(c:Q0d):Bool:=(Qgt c).m
def Qoy:Q0f:=mkR 176 [] true [.agg Q0d.sig] [] (λargs rows=>Q8f (Q0d.of (args.getD 0 .dead).cells)) (λX=> .bool X) (λX=>[])
theorem Qn6:Q08 Tryz.prog Qoy:=Q2c Q0s Q0t (.nil) Tryz.func176 Tryz.call176 (λargs rows=>Qgt (Q0d.of (args.getD 0 .dead).cells)) [] [] 2 (λ_ _ _=>by kernel_rfl) (λ_ _=>rfl) (λ_ _=>Tree.free_ok (by kernel_rfl)) (λ_ X=>by kernel_rfl)
def Qgg(d0:Q0b):Tree Bool:=
.br (d0.B8==2) (.lf true) (.lf (d0.B8==3))
def Q85(d0:Q0b):Bool:=(Qgg d0).m
def Qvf:Q0f:=mkR 177 [] true [.agg Q0b.sig] [] (λargs rows=>Q85 (Q0b.of (args.getD 0 .dead).cells)) (λX=> .bool X) (λX=>[])
theorem Qjq:Q08 Tryz.prog Qvf:=Q2c Q0s Q0t (.nil) Tryz.func177 Tryz.call177 (λargs rows=>Qgg (Q0b.of (args.getD 0 .dead).cells)) [] [] 2 (λ_ _ _=>by kernel_rfl) (λ_ _=>rfl) (λ_ _=>Tree.free_ok (by kernel_rfl)) (λ_ X=>by kernel_rfl)
def Qnq(n:Q0m):Tree Bool:=
.lf n.B7
def Qi1(n:Q0m):Bool:=(Qnq n).m
def Z0x:Q0f:=mkR 178 [] true [.agg Q0m.sig] [] (λargs rows=>Qi1 (Q0m.of (args.getD 0 .dead).cells)) (λX=> .bool X) (λX=>[])
theorem Qvm:Q08 Tryz.prog Z0x:=Q2c Q0s Q0t (.nil) Tryz.func178 Tryz.call178 (λargs rows=>Qnq (Q0m.of (args.getD 0 .dead).cells)) [] [] 2 (λ_ _ _=>by kernel_rfl) (λ_ _=>rfl) (λ_ _=>Tree.free_ok (by kernel_rfl)) (λ_ X=>by kernel_rfl)
def Q1j(x:Int):Tree Int:=
let E1:=(↑(List.length (List.append (List.append tblYc4 Ql0) (List.append Ql0 Z1q))):Int); .cn (decide (0≤ishr u32 x 24∧ishr u32 x 24<E1)) (.cn (decide (0≤iand u32 (ishr u32 x 16) 255∧iand u32 (ishr u32 x 16) 255<E1)) (.cn (decide (0≤iand u32 (ishr u32 x 8) 255∧iand u32 (ishr u32 x 8) 255<E1)) (.cn (decide (0≤iand u32 x 255∧iand u32 x 255<E1)) (.lf (wrap i64 (wrap u8 (wrap u8 (wrap u8 ((↑(UInt8.toNat (List.getD ((0:UInt8)::(Z8i++Ql0++(Ql0++Z1q))) (Int.toNat (ishr u32 x 24)) (0:UInt8))):Int)+(↑(UInt8.toNat (List.getD ((0:UInt8)::(Z8i++Ql0++(Ql0++Z1q))) (Int.toNat (iand u32 (ishr u32 x 16) 255)) (0:UInt8))):Int))+(↑(UInt8.toNat (List.getD ((0:UInt8)::(Z8i++Ql0++(Ql0++Z1q))) (Int.toNat (iand u32 (ishr u32 x 8) 255)) (0:UInt8))):Int))+(↑(UInt8.toNat (List.getD ((0:UInt8)::(Z8i++Ql0++(Ql0++Z1q))) (Int.toNat (iand u32 x 255)) (0:UInt8))):Int))))))))
def Q65(x:Int):Int:=(Q1j x).m
abbrev Q2w(x:Int):Prop:=(Q1j x).p
def Qhc:Q0f:=mkP 234 [] true [.one (.int .u32)] [] (λargs rows=>Q2w (argI args 0)) (λargs rows=>Q65 (argI args 0)) (λX=> .int .i64 X) (λX=>[])
theorem Qgp:Q08 Tryz.prog Qhc:=Q0z Q0s Q0t (.nil) Tryz.func234 Tryz.call234 (λargs rows=>Q1j (argI args 0)) [] [] 2 (λ_ _ _=>by kernel_rfl) (λ_ _=>rfl) (λ_ _ h=>h) (λ_ X=>by kernel_rfl)
def Q40(b:Q07):Tree Int:=
.an (Q2w b.C1) (.lv (Q65 b.C1) λ(x0:Int)=> .lf x0)
def Qb8(b:Q07):Int:=(Q40 b).m
abbrev Q59(b:Q07):Prop:=(Q40 b).p
def Qt4:Q0f:=mkP 194 [] true [.agg Q07.sig] [] (λargs rows=>Q59 (Q07.of (args.getD 0 .dead).cells)) (λargs rows=>Qb8 (Q07.of (args.getD 0 .dead).cells)) (λX=> .int .i64 X) (λX=>[])
theorem Qif:Q08 Tryz.prog Qt4:=Q0z Q0s Q0t (.cons Qgp (.nil)) Tryz.func194 Tryz.call194 (λargs rows=>Q40 (Q07.of (args.getD 0 .dead).cells)) [] [] 2 (λ_ _ _=>by kernel_rfl) (λ_ _=>rfl) (λ_ _ h=>h) (λ_ X=>by kernel_rfl)
def Q2h(b:Q07):Tree Bool:=
.an (Q59 b) (.lv (Qb8 b) λ(x0:Int)=> .lf (wrap u32 x0 !=b.C7))
def Q6y(b:Q07):Bool:=(Q2h b).m
abbrev Q5p(b:Q07):Prop:=(Q2h b).p
def Qod:Q0f:=mkP 179 [] true [.agg Q07.sig] [] (λargs rows=>Q5p (Q07.of (args.getD 0 .dead).cells)) (λargs rows=>Q6y (Q07.of (args.getD 0 .dead).cells)) (λX=> .bool X) (λX=>[])
theorem Qmr:Q08 Tryz.prog Qod:=Q0z Q0s Q0t (.cons Qif (.nil)) Tryz.func179 Tryz.call179 (λargs rows=>Q2h (Q07.of (args.getD 0 .dead).cells)) [] [] 2 (λ_ _ _=>by kernel_rfl) (λ_ _=>rfl) (λ_ _ h=>h) (λ_ X=>by kernel_rfl)
def Qeu(m:Q00)(z:(Int)×(Int)):Nat:=(5-z.2).toNat
def Q3g(m:Q00):Tree Int:=
.lv (Qe2 m.A7) λ(x0:Bool)=> .lv (Q8f m.A2) λ(x1:Bool)=> .lv (Q85 m.B0) λ(x2:Bool)=> .lv (Qi1 m.C5) λ(x3:Bool)=> .an (Q5p m.A1) (.lv (Q6y m.A1) λ(x4:Bool)=> .lp inferInstance (Qeu m (0,0)+1) ((rE (0:Int)∧(rE (x0:Bool)∧rE (x1:Bool)∧rE (x2:Bool)∧rE (x3:Bool)∧rE (x4:Bool)∧True)∧rE (0:Int)∧True)∧True) (0,0) λ(v0:Int×Int)=> .br (decide (v0.2<5)) (.cn (Nat.beq 1 1&&(Nat.beq 5 5&&decide (0≤v0.2∧v0.2<(↑5:Int)))) (.br (List.getD [x0,x1,x2,x3,x4] v0.2.toNat false) (.cn (decide (0≤v0.2)) (.nx ((rE ((ior u32 v0.1 (ishl u32 1 v0.2)):Int)∧(rE (x0:Bool)∧rE (x1:Bool)∧rE (x2:Bool)∧rE (x3:Bool)∧rE (x4:Bool)∧True)∧rE ((wrap i64 (v0.2+1)):Int)∧True)∧True) (Sum.inl (ior u32 v0.1 (ishl u32 1 v0.2),wrap i64 (v0.2+1))))) (.nx ((rE v0.1∧(rE (x0:Bool)∧rE (x1:Bool)∧rE (x2:Bool)∧rE (x3:Bool)∧rE (x4:Bool)∧True)∧rE ((wrap i64 (v0.2+1)):Int)∧True)∧True) (Sum.inl (v0.1,wrap i64 (v0.2+1)))))) (.lf (Sum.inr v0.1)))
def Qbj(m:Q00):Int:=(Q3g m).m
abbrev Q7(m:Q00):Prop:=(Q3g m).p
def Qrf:LInv:={
 α:=(Int)×(Int)
 F:=λst a=>([(4, .int u32 a.1),(23,(lk st 23)),(24, .int i64 a.2)],[])
 a0:=λst=>((lk st 4).toInt,(lk st 24).toInt)
 ex0:=λst=>[]++[]
 next:=λst=>((lk st 4).toInt,(lk st 24).toInt)
 ex:=λst=>[]++[]}
def Qmf:List (Nat×LInv):=[(4,Qrf)]
def Qth:Q0f:=mkP 128 [] true [.agg Q00.sig] [] (λargs rows=>Q7 (Q00.of (args.getD 0 .dead).cells)) (λargs rows=>Qbj (Q00.of (args.getD 0 .dead).cells)) (λX=> .int .u32 X) (λX=>[])
theorem Qqt:Q08 Tryz.prog Qth:=Q0z Q0s Q0t (.cons Qr (.cons Qn6 (.cons Qjq (.cons Qvm (.cons Qmr (.nil)))))) Tryz.func128 Tryz.call128 (λargs rows=>Q3g (Q00.of (args.getD 0 .dead).cells)) [] Qmf 3 (λ_ _ _=>by kernel_rfl) (λ_ _=>rfl) (λ_ _ h=>h) (λ_ X=>by kernel_rfl)
def Q1p(m:Q00):Tree Int:=
.an (Q7 m) (.lv (Qbj m) λ(x0:Int)=> .lf (iand u32 x0 m.B2.B5.a7))
def Q5c(m:Q00):Int:=(Q1p m).m
abbrev Q3s(m:Q00):Prop:=(Q1p m).p
def Qph:Q0f:=mkP 95 [] true [.agg Q00.sig] [] (λargs rows=>Q3s (Q00.of (args.getD 0 .dead).cells)) (λargs rows=>Q5c (Q00.of (args.getD 0 .dead).cells)) (λX=> .int .u32 X) (λX=>[])
theorem Qg5:Q08 Tryz.prog Qph:=Q0z Q0s Q0t (.cons Qqt (.nil)) Tryz.func95 Tryz.call95 (λargs rows=>Q1p (Q00.of (args.getD 0 .dead).cells)) [] [] 2 (λ_ _ _=>by kernel_rfl) (λ_ _=>rfl) (λ_ _ h=>h) (λ_ X=>by kernel_rfl)
def Q2u(m:Q00):Tree Bool:=
.br m.A3 (.an (Q3s m) (.lv (Q5c m) λ(x0:Int)=> .lf (x0==0))) (.lf false)
def Q60(m:Q00):Bool:=(Q2u m).m
abbrev Q3(m:Q00):Prop:=(Q2u m).p
def Qwf:Q0f:=mkP 56 [] true [.agg Q00.sig] [] (λargs rows=>Q3 (Q00.of (args.getD 0 .dead).cells)) (λargs rows=>Q60 (Q00.of (args.getD 0 .dead).cells)) (λX=> .bool X) (λX=>[])
theorem Qiq:Q08 Tryz.prog Qwf:=Q0z Q0s Q0t (.cons Qg5 (.nil)) Tryz.func56 Tryz.call56 (λargs rows=>Q2u (Q00.of (args.getD 0 .dead).cells)) [] [] 2 (λ_ _ _=>by kernel_rfl) (λ_ _=>rfl) (λ_ _ h=>h) (λ_ X=>by kernel_rfl)
end
end Go.Proofs.YtpcbkbalabgnlaaGreat

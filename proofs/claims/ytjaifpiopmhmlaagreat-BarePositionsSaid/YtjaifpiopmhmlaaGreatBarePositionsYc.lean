/-
  Functions of the program: models, and that its calls come to them (by a program: gen3.py).
-/
import Derived.Test.YtjaifpiopmhmlaaGreatBarePositionsBase
import Derived.Test.YtjaifpiopmhmlaaGreatBarePositionsYa
set_option maxRecDepth 100000
set_option linter.unusedVariables false
set_option linter.unusedSimpArgs false
namespace Go.Proofs.YtjaifpiopmhmlaaGreat
open Go Go.GD Go.IntKind
noncomputable section
def tblYc0:List UInt8:=[(0:UInt8),1,2,2,3,3,3,3,4,4,4,4,4,4,4,4,5,5,5,5,5,5,5,5,5,5,5,5,5,5,5,5,6,6,6,6,6,6,6,6,6,6,6,6,6,6,6,6,6,6,6,6,6,6,6,6,6,6,6,6,6,6,6,6]
def Zck:List UInt8:=[(7:UInt8),7,7,7,7,7,7,7,7,7,7,7,7,7,7,7,7,7,7,7,7,7,7,7,7,7,7,7,7,7,7,7,7,7,7,7,7,7,7,7,7,7,7,7,7,7,7,7,7,7,7,7,7,7,7,7,7,7,7,7,7,7,7,7]
def Qp:List UInt8:=[(8:UInt8),8,8,8,8,8,8,8,8,8,8,8,8,8,8,8,8,8,8,8,8,8,8,8,8,8,8,8,8,8,8,8,8,8,8,8,8,8,8,8,8,8,8,8,8,8,8,8,8,8,8,8,8,8,8,8,8,8,8,8,8,8,8,8]
def Zi5:List UInt8:=[(1:UInt8),2,2,3,3,3,3,4,4,4,4,4,4,4,4,5,5,5,5,5,5,5,5,5,5,5,5,5,5,5,5,6,6,6,6,6,6,6,6,6,6,6,6,6,6,6,6,6,6,6,6,6,6,6,6,6,6,6,6,6,6,6,6]
def tblYc4:List UInt8:=[(0:UInt8),1,1,2,1,2,2,3,1,2,2,3,2,3,3,4,1,2,2,3,2,3,3,4,2,3,3,4,3,4,4,5,1,2,2,3,2,3,3,4,2,3,3,4,3,4,4,5,2,3,3,4,3,4,4,5,3,4,4,5,4,5,5,6]
def Qp0:List UInt8:=[(1:UInt8),2,2,3,2,3,3,4,2,3,3,4,3,4,4,5,2,3,3,4,3,4,4,5,3,4,4,5,4,5,5,6,2,3,3,4,3,4,4,5,3,4,4,5,4,5,5,6,3,4,4,5,4,5,5,6,4,5,5,6,5,6,6,7]
def Zcr:List UInt8:=[(2:UInt8),3,3,4,3,4,4,5,3,4,4,5,4,5,5,6,3,4,4,5,4,5,5,6,4,5,5,6,5,6,6,7,3,4,4,5,4,5,5,6,4,5,5,6,5,6,6,7,4,5,5,6,5,6,6,7,5,6,6,7,6,7,7,8]
def Zho:List UInt8:=[(1:UInt8),1,2,1,2,2,3,1,2,2,3,2,3,3,4,1,2,2,3,2,3,3,4,2,3,3,4,3,4,4,5,1,2,2,3,2,3,3,4,2,3,3,4,3,4,4,5,2,3,3,4,3,4,4,5,3,4,4,5,4,5,5,6]
def Qsc(c:Q0b):Tree Bool:=
.lf (decide ((c.D3.length:Int)≤(16:Int)))
def Q25(c:Q0b):Bool:=(Qsc c).m
def Z6f:Q0c:=mkR 147 [] true [.agg Q0b.sig] [] (λargs rows=>Q25 (Q0b.of (args.getD 0 .dead).cells)) (λX=> .bool X) (λX=>[])
theorem Z35:Q05 Tryz.prog Z6f:=Q0z Q0k Q0l (.nil) Tryz.func147 Tryz.call147 (λargs rows=>Qsc (Q0b.of (args.getD 0 .dead).cells)) [] [] 2 (λ_ _ _=>by kernel_rfl) (λ_ _=>rfl) (λ_ _=>Tree.free_ok (by kernel_rfl)) (λ_ X=>by kernel_rfl)
def Ql9(t:Q0g):Tree Bool:=
.br t.D2 (.br (!t.D6) (.lf (t.D0 !=0)) (.lf false)) (.br t.D6 (.lf true) (.lf (t.D0==0)))
def Q3t(t:Q0g):Bool:=(Ql9 t).m
def Zfd:Q0c:=mkR 148 [] true [.agg Q0g.sig] [] (λargs rows=>Q3t (Q0g.of (args.getD 0 .dead).cells)) (λX=> .bool X) (λX=>[])
theorem Zdi:Q05 Tryz.prog Zfd:=Q0z Q0k Q0l (.nil) Tryz.func148 Tryz.call148 (λargs rows=>Ql9 (Q0g.of (args.getD 0 .dead).cells)) [] [] 2 (λ_ _ _=>by kernel_rfl) (λ_ _=>rfl) (λ_ _=>Tree.free_ok (by kernel_rfl)) (λ_ X=>by kernel_rfl)
def Q6n(d0:Q0d):Tree Bool:=
.br (d0.D8==1) (.lf (decide (d0.C3=[]))) (.br (d0.D8==2) (.lf ((d0.C3.length:Int)==(128:Int))) (.lf false))
def Q8q(d0:Q0d):Bool:=(Q6n d0).m
def Qsx:Q0c:=mkR 206 [] true [.agg Q0d.sig] [] (λargs rows=>Q8q (Q0d.of (args.getD 0 .dead).cells)) (λX=> .bool X) (λX=>[])
theorem Qrw:Q05 Tryz.prog Qsx:=Q0z Q0k Q0l (.nil) Tryz.func206 Tryz.call206 (λargs rows=>Q6n (Q0d.of (args.getD 0 .dead).cells)) [] [] 2 (λ_ _ _=>by kernel_rfl) (λ_ _=>rfl) (λ_ _=>Tree.free_ok (by kernel_rfl)) (λ_ X=>by kernel_rfl)
def Q5o(d0:Q0d)(pages:Int):Tree Bool:=
.br (decide (d0.Blocks>64)) (.lf false) (let T1:Tree (Bool):= .br (d0.D8==0) (.br (d0.B7==0) (.br (d0.B2==0) (.lf (decide (d0.C3=[]))) (.lf false)) (.lf false)) (.lf false); .br (d0.C0==0) T1 (.br (d0.C0==2) T1 (.br (d0.C0==3) T1 (.br (d0.C0==1) (.lv (Q8q d0) λ(x0:Bool)=> .br x0 (.br (decide (d0.B7<d0.Blocks)) (.lf (decide (wrap i64 d0.B2<pages))) (.lf false)) (.lf false)) (.lf false)))))
def Q1c(d0:Q0d)(pages:Int):Bool:=(Q5o d0 pages).m
def Zl1:Q0c:=mkR 149 [] true [.agg Q0d.sig, .one (.int .i64)] [] (λargs rows=>Q1c (Q0d.of (args.getD 0 .dead).cells) (argI args 1)) (λX=> .bool X) (λX=>[])
theorem Zdx:Q05 Tryz.prog Zl1:=Q0z Q0k Q0l (.cons Qrw (.nil)) Tryz.func149 Tryz.call149 (λargs rows=>Q5o (Q0d.of (args.getD 0 .dead).cells) (argI args 1)) [] [] 2 (λ_ _ _=>by kernel_rfl) (λ_ _=>rfl) (λ_ _=>Tree.free_ok (by kernel_rfl)) (λ_ X=>by kernel_rfl)
def Qjr(n:Q0p)(pages:Int):Tree Bool:=
let T1:Tree (Bool):=let T2:Tree (Bool):= .br n.B8 (.br (decide (n.F2≥1)) (.lf (decide (n.F2≤128))) (.lf false)) (.lf (n.F2==0)); .br n.C6 (.br (decide (wrap i64 n.C1≥pages)) (.lf false) T2) (.br (n.C1 !=0) (.lf false) T2); .br n.C6 (.br n.B8 (.lf false) T1) T1
def Q5j(n:Q0p)(pages:Int):Bool:=(Qjr n pages).m
def nic_May_m:Q0c:=mkR 150 [] true [.agg Q0p.sig, .one (.int .i64)] [] (λargs rows=>Q5j (Q0p.of (args.getD 0 .dead).cells) (argI args 1)) (λX=> .bool X) (λX=>[])
theorem Zjm:Q05 Tryz.prog nic_May_m:=Q0z Q0k Q0l (.nil) Tryz.func150 Tryz.call150 (λargs rows=>Qjr (Q0p.of (args.getD 0 .dead).cells) (argI args 1)) [] [] 2 (λ_ _ _=>by kernel_rfl) (λ_ _=>rfl) (λ_ _=>Tree.free_ok (by kernel_rfl)) (λ_ X=>by kernel_rfl)
def Q1n(x:Int):Tree Int:=
let E1:=(↑(List.length (List.append (List.append tblYc0 Zck) (List.append Qp Qp))):Int); .br (decide (x≥65536)) (.br (decide (ishr u32 x (16:Int)≥(256:Int))) (.cn (decide (0≤wrap u8 (ishr u32 (ishr u32 x 16) 8)∧wrap u8 (ishr u32 (ishr u32 x 16) 8)<E1)) (.lf (wrap i64 (wrap i64 ((16:Int)+(8:Int))+wrap i64 (↑(UInt8.toNat (List.getD ((0:UInt8)::(Zi5++Zck++(Qp++Qp))) (Int.toNat (wrap u8 (ishr u32 (ishr u32 x 16) 8))) (0:UInt8))):Int))))) (.cn (decide (0≤wrap u8 (ishr u32 x 16)∧wrap u8 (ishr u32 x 16)<E1)) (.lf (wrap i64 (16+wrap i64 (↑(UInt8.toNat (List.getD ((0:UInt8)::(Zi5++Zck++(Qp++Qp))) (Int.toNat (wrap u8 (ishr u32 x 16))) (0:UInt8))):Int)))))) (.br (decide (x≥256)) (.cn (decide (0≤wrap u8 (ishr u32 x 8)∧wrap u8 (ishr u32 x 8)<E1)) (.lf (wrap i64 (wrap i64 ((0:Int)+(8:Int))+wrap i64 (↑(UInt8.toNat (List.getD ((0:UInt8)::(Zi5++Zck++(Qp++Qp))) (Int.toNat (wrap u8 (ishr u32 x 8))) (0:UInt8))):Int))))) (.cn (decide (0≤wrap u8 x∧wrap u8 x<E1)) (.lf (wrap i64 (0+wrap i64 (↑(UInt8.toNat (List.getD ((0:UInt8)::(Zi5++Zck++(Qp++Qp))) (Int.toNat (wrap u8 x)) (0:UInt8))):Int))))))
def Q1e(x:Int):Int:=(Q1n x).m
abbrev Qan(x:Int):Prop:=(Q1n x).p
def Qu9:Q0c:=mkP 207 [] true [.one (.int .u32)] [] (λargs rows=>Qan (argI args 0)) (λargs rows=>Q1e (argI args 0)) (λX=> .int .i64 X) (λX=>[])
theorem Qqt:Q05 Tryz.prog Qu9:=Q0n Q0k Q0l (.nil) Tryz.func207 Tryz.call207 (λargs rows=>Q1n (argI args 0)) [] [] 2 (λ_ _ _=>by kernel_rfl) (λ_ _=>rfl) (λ_ _ h=>h) (λ_ X=>by kernel_rfl)
def Q3n(b:Q07)(pages:Int):Tree Bool:=
.an (Qan b.C2) (.lv (Q1e b.C2) λ(x0:Int)=> .lf (decide (x0≤if 0>pages then 0 else pages)))
def Q2f(b:Q07)(pages:Int):Bool:=(Q3n b pages).m
abbrev Qbp(b:Q07)(pages:Int):Prop:=(Q3n b pages).p
def Z8y:Q0c:=mkP 151 [] true [.agg Q07.sig, .one (.int .i64)] [] (λargs rows=>Qbp (Q07.of (args.getD 0 .dead).cells) (argI args 1)) (λargs rows=>Q2f (Q07.of (args.getD 0 .dead).cells) (argI args 1)) (λX=> .bool X) (λX=>[])
theorem Z25:Q05 Tryz.prog Z8y:=Q0n Q0k Q0l (.cons Qqt (.nil)) Tryz.func151 Tryz.call151 (λargs rows=>Q3n (Q07.of (args.getD 0 .dead).cells) (argI args 1)) [] [] 2 (λ_ _ _=>by kernel_rfl) (λ_ _=>rfl) (λ_ _ h=>h) (λ_ X=>by kernel_rfl)
def Q1k(m:Q00):Tree Bool:=
.lv (Q0v m.Mem) λ(x0:Int)=> .lv (Q25 m.A3) λ(x1:Bool)=> .br x1 (.lv (Q3t m.B0) λ(x2:Bool)=> .br x2 (.lv (Q1c m.B1 x0) λ(x3:Bool)=> .br x3 (.lv (Q5j m.C5 x0) λ(x4:Bool)=> .br x4 (.an (Qbp m.A2 x0) (.lv (Q2f m.A2 x0) λ(x5:Bool)=> .lf x5)) (.lf false)) (.lf false)) (.lf false)) (.lf false)
def Q0x(m:Q00):Bool:=(Q1k m).m
abbrev Q2h(m:Q00):Prop:=(Q1k m).p
def Qom:Q0c:=mkP 85 [] true [.agg Q00.sig] [] (λargs rows=>Q2h (Q00.of (args.getD 0 .dead).cells)) (λargs rows=>Q0x (Q00.of (args.getD 0 .dead).cells)) (λX=> .bool X) (λX=>[])
theorem Qma:Q05 Tryz.prog Qom:=Q0n Q0k Q0l (.cons Q3u (.cons Z35 (.cons Zdi (.cons Zdx (.cons Zjm (.cons Z25 (.nil))))))) Tryz.func85 Tryz.call85 (λargs rows=>Q1k (Q00.of (args.getD 0 .dead).cells)) [] [] 2 (λ_ _ _=>by kernel_rfl) (λ_ _=>rfl) (λ_ _ h=>h) (λ_ X=>by kernel_rfl)
def Q4n(m:Q00):Tree Bool:=
.lv (Q0v m.Mem) λ(x0:Int)=> .br (x0==0) (.lf false) (.br (m.B3.X.a0 !=0) (.lf false) (.br (decide (m.B3.B6.a0>31)) (.lf false) (.br (decide (m.B3.B6.a7>31)) (.lf false) (.br (decide (m.B3.B6.a6>255)) (.lf false) (.br (Int.tmod m.B3.B6.a1 (4:Int) !=(0:Int)) (.lf false) (.br (decide (m.A1>1152921504606846976)) (.lf false) (.br m.A6 (.br m.A7 (.lf false) (.an (Q2h m) (.lv (Q0x m) λ(x1:Bool)=> .lf x1))) (.an (Q2h m) (.lv (Q0x m) λ(x2:Bool)=> .lf x2)))))))))
def Q19(m:Q00):Bool:=(Q4n m).m
abbrev Q53(m:Q00):Prop:=(Q4n m).p
def Z71:Q0c:=mkP 43 [] true [.agg Q00.sig] [] (λargs rows=>Q53 (Q00.of (args.getD 0 .dead).cells)) (λargs rows=>Q19 (Q00.of (args.getD 0 .dead).cells)) (λX=> .bool X) (λX=>[])
theorem Qix:Q05 Tryz.prog Z71:=Q0n Q0k Q0l (.cons Q3u (.cons Qma (.nil))) Tryz.func43 Tryz.call43 (λargs rows=>Q4n (Q00.of (args.getD 0 .dead).cells)) [] [] 2 (λ_ _ _=>by kernel_rfl) (λ_ _=>rfl) (λ_ _ h=>h) (λ_ X=>by kernel_rfl)
def Qmg(t:Q0g):Tree Bool:=
.lf t.D6
def Qfj(t:Q0g):Bool:=(Qmg t).m
def Qzz:Q0c:=mkR 92 [] true [.agg Q0g.sig] [] (λargs rows=>Qfj (Q0g.of (args.getD 0 .dead).cells)) (λX=> .bool X) (λX=>[])
theorem Qwq:Q05 Tryz.prog Qzz:=Q0z Q0k Q0l (.nil) Tryz.func92 Tryz.call92 (λargs rows=>Qmg (Q0g.of (args.getD 0 .dead).cells)) [] [] 2 (λ_ _ _=>by kernel_rfl) (λ_ _=>rfl) (λ_ _=>Tree.free_ok (by kernel_rfl)) (λ_ X=>by kernel_rfl)
def Qkc(c:Q0b):Tree Bool:=
.lf (!decide (c.D3=[]))
def Q8t(c:Q0b):Bool:=(Qkc c).m
def Qts:Q0c:=mkR 93 [] true [.agg Q0b.sig] [] (λargs rows=>Q8t (Q0b.of (args.getD 0 .dead).cells)) (λX=> .bool X) (λX=>[])
theorem Qr5:Q05 Tryz.prog Qts:=Q0z Q0k Q0l (.nil) Tryz.func93 Tryz.call93 (λargs rows=>Qkc (Q0b.of (args.getD 0 .dead).cells)) [] [] 2 (λ_ _ _=>by kernel_rfl) (λ_ _=>rfl) (λ_ _=>Tree.free_ok (by kernel_rfl)) (λ_ X=>by kernel_rfl)
def Qit(d0:Q0d):Tree Bool:=
.br (d0.C0==2) (.lf true) (.lf (d0.C0==3))
def Q8p(d0:Q0d):Bool:=(Qit d0).m
def Z3g:Q0c:=mkR 94 [] true [.agg Q0d.sig] [] (λargs rows=>Q8p (Q0d.of (args.getD 0 .dead).cells)) (λX=> .bool X) (λX=>[])
theorem Qmi:Q05 Tryz.prog Z3g:=Q0z Q0k Q0l (.nil) Tryz.func94 Tryz.call94 (λargs rows=>Qit (Q0d.of (args.getD 0 .dead).cells)) [] [] 2 (λ_ _ _=>by kernel_rfl) (λ_ _=>rfl) (λ_ _=>Tree.free_ok (by kernel_rfl)) (λ_ X=>by kernel_rfl)
def Qqu(n:Q0p):Tree Bool:=
.lf n.B8
def Qkq(n:Q0p):Bool:=(Qqu n).m
def Z8h:Q0c:=mkR 95 [] true [.agg Q0p.sig] [] (λargs rows=>Qkq (Q0p.of (args.getD 0 .dead).cells)) (λX=> .bool X) (λX=>[])
theorem Z3d:Q05 Tryz.prog Z8h:=Q0z Q0k Q0l (.nil) Tryz.func95 Tryz.call95 (λargs rows=>Qqu (Q0p.of (args.getD 0 .dead).cells)) [] [] 2 (λ_ _ _=>by kernel_rfl) (λ_ _=>rfl) (λ_ _=>Tree.free_ok (by kernel_rfl)) (λ_ X=>by kernel_rfl)
def Q3(x:Int):Tree Int:=
let E1:=(↑(List.length (List.append (List.append tblYc4 Qp0) (List.append Qp0 Zcr))):Int); .cn (decide (0≤ishr u32 x 24∧ishr u32 x 24<E1)) (.cn (decide (0≤iand u32 (ishr u32 x 16) 255∧iand u32 (ishr u32 x 16) 255<E1)) (.cn (decide (0≤iand u32 (ishr u32 x 8) 255∧iand u32 (ishr u32 x 8) 255<E1)) (.cn (decide (0≤iand u32 x 255∧iand u32 x 255<E1)) (.lf (wrap i64 (wrap u8 (wrap u8 (wrap u8 ((↑(UInt8.toNat (List.getD ((0:UInt8)::(Zho++Qp0++(Qp0++Zcr))) (Int.toNat (ishr u32 x 24)) (0:UInt8))):Int)+(↑(UInt8.toNat (List.getD ((0:UInt8)::(Zho++Qp0++(Qp0++Zcr))) (Int.toNat (iand u32 (ishr u32 x 16) 255)) (0:UInt8))):Int))+(↑(UInt8.toNat (List.getD ((0:UInt8)::(Zho++Qp0++(Qp0++Zcr))) (Int.toNat (iand u32 (ishr u32 x 8) 255)) (0:UInt8))):Int))+(↑(UInt8.toNat (List.getD ((0:UInt8)::(Zho++Qp0++(Qp0++Zcr))) (Int.toNat (iand u32 x 255)) (0:UInt8))):Int))))))))
def Q63(x:Int):Int:=(Q3 x).m
abbrev Qaa(x:Int):Prop:=(Q3 x).p
def Qky:Q0c:=mkP 208 [] true [.one (.int .u32)] [] (λargs rows=>Qaa (argI args 0)) (λargs rows=>Q63 (argI args 0)) (λX=> .int .i64 X) (λX=>[])
theorem Qjb:Q05 Tryz.prog Qky:=Q0n Q0k Q0l (.nil) Tryz.func208 Tryz.call208 (λargs rows=>Q3 (argI args 0)) [] [] 2 (λ_ _ _=>by kernel_rfl) (λ_ _=>rfl) (λ_ _ h=>h) (λ_ X=>by kernel_rfl)
def Q8j(b:Q07):Tree Int:=
.an (Qaa b.C2) (.lv (Q63 b.C2) λ(x0:Int)=> .lf x0)
def Qbt(b:Q07):Int:=(Q8j b).m
abbrev Qdg(b:Q07):Prop:=(Q8j b).p
def Z0p:Q0c:=mkP 152 [] true [.agg Q07.sig] [] (λargs rows=>Qdg (Q07.of (args.getD 0 .dead).cells)) (λargs rows=>Qbt (Q07.of (args.getD 0 .dead).cells)) (λX=> .int .i64 X) (λX=>[])
theorem Qlw:Q05 Tryz.prog Z0p:=Q0n Q0k Q0l (.cons Qjb (.nil)) Tryz.func152 Tryz.call152 (λargs rows=>Q8j (Q07.of (args.getD 0 .dead).cells)) [] [] 2 (λ_ _ _=>by kernel_rfl) (λ_ _=>rfl) (λ_ _ h=>h) (λ_ X=>by kernel_rfl)
def Q50(b:Q07):Tree Bool:=
.an (Qdg b) (.lv (Qbt b) λ(x0:Int)=> .lf (wrap u32 x0 !=b.C9))
def Q6l(b:Q07):Bool:=(Q50 b).m
abbrev Qh1(b:Q07):Prop:=(Q50 b).p
def Qsw:Q0c:=mkP 96 [] true [.agg Q07.sig] [] (λargs rows=>Qh1 (Q07.of (args.getD 0 .dead).cells)) (λargs rows=>Q6l (Q07.of (args.getD 0 .dead).cells)) (λX=> .bool X) (λX=>[])
theorem Qr6:Q05 Tryz.prog Qsw:=Q0n Q0k Q0l (.cons Qlw (.nil)) Tryz.func96 Tryz.call96 (λargs rows=>Q50 (Q07.of (args.getD 0 .dead).cells)) [] [] 2 (λ_ _ _=>by kernel_rfl) (λ_ _=>rfl) (λ_ _ h=>h) (λ_ X=>by kernel_rfl)
def Qhl(m:Q00)(z:(Int)×(Int)):Nat:=(5-z.2).toNat
def Q6q(m:Q00):Tree Int:=
.lv (Qfj m.B0) λ(x0:Bool)=> .lv (Q8t m.A3) λ(x1:Bool)=> .lv (Q8p m.B1) λ(x2:Bool)=> .lv (Qkq m.C5) λ(x3:Bool)=> .an (Qh1 m.A2) (.lv (Q6l m.A2) λ(x4:Bool)=> .lp inferInstance (Qhl m (0,0)+1) ((rE (0:Int)∧(rE (x0:Bool)∧rE (x1:Bool)∧rE (x2:Bool)∧rE (x3:Bool)∧rE (x4:Bool)∧True)∧rE (0:Int)∧True)∧True) (0,0) λ(v0:Int×Int)=> .br (decide (v0.2<5)) (.cn (Nat.beq 1 1&&(Nat.beq 5 5&&decide (0≤v0.2∧v0.2<(↑5:Int)))) (.br (List.getD [x0,x1,x2,x3,x4] v0.2.toNat false) (.cn (decide (0≤v0.2)) (.nx ((rE ((ior u32 v0.1 (ishl u32 1 v0.2)):Int)∧(rE (x0:Bool)∧rE (x1:Bool)∧rE (x2:Bool)∧rE (x3:Bool)∧rE (x4:Bool)∧True)∧rE ((wrap i64 (v0.2+1)):Int)∧True)∧True) (Sum.inl (ior u32 v0.1 (ishl u32 1 v0.2),wrap i64 (v0.2+1))))) (.nx ((rE v0.1∧(rE (x0:Bool)∧rE (x1:Bool)∧rE (x2:Bool)∧rE (x3:Bool)∧rE (x4:Bool)∧True)∧rE ((wrap i64 (v0.2+1)):Int)∧True)∧True) (Sum.inl (v0.1,wrap i64 (v0.2+1)))))) (.lf (Sum.inr v0.1)))
def Qbv(m:Q00):Int:=(Q6q m).m
abbrev Qji(m:Q00):Prop:=(Q6q m).p
def Qxf:LInv:={
 α:=(Int)×(Int)
 F:=λst a=>([(4, .int u32 a.1),(23,(lk st 23)),(24, .int i64 a.2)],[])
 a0:=λst=>((lk st 4).toInt,(lk st 24).toInt)
 ex0:=λst=>[]++[]
 next:=λst=>((lk st 4).toInt,(lk st 24).toInt)
 ex:=λst=>[]++[]}
def Qqv:List (Nat×LInv):=[(4,Qxf)]
def Z0e:Q0c:=mkP 45 [] true [.agg Q00.sig] [] (λargs rows=>Qji (Q00.of (args.getD 0 .dead).cells)) (λargs rows=>Qbv (Q00.of (args.getD 0 .dead).cells)) (λX=> .int .u32 X) (λX=>[])
theorem Qx3:Q05 Tryz.prog Z0e:=Q0n Q0k Q0l (.cons Qwq (.cons Qr5 (.cons Qmi (.cons Z3d (.cons Qr6 (.nil)))))) Tryz.func45 Tryz.call45 (λargs rows=>Q6q (Q00.of (args.getD 0 .dead).cells)) [] Qqv 3 (λ_ _ _=>by kernel_rfl) (λ_ _=>rfl) (λ_ _ h=>h) (λ_ X=>by kernel_rfl)
def Q2o(m:Q00):Tree Int:=
.an (Qji m) (.lv (Qbv m) λ(x0:Int)=> .lf (iand u32 x0 m.B3.B6.a7))
def Q5a(m:Q00):Int:=(Q2o m).m
abbrev Qaw(m:Q00):Prop:=(Q2o m).p
def Quf:Q0c:=mkP 103 [] true [.agg Q00.sig] [] (λargs rows=>Qaw (Q00.of (args.getD 0 .dead).cells)) (λargs rows=>Q5a (Q00.of (args.getD 0 .dead).cells)) (λX=> .int .u32 X) (λX=>[])
theorem Qij:Q05 Tryz.prog Quf:=Q0n Q0k Q0l (.cons Qx3 (.nil)) Tryz.func103 Tryz.call103 (λargs rows=>Q2o (Q00.of (args.getD 0 .dead).cells)) [] [] 2 (λ_ _ _=>by kernel_rfl) (λ_ _=>rfl) (λ_ _ h=>h) (λ_ X=>by kernel_rfl)
def Q2s(m:Q00):Tree Bool:=
.br m.A6 (.an (Qaw m) (.lv (Q5a m) λ(x0:Int)=> .lf (x0==0))) (.lf false)
def Q33(m:Q00):Bool:=(Q2s m).m
abbrev Q5m(m:Q00):Prop:=(Q2s m).p
def Z2i:Q0c:=mkP 47 [] true [.agg Q00.sig] [] (λargs rows=>Q5m (Q00.of (args.getD 0 .dead).cells)) (λargs rows=>Q33 (Q00.of (args.getD 0 .dead).cells)) (λX=> .bool X) (λX=>[])
theorem Qmz:Q05 Tryz.prog Z2i:=Q0n Q0k Q0l (.cons Qij (.nil)) Tryz.func47 Tryz.call47 (λargs rows=>Q2s (Q00.of (args.getD 0 .dead).cells)) [] [] 2 (λ_ _ _=>by kernel_rfl) (λ_ _=>rfl) (λ_ _ h=>h) (λ_ X=>by kernel_rfl)
end
end Go.Proofs.YtjaifpiopmhmlaaGreat

/-
  Functions of the program: models, and that its calls come to them (by a program: gen3.py).
-/
import Derived.Test.YtpcbkbalabgnlaaGreatRecordPiecesBase
import Derived.Test.YtpcbkbalabgnlaaGreatRecordPiecesYa
set_option linter.unusedVariables false
set_option linter.unusedSimpArgs false
namespace Go.Proofs.YtpcbkbalabgnlaaGreat
open Go Go.GD Go.IntKind
set_option maxRecDepth 100000
noncomputable section
def tblYc0:List UInt8:=[(0:UInt8),1,2,2,3,3,3,3,4,4,4,4,4,4,4,4,5,5,5,5,5,5,5,5,5,5,5,5,5,5,5,5,6,6,6,6,6,6,6,6,6,6,6,6,6,6,6,6,6,6,6,6,6,6,6,6,6,6,6,6,6,6,6,6]
def Zal:List UInt8:=[(7:UInt8),7,7,7,7,7,7,7,7,7,7,7,7,7,7,7,7,7,7,7,7,7,7,7,7,7,7,7,7,7,7,7,7,7,7,7,7,7,7,7,7,7,7,7,7,7,7,7,7,7,7,7,7,7,7,7,7,7,7,7,7,7,7,7]
def Qps:List UInt8:=[(8:UInt8),8,8,8,8,8,8,8,8,8,8,8,8,8,8,8,8,8,8,8,8,8,8,8,8,8,8,8,8,8,8,8,8,8,8,8,8,8,8,8,8,8,8,8,8,8,8,8,8,8,8,8,8,8,8,8,8,8,8,8,8,8,8,8]
def Zia:List UInt8:=[(1:UInt8),2,2,3,3,3,3,4,4,4,4,4,4,4,4,5,5,5,5,5,5,5,5,5,5,5,5,5,5,5,5,6,6,6,6,6,6,6,6,6,6,6,6,6,6,6,6,6,6,6,6,6,6,6,6,6,6,6,6,6,6,6,6]
def tblYc4:List UInt8:=[(0:UInt8),1,1,2,1,2,2,3,1,2,2,3,2,3,3,4,1,2,2,3,2,3,3,4,2,3,3,4,3,4,4,5,1,2,2,3,2,3,3,4,2,3,3,4,3,4,4,5,2,3,3,4,3,4,4,5,3,4,4,5,4,5,5,6]
def Qpw:List UInt8:=[(1:UInt8),2,2,3,2,3,3,4,2,3,3,4,3,4,4,5,2,3,3,4,3,4,4,5,3,4,4,5,4,5,5,6,2,3,3,4,3,4,4,5,3,4,4,5,4,5,5,6,3,4,4,5,4,5,5,6,4,5,5,6,5,6,6,7]
def Z9w:List UInt8:=[(2:UInt8),3,3,4,3,4,4,5,3,4,4,5,4,5,5,6,3,4,4,5,4,5,5,6,4,5,5,6,5,6,6,7,3,4,4,5,4,5,5,6,4,5,5,6,5,6,6,7,4,5,5,6,5,6,6,7,5,6,6,7,6,7,7,8]
def Ziw:List UInt8:=[(1:UInt8),1,2,1,2,2,3,1,2,2,3,2,3,3,4,1,2,2,3,2,3,3,4,2,3,3,4,3,4,4,5,1,2,2,3,2,3,3,4,2,3,3,4,3,4,4,5,2,3,3,4,3,4,4,5,3,4,4,5,4,5,5,6]
def Qs1(c:Q0b):Tree Bool:=
.lf (decide ((c.D1.length:Int)≤(16:Int)))
def Q2h(c:Q0b):Bool:=(Qs1 c).m
def Z6n:Q0c:=mkR 119 [] true [.agg Q0b.sig] [] (λargs rows=>Q2h (Q0b.of (args.getD 0 .dead).cells)) (λX=> .bool X) (λX=>[])
theorem Z3:Q05 Tryz.prog Z6n:=Q0x Q0i Q0j (.nil) Tryz.func119 Tryz.call119 (λargs rows=>Qs1 (Q0b.of (args.getD 0 .dead).cells)) [] [] 2 (λ_ _ _=>by kernel_rfl) (λ_ _=>rfl) (λ_ _=>Tree.free_ok (by kernel_rfl)) (λ_ X=>by kernel_rfl)
def Qlx(t:Q0f):Tree Bool:=
.br t.D3 (.br (!t.D5) (.lf (t.C8 !=0)) (.lf false)) (.br t.D5 (.lf true) (.lf (t.C8==0)))
def Q4o(t:Q0f):Bool:=(Qlx t).m
def Zgn:Q0c:=mkR 120 [] true [.agg Q0f.sig] [] (λargs rows=>Q4o (Q0f.of (args.getD 0 .dead).cells)) (λX=> .bool X) (λX=>[])
theorem Zcq:Q05 Tryz.prog Zgn:=Q0x Q0i Q0j (.nil) Tryz.func120 Tryz.call120 (λargs rows=>Qlx (Q0f.of (args.getD 0 .dead).cells)) [] [] 2 (λ_ _ _=>by kernel_rfl) (λ_ _=>rfl) (λ_ _=>Tree.free_ok (by kernel_rfl)) (λ_ X=>by kernel_rfl)
def Q83(d0:Q0e):Tree Bool:=
.br (d0.D7==1) (.lf (decide (d0.C4=[]))) (.br (d0.D7==2) (.lf ((d0.C4.length:Int)==(128:Int))) (.lf false))
def Qac(d0:Q0e):Bool:=(Q83 d0).m
def Que:Q0c:=mkR 171 [] true [.agg Q0e.sig] [] (λargs rows=>Qac (Q0e.of (args.getD 0 .dead).cells)) (λX=> .bool X) (λX=>[])
theorem Qsm:Q05 Tryz.prog Que:=Q0x Q0i Q0j (.nil) Tryz.func171 Tryz.call171 (λargs rows=>Q83 (Q0e.of (args.getD 0 .dead).cells)) [] [] 2 (λ_ _ _=>by kernel_rfl) (λ_ _=>rfl) (λ_ _=>Tree.free_ok (by kernel_rfl)) (λ_ X=>by kernel_rfl)
def Q6q(d0:Q0e)(pages:Int):Tree Bool:=
.br (decide (d0.Blocks>64)) (.lf false) (let T1:Tree (Bool):= .br (d0.D7==0) (.br (d0.B6==0) (.br (d0.B3==0) (.lf (decide (d0.C4=[]))) (.lf false)) (.lf false)) (.lf false); .br (d0.C1==0) T1 (.br (d0.C1==2) T1 (.br (d0.C1==3) T1 (.br (d0.C1==1) (.lv (Qac d0) λ(x0:Bool)=> .br x0 (.br (decide (d0.B6<d0.Blocks)) (.lf (decide (wrap i64 d0.B3<pages))) (.lf false)) (.lf false)) (.lf false)))))
def Q1i(d0:Q0e)(pages:Int):Bool:=(Q6q d0 pages).m
def Zkc:Q0c:=mkR 121 [] true [.agg Q0e.sig, .one (.int .i64)] [] (λargs rows=>Q1i (Q0e.of (args.getD 0 .dead).cells) (argI args 1)) (λX=> .bool X) (λX=>[])
theorem Zgh:Q05 Tryz.prog Zkc:=Q0x Q0i Q0j (.cons Qsm (.nil)) Tryz.func121 Tryz.call121 (λargs rows=>Q6q (Q0e.of (args.getD 0 .dead).cells) (argI args 1)) [] [] 2 (λ_ _ _=>by kernel_rfl) (λ_ _=>rfl) (λ_ _=>Tree.free_ok (by kernel_rfl)) (λ_ X=>by kernel_rfl)
def Ql(n:Q0n)(pages:Int):Tree Bool:=
let T1:Tree (Bool):=let T2:Tree (Bool):= .br n.B8 (.br (decide (n.F1≥1)) (.lf (decide (n.F1≤128))) (.lf false)) (.lf (n.F1==0)); .br n.C6 (.br (decide (wrap i64 n.C0≥pages)) (.lf false) T2) (.br (n.C0 !=0) (.lf false) T2); .br n.C6 (.br n.B8 (.lf false) T1) T1
def Q6h(n:Q0n)(pages:Int):Bool:=(Ql n pages).m
def nic_May_m:Q0c:=mkR 122 [] true [.agg Q0n.sig, .one (.int .i64)] [] (λargs rows=>Q6h (Q0n.of (args.getD 0 .dead).cells) (argI args 1)) (λX=> .bool X) (λX=>[])
theorem Zjt:Q05 Tryz.prog nic_May_m:=Q0x Q0i Q0j (.nil) Tryz.func122 Tryz.call122 (λargs rows=>Ql (Q0n.of (args.getD 0 .dead).cells) (argI args 1)) [] [] 2 (λ_ _ _=>by kernel_rfl) (λ_ _=>rfl) (λ_ _=>Tree.free_ok (by kernel_rfl)) (λ_ X=>by kernel_rfl)
def Q1w(x:Int):Tree Int:=
let E1:=(↑(List.length (List.append (List.append tblYc0 Zal) (List.append Qps Qps))):Int); .br (decide (x≥65536)) (.br (decide (ishr u32 x (16:Int)≥(256:Int))) (.cn (decide (0≤wrap u8 (ishr u32 (ishr u32 x 16) 8)∧wrap u8 (ishr u32 (ishr u32 x 16) 8)<E1)) (.lf (wrap i64 (wrap i64 ((16:Int)+(8:Int))+wrap i64 (↑(UInt8.toNat (List.getD ((0:UInt8)::(Zia++Zal++(Qps++Qps))) (Int.toNat (wrap u8 (ishr u32 (ishr u32 x 16) 8))) (0:UInt8))):Int))))) (.cn (decide (0≤wrap u8 (ishr u32 x 16)∧wrap u8 (ishr u32 x 16)<E1)) (.lf (wrap i64 (16+wrap i64 (↑(UInt8.toNat (List.getD ((0:UInt8)::(Zia++Zal++(Qps++Qps))) (Int.toNat (wrap u8 (ishr u32 x 16))) (0:UInt8))):Int)))))) (.br (decide (x≥256)) (.cn (decide (0≤wrap u8 (ishr u32 x 8)∧wrap u8 (ishr u32 x 8)<E1)) (.lf (wrap i64 (wrap i64 ((0:Int)+(8:Int))+wrap i64 (↑(UInt8.toNat (List.getD ((0:UInt8)::(Zia++Zal++(Qps++Qps))) (Int.toNat (wrap u8 (ishr u32 x 8))) (0:UInt8))):Int))))) (.cn (decide (0≤wrap u8 x∧wrap u8 x<E1)) (.lf (wrap i64 (0+wrap i64 (↑(UInt8.toNat (List.getD ((0:UInt8)::(Zia++Zal++(Qps++Qps))) (Int.toNat (wrap u8 x)) (0:UInt8))):Int))))))
def Q1k(x:Int):Int:=(Q1w x).m
abbrev Q69(x:Int):Prop:=(Q1w x).p
def Qu4:Q0c:=mkP 172 [] true [.one (.int .u32)] [] (λargs rows=>Q69 (argI args 0)) (λargs rows=>Q1k (argI args 0)) (λX=> .int .i64 X) (λX=>[])
theorem Qrf:Q05 Tryz.prog Qu4:=Q0k Q0i Q0j (.nil) Tryz.func172 Tryz.call172 (λargs rows=>Q1w (argI args 0)) [] [] 2 (λ_ _ _=>by kernel_rfl) (λ_ _=>rfl) (λ_ _ h=>h) (λ_ X=>by kernel_rfl)
def Q3j(b:Q06)(pages:Int):Tree Bool:=
.an (Q69 b.C2) (.lv (Q1k b.C2) λ(x0:Int)=> .lf (decide (x0≤if 0>pages then 0 else pages)))
def Q2t(b:Q06)(pages:Int):Bool:=(Q3j b pages).m
abbrev Q7y(b:Q06)(pages:Int):Prop:=(Q3j b pages).p
def Z7m:Q0c:=mkP 123 [] true [.agg Q06.sig, .one (.int .i64)] [] (λargs rows=>Q7y (Q06.of (args.getD 0 .dead).cells) (argI args 1)) (λargs rows=>Q2t (Q06.of (args.getD 0 .dead).cells) (argI args 1)) (λX=> .bool X) (λX=>[])
theorem Z3q:Q05 Tryz.prog Z7m:=Q0k Q0i Q0j (.cons Qrf (.nil)) Tryz.func123 Tryz.call123 (λargs rows=>Q3j (Q06.of (args.getD 0 .dead).cells) (argI args 1)) [] [] 2 (λ_ _ _=>by kernel_rfl) (λ_ _=>rfl) (λ_ _ h=>h) (λ_ X=>by kernel_rfl)
def Q1h(m:Q00):Tree Bool:=
.lv (Q0r m.Mem) λ(x0:Int)=> .lv (Q2h m.A3) λ(x1:Bool)=> .br x1 (.lv (Q4o m.B0) λ(x2:Bool)=> .br x2 (.lv (Q1i m.B1 x0) λ(x3:Bool)=> .br x3 (.lv (Q6h m.C5 x0) λ(x4:Bool)=> .br x4 (.an (Q7y m.A1 x0) (.lv (Q2t m.A1 x0) λ(x5:Bool)=> .lf x5)) (.lf false)) (.lf false)) (.lf false)) (.lf false)
def Q0w(m:Q00):Bool:=(Q1h m).m
abbrev Q1s(m:Q00):Prop:=(Q1h m).p
def Qoy:Q0c:=mkP 90 [] true [.agg Q00.sig] [] (λargs rows=>Q1s (Q00.of (args.getD 0 .dead).cells)) (λargs rows=>Q0w (Q00.of (args.getD 0 .dead).cells)) (λX=> .bool X) (λX=>[])
theorem Qnf:Q05 Tryz.prog Qoy:=Q0k Q0i Q0j (.cons Q4t (.cons Z3 (.cons Zcq (.cons Zgh (.cons Zjt (.cons Z3q (.nil))))))) Tryz.func90 Tryz.call90 (λargs rows=>Q1h (Q00.of (args.getD 0 .dead).cells)) [] [] 2 (λ_ _ _=>by kernel_rfl) (λ_ _=>rfl) (λ_ _ h=>h) (λ_ X=>by kernel_rfl)
def Q4f(m:Q00):Tree Bool:=
.lv (Q0r m.Mem) λ(x0:Int)=> .br (x0==0) (.lf false) (.br (m.B2.X.a0 !=0) (.lf false) (.br (decide (m.B2.B5.a0>31)) (.lf false) (.br (decide (m.B2.B5.a7>31)) (.lf false) (.br (decide (m.B2.B5.a6>255)) (.lf false) (.br (Int.tmod m.B2.B5.a1 (4:Int) !=(0:Int)) (.lf false) (.br (decide (m.A4>1152921504606846976)) (.lf false) (.br m.A6 (.br m.A7 (.lf false) (.an (Q1s m) (.lv (Q0w m) λ(x1:Bool)=> .lf x1))) (.an (Q1s m) (.lv (Q0w m) λ(x2:Bool)=> .lf x2)))))))))
def Q1e(m:Q00):Bool:=(Q4f m).m
abbrev Q3s(m:Q00):Prop:=(Q4f m).p
def Z8y:Q0c:=mkP 51 [] true [.agg Q00.sig] [] (λargs rows=>Q3s (Q00.of (args.getD 0 .dead).cells)) (λargs rows=>Q1e (Q00.of (args.getD 0 .dead).cells)) (λX=> .bool X) (λX=>[])
theorem Qjy:Q05 Tryz.prog Z8y:=Q0k Q0i Q0j (.cons Q4t (.cons Qnf (.nil))) Tryz.func51 Tryz.call51 (λargs rows=>Q4f (Q00.of (args.getD 0 .dead).cells)) [] [] 2 (λ_ _ _=>by kernel_rfl) (λ_ _=>rfl) (λ_ _ h=>h) (λ_ X=>by kernel_rfl)
def Qnr(t:Q0f):Tree Bool:=
.lf t.D5
def Qh(t:Q0f):Bool:=(Qnr t).m
def Z20:Q0c:=mkR 175 [] true [.agg Q0f.sig] [] (λargs rows=>Qh (Q0f.of (args.getD 0 .dead).cells)) (λX=> .bool X) (λX=>[])
theorem Qxf:Q05 Tryz.prog Z20:=Q0x Q0i Q0j (.nil) Tryz.func175 Tryz.call175 (λargs rows=>Qnr (Q0f.of (args.getD 0 .dead).cells)) [] [] 2 (λ_ _ _=>by kernel_rfl) (λ_ _=>rfl) (λ_ _=>Tree.free_ok (by kernel_rfl)) (λ_ X=>by kernel_rfl)
def Qkx(c:Q0b):Tree Bool:=
.lf (!decide (c.D1=[]))
def Q9m(c:Q0b):Bool:=(Qkx c).m
def Quw:Q0c:=mkR 176 [] true [.agg Q0b.sig] [] (λargs rows=>Q9m (Q0b.of (args.getD 0 .dead).cells)) (λX=> .bool X) (λX=>[])
theorem Qt1:Q05 Tryz.prog Quw:=Q0x Q0i Q0j (.nil) Tryz.func176 Tryz.call176 (λargs rows=>Qkx (Q0b.of (args.getD 0 .dead).cells)) [] [] 2 (λ_ _ _=>by kernel_rfl) (λ_ _=>rfl) (λ_ _=>Tree.free_ok (by kernel_rfl)) (λ_ X=>by kernel_rfl)
def Qjp(d0:Q0e):Tree Bool:=
.br (d0.C1==2) (.lf true) (.lf (d0.C1==3))
def Qa6(d0:Q0e):Bool:=(Qjp d0).m
def Z2j:Q0c:=mkR 177 [] true [.agg Q0e.sig] [] (λargs rows=>Qa6 (Q0e.of (args.getD 0 .dead).cells)) (λX=> .bool X) (λX=>[])
theorem Qn2:Q05 Tryz.prog Z2j:=Q0x Q0i Q0j (.nil) Tryz.func177 Tryz.call177 (λargs rows=>Qjp (Q0e.of (args.getD 0 .dead).cells)) [] [] 2 (λ_ _ _=>by kernel_rfl) (λ_ _=>rfl) (λ_ _=>Tree.free_ok (by kernel_rfl)) (λ_ X=>by kernel_rfl)
def Qs5(n:Q0n):Tree Bool:=
.lf n.B8
def Ql8(n:Q0n):Bool:=(Qs5 n).m
def Z6l:Q0c:=mkR 178 [] true [.agg Q0n.sig] [] (λargs rows=>Ql8 (Q0n.of (args.getD 0 .dead).cells)) (λX=> .bool X) (λX=>[])
theorem Z2a:Q05 Tryz.prog Z6l:=Q0x Q0i Q0j (.nil) Tryz.func178 Tryz.call178 (λargs rows=>Qs5 (Q0n.of (args.getD 0 .dead).cells)) [] [] 2 (λ_ _ _=>by kernel_rfl) (λ_ _=>rfl) (λ_ _=>Tree.free_ok (by kernel_rfl)) (λ_ X=>by kernel_rfl)
def Q1o(x:Int):Tree Int:=
let E1:=(↑(List.length (List.append (List.append tblYc4 Qpw) (List.append Qpw Z9w))):Int); .cn (decide (0≤ishr u32 x 24∧ishr u32 x 24<E1)) (.cn (decide (0≤iand u32 (ishr u32 x 16) 255∧iand u32 (ishr u32 x 16) 255<E1)) (.cn (decide (0≤iand u32 (ishr u32 x 8) 255∧iand u32 (ishr u32 x 8) 255<E1)) (.cn (decide (0≤iand u32 x 255∧iand u32 x 255<E1)) (.lf (wrap i64 (wrap u8 (wrap u8 (wrap u8 ((↑(UInt8.toNat (List.getD ((0:UInt8)::(Ziw++Qpw++(Qpw++Z9w))) (Int.toNat (ishr u32 x 24)) (0:UInt8))):Int)+(↑(UInt8.toNat (List.getD ((0:UInt8)::(Ziw++Qpw++(Qpw++Z9w))) (Int.toNat (iand u32 (ishr u32 x 16) 255)) (0:UInt8))):Int))+(↑(UInt8.toNat (List.getD ((0:UInt8)::(Ziw++Qpw++(Qpw++Z9w))) (Int.toNat (iand u32 (ishr u32 x 8) 255)) (0:UInt8))):Int))+(↑(UInt8.toNat (List.getD ((0:UInt8)::(Ziw++Qpw++(Qpw++Z9w))) (Int.toNat (iand u32 x 255)) (0:UInt8))):Int))))))))
def Q78(x:Int):Int:=(Q1o x).m
abbrev Q33(x:Int):Prop:=(Q1o x).p
def Ql2:Q0c:=mkP 234 [] true [.one (.int .u32)] [] (λargs rows=>Q33 (argI args 0)) (λargs rows=>Q78 (argI args 0)) (λX=> .int .i64 X) (λX=>[])
theorem Qkd:Q05 Tryz.prog Ql2:=Q0k Q0i Q0j (.nil) Tryz.func234 Tryz.call234 (λargs rows=>Q1o (argI args 0)) [] [] 2 (λ_ _ _=>by kernel_rfl) (λ_ _=>rfl) (λ_ _ h=>h) (λ_ X=>by kernel_rfl)
def Q4s(b:Q06):Tree Int:=
.an (Q33 b.C2) (.lv (Q78 b.C2) λ(x0:Int)=> .lf x0)
def Qdm(b:Q06):Int:=(Q4s b).m
abbrev Q5y(b:Q06):Prop:=(Q4s b).p
def Z01:Q0c:=mkP 194 [] true [.agg Q06.sig] [] (λargs rows=>Q5y (Q06.of (args.getD 0 .dead).cells)) (λargs rows=>Qdm (Q06.of (args.getD 0 .dead).cells)) (λX=> .int .i64 X) (λX=>[])
theorem Qma:Q05 Tryz.prog Z01:=Q0k Q0i Q0j (.cons Qkd (.nil)) Tryz.func194 Tryz.call194 (λargs rows=>Q4s (Q06.of (args.getD 0 .dead).cells)) [] [] 2 (λ_ _ _=>by kernel_rfl) (λ_ _=>rfl) (λ_ _ h=>h) (λ_ X=>by kernel_rfl)
def Q2l(b:Q06):Tree Bool:=
.an (Q5y b) (.lv (Qdm b) λ(x0:Int)=> .lf (wrap u32 x0 !=b.C9))
def Q8(b:Q06):Bool:=(Q2l b).m
abbrev Q5z(b:Q06):Prop:=(Q2l b).p
def Qu6:Q0c:=mkP 179 [] true [.agg Q06.sig] [] (λargs rows=>Q5z (Q06.of (args.getD 0 .dead).cells)) (λargs rows=>Q8 (Q06.of (args.getD 0 .dead).cells)) (λX=> .bool X) (λX=>[])
theorem Qsq:Q05 Tryz.prog Qu6:=Q0k Q0i Q0j (.cons Qma (.nil)) Tryz.func179 Tryz.call179 (λargs rows=>Q2l (Q06.of (args.getD 0 .dead).cells)) [] [] 2 (λ_ _ _=>by kernel_rfl) (λ_ _=>rfl) (λ_ _ h=>h) (λ_ X=>by kernel_rfl)
def Qi1(m:Q00)(z:(Int)×(Int)):Nat:=(5-z.2).toNat
def Q3m(m:Q00):Tree Int:=
.lv (Qh m.B0) λ(x0:Bool)=> .lv (Q9m m.A3) λ(x1:Bool)=> .lv (Qa6 m.B1) λ(x2:Bool)=> .lv (Ql8 m.C5) λ(x3:Bool)=> .an (Q5z m.A1) (.lv (Q8 m.A1) λ(x4:Bool)=> .lp inferInstance (Qi1 m (0,0)+1) ((rE (0:Int)∧(rE (x0:Bool)∧rE (x1:Bool)∧rE (x2:Bool)∧rE (x3:Bool)∧rE (x4:Bool)∧True)∧rE (0:Int)∧True)∧True) (0,0) λ(v0:Int×Int)=> .br (decide (v0.2<5)) (.cn (Nat.beq 1 1&&(Nat.beq 5 5&&decide (0≤v0.2∧v0.2<(↑5:Int)))) (.br (List.getD [x0,x1,x2,x3,x4] v0.2.toNat false) (.cn (decide (0≤v0.2)) (.nx ((rE ((ior u32 v0.1 (ishl u32 1 v0.2)):Int)∧(rE (x0:Bool)∧rE (x1:Bool)∧rE (x2:Bool)∧rE (x3:Bool)∧rE (x4:Bool)∧True)∧rE ((wrap i64 (v0.2+1)):Int)∧True)∧True) (Sum.inl (ior u32 v0.1 (ishl u32 1 v0.2),wrap i64 (v0.2+1))))) (.nx ((rE v0.1∧(rE (x0:Bool)∧rE (x1:Bool)∧rE (x2:Bool)∧rE (x3:Bool)∧rE (x4:Bool)∧True)∧rE ((wrap i64 (v0.2+1)):Int)∧True)∧True) (Sum.inl (v0.1,wrap i64 (v0.2+1)))))) (.lf (Sum.inr v0.1)))
def Qdj(m:Q00):Int:=(Q3m m).m
abbrev Q7z(m:Q00):Prop:=(Q3m m).p
def Qxr:LInv:={
 α:=(Int)×(Int)
 F:=λst a=>([(4, .int u32 a.1),(23,(lk st 23)),(24, .int i64 a.2)],[])
 a0:=λst=>((lk st 4).toInt,(lk st 24).toInt)
 ex0:=λst=>[]++[]
 next:=λst=>((lk st 4).toInt,(lk st 24).toInt)
 ex:=λst=>[]++[]}
def Qsr:List (Nat×LInv):=[(4,Qxr)]
def Qz7:Q0c:=mkP 128 [] true [.agg Q00.sig] [] (λargs rows=>Q7z (Q00.of (args.getD 0 .dead).cells)) (λargs rows=>Qdj (Q00.of (args.getD 0 .dead).cells)) (λX=> .int .u32 X) (λX=>[])
theorem Qxy:Q05 Tryz.prog Qz7:=Q0k Q0i Q0j (.cons Qxf (.cons Qt1 (.cons Qn2 (.cons Z2a (.cons Qsq (.nil)))))) Tryz.func128 Tryz.call128 (λargs rows=>Q3m (Q00.of (args.getD 0 .dead).cells)) [] Qsr 3 (λ_ _ _=>by kernel_rfl) (λ_ _=>rfl) (λ_ _ h=>h) (λ_ X=>by kernel_rfl)
def Q1v(m:Q00):Tree Int:=
.an (Q7z m) (.lv (Qdj m) λ(x0:Int)=> .lf (iand u32 x0 m.B2.B5.a7))
def Q66(m:Q00):Int:=(Q1v m).m
abbrev Q44(m:Q00):Prop:=(Q1v m).p
def Qvi:Q0c:=mkP 95 [] true [.agg Q00.sig] [] (λargs rows=>Q44 (Q00.of (args.getD 0 .dead).cells)) (λargs rows=>Q66 (Q00.of (args.getD 0 .dead).cells)) (λX=> .int .u32 X) (λX=>[])
theorem Qj8:Q05 Tryz.prog Qvi:=Q0k Q0i Q0j (.cons Qxy (.nil)) Tryz.func95 Tryz.call95 (λargs rows=>Q1v (Q00.of (args.getD 0 .dead).cells)) [] [] 2 (λ_ _ _=>by kernel_rfl) (λ_ _=>rfl) (λ_ _ h=>h) (λ_ X=>by kernel_rfl)
def Q32(m:Q00):Tree Bool:=
.br m.A6 (.an (Q44 m) (.lv (Q66 m) λ(x0:Int)=> .lf (x0==0))) (.lf false)
def Q6y(m:Q00):Bool:=(Q32 m).m
abbrev Q35(m:Q00):Prop:=(Q32 m).p
def Z3v:Q0c:=mkP 56 [] true [.agg Q00.sig] [] (λargs rows=>Q35 (Q00.of (args.getD 0 .dead).cells)) (λargs rows=>Q6y (Q00.of (args.getD 0 .dead).cells)) (λX=> .bool X) (λX=>[])
theorem Qnz:Q05 Tryz.prog Z3v:=Q0k Q0i Q0j (.cons Qj8 (.nil)) Tryz.func56 Tryz.call56 (λargs rows=>Q32 (Q00.of (args.getD 0 .dead).cells)) [] [] 2 (λ_ _ _=>by kernel_rfl) (λ_ _=>rfl) (λ_ _ h=>h) (λ_ X=>by kernel_rfl)
end
end Go.Proofs.YtpcbkbalabgnlaaGreat

/-
  Functions of the program: models, and that its calls come to them (by a program: gen3.py).
-/
import Derived.Test.YtpcbkbalabgnlaaGreatRecordClockBase
import Derived.Test.YtpcbkbalabgnlaaGreatRecordClockYa
set_option linter.unusedVariables false
set_option linter.unusedSimpArgs false
namespace Go.Proofs.YtpcbkbalabgnlaaGreat
open Go Go.GD Go.IntKind
set_option maxRecDepth 100000
noncomputable section
def tblYc0:List UInt8:=[(0:UInt8),1,2,2,3,3,3,3,4,4,4,4,4,4,4,4,5,5,5,5,5,5,5,5,5,5,5,5,5,5,5,5,6,6,6,6,6,6,6,6,6,6,6,6,6,6,6,6,6,6,6,6,6,6,6,6,6,6,6,6,6,6,6,6]
def Z9e:List UInt8:=[(7:UInt8),7,7,7,7,7,7,7,7,7,7,7,7,7,7,7,7,7,7,7,7,7,7,7,7,7,7,7,7,7,7,7,7,7,7,7,7,7,7,7,7,7,7,7,7,7,7,7,7,7,7,7,7,7,7,7,7,7,7,7,7,7,7,7]
def Qol:List UInt8:=[(8:UInt8),8,8,8,8,8,8,8,8,8,8,8,8,8,8,8,8,8,8,8,8,8,8,8,8,8,8,8,8,8,8,8,8,8,8,8,8,8,8,8,8,8,8,8,8,8,8,8,8,8,8,8,8,8,8,8,8,8,8,8,8,8,8,8]
def Zfd:List UInt8:=[(1:UInt8),2,2,3,3,3,3,4,4,4,4,4,4,4,4,5,5,5,5,5,5,5,5,5,5,5,5,5,5,5,5,6,6,6,6,6,6,6,6,6,6,6,6,6,6,6,6,6,6,6,6,6,6,6,6,6,6,6,6,6,6,6,6]
def tblYc4:List UInt8:=[(0:UInt8),1,1,2,1,2,2,3,1,2,2,3,2,3,3,4,1,2,2,3,2,3,3,4,2,3,3,4,3,4,4,5,1,2,2,3,2,3,3,4,2,3,3,4,3,4,4,5,2,3,3,4,3,4,4,5,3,4,4,5,4,5,5,6]
def Qor:List UInt8:=[(1:UInt8),2,2,3,2,3,3,4,2,3,3,4,3,4,4,5,2,3,3,4,3,4,4,5,3,4,4,5,4,5,5,6,2,3,3,4,3,4,4,5,3,4,4,5,4,5,5,6,3,4,4,5,4,5,5,6,4,5,5,6,5,6,6,7]
def Zal:List UInt8:=[(2:UInt8),3,3,4,3,4,4,5,3,4,4,5,4,5,5,6,3,4,4,5,4,5,5,6,4,5,5,6,5,6,6,7,3,4,4,5,4,5,5,6,4,5,5,6,5,6,6,7,4,5,5,6,5,6,6,7,5,6,6,7,6,7,7,8]
def Zgb:List UInt8:=[(1:UInt8),1,2,1,2,2,3,1,2,2,3,2,3,3,4,1,2,2,3,2,3,3,4,2,3,3,4,3,4,4,5,1,2,2,3,2,3,3,4,2,3,3,4,3,4,4,5,2,3,3,4,3,4,4,5,3,4,4,5,4,5,5,6]
def Qs(c:Q0b):Tree Bool:=
.lf (decide ((c.D2.length:Int)≤(16:Int)))
def Q2e(c:Q0b):Bool:=(Qs c).m
def Z5f:Q0d:=mkR 119 [] true [.agg Q0b.sig] [] (λargs rows=>Q2e (Q0b.of (args.getD 0 .dead).cells)) (λX=> .bool X) (λX=>[])
theorem Z1u:Q05 Tryz.prog Z5f:=Q0y Q0j Q0i (.nil) Tryz.func119 Tryz.call119 (λargs rows=>Qs (Q0b.of (args.getD 0 .dead).cells)) [] [] 2 (λ_ _ _=>by kernel_rfl) (λ_ _=>rfl) (λ_ _=>Tree.free_ok (by kernel_rfl)) (λ_ X=>by kernel_rfl)
def Ql6(t:Q0h):Tree Bool:=
.br t.D5 (.br (!t.D6) (.lf (t.C8 !=0)) (.lf false)) (.br t.D6 (.lf true) (.lf (t.C8==0)))
def Q4g(t:Q0h):Bool:=(Ql6 t).m
def Zee:Q0d:=mkR 120 [] true [.agg Q0h.sig] [] (λargs rows=>Q4g (Q0h.of (args.getD 0 .dead).cells)) (λX=> .bool X) (λX=>[])
theorem Zab:Q05 Tryz.prog Zee:=Q0y Q0j Q0i (.nil) Tryz.func120 Tryz.call120 (λargs rows=>Ql6 (Q0h.of (args.getD 0 .dead).cells)) [] [] 2 (λ_ _ _=>by kernel_rfl) (λ_ _=>rfl) (λ_ _=>Tree.free_ok (by kernel_rfl)) (λ_ X=>by kernel_rfl)
def Q7m(d0:Q0c):Tree Bool:=
.br (d0.D8==1) (.lf (decide (d0.C3=[]))) (.br (d0.D8==2) (.lf ((d0.C3.length:Int)==(128:Int))) (.lf false))
def Q98(d0:Q0c):Bool:=(Q7m d0).m
def Qtc:Q0d:=mkR 171 [] true [.agg Q0c.sig] [] (λargs rows=>Q98 (Q0c.of (args.getD 0 .dead).cells)) (λX=> .bool X) (λX=>[])
theorem Qq0:Q05 Tryz.prog Qtc:=Q0y Q0j Q0i (.nil) Tryz.func171 Tryz.call171 (λargs rows=>Q7m (Q0c.of (args.getD 0 .dead).cells)) [] [] 2 (λ_ _ _=>by kernel_rfl) (λ_ _=>rfl) (λ_ _=>Tree.free_ok (by kernel_rfl)) (λ_ X=>by kernel_rfl)
def Q6e(d0:Q0c)(pages:Int):Tree Bool:=
.br (decide (d0.Blocks>64)) (.lf false) (let T1:Tree (Bool):= .br (d0.D8==0) (.br (d0.B7==0) (.br (d0.B2==0) (.lf (decide (d0.C3=[]))) (.lf false)) (.lf false)) (.lf false); .br (d0.B9==0) T1 (.br (d0.B9==2) T1 (.br (d0.B9==3) T1 (.br (d0.B9==1) (.lv (Q98 d0) λ(x0:Bool)=> .br x0 (.br (decide (d0.B7<d0.Blocks)) (.lf (decide (wrap i64 d0.B2<pages))) (.lf false)) (.lf false)) (.lf false)))))
def Q1i(d0:Q0c)(pages:Int):Bool:=(Q6e d0 pages).m
def Zho:Q0d:=mkR 121 [] true [.agg Q0c.sig, .one (.int .i64)] [] (λargs rows=>Q1i (Q0c.of (args.getD 0 .dead).cells) (argI args 1)) (λX=> .bool X) (λX=>[])
theorem Zd7:Q05 Tryz.prog Zho:=Q0y Q0j Q0i (.cons Qq0 (.nil)) Tryz.func121 Tryz.call121 (λargs rows=>Q6e (Q0c.of (args.getD 0 .dead).cells) (argI args 1)) [] [] 2 (λ_ _ _=>by kernel_rfl) (λ_ _=>rfl) (λ_ _=>Tree.free_ok (by kernel_rfl)) (λ_ X=>by kernel_rfl)
def Qk1(n:Q0m)(pages:Int):Tree Bool:=
let T1:Tree (Bool):=let T2:Tree (Bool):= .br n.B8 (.br (decide (n.F1≥1)) (.lf (decide (n.F1≤128))) (.lf false)) (.lf (n.F1==0)); .br n.C7 (.br (decide (wrap i64 n.C0≥pages)) (.lf false) T2) (.br (n.C0 !=0) (.lf false) T2); .br n.C7 (.br n.B8 (.lf false) T1) T1
def Q68(n:Q0m)(pages:Int):Bool:=(Qk1 n pages).m
def nic_May_m:Q0d:=mkR 122 [] true [.agg Q0m.sig, .one (.int .i64)] [] (λargs rows=>Q68 (Q0m.of (args.getD 0 .dead).cells) (argI args 1)) (λX=> .bool X) (λX=>[])
theorem Zip:Q05 Tryz.prog nic_May_m:=Q0y Q0j Q0i (.nil) Tryz.func122 Tryz.call122 (λargs rows=>Qk1 (Q0m.of (args.getD 0 .dead).cells) (argI args 1)) [] [] 2 (λ_ _ _=>by kernel_rfl) (λ_ _=>rfl) (λ_ _=>Tree.free_ok (by kernel_rfl)) (λ_ X=>by kernel_rfl)
def Q1w(x:Int):Tree Int:=
let E1:=(↑(List.length (List.append (List.append tblYc0 Z9e) (List.append Qol Qol))):Int); .br (decide (x≥65536)) (.br (decide (ishr u32 x (16:Int)≥(256:Int))) (.cn (decide (0≤wrap u8 (ishr u32 (ishr u32 x 16) 8)∧wrap u8 (ishr u32 (ishr u32 x 16) 8)<E1)) (.lf (wrap i64 (wrap i64 ((16:Int)+(8:Int))+wrap i64 (↑(UInt8.toNat (List.getD ((0:UInt8)::(Zfd++Z9e++(Qol++Qol))) (Int.toNat (wrap u8 (ishr u32 (ishr u32 x 16) 8))) (0:UInt8))):Int))))) (.cn (decide (0≤wrap u8 (ishr u32 x 16)∧wrap u8 (ishr u32 x 16)<E1)) (.lf (wrap i64 (16+wrap i64 (↑(UInt8.toNat (List.getD ((0:UInt8)::(Zfd++Z9e++(Qol++Qol))) (Int.toNat (wrap u8 (ishr u32 x 16))) (0:UInt8))):Int)))))) (.br (decide (x≥256)) (.cn (decide (0≤wrap u8 (ishr u32 x 8)∧wrap u8 (ishr u32 x 8)<E1)) (.lf (wrap i64 (wrap i64 ((0:Int)+(8:Int))+wrap i64 (↑(UInt8.toNat (List.getD ((0:UInt8)::(Zfd++Z9e++(Qol++Qol))) (Int.toNat (wrap u8 (ishr u32 x 8))) (0:UInt8))):Int))))) (.cn (decide (0≤wrap u8 x∧wrap u8 x<E1)) (.lf (wrap i64 (0+wrap i64 (↑(UInt8.toNat (List.getD ((0:UInt8)::(Zfd++Z9e++(Qol++Qol))) (Int.toNat (wrap u8 x)) (0:UInt8))):Int))))))
def Q1k(x:Int):Int:=(Q1w x).m
abbrev Q6(x:Int):Prop:=(Q1w x).p
def Qtw:Q0d:=mkP 172 [] true [.one (.int .u32)] [] (λargs rows=>Q6 (argI args 0)) (λargs rows=>Q1k (argI args 0)) (λX=> .int .i64 X) (λX=>[])
theorem Qrg:Q05 Tryz.prog Qtw:=Q0o Q0j Q0i (.nil) Tryz.func172 Tryz.call172 (λargs rows=>Q1w (argI args 0)) [] [] 2 (λ_ _ _=>by kernel_rfl) (λ_ _=>rfl) (λ_ _ h=>h) (λ_ X=>by kernel_rfl)
def Q3m(b:Q06)(pages:Int):Tree Bool:=
.an (Q6 b.C2) (.lv (Q1k b.C2) λ(x0:Int)=> .lf (decide (x0≤if 0>pages then 0 else pages)))
def Q2q(b:Q06)(pages:Int):Bool:=(Q3m b pages).m
abbrev Q7l(b:Q06)(pages:Int):Prop:=(Q3m b pages).p
def Z7:Q0d:=mkP 123 [] true [.agg Q06.sig, .one (.int .i64)] [] (λargs rows=>Q7l (Q06.of (args.getD 0 .dead).cells) (argI args 1)) (λargs rows=>Q2q (Q06.of (args.getD 0 .dead).cells) (argI args 1)) (λX=> .bool X) (λX=>[])
theorem Z0w:Q05 Tryz.prog Z7:=Q0o Q0j Q0i (.cons Qrg (.nil)) Tryz.func123 Tryz.call123 (λargs rows=>Q3m (Q06.of (args.getD 0 .dead).cells) (argI args 1)) [] [] 2 (λ_ _ _=>by kernel_rfl) (λ_ _=>rfl) (λ_ _ h=>h) (λ_ X=>by kernel_rfl)
def Q1h(m:Q00):Tree Bool:=
.lv (Q0q m.Mem) λ(x0:Int)=> .lv (Q2e m.A3) λ(x1:Bool)=> .br x1 (.lv (Q4g m.B0) λ(x2:Bool)=> .br x2 (.lv (Q1i m.B1 x0) λ(x3:Bool)=> .br x3 (.lv (Q68 m.C5 x0) λ(x4:Bool)=> .br x4 (.an (Q7l m.A1 x0) (.lv (Q2q m.A1 x0) λ(x5:Bool)=> .lf x5)) (.lf false)) (.lf false)) (.lf false)) (.lf false)
def Q0t(m:Q00):Bool:=(Q1h m).m
abbrev Q1s(m:Q00):Prop:=(Q1h m).p
def Qod:Q0d:=mkP 90 [] true [.agg Q00.sig] [] (λargs rows=>Q1s (Q00.of (args.getD 0 .dead).cells)) (λargs rows=>Q0t (Q00.of (args.getD 0 .dead).cells)) (λX=> .bool X) (λX=>[])
theorem Qmd:Q05 Tryz.prog Qod:=Q0o Q0j Q0i (.cons Q4n (.cons Z1u (.cons Zab (.cons Zd7 (.cons Zip (.cons Z0w (.nil))))))) Tryz.func90 Tryz.call90 (λargs rows=>Q1h (Q00.of (args.getD 0 .dead).cells)) [] [] 2 (λ_ _ _=>by kernel_rfl) (λ_ _=>rfl) (λ_ _ h=>h) (λ_ X=>by kernel_rfl)
def Q4b(m:Q00):Tree Bool:=
.lv (Q0q m.Mem) λ(x0:Int)=> .br (x0==0) (.lf false) (.br (m.B3.X.a0 !=0) (.lf false) (.br (decide (m.B3.B6.a0>31)) (.lf false) (.br (decide (m.B3.B6.a7>31)) (.lf false) (.br (decide (m.B3.B6.a6>255)) (.lf false) (.br (Int.tmod m.B3.B6.a1 (4:Int) !=(0:Int)) (.lf false) (.br (decide (m.A2>1152921504606846976)) (.lf false) (.br m.A7 (.br m.A9 (.lf false) (.an (Q1s m) (.lv (Q0t m) λ(x1:Bool)=> .lf x1))) (.an (Q1s m) (.lv (Q0t m) λ(x2:Bool)=> .lf x2)))))))))
def Q1e(m:Q00):Bool:=(Q4b m).m
abbrev Q3o(m:Q00):Prop:=(Q4b m).p
def Z7m:Q0d:=mkP 51 [] true [.agg Q00.sig] [] (λargs rows=>Q3o (Q00.of (args.getD 0 .dead).cells)) (λargs rows=>Q1e (Q00.of (args.getD 0 .dead).cells)) (λX=> .bool X) (λX=>[])
theorem Qja:Q05 Tryz.prog Z7m:=Q0o Q0j Q0i (.cons Q4n (.cons Qmd (.nil))) Tryz.func51 Tryz.call51 (λargs rows=>Q4b (Q00.of (args.getD 0 .dead).cells)) [] [] 2 (λ_ _ _=>by kernel_rfl) (λ_ _=>rfl) (λ_ _ h=>h) (λ_ X=>by kernel_rfl)
def Qn4(t:Q0h):Tree Bool:=
.lf t.D6
def Qg3(t:Q0h):Bool:=(Qn4 t).m
def Qx3:Q0d:=mkR 175 [] true [.agg Q0h.sig] [] (λargs rows=>Qg3 (Q0h.of (args.getD 0 .dead).cells)) (λX=> .bool X) (λX=>[])
theorem Qve:Q05 Tryz.prog Qx3:=Q0y Q0j Q0i (.nil) Tryz.func175 Tryz.call175 (λargs rows=>Qn4 (Q0h.of (args.getD 0 .dead).cells)) [] [] 2 (λ_ _ _=>by kernel_rfl) (λ_ _=>rfl) (λ_ _=>Tree.free_ok (by kernel_rfl)) (λ_ X=>by kernel_rfl)
def Qjw(c:Q0b):Tree Bool:=
.lf (!decide (c.D2=[]))
def Q9y(c:Q0b):Bool:=(Qjw c).m
def Qso:Q0d:=mkR 176 [] true [.agg Q0b.sig] [] (λargs rows=>Q9y (Q0b.of (args.getD 0 .dead).cells)) (λX=> .bool X) (λX=>[])
theorem Qr7:Q05 Tryz.prog Qso:=Q0y Q0j Q0i (.nil) Tryz.func176 Tryz.call176 (λargs rows=>Qjw (Q0b.of (args.getD 0 .dead).cells)) [] [] 2 (λ_ _ _=>by kernel_rfl) (λ_ _=>rfl) (λ_ _=>Tree.free_ok (by kernel_rfl)) (λ_ X=>by kernel_rfl)
def Qiw(d0:Q0c):Tree Bool:=
.br (d0.B9==2) (.lf true) (.lf (d0.B9==3))
def Qa(d0:Q0c):Bool:=(Qiw d0).m
def Z0k:Q0d:=mkR 177 [] true [.agg Q0c.sig] [] (λargs rows=>Qa (Q0c.of (args.getD 0 .dead).cells)) (λX=> .bool X) (λX=>[])
theorem Qmp:Q05 Tryz.prog Z0k:=Q0y Q0j Q0i (.nil) Tryz.func177 Tryz.call177 (λargs rows=>Qiw (Q0c.of (args.getD 0 .dead).cells)) [] [] 2 (λ_ _ _=>by kernel_rfl) (λ_ _=>rfl) (λ_ _=>Tree.free_ok (by kernel_rfl)) (λ_ X=>by kernel_rfl)
def Qqo(n:Q0m):Tree Bool:=
.lf n.B8
def Qkf(n:Q0m):Bool:=(Qqo n).m
def Z5q:Q0d:=mkR 178 [] true [.agg Q0m.sig] [] (λargs rows=>Qkf (Q0m.of (args.getD 0 .dead).cells)) (λX=> .bool X) (λX=>[])
theorem Z1n:Q05 Tryz.prog Z5q:=Q0y Q0j Q0i (.nil) Tryz.func178 Tryz.call178 (λargs rows=>Qqo (Q0m.of (args.getD 0 .dead).cells)) [] [] 2 (λ_ _ _=>by kernel_rfl) (λ_ _=>rfl) (λ_ _=>Tree.free_ok (by kernel_rfl)) (λ_ X=>by kernel_rfl)
def Q1o(x:Int):Tree Int:=
let E1:=(↑(List.length (List.append (List.append tblYc4 Qor) (List.append Qor Zal))):Int); .cn (decide (0≤ishr u32 x 24∧ishr u32 x 24<E1)) (.cn (decide (0≤iand u32 (ishr u32 x 16) 255∧iand u32 (ishr u32 x 16) 255<E1)) (.cn (decide (0≤iand u32 (ishr u32 x 8) 255∧iand u32 (ishr u32 x 8) 255<E1)) (.cn (decide (0≤iand u32 x 255∧iand u32 x 255<E1)) (.lf (wrap i64 (wrap u8 (wrap u8 (wrap u8 ((↑(UInt8.toNat (List.getD ((0:UInt8)::(Zgb++Qor++(Qor++Zal))) (Int.toNat (ishr u32 x 24)) (0:UInt8))):Int)+(↑(UInt8.toNat (List.getD ((0:UInt8)::(Zgb++Qor++(Qor++Zal))) (Int.toNat (iand u32 (ishr u32 x 16) 255)) (0:UInt8))):Int))+(↑(UInt8.toNat (List.getD ((0:UInt8)::(Zgb++Qor++(Qor++Zal))) (Int.toNat (iand u32 (ishr u32 x 8) 255)) (0:UInt8))):Int))+(↑(UInt8.toNat (List.getD ((0:UInt8)::(Zgb++Qor++(Qor++Zal))) (Int.toNat (iand u32 x 255)) (0:UInt8))):Int))))))))
def Q6q(x:Int):Int:=(Q1o x).m
abbrev Q2y(x:Int):Prop:=(Q1o x).p
def Ql:Q0d:=mkP 234 [] true [.one (.int .u32)] [] (λargs rows=>Q2y (argI args 0)) (λargs rows=>Q6q (argI args 0)) (λX=> .int .i64 X) (λX=>[])
theorem Qk2:Q05 Tryz.prog Ql:=Q0o Q0j Q0i (.nil) Tryz.func234 Tryz.call234 (λargs rows=>Q1o (argI args 0)) [] [] 2 (λ_ _ _=>by kernel_rfl) (λ_ _=>rfl) (λ_ _ h=>h) (λ_ X=>by kernel_rfl)
def Q4m(b:Q06):Tree Int:=
.an (Q2y b.C2) (.lv (Q6q b.C2) λ(x0:Int)=> .lf x0)
def Qcs(b:Q06):Int:=(Q4m b).m
abbrev Q5p(b:Q06):Prop:=(Q4m b).p
def Qyy:Q0d:=mkP 194 [] true [.agg Q06.sig] [] (λargs rows=>Q5p (Q06.of (args.getD 0 .dead).cells)) (λargs rows=>Qcs (Q06.of (args.getD 0 .dead).cells)) (λX=> .int .i64 X) (λX=>[])
theorem Ql8:Q05 Tryz.prog Qyy:=Q0o Q0j Q0i (.cons Qk2 (.nil)) Tryz.func194 Tryz.call194 (λargs rows=>Q4m (Q06.of (args.getD 0 .dead).cells)) [] [] 2 (λ_ _ _=>by kernel_rfl) (λ_ _=>rfl) (λ_ _ h=>h) (λ_ X=>by kernel_rfl)
def Q2l(b:Q06):Tree Bool:=
.an (Q5p b) (.lv (Qcs b) λ(x0:Int)=> .lf (wrap u32 x0 !=b.C9))
def Q7g(b:Q06):Bool:=(Q2l b).m
abbrev Q60(b:Q06):Prop:=(Q2l b).p
def Qsl:Q0d:=mkP 179 [] true [.agg Q06.sig] [] (λargs rows=>Q60 (Q06.of (args.getD 0 .dead).cells)) (λargs rows=>Q7g (Q06.of (args.getD 0 .dead).cells)) (λX=> .bool X) (λX=>[])
theorem Qrn:Q05 Tryz.prog Qsl:=Q0o Q0j Q0i (.cons Ql8 (.nil)) Tryz.func179 Tryz.call179 (λargs rows=>Q2l (Q06.of (args.getD 0 .dead).cells)) [] [] 2 (λ_ _ _=>by kernel_rfl) (λ_ _=>rfl) (λ_ _ h=>h) (λ_ X=>by kernel_rfl)
def Qh2(m:Q00)(z:(Int)×(Int)):Nat:=(5-z.2).toNat
def Q3n(m:Q00):Tree Int:=
.lv (Qg3 m.B0) λ(x0:Bool)=> .lv (Q9y m.A3) λ(x1:Bool)=> .lv (Qa m.B1) λ(x2:Bool)=> .lv (Qkf m.C5) λ(x3:Bool)=> .an (Q60 m.A1) (.lv (Q7g m.A1) λ(x4:Bool)=> .lp inferInstance (Qh2 m (0,0)+1) ((rE (0:Int)∧(rE (x0:Bool)∧rE (x1:Bool)∧rE (x2:Bool)∧rE (x3:Bool)∧rE (x4:Bool)∧True)∧rE (0:Int)∧True)∧True) (0,0) λ(v0:Int×Int)=> .br (decide (v0.2<5)) (.cn (Nat.beq 1 1&&(Nat.beq 5 5&&decide (0≤v0.2∧v0.2<(↑5:Int)))) (.br (List.getD [x0,x1,x2,x3,x4] v0.2.toNat false) (.cn (decide (0≤v0.2)) (.nx ((rE ((ior u32 v0.1 (ishl u32 1 v0.2)):Int)∧(rE (x0:Bool)∧rE (x1:Bool)∧rE (x2:Bool)∧rE (x3:Bool)∧rE (x4:Bool)∧True)∧rE ((wrap i64 (v0.2+1)):Int)∧True)∧True) (Sum.inl (ior u32 v0.1 (ishl u32 1 v0.2),wrap i64 (v0.2+1))))) (.nx ((rE v0.1∧(rE (x0:Bool)∧rE (x1:Bool)∧rE (x2:Bool)∧rE (x3:Bool)∧rE (x4:Bool)∧True)∧rE ((wrap i64 (v0.2+1)):Int)∧True)∧True) (Sum.inl (v0.1,wrap i64 (v0.2+1)))))) (.lf (Sum.inr v0.1)))
def Qd2(m:Q00):Int:=(Q3n m).m
abbrev Q7s(m:Q00):Prop:=(Q3n m).p
def Qw7:LInv:={
 α:=(Int)×(Int)
 F:=λst a=>([(4, .int u32 a.1),(23,(lk st 23)),(24, .int i64 a.2)],[])
 a0:=λst=>((lk st 4).toInt,(lk st 24).toInt)
 ex0:=λst=>[]++[]
 next:=λst=>((lk st 4).toInt,(lk st 24).toInt)
 ex:=λst=>[]++[]}
def Qq4:List (Nat×LInv):=[(4,Qw7)]
def Qxb:Q0d:=mkP 128 [] true [.agg Q00.sig] [] (λargs rows=>Q7s (Q00.of (args.getD 0 .dead).cells)) (λargs rows=>Qd2 (Q00.of (args.getD 0 .dead).cells)) (λX=> .int .u32 X) (λX=>[])
theorem Qw:Q05 Tryz.prog Qxb:=Q0o Q0j Q0i (.cons Qve (.cons Qr7 (.cons Qmp (.cons Z1n (.cons Qrn (.nil)))))) Tryz.func128 Tryz.call128 (λargs rows=>Q3n (Q00.of (args.getD 0 .dead).cells)) [] Qq4 3 (λ_ _ _=>by kernel_rfl) (λ_ _=>rfl) (λ_ _ h=>h) (λ_ X=>by kernel_rfl)
def Q1x(m:Q00):Tree Int:=
.an (Q7s m) (.lv (Qd2 m) λ(x0:Int)=> .lf (iand u32 x0 m.B3.B6.a7))
def Q5w(m:Q00):Int:=(Q1x m).m
abbrev Q42(m:Q00):Prop:=(Q1x m).p
def Qtx:Q0d:=mkP 95 [] true [.agg Q00.sig] [] (λargs rows=>Q42 (Q00.of (args.getD 0 .dead).cells)) (λargs rows=>Q5w (Q00.of (args.getD 0 .dead).cells)) (λX=> .int .u32 X) (λX=>[])
theorem Qis:Q05 Tryz.prog Qtx:=Q0o Q0j Q0i (.cons Qw (.nil)) Tryz.func95 Tryz.call95 (λargs rows=>Q1x (Q00.of (args.getD 0 .dead).cells)) [] [] 2 (λ_ _ _=>by kernel_rfl) (λ_ _=>rfl) (λ_ _ h=>h) (λ_ X=>by kernel_rfl)
def Q33(m:Q00):Tree Bool:=
.br m.A7 (.an (Q42 m) (.lv (Q5w m) λ(x0:Int)=> .lf (x0==0))) (.lf false)
def Q70(m:Q00):Bool:=(Q33 m).m
abbrev Q34(m:Q00):Prop:=(Q33 m).p
def Z1k:Q0d:=mkP 56 [] true [.agg Q00.sig] [] (λargs rows=>Q34 (Q00.of (args.getD 0 .dead).cells)) (λargs rows=>Q70 (Q00.of (args.getD 0 .dead).cells)) (λX=> .bool X) (λX=>[])
theorem Qlx:Q05 Tryz.prog Z1k:=Q0o Q0j Q0i (.cons Qis (.nil)) Tryz.func56 Tryz.call56 (λargs rows=>Q33 (Q00.of (args.getD 0 .dead).cells)) [] [] 2 (λ_ _ _=>by kernel_rfl) (λ_ _=>rfl) (λ_ _ h=>h) (λ_ X=>by kernel_rfl)
end
end Go.Proofs.YtpcbkbalabgnlaaGreat

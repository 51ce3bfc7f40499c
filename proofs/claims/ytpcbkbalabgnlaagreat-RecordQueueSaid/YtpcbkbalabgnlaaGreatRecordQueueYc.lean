/-
  Functions of the program: models, and that its calls come to them (by a program: gen3.py).
-/
import Derived.Test.YtpcbkbalabgnlaaGreatRecordQueueBase
import Derived.Test.YtpcbkbalabgnlaaGreatRecordQueueYa
set_option linter.unusedVariables false
set_option linter.unusedSimpArgs false
namespace Go.Proofs.YtpcbkbalabgnlaaGreat
open Go Go.GD Go.IntKind
set_option maxRecDepth 100000
noncomputable section
def tblYc0:List UInt8:=[(0:UInt8),1,2,2,3,3,3,3,4,4,4,4,4,4,4,4,5,5,5,5,5,5,5,5,5,5,5,5,5,5,5,5,6,6,6,6,6,6,6,6,6,6,6,6,6,6,6,6,6,6,6,6,6,6,6,6,6,6,6,6,6,6,6,6]
def Z2a:List UInt8:=[(7:UInt8),7,7,7,7,7,7,7,7,7,7,7,7,7,7,7,7,7,7,7,7,7,7,7,7,7,7,7,7,7,7,7,7,7,7,7,7,7,7,7,7,7,7,7,7,7,7,7,7,7,7,7,7,7,7,7,7,7,7,7,7,7,7,7]
def Qld:List UInt8:=[(8:UInt8),8,8,8,8,8,8,8,8,8,8,8,8,8,8,8,8,8,8,8,8,8,8,8,8,8,8,8,8,8,8,8,8,8,8,8,8,8,8,8,8,8,8,8,8,8,8,8,8,8,8,8,8,8,8,8,8,8,8,8,8,8,8,8]
def Z9t:List UInt8:=[(1:UInt8),2,2,3,3,3,3,4,4,4,4,4,4,4,4,5,5,5,5,5,5,5,5,5,5,5,5,5,5,5,5,6,6,6,6,6,6,6,6,6,6,6,6,6,6,6,6,6,6,6,6,6,6,6,6,6,6,6,6,6,6,6,6]
def tblYc4:List UInt8:=[(0:UInt8),1,1,2,1,2,2,3,1,2,2,3,2,3,3,4,1,2,2,3,2,3,3,4,2,3,3,4,3,4,4,5,1,2,2,3,2,3,3,4,2,3,3,4,3,4,4,5,2,3,3,4,3,4,4,5,3,4,4,5,4,5,5,6]
def Qlh:List UInt8:=[(1:UInt8),2,2,3,2,3,3,4,2,3,3,4,3,4,4,5,2,3,3,4,3,4,4,5,3,4,4,5,4,5,5,6,2,3,3,4,3,4,4,5,3,4,4,5,4,5,5,6,3,4,4,5,4,5,5,6,4,5,5,6,5,6,6,7]
def Z4p:List UInt8:=[(2:UInt8),3,3,4,3,4,4,5,3,4,4,5,4,5,5,6,3,4,4,5,4,5,5,6,4,5,5,6,5,6,6,7,3,4,4,5,4,5,5,6,4,5,5,6,5,6,6,7,4,5,5,6,5,6,6,7,5,6,6,7,6,7,7,8]
def Z84:List UInt8:=[(1:UInt8),1,2,1,2,2,3,1,2,2,3,2,3,3,4,1,2,2,3,2,3,3,4,2,3,3,4,3,4,4,5,1,2,2,3,2,3,3,4,2,3,3,4,3,4,4,5,2,3,3,4,3,4,4,5,3,4,4,5,4,5,5,6]
def Qo2(c:Q0c):Tree Bool:=
.lf (decide ((c.D2.length:Int)≤(16:Int)))
def Q3(c:Q0c):Bool:=(Qo2 c).m
def Qzl:Q0f:=mkR 119 [] true [.agg Q0c.sig] [] (λargs rows=>Q3 (Q0c.of (args.getD 0 .dead).cells)) (λX=> .bool X) (λX=>[])
theorem Qx3:Q09 Tryz.prog Qzl:=Q27 Q0o Q0p (.nil) Tryz.func119 Tryz.call119 (λargs rows=>Qo2 (Q0c.of (args.getD 0 .dead).cells)) [] [] 2 (λ_ _ _=>by kernel_rfl) (λ_ _=>rfl) (λ_ _=>Tree.free_ok (by kernel_rfl)) (λ_ X=>by kernel_rfl)
def Qhy(t:Q0h):Tree Bool:=
.br t.D6 (.br (!t.D5) (.lf (t.C7 !=0)) (.lf false)) (.br t.D5 (.lf true) (.lf (t.C7==0)))
def Q5o(t:Q0h):Bool:=(Qhy t).m
def Z6y:Q0f:=mkR 120 [] true [.agg Q0h.sig] [] (λargs rows=>Q5o (Q0h.of (args.getD 0 .dead).cells)) (λX=> .bool X) (λX=>[])
theorem Z49:Q09 Tryz.prog Z6y:=Q27 Q0o Q0p (.nil) Tryz.func120 Tryz.call120 (λargs rows=>Qhy (Q0h.of (args.getD 0 .dead).cells)) [] [] 2 (λ_ _ _=>by kernel_rfl) (λ_ _=>rfl) (λ_ _=>Tree.free_ok (by kernel_rfl)) (λ_ X=>by kernel_rfl)
def Q7(d0:Q0b):Tree Bool:=
.br (d0.D7==1) (.lf (decide (d0.C3=[]))) (.br (d0.D7==2) (.lf ((d0.C3.length:Int)==(128:Int))) (.lf false))
def Q8l(d0:Q0b):Bool:=(Q7 d0).m
def Qqe:Q0f:=mkR 171 [] true [.agg Q0b.sig] [] (λargs rows=>Q8l (Q0b.of (args.getD 0 .dead).cells)) (λX=> .bool X) (λX=>[])
theorem Qod:Q09 Tryz.prog Qqe:=Q27 Q0o Q0p (.nil) Tryz.func171 Tryz.call171 (λargs rows=>Q7 (Q0b.of (args.getD 0 .dead).cells)) [] [] 2 (λ_ _ _=>by kernel_rfl) (λ_ _=>rfl) (λ_ _=>Tree.free_ok (by kernel_rfl)) (λ_ X=>by kernel_rfl)
def Q5x(d0:Q0b)(pages:Int):Tree Bool:=
.br (decide (d0.Blocks>64)) (.lf false) (let T1:Tree (Bool):= .br (d0.D7==0) (.br (d0.B6==0) (.br (d0.B0==0) (.lf (decide (d0.C3=[]))) (.lf false)) (.lf false)) (.lf false); .br (d0.B9==0) T1 (.br (d0.B9==2) T1 (.br (d0.B9==3) T1 (.br (d0.B9==1) (.lv (Q8l d0) λ(x0:Bool)=> .br x0 (.br (decide (d0.B6<d0.Blocks)) (.lf (decide (wrap i64 d0.B0<pages))) (.lf false)) (.lf false)) (.lf false)))))
def Q1e(d0:Q0b)(pages:Int):Bool:=(Q5x d0 pages).m
def Zbw:Q0f:=mkR 121 [] true [.agg Q0b.sig, .one (.int .i64)] [] (λargs rows=>Q1e (Q0b.of (args.getD 0 .dead).cells) (argI args 1)) (λX=> .bool X) (λX=>[])
theorem Z7g:Q09 Tryz.prog Zbw:=Q27 Q0o Q0p (.cons Qod (.nil)) Tryz.func121 Tryz.call121 (λargs rows=>Q5x (Q0b.of (args.getD 0 .dead).cells) (argI args 1)) [] [] 2 (λ_ _ _=>by kernel_rfl) (λ_ _=>rfl) (λ_ _=>Tree.free_ok (by kernel_rfl)) (λ_ X=>by kernel_rfl)
def Qgv(n:Q0k)(pages:Int):Tree Bool:=
let T1:Tree (Bool):=let T2:Tree (Bool):= .br n.B7 (.br (decide (n.F2≥1)) (.lf (decide (n.F2≤128))) (.lf false)) (.lf (n.F2==0)); .br n.C4 (.br (decide (wrap i64 n.C0≥pages)) (.lf false) T2) (.br (n.C0 !=0) (.lf false) T2); .br n.C4 (.br n.B7 (.lf false) T1) T1
def Q6y(n:Q0k)(pages:Int):Bool:=(Qgv n pages).m
def nic_May_m:Q0f:=mkR 122 [] true [.agg Q0k.sig, .one (.int .i64)] [] (λargs rows=>Q6y (Q0k.of (args.getD 0 .dead).cells) (argI args 1)) (λX=> .bool X) (λX=>[])
theorem Zah:Q09 Tryz.prog nic_May_m:=Q27 Q0o Q0p (.nil) Tryz.func122 Tryz.call122 (λargs rows=>Qgv (Q0k.of (args.getD 0 .dead).cells) (argI args 1)) [] [] 2 (λ_ _ _=>by kernel_rfl) (λ_ _=>rfl) (λ_ _=>Tree.free_ok (by kernel_rfl)) (λ_ X=>by kernel_rfl)
def Q1s(x:Int):Tree Int:=
let E1:=(↑(List.length (List.append (List.append tblYc0 Z2a) (List.append Qld Qld))):Int); .br (decide (x≥65536)) (.br (decide (ishr u32 x (16:Int)≥(256:Int))) (.cn (decide (0≤wrap u8 (ishr u32 (ishr u32 x 16) 8)∧wrap u8 (ishr u32 (ishr u32 x 16) 8)<E1)) (.lf (wrap i64 (wrap i64 ((16:Int)+(8:Int))+wrap i64 (↑(UInt8.toNat (List.getD ((0:UInt8)::(Z9t++Z2a++(Qld++Qld))) (Int.toNat (wrap u8 (ishr u32 (ishr u32 x 16) 8))) (0:UInt8))):Int))))) (.cn (decide (0≤wrap u8 (ishr u32 x 16)∧wrap u8 (ishr u32 x 16)<E1)) (.lf (wrap i64 (16+wrap i64 (↑(UInt8.toNat (List.getD ((0:UInt8)::(Z9t++Z2a++(Qld++Qld))) (Int.toNat (wrap u8 (ishr u32 x 16))) (0:UInt8))):Int)))))) (.br (decide (x≥256)) (.cn (decide (0≤wrap u8 (ishr u32 x 8)∧wrap u8 (ishr u32 x 8)<E1)) (.lf (wrap i64 (wrap i64 ((0:Int)+(8:Int))+wrap i64 (↑(UInt8.toNat (List.getD ((0:UInt8)::(Z9t++Z2a++(Qld++Qld))) (Int.toNat (wrap u8 (ishr u32 x 8))) (0:UInt8))):Int))))) (.cn (decide (0≤wrap u8 x∧wrap u8 x<E1)) (.lf (wrap i64 (0+wrap i64 (↑(UInt8.toNat (List.getD ((0:UInt8)::(Z9t++Z2a++(Qld++Qld))) (Int.toNat (wrap u8 x)) (0:UInt8))):Int))))))
def Q1j(x:Int):Int:=(Q1s x).m
abbrev Q5p(x:Int):Prop:=(Q1s x).p
def Qpq:Q0f:=mkP 172 [] true [.one (.int .u32)] [] (λargs rows=>Q5p (argI args 0)) (λargs rows=>Q1j (argI args 0)) (λX=> .int .i64 X) (λX=>[])
theorem Qnw:Q09 Tryz.prog Qpq:=Q0x Q0o Q0p (.nil) Tryz.func172 Tryz.call172 (λargs rows=>Q1s (argI args 0)) [] [] 2 (λ_ _ _=>by kernel_rfl) (λ_ _=>rfl) (λ_ _ h=>h) (λ_ X=>by kernel_rfl)
def Q3y(b:Q07)(pages:Int):Tree Bool:=
.an (Q5p b.C2) (.lv (Q1j b.C2) λ(x0:Int)=> .lf (decide (x0≤if 0>pages then 0 else pages)))
def Q3g(b:Q07)(pages:Int):Bool:=(Q3y b pages).m
abbrev Q89(b:Q07)(pages:Int):Prop:=(Q3y b pages).p
def Qzq:Q0f:=mkP 123 [] true [.agg Q07.sig, .one (.int .i64)] [] (λargs rows=>Q89 (Q07.of (args.getD 0 .dead).cells) (argI args 1)) (λargs rows=>Q3g (Q07.of (args.getD 0 .dead).cells) (argI args 1)) (λX=> .bool X) (λX=>[])
theorem Qws:Q09 Tryz.prog Qzq:=Q0x Q0o Q0p (.cons Qnw (.nil)) Tryz.func123 Tryz.call123 (λargs rows=>Q3y (Q07.of (args.getD 0 .dead).cells) (argI args 1)) [] [] 2 (λ_ _ _=>by kernel_rfl) (λ_ _=>rfl) (λ_ _ h=>h) (λ_ X=>by kernel_rfl)
def Q1n(m:Q00):Tree Bool:=
.lv (Q0n m.Mem) λ(x0:Int)=> .lv (Q3 m.A2) λ(x1:Bool)=> .br x1 (.lv (Q5o m.A9) λ(x2:Bool)=> .br x2 (.lv (Q1e m.B2 x0) λ(x3:Bool)=> .br x3 (.lv (Q6y m.C6 x0) λ(x4:Bool)=> .br x4 (.an (Q89 m.A1 x0) (.lv (Q3g m.A1 x0) λ(x5:Bool)=> .lf x5)) (.lf false)) (.lf false)) (.lf false)) (.lf false)
def Q0v(m:Q00):Bool:=(Q1n m).m
abbrev Q2p(m:Q00):Prop:=(Q1n m).p
def Ql2:Q0f:=mkP 90 [] true [.agg Q00.sig] [] (λargs rows=>Q2p (Q00.of (args.getD 0 .dead).cells)) (λargs rows=>Q0v (Q00.of (args.getD 0 .dead).cells)) (λX=> .bool X) (λX=>[])
theorem Qjf:Q09 Tryz.prog Ql2:=Q0x Q0o Q0p (.cons Q49 (.cons Qx3 (.cons Z49 (.cons Z7g (.cons Zah (.cons Qws (.nil))))))) Tryz.func90 Tryz.call90 (λargs rows=>Q1n (Q00.of (args.getD 0 .dead).cells)) [] [] 2 (λ_ _ _=>by kernel_rfl) (λ_ _=>rfl) (λ_ _ h=>h) (λ_ X=>by kernel_rfl)
def Q6c(m:Q00):Tree Bool:=
.lv (Q0n m.Mem) λ(x0:Int)=> .br (x0==0) (.lf false) (.br (m.B4.X.a0 !=0) (.lf false) (.br (decide (m.B4.B5.a0>31)) (.lf false) (.br (decide (m.B4.B5.a7>31)) (.lf false) (.br (decide (m.B4.B5.a6>255)) (.lf false) (.br (Int.tmod m.B4.B5.a1 (4:Int) !=(0:Int)) (.lf false) (.br (decide (m.A4>1152921504606846976)) (.lf false) (.br m.A3 (.br m.A6 (.lf false) (.an (Q2p m) (.lv (Q0v m) λ(x1:Bool)=> .lf x1))) (.an (Q2p m) (.lv (Q0v m) λ(x2:Bool)=> .lf x2)))))))))
def Q1c(m:Q00):Bool:=(Q6c m).m
abbrev Q5r(m:Q00):Prop:=(Q6c m).p
def Z1o:Q0f:=mkP 51 [] true [.agg Q00.sig] [] (λargs rows=>Q5r (Q00.of (args.getD 0 .dead).cells)) (λargs rows=>Q1c (Q00.of (args.getD 0 .dead).cells)) (λX=> .bool X) (λX=>[])
theorem Qgp:Q09 Tryz.prog Z1o:=Q0x Q0o Q0p (.cons Q49 (.cons Qjf (.nil))) Tryz.func51 Tryz.call51 (λargs rows=>Q6c (Q00.of (args.getD 0 .dead).cells)) [] [] 2 (λ_ _ _=>by kernel_rfl) (λ_ _=>rfl) (λ_ _ h=>h) (λ_ X=>by kernel_rfl)
def Qk1(t:Q0h):Tree Bool:=
.lf t.D5
def Qe5(t:Q0h):Bool:=(Qk1 t).m
def Qu:Q0f:=mkR 175 [] true [.agg Q0h.sig] [] (λargs rows=>Qe5 (Q0h.of (args.getD 0 .dead).cells)) (λX=> .bool X) (λX=>[])
theorem Qsa:Q09 Tryz.prog Qu:=Q27 Q0o Q0p (.nil) Tryz.func175 Tryz.call175 (λargs rows=>Qk1 (Q0h.of (args.getD 0 .dead).cells)) [] [] 2 (λ_ _ _=>by kernel_rfl) (λ_ _=>rfl) (λ_ _=>Tree.free_ok (by kernel_rfl)) (λ_ X=>by kernel_rfl)
def Qha(c:Q0c):Tree Bool:=
.lf (!decide (c.D2=[]))
def Q8o(c:Q0c):Bool:=(Qha c).m
def Qp3:Q0f:=mkR 176 [] true [.agg Q0c.sig] [] (λargs rows=>Q8o (Q0c.of (args.getD 0 .dead).cells)) (λX=> .bool X) (λX=>[])
theorem Qnl:Q09 Tryz.prog Qp3:=Q27 Q0o Q0p (.nil) Tryz.func176 Tryz.call176 (λargs rows=>Qha (Q0c.of (args.getD 0 .dead).cells)) [] [] 2 (λ_ _ _=>by kernel_rfl) (λ_ _=>rfl) (λ_ _=>Tree.free_ok (by kernel_rfl)) (λ_ X=>by kernel_rfl)
def Qgj(d0:Q0b):Tree Bool:=
.br (d0.B9==2) (.lf true) (.lf (d0.B9==3))
def Q8r(d0:Q0b):Bool:=(Qgj d0).m
def Qwx:Q0f:=mkR 177 [] true [.agg Q0b.sig] [] (λargs rows=>Q8r (Q0b.of (args.getD 0 .dead).cells)) (λX=> .bool X) (λX=>[])
theorem Qj0:Q09 Tryz.prog Qwx:=Q27 Q0o Q0p (.nil) Tryz.func177 Tryz.call177 (λargs rows=>Qgj (Q0b.of (args.getD 0 .dead).cells)) [] [] 2 (λ_ _ _=>by kernel_rfl) (λ_ _=>rfl) (λ_ _=>Tree.free_ok (by kernel_rfl)) (λ_ X=>by kernel_rfl)
def Qnh(n:Q0k):Tree Bool:=
.lf n.B7
def Qht(n:Q0k):Bool:=(Qnh n).m
def Qzf:Q0f:=mkR 178 [] true [.agg Q0k.sig] [] (λargs rows=>Qht (Q0k.of (args.getD 0 .dead).cells)) (λX=> .bool X) (λX=>[])
theorem Qwv:Q09 Tryz.prog Qzf:=Q27 Q0o Q0p (.nil) Tryz.func178 Tryz.call178 (λargs rows=>Qnh (Q0k.of (args.getD 0 .dead).cells)) [] [] 2 (λ_ _ _=>by kernel_rfl) (λ_ _=>rfl) (λ_ _=>Tree.free_ok (by kernel_rfl)) (λ_ X=>by kernel_rfl)
def Q1i(x:Int):Tree Int:=
let E1:=(↑(List.length (List.append (List.append tblYc4 Qlh) (List.append Qlh Z4p))):Int); .cn (decide (0≤ishr u32 x 24∧ishr u32 x 24<E1)) (.cn (decide (0≤iand u32 (ishr u32 x 16) 255∧iand u32 (ishr u32 x 16) 255<E1)) (.cn (decide (0≤iand u32 (ishr u32 x 8) 255∧iand u32 (ishr u32 x 8) 255<E1)) (.cn (decide (0≤iand u32 x 255∧iand u32 x 255<E1)) (.lf (wrap i64 (wrap u8 (wrap u8 (wrap u8 ((↑(UInt8.toNat (List.getD ((0:UInt8)::(Z84++Qlh++(Qlh++Z4p))) (Int.toNat (ishr u32 x 24)) (0:UInt8))):Int)+(↑(UInt8.toNat (List.getD ((0:UInt8)::(Z84++Qlh++(Qlh++Z4p))) (Int.toNat (iand u32 (ishr u32 x 16) 255)) (0:UInt8))):Int))+(↑(UInt8.toNat (List.getD ((0:UInt8)::(Z84++Qlh++(Qlh++Z4p))) (Int.toNat (iand u32 (ishr u32 x 8) 255)) (0:UInt8))):Int))+(↑(UInt8.toNat (List.getD ((0:UInt8)::(Z84++Qlh++(Qlh++Z4p))) (Int.toNat (iand u32 x 255)) (0:UInt8))):Int))))))))
def Q67(x:Int):Int:=(Q1i x).m
abbrev Q2u(x:Int):Prop:=(Q1i x).p
def Qia:Q0f:=mkP 234 [] true [.one (.int .u32)] [] (λargs rows=>Q2u (argI args 0)) (λargs rows=>Q67 (argI args 0)) (λX=> .int .i64 X) (λX=>[])
theorem Qh2:Q09 Tryz.prog Qia:=Q0x Q0o Q0p (.nil) Tryz.func234 Tryz.call234 (λargs rows=>Q1i (argI args 0)) [] [] 2 (λ_ _ _=>by kernel_rfl) (λ_ _=>rfl) (λ_ _ h=>h) (λ_ X=>by kernel_rfl)
def Q4a(b:Q07):Tree Int:=
.an (Q2u b.C2) (.lv (Q67 b.C2) λ(x0:Int)=> .lf x0)
def Qb7(b:Q07):Int:=(Q4a b).m
abbrev Q5a(b:Q07):Prop:=(Q4a b).p
def Qux:Q0f:=mkP 194 [] true [.agg Q07.sig] [] (λargs rows=>Q5a (Q07.of (args.getD 0 .dead).cells)) (λargs rows=>Qb7 (Q07.of (args.getD 0 .dead).cells)) (λX=> .int .i64 X) (λX=>[])
theorem Qir:Q09 Tryz.prog Qux:=Q0x Q0o Q0p (.cons Qh2 (.nil)) Tryz.func194 Tryz.call194 (λargs rows=>Q4a (Q07.of (args.getD 0 .dead).cells)) [] [] 2 (λ_ _ _=>by kernel_rfl) (λ_ _=>rfl) (λ_ _ h=>h) (λ_ X=>by kernel_rfl)
def Q2g(b:Q07):Tree Bool:=
.an (Q5a b) (.lv (Qb7 b) λ(x0:Int)=> .lf (wrap u32 x0 !=b.C8))
def Q72(b:Q07):Bool:=(Q2g b).m
abbrev Q5s(b:Q07):Prop:=(Q2g b).p
def Qpb:Q0f:=mkP 179 [] true [.agg Q07.sig] [] (λargs rows=>Q5s (Q07.of (args.getD 0 .dead).cells)) (λargs rows=>Q72 (Q07.of (args.getD 0 .dead).cells)) (λX=> .bool X) (λX=>[])
theorem Qn:Q09 Tryz.prog Qpb:=Q0x Q0o Q0p (.cons Qir (.nil)) Tryz.func179 Tryz.call179 (λargs rows=>Q2g (Q07.of (args.getD 0 .dead).cells)) [] [] 2 (λ_ _ _=>by kernel_rfl) (λ_ _=>rfl) (λ_ _ h=>h) (λ_ X=>by kernel_rfl)
def Qfg(m:Q00)(z:(Int)×(Int)):Nat:=(5-z.2).toNat
def Q3i(m:Q00):Tree Int:=
.lv (Qe5 m.A9) λ(x0:Bool)=> .lv (Q8o m.A2) λ(x1:Bool)=> .lv (Q8r m.B2) λ(x2:Bool)=> .lv (Qht m.C6) λ(x3:Bool)=> .an (Q5s m.A1) (.lv (Q72 m.A1) λ(x4:Bool)=> .lp inferInstance (Qfg m (0,0)+1) ((rE (0:Int)∧(rE (x0:Bool)∧rE (x1:Bool)∧rE (x2:Bool)∧rE (x3:Bool)∧rE (x4:Bool)∧True)∧rE (0:Int)∧True)∧True) (0,0) λ(v0:Int×Int)=> .br (decide (v0.2<5)) (.cn (Nat.beq 1 1&&(Nat.beq 5 5&&decide (0≤v0.2∧v0.2<(↑5:Int)))) (.br (List.getD [x0,x1,x2,x3,x4] v0.2.toNat false) (.cn (decide (0≤v0.2)) (.nx ((rE ((ior u32 v0.1 (ishl u32 1 v0.2)):Int)∧(rE (x0:Bool)∧rE (x1:Bool)∧rE (x2:Bool)∧rE (x3:Bool)∧rE (x4:Bool)∧True)∧rE ((wrap i64 (v0.2+1)):Int)∧True)∧True) (Sum.inl (ior u32 v0.1 (ishl u32 1 v0.2),wrap i64 (v0.2+1))))) (.nx ((rE v0.1∧(rE (x0:Bool)∧rE (x1:Bool)∧rE (x2:Bool)∧rE (x3:Bool)∧rE (x4:Bool)∧True)∧rE ((wrap i64 (v0.2+1)):Int)∧True)∧True) (Sum.inl (v0.1,wrap i64 (v0.2+1)))))) (.lf (Sum.inr v0.1)))
def Qbc(m:Q00):Int:=(Q3i m).m
abbrev Q6z(m:Q00):Prop:=(Q3i m).p
def Qrz:LInv:={
 α:=(Int)×(Int)
 F:=λst a=>([(4, .int u32 a.1),(23,(lk st 23)),(24, .int i64 a.2)],[])
 a0:=λst=>((lk st 4).toInt,(lk st 24).toInt)
 ex0:=λst=>[]++[]
 next:=λst=>((lk st 4).toInt,(lk st 24).toInt)
 ex:=λst=>[]++[]}
def Qoe:List (Nat×LInv):=[(4,Qrz)]
def Qt6:Q0f:=mkP 128 [] true [.agg Q00.sig] [] (λargs rows=>Q6z (Q00.of (args.getD 0 .dead).cells)) (λargs rows=>Qbc (Q00.of (args.getD 0 .dead).cells)) (λX=> .int .u32 X) (λX=>[])
theorem Qro:Q09 Tryz.prog Qt6:=Q0x Q0o Q0p (.cons Qsa (.cons Qnl (.cons Qj0 (.cons Qwv (.cons Qn (.nil)))))) Tryz.func128 Tryz.call128 (λargs rows=>Q3i (Q00.of (args.getD 0 .dead).cells)) [] Qoe 3 (λ_ _ _=>by kernel_rfl) (λ_ _=>rfl) (λ_ _ h=>h) (λ_ X=>by kernel_rfl)
def Q1q(m:Q00):Tree Int:=
.an (Q6z m) (.lv (Qbc m) λ(x0:Int)=> .lf (iand u32 x0 m.B4.B5.a7))
def Q5l(m:Q00):Int:=(Q1q m).m
abbrev Q3u(m:Q00):Prop:=(Q1q m).p
def Qpj:Q0f:=mkP 95 [] true [.agg Q00.sig] [] (λargs rows=>Q3u (Q00.of (args.getD 0 .dead).cells)) (λargs rows=>Q5l (Q00.of (args.getD 0 .dead).cells)) (λX=> .int .u32 X) (λX=>[])
theorem Qg6:Q09 Tryz.prog Qpj:=Q0x Q0o Q0p (.cons Qro (.nil)) Tryz.func95 Tryz.call95 (λargs rows=>Q1q (Q00.of (args.getD 0 .dead).cells)) [] [] 2 (λ_ _ _=>by kernel_rfl) (λ_ _=>rfl) (λ_ _ h=>h) (λ_ X=>by kernel_rfl)
def Q2w(m:Q00):Tree Bool:=
.br m.A3 (.an (Q3u m) (.lv (Q5l m) λ(x0:Int)=> .lf (x0==0))) (.lf false)
def Q6e(m:Q00):Bool:=(Q2w m).m
abbrev Q2x(m:Q00):Prop:=(Q2w m).p
def Qx8:Q0f:=mkP 56 [] true [.agg Q00.sig] [] (λargs rows=>Q2x (Q00.of (args.getD 0 .dead).cells)) (λargs rows=>Q6e (Q00.of (args.getD 0 .dead).cells)) (λX=> .bool X) (λX=>[])
theorem Qj4:Q09 Tryz.prog Qx8:=Q0x Q0o Q0p (.cons Qg6 (.nil)) Tryz.func56 Tryz.call56 (λargs rows=>Q2w (Q00.of (args.getD 0 .dead).cells)) [] [] 2 (λ_ _ _=>by kernel_rfl) (λ_ _=>rfl) (λ_ _ h=>h) (λ_ X=>by kernel_rfl)
end
end Go.Proofs.YtpcbkbalabgnlaaGreat

/-
  Functions of the program: models, and that its calls come to them (by a program: gen3.py).
-/
import Derived.Test.YtjaifpiopmhmlaaGreatBareIgnoresBase
import Derived.Test.YtjaifpiopmhmlaaGreatBareIgnoresYa
set_option maxRecDepth 100000
set_option linter.all false
namespace Go.Proofs.YtjaifpiopmhmlaaGreat
open Go Go.GD Go.IntKind
noncomputable section
def tblYc0:List UInt8:=[(0:UInt8),1,2,2,3,3,3,3,4,4,4,4,4,4,4,4,5,5,5,5,5,5,5,5,5,5,5,5,5,5,5,5,6,6,6,6,6,6,6,6,6,6,6,6,6,6,6,6,6,6,6,6,6,6,6,6,6,6,6,6,6,6,6,6]
def Zb8:List UInt8:=[(7:UInt8),7,7,7,7,7,7,7,7,7,7,7,7,7,7,7,7,7,7,7,7,7,7,7,7,7,7,7,7,7,7,7,7,7,7,7,7,7,7,7,7,7,7,7,7,7,7,7,7,7,7,7,7,7,7,7,7,7,7,7,7,7,7,7]
def Qpe:List UInt8:=[(8:UInt8),8,8,8,8,8,8,8,8,8,8,8,8,8,8,8,8,8,8,8,8,8,8,8,8,8,8,8,8,8,8,8,8,8,8,8,8,8,8,8,8,8,8,8,8,8,8,8,8,8,8,8,8,8,8,8,8,8,8,8,8,8,8,8]
def Zi6:List UInt8:=[(1:UInt8),2,2,3,3,3,3,4,4,4,4,4,4,4,4,5,5,5,5,5,5,5,5,5,5,5,5,5,5,5,5,6,6,6,6,6,6,6,6,6,6,6,6,6,6,6,6,6,6,6,6,6,6,6,6,6,6,6,6,6,6,6,6]
def tblYc4:List UInt8:=[(0:UInt8),1,1,2,1,2,2,3,1,2,2,3,2,3,3,4,1,2,2,3,2,3,3,4,2,3,3,4,3,4,4,5,1,2,2,3,2,3,3,4,2,3,3,4,3,4,4,5,2,3,3,4,3,4,4,5,3,4,4,5,4,5,5,6]
def Qp5:List UInt8:=[(1:UInt8),2,2,3,2,3,3,4,2,3,3,4,3,4,4,5,2,3,3,4,3,4,4,5,3,4,4,5,4,5,5,6,2,3,3,4,3,4,4,5,3,4,4,5,4,5,5,6,3,4,4,5,4,5,5,6,4,5,5,6,5,6,6,7]
def Zbk:List UInt8:=[(2:UInt8),3,3,4,3,4,4,5,3,4,4,5,4,5,5,6,3,4,4,5,4,5,5,6,4,5,5,6,5,6,6,7,3,4,4,5,4,5,5,6,4,5,5,6,5,6,6,7,4,5,5,6,5,6,6,7,5,6,6,7,6,7,7,8]
def Zid:List UInt8:=[(1:UInt8),1,2,1,2,2,3,1,2,2,3,2,3,3,4,1,2,2,3,2,3,3,4,2,3,3,4,3,4,4,5,1,2,2,3,2,3,3,4,2,3,3,4,3,4,4,5,2,3,3,4,3,4,4,5,3,4,4,5,4,5,5,6]
def Qr0(c:Q0b):Tree Bool:=
.lf (decide ((c.D3.length:Int)<=(16:Int)))
def Q24(c:Q0b):Bool:=(Qr0 c).m
def Z7s:Q0c:=mkR 147 [] true [.agg Q0b.sig] [] (λargs rows=>Q24 (Q0b.of (args.getD 0 .dead).cells)) (λX=> .bool X) (λX=>[])
theorem Z3n:Q05 Tryz.prog Z7s:=Q0z Q0j Q0k (.nil) Tryz.func147 Tryz.call147 (λargs rows=>Qr0 (Q0b.of (args.getD 0 .dead).cells)) [] [] 2 (λ_ _ _=>by kernel_rfl) (λ_ _=>rfl) (λ_ _=>Tree.free_ok (by kernel_rfl)) (λ_ X=>by kernel_rfl)
def Qll(t:Q0g):Tree Bool:=
.br t.D2 (.br (!t.D5) (.lf (t.C9 !=0)) (.lf false)) (.br t.D5 (.lf true) (.lf (t.C9==0)))
def Q3y(t:Q0g):Bool:=(Qll t).m
def Zfi:Q0c:=mkR 148 [] true [.agg Q0g.sig] [] (λargs rows=>Q3y (Q0g.of (args.getD 0 .dead).cells)) (λX=> .bool X) (λX=>[])
theorem Zb1:Q05 Tryz.prog Zfi:=Q0z Q0j Q0k (.nil) Tryz.func148 Tryz.call148 (λargs rows=>Qll (Q0g.of (args.getD 0 .dead).cells)) [] [] 2 (λ_ _ _=>by kernel_rfl) (λ_ _=>rfl) (λ_ _=>Tree.free_ok (by kernel_rfl)) (λ_ X=>by kernel_rfl)
def Q6q(d0:Q0f):Tree Bool:=
.br (d0.D8==1) (.lf (decide (d0.C4=[]))) (.br (d0.D8==2) (.lf ((d0.C4.length:Int)==(128:Int))) (.lf false))
def Q8s(d0:Q0f):Bool:=(Q6q d0).m
def Qum:Q0c:=mkR 206 [] true [.agg Q0f.sig] [] (λargs rows=>Q8s (Q0f.of (args.getD 0 .dead).cells)) (λX=> .bool X) (λX=>[])
theorem Qr6:Q05 Tryz.prog Qum:=Q0z Q0j Q0k (.nil) Tryz.func206 Tryz.call206 (λargs rows=>Q6q (Q0f.of (args.getD 0 .dead).cells)) [] [] 2 (λ_ _ _=>by kernel_rfl) (λ_ _=>rfl) (λ_ _=>Tree.free_ok (by kernel_rfl)) (λ_ X=>by kernel_rfl)
def Q5v(d0:Q0f)(pages:Int):Tree Bool:=
.br (decide (d0.Blocks>64)) (.lf false) (let T1:Tree (Bool):= .br (d0.D8==0) (.br (d0.B7==0) (.br (d0.B3==0) (.lf (decide (d0.C4=[]))) (.lf false)) (.lf false)) (.lf false); .br (d0.C2==0) T1 (.br (d0.C2==2) T1 (.br (d0.C2==3) T1 (.br (d0.C2==1) (.lv (Q8s d0) λ(x0:Bool)=> .br x0 (.br (decide (d0.B7<d0.Blocks)) (.lf (decide (wrap i64 d0.B3<pages))) (.lf false)) (.lf false)) (.lf false)))))
def Q1c(d0:Q0f)(pages:Int):Bool:=(Q5v d0 pages).m
def Zjt:Q0c:=mkR 149 [] true [.agg Q0f.sig, .one (.int .i64)] [] (λargs rows=>Q1c (Q0f.of (args.getD 0 .dead).cells) (argI args 1)) (λX=> .bool X) (λX=>[])
theorem Zeg:Q05 Tryz.prog Zjt:=Q0z Q0j Q0k (.cons Qr6 (.nil)) Tryz.func149 Tryz.call149 (λargs rows=>Q5v (Q0f.of (args.getD 0 .dead).cells) (argI args 1)) [] [] 2 (λ_ _ _=>by kernel_rfl) (λ_ _=>rfl) (λ_ _=>Tree.free_ok (by kernel_rfl)) (λ_ X=>by kernel_rfl)
def Qkn(n:Q0q)(pages:Int):Tree Bool:=
let T1:Tree (Bool):=let T2:Tree (Bool):= .br n.B8 (.br (decide (n.F2>=1)) (.lf (decide (n.F2<=128))) (.lf false)) (.lf (n.F2==0)); .br n.C7 (.br (decide (wrap i64 n.C1>=pages)) (.lf false) T2) (.br (n.C1 !=0) (.lf false) T2); .br n.C7 (.br n.B8 (.lf false) T1) T1
def Q5o(n:Q0q)(pages:Int):Bool:=(Qkn n pages).m
def qB:Q0c:=mkR 150 [] true [.agg Q0q.sig, .one (.int .i64)] [] (λargs rows=>Q5o (Q0q.of (args.getD 0 .dead).cells) (argI args 1)) (λX=> .bool X) (λX=>[])
theorem Zkg:Q05 Tryz.prog qB:=Q0z Q0j Q0k (.nil) Tryz.func150 Tryz.call150 (λargs rows=>Qkn (Q0q.of (args.getD 0 .dead).cells) (argI args 1)) [] [] 2 (λ_ _ _=>by kernel_rfl) (λ_ _=>rfl) (λ_ _=>Tree.free_ok (by kernel_rfl)) (λ_ X=>by kernel_rfl)
def Q1n(x:Int):Tree Int:=
let E1:=(↑(List.length (List.append (List.append tblYc0 Zb8) (List.append Qpe Qpe))):Int); .br (decide (x>=65536)) (.br (decide (ishr u32 x (16:Int)>=(256:Int))) (.cn (decide (0<=wrap u8 (ishr u32 (ishr u32 x 16) 8)/\wrap u8 (ishr u32 (ishr u32 x 16) 8)<E1)) (.lf (wrap i64 (wrap i64 ((16:Int)+(8:Int))+wrap i64 (↑(UInt8.toNat (List.getD ((0:UInt8)::(Zi6++Zb8++(Qpe++Qpe))) (Int.toNat (wrap u8 (ishr u32 (ishr u32 x 16) 8))) (0:UInt8))):Int))))) (.cn (decide (0<=wrap u8 (ishr u32 x 16)/\wrap u8 (ishr u32 x 16)<E1)) (.lf (wrap i64 (16+wrap i64 (↑(UInt8.toNat (List.getD ((0:UInt8)::(Zi6++Zb8++(Qpe++Qpe))) (Int.toNat (wrap u8 (ishr u32 x 16))) (0:UInt8))):Int)))))) (.br (decide (x>=256)) (.cn (decide (0<=wrap u8 (ishr u32 x 8)/\wrap u8 (ishr u32 x 8)<E1)) (.lf (wrap i64 (wrap i64 ((0:Int)+(8:Int))+wrap i64 (↑(UInt8.toNat (List.getD ((0:UInt8)::(Zi6++Zb8++(Qpe++Qpe))) (Int.toNat (wrap u8 (ishr u32 x 8))) (0:UInt8))):Int))))) (.cn (decide (0<=wrap u8 x/\wrap u8 x<E1)) (.lf (wrap i64 (0+wrap i64 (↑(UInt8.toNat (List.getD ((0:UInt8)::(Zi6++Zb8++(Qpe++Qpe))) (Int.toNat (wrap u8 x)) (0:UInt8))):Int))))))
def Q1e(x:Int):Int:=(Q1n x).m
abbrev Qaw(x:Int):Prop:=(Q1n x).p
def Qte:Q0c:=mkP 207 [] true [.one (.int .u32)] [] (λargs rows=>Qaw (argI args 0)) (λargs rows=>Q1e (argI args 0)) (λX=> .int .i64 X) (λX=>[])
theorem Qsi:Q05 Tryz.prog Qte:=Q0n Q0j Q0k (.nil) Tryz.func207 Tryz.call207 (λargs rows=>Q1n (argI args 0)) [] [] 2 (λ_ _ _=>by kernel_rfl) (λ_ _=>rfl) (λ_ _ h=>h) (λ_ X=>by kernel_rfl)
def Q3u(b:Q07)(pages:Int):Tree Bool:=
.an (Qaw b.C3) (.lv (Q1e b.C3) λ(x0:Int)=> .lf (decide (x0<=if 0>pages then 0 else pages)))
def Q2f(b:Q07)(pages:Int):Bool:=(Q3u b pages).m
abbrev Qcf(b:Q07)(pages:Int):Prop:=(Q3u b pages).p
def Z8g:Q0c:=mkP 151 [] true [.agg Q07.sig, .one (.int .i64)] [] (λargs rows=>Qcf (Q07.of (args.getD 0 .dead).cells) (argI args 1)) (λargs rows=>Q2f (Q07.of (args.getD 0 .dead).cells) (argI args 1)) (λX=> .bool X) (λX=>[])
theorem Z2a:Q05 Tryz.prog Z8g:=Q0n Q0j Q0k (.cons Qsi (.nil)) Tryz.func151 Tryz.call151 (λargs rows=>Q3u (Q07.of (args.getD 0 .dead).cells) (argI args 1)) [] [] 2 (λ_ _ _=>by kernel_rfl) (λ_ _=>rfl) (λ_ _ h=>h) (λ_ X=>by kernel_rfl)
def Q1k(m:Q00):Tree Bool:=
.lv (Q0v m.Mem) λ(x0:Int)=> .lv (Q24 m.A3) λ(x1:Bool)=> .br x1 (.lv (Q3y m.B0) λ(x2:Bool)=> .br x2 (.lv (Q1c m.B1 x0) λ(x3:Bool)=> .br x3 (.lv (Q5o m.C5 x0) λ(x4:Bool)=> .br x4 (.an (Qcf m.A2 x0) (.lv (Q2f m.A2 x0) λ(x5:Bool)=> .lf x5)) (.lf false)) (.lf false)) (.lf false)) (.lf false)
def Q0x(m:Q00):Bool:=(Q1k m).m
abbrev Q2i(m:Q00):Prop:=(Q1k m).p
def Qp1:Q0c:=mkP 85 [] true [.agg Q00.sig] [] (λargs rows=>Q2i (Q00.of (args.getD 0 .dead).cells)) (λargs rows=>Q0x (Q00.of (args.getD 0 .dead).cells)) (λX=> .bool X) (λX=>[])
theorem Qns:Q05 Tryz.prog Qp1:=Q0n Q0j Q0k (.cons Q41 (.cons Z3n (.cons Zb1 (.cons Zeg (.cons Zkg (.cons Z2a (.nil))))))) Tryz.func85 Tryz.call85 (λargs rows=>Q1k (Q00.of (args.getD 0 .dead).cells)) [] [] 2 (λ_ _ _=>by kernel_rfl) (λ_ _=>rfl) (λ_ _ h=>h) (λ_ X=>by kernel_rfl)
def Q4x(m:Q00):Tree Bool:=
.lv (Q0v m.Mem) λ(x0:Int)=> .br (x0==0) (.lf false) (.br (m.B2.X.a0 !=0) (.lf false) (.br (decide (m.B2.B6.a0>31)) (.lf false) (.br (decide (m.B2.B6.a7>31)) (.lf false) (.br (decide (m.B2.B6.a6>255)) (.lf false) (.br (Int.tmod m.B2.B6.a1 (4:Int) !=(0:Int)) (.lf false) (.br (decide (m.A1>1152921504606846976)) (.lf false) (.br m.A4 (.br m.A7 (.lf false) (.an (Q2i m) (.lv (Q0x m) λ(x1:Bool)=> .lf x1))) (.an (Q2i m) (.lv (Q0x m) λ(x2:Bool)=> .lf x2)))))))))
def Q1a(m:Q00):Bool:=(Q4x m).m
abbrev Q5a(m:Q00):Prop:=(Q4x m).p
def Z7y:Q0c:=mkP 43 [] true [.agg Q00.sig] [] (λargs rows=>Q5a (Q00.of (args.getD 0 .dead).cells)) (λargs rows=>Q1a (Q00.of (args.getD 0 .dead).cells)) (λX=> .bool X) (λX=>[])
theorem Qjg:Q05 Tryz.prog Z7y:=Q0n Q0j Q0k (.cons Q41 (.cons Qns (.nil))) Tryz.func43 Tryz.call43 (λargs rows=>Q4x (Q00.of (args.getD 0 .dead).cells)) [] [] 2 (λ_ _ _=>by kernel_rfl) (λ_ _=>rfl) (λ_ _ h=>h) (λ_ X=>by kernel_rfl)
def Qmy(t:Q0g):Tree Bool:=
.lf t.D5
def Qg5(t:Q0g):Bool:=(Qmy t).m
def Z12:Q0c:=mkR 92 [] true [.agg Q0g.sig] [] (λargs rows=>Qg5 (Q0g.of (args.getD 0 .dead).cells)) (λX=> .bool X) (λX=>[])
theorem Qx4:Q05 Tryz.prog Z12:=Q0z Q0j Q0k (.nil) Tryz.func92 Tryz.call92 (λargs rows=>Qmy (Q0g.of (args.getD 0 .dead).cells)) [] [] 2 (λ_ _ _=>by kernel_rfl) (λ_ _=>rfl) (λ_ _=>Tree.free_ok (by kernel_rfl)) (λ_ X=>by kernel_rfl)
def Qk9(c:Q0b):Tree Bool:=
.lf (!decide (c.D3=[]))
def Q8w(c:Q0b):Bool:=(Qk9 c).m
def Qtl:Q0c:=mkR 93 [] true [.agg Q0b.sig] [] (λargs rows=>Q8w (Q0b.of (args.getD 0 .dead).cells)) (λX=> .bool X) (λX=>[])
theorem Qrb:Q05 Tryz.prog Qtl:=Q0z Q0j Q0k (.nil) Tryz.func93 Tryz.call93 (λargs rows=>Qk9 (Q0b.of (args.getD 0 .dead).cells)) [] [] 2 (λ_ _ _=>by kernel_rfl) (λ_ _=>rfl) (λ_ _=>Tree.free_ok (by kernel_rfl)) (λ_ X=>by kernel_rfl)
def Qj9(d0:Q0f):Tree Bool:=
.br (d0.C2==2) (.lf true) (.lf (d0.C2==3))
def Q8v(d0:Q0f):Bool:=(Qj9 d0).m
def Z3y:Q0c:=mkR 94 [] true [.agg Q0f.sig] [] (λargs rows=>Q8v (Q0f.of (args.getD 0 .dead).cells)) (λX=> .bool X) (λX=>[])
theorem Qn:Q05 Tryz.prog Z3y:=Q0z Q0j Q0k (.nil) Tryz.func94 Tryz.call94 (λargs rows=>Qj9 (Q0f.of (args.getD 0 .dead).cells)) [] [] 2 (λ_ _ _=>by kernel_rfl) (λ_ _=>rfl) (λ_ _=>Tree.free_ok (by kernel_rfl)) (λ_ X=>by kernel_rfl)
def Qsk(n:Q0q):Tree Bool:=
.lf n.B8
def Qle(n:Q0q):Bool:=(Qsk n).m
def Z8j:Q0c:=mkR 95 [] true [.agg Q0q.sig] [] (λargs rows=>Qle (Q0q.of (args.getD 0 .dead).cells)) (λX=> .bool X) (λX=>[])
theorem Z3m:Q05 Tryz.prog Z8j:=Q0z Q0j Q0k (.nil) Tryz.func95 Tryz.call95 (λargs rows=>Qsk (Q0q.of (args.getD 0 .dead).cells)) [] [] 2 (λ_ _ _=>by kernel_rfl) (λ_ _=>rfl) (λ_ _=>Tree.free_ok (by kernel_rfl)) (λ_ X=>by kernel_rfl)
def Q31(x:Int):Tree Int:=
let E1:=(↑(List.length (List.append (List.append tblYc4 Qp5) (List.append Qp5 Zbk))):Int); .cn (decide (0<=ishr u32 x 24/\ishr u32 x 24<E1)) (.cn (decide (0<=iand u32 (ishr u32 x 16) 255/\iand u32 (ishr u32 x 16) 255<E1)) (.cn (decide (0<=iand u32 (ishr u32 x 8) 255/\iand u32 (ishr u32 x 8) 255<E1)) (.cn (decide (0<=iand u32 x 255/\iand u32 x 255<E1)) (.lf (wrap i64 (wrap u8 (wrap u8 (wrap u8 ((↑(UInt8.toNat (List.getD ((0:UInt8)::(Zid++Qp5++(Qp5++Zbk))) (Int.toNat (ishr u32 x 24)) (0:UInt8))):Int)+(↑(UInt8.toNat (List.getD ((0:UInt8)::(Zid++Qp5++(Qp5++Zbk))) (Int.toNat (iand u32 (ishr u32 x 16) 255)) (0:UInt8))):Int))+(↑(UInt8.toNat (List.getD ((0:UInt8)::(Zid++Qp5++(Qp5++Zbk))) (Int.toNat (iand u32 (ishr u32 x 8) 255)) (0:UInt8))):Int))+(↑(UInt8.toNat (List.getD ((0:UInt8)::(Zid++Qp5++(Qp5++Zbk))) (Int.toNat (iand u32 x 255)) (0:UInt8))):Int))))))))
def Q5z(x:Int):Int:=(Q31 x).m
abbrev Qag(x:Int):Prop:=(Q31 x).p
def Qkw:Q0c:=mkP 208 [] true [.one (.int .u32)] [] (λargs rows=>Qag (argI args 0)) (λargs rows=>Q5z (argI args 0)) (λX=> .int .i64 X) (λX=>[])
theorem Qjz:Q05 Tryz.prog Qkw:=Q0n Q0j Q0k (.nil) Tryz.func208 Tryz.call208 (λargs rows=>Q31 (argI args 0)) [] [] 2 (λ_ _ _=>by kernel_rfl) (λ_ _=>rfl) (λ_ _ h=>h) (λ_ X=>by kernel_rfl)
def Q9h(b:Q07):Tree Int:=
.an (Qag b.C3) (.lv (Q5z b.C3) λ(x0:Int)=> .lf x0)
def Qbu(b:Q07):Int:=(Q9h b).m
abbrev Qdj(b:Q07):Prop:=(Q9h b).p
def Z0t:Q0c:=mkP 152 [] true [.agg Q07.sig] [] (λargs rows=>Qdj (Q07.of (args.getD 0 .dead).cells)) (λargs rows=>Qbu (Q07.of (args.getD 0 .dead).cells)) (λX=> .int .i64 X) (λX=>[])
theorem Qln:Q05 Tryz.prog Z0t:=Q0n Q0j Q0k (.cons Qjz (.nil)) Tryz.func152 Tryz.call152 (λargs rows=>Q9h (Q07.of (args.getD 0 .dead).cells)) [] [] 2 (λ_ _ _=>by kernel_rfl) (λ_ _=>rfl) (λ_ _ h=>h) (λ_ X=>by kernel_rfl)
def Q53(b:Q07):Tree Bool:=
.an (Qdj b) (.lv (Qbu b) λ(x0:Int)=> .lf (wrap u32 x0 !=b.D0))
def Q6w(b:Q07):Bool:=(Q53 b).m
abbrev Qgk(b:Q07):Prop:=(Q53 b).p
def Qts:Q0c:=mkP 96 [] true [.agg Q07.sig] [] (λargs rows=>Qgk (Q07.of (args.getD 0 .dead).cells)) (λargs rows=>Q6w (Q07.of (args.getD 0 .dead).cells)) (λX=> .bool X) (λX=>[])
theorem Qs3:Q05 Tryz.prog Qts:=Q0n Q0j Q0k (.cons Qln (.nil)) Tryz.func96 Tryz.call96 (λargs rows=>Q53 (Q07.of (args.getD 0 .dead).cells)) [] [] 2 (λ_ _ _=>by kernel_rfl) (λ_ _=>rfl) (λ_ _ h=>h) (λ_ X=>by kernel_rfl)
def Qgu(m:Q00)(z:(Int)×(Int)):Nat:=(5-z.2).toNat
def Q6o(m:Q00):Tree Int:=
.lv (Qg5 m.B0) λ(x0:Bool)=> .lv (Q8w m.A3) λ(x1:Bool)=> .lv (Q8v m.B1) λ(x2:Bool)=> .lv (Qle m.C5) λ(x3:Bool)=> .an (Qgk m.A2) (.lv (Q6w m.A2) λ(x4:Bool)=> .lp inferInstance (Qgu m (0,0)+1) ((rE (0:Int)/\(rE (x0:Bool)/\rE (x1:Bool)/\rE (x2:Bool)/\rE (x3:Bool)/\rE (x4:Bool)/\True)/\rE (0:Int)/\True)/\True) (0,0) λ(v0:Int×Int)=> .br (decide (v0.2<5)) (.cn (Nat.beq 1 1&&(Nat.beq 5 5&&decide (0<=v0.2/\v0.2<(↑5:Int)))) (.br (List.getD [x0,x1,x2,x3,x4] v0.2.toNat false) (.cn (decide (0<=v0.2)) (.nx ((rE ((ior u32 v0.1 (ishl u32 1 v0.2)):Int)/\(rE (x0:Bool)/\rE (x1:Bool)/\rE (x2:Bool)/\rE (x3:Bool)/\rE (x4:Bool)/\True)/\rE ((wrap i64 (v0.2+1)):Int)/\True)/\True) (Sum.inl (ior u32 v0.1 (ishl u32 1 v0.2),wrap i64 (v0.2+1))))) (.nx ((rE v0.1/\(rE (x0:Bool)/\rE (x1:Bool)/\rE (x2:Bool)/\rE (x3:Bool)/\rE (x4:Bool)/\True)/\rE ((wrap i64 (v0.2+1)):Int)/\True)/\True) (Sum.inl (v0.1,wrap i64 (v0.2+1)))))) (.lf (Sum.inr v0.1)))
def Qc8(m:Q00):Int:=(Q6o m).m
abbrev Qk7(m:Q00):Prop:=(Q6o m).p
def Qxn:LInv:={
 α:=(Int)×(Int)
 F:=λst a=>([(4, .int u32 a.1),(23,(lk st 23)),(24, .int i64 a.2)],[])
 a0:=λst=>((lk st 4).toInt,(lk st 24).toInt)
 ex0:=λst=>[]++[]
 next:=λst=>((lk st 4).toInt,(lk st 24).toInt)
 ex:=λst=>[]++[]}
def Qsg:List (Nat×LInv):=[(4,Qxn)]
def Z1t:Q0c:=mkP 45 [] true [.agg Q00.sig] [] (λargs rows=>Qk7 (Q00.of (args.getD 0 .dead).cells)) (λargs rows=>Qc8 (Q00.of (args.getD 0 .dead).cells)) (λX=> .int .u32 X) (λX=>[])
theorem Qx8:Q05 Tryz.prog Z1t:=Q0n Q0j Q0k (.cons Qx4 (.cons Qrb (.cons Qn (.cons Z3m (.cons Qs3 (.nil)))))) Tryz.func45 Tryz.call45 (λargs rows=>Q6o (Q00.of (args.getD 0 .dead).cells)) [] Qsg 3 (λ_ _ _=>by kernel_rfl) (λ_ _=>rfl) (λ_ _ h=>h) (λ_ X=>by kernel_rfl)
def Q2r(m:Q00):Tree Int:=
.an (Qk7 m) (.lv (Qc8 m) λ(x0:Int)=> .lf (iand u32 x0 m.B2.B6.a7))
def Q57(m:Q00):Int:=(Q2r m).m
abbrev Qav(m:Q00):Prop:=(Q2r m).p
def Qtv:Q0c:=mkP 103 [] true [.agg Q00.sig] [] (λargs rows=>Qav (Q00.of (args.getD 0 .dead).cells)) (λargs rows=>Q57 (Q00.of (args.getD 0 .dead).cells)) (λX=> .int .u32 X) (λX=>[])
theorem Qit:Q05 Tryz.prog Qtv:=Q0n Q0j Q0k (.cons Qx8 (.nil)) Tryz.func103 Tryz.call103 (λargs rows=>Q2r (Q00.of (args.getD 0 .dead).cells)) [] [] 2 (λ_ _ _=>by kernel_rfl) (λ_ _=>rfl) (λ_ _ h=>h) (λ_ X=>by kernel_rfl)
def Q2v(m:Q00):Tree Bool:=
.br m.A4 (.an (Qav m) (.lv (Q57 m) λ(x0:Int)=> .lf (x0==0))) (.lf false)
def Q39(m:Q00):Bool:=(Q2v m).m
abbrev Q5t(m:Q00):Prop:=(Q2v m).p
def Z3l:Q0c:=mkP 47 [] true [.agg Q00.sig] [] (λargs rows=>Q5t (Q00.of (args.getD 0 .dead).cells)) (λargs rows=>Q39 (Q00.of (args.getD 0 .dead).cells)) (λX=> .bool X) (λX=>[])
theorem Qno:Q05 Tryz.prog Z3l:=Q0n Q0j Q0k (.cons Qit (.nil)) Tryz.func47 Tryz.call47 (λargs rows=>Q2v (Q00.of (args.getD 0 .dead).cells)) [] [] 2 (λ_ _ _=>by kernel_rfl) (λ_ _=>rfl) (λ_ _ h=>h) (λ_ X=>by kernel_rfl)
end
end Go.Proofs.YtjaifpiopmhmlaaGreat

import Derived.Test.YtjaifpiopmhmlaaGreatBareRunsBase
import Derived.Test.YtjaifpiopmhmlaaGreatBareRunsYa
set_option maxRecDepth 100000
set_option linter.all false
namespace Go.Proofs.YtjaifpiopmhmlaaGreat
open Go Go.GD Go.IntKind
noncomputable section
def tblYc0:List UInt8:=[(0:UInt8),1,2,2,3,3,3,3,4,4,4,4,4,4,4,4,5,5,5,5,5,5,5,5,5,5,5,5,5,5,5,5,6,6,6,6,6,6,6,6,6,6,6,6,6,6,6,6,6,6,6,6,6,6,6,6,6,6,6,6,6,6,6,6]
def Zdq:List UInt8:=[(7:UInt8),7,7,7,7,7,7,7,7,7,7,7,7,7,7,7,7,7,7,7,7,7,7,7,7,7,7,7,7,7,7,7,7,7,7,7,7,7,7,7,7,7,7,7,7,7,7,7,7,7,7,7,7,7,7,7,7,7,7,7,7,7,7,7]
def Qqb:List UInt8:=[(8:UInt8),8,8,8,8,8,8,8,8,8,8,8,8,8,8,8,8,8,8,8,8,8,8,8,8,8,8,8,8,8,8,8,8,8,8,8,8,8,8,8,8,8,8,8,8,8,8,8,8,8,8,8,8,8,8,8,8,8,8,8,8,8,8,8]
def Zjb:List UInt8:=[(1:UInt8),2,2,3,3,3,3,4,4,4,4,4,4,4,4,5,5,5,5,5,5,5,5,5,5,5,5,5,5,5,5,6,6,6,6,6,6,6,6,6,6,6,6,6,6,6,6,6,6,6,6,6,6,6,6,6,6,6,6,6,6,6,6]
def tblYc4:List UInt8:=[(0:UInt8),1,1,2,1,2,2,3,1,2,2,3,2,3,3,4,1,2,2,3,2,3,3,4,2,3,3,4,3,4,4,5,1,2,2,3,2,3,3,4,2,3,3,4,3,4,4,5,2,3,3,4,3,4,4,5,3,4,4,5,4,5,5,6]
def Qqe:List UInt8:=[(1:UInt8),2,2,3,2,3,3,4,2,3,3,4,3,4,4,5,2,3,3,4,3,4,4,5,3,4,4,5,4,5,5,6,2,3,3,4,3,4,4,5,3,4,4,5,4,5,5,6,3,4,4,5,4,5,5,6,4,5,5,6,5,6,6,7]
def Zb6:List UInt8:=[(2:UInt8),3,3,4,3,4,4,5,3,4,4,5,4,5,5,6,3,4,4,5,4,5,5,6,4,5,5,6,5,6,6,7,3,4,4,5,4,5,5,6,4,5,5,6,5,6,6,7,4,5,5,6,5,6,6,7,5,6,6,7,6,7,7,8]
def Ziv:List UInt8:=[(1:UInt8),1,2,1,2,2,3,1,2,2,3,2,3,3,4,1,2,2,3,2,3,3,4,2,3,3,4,3,4,4,5,1,2,2,3,2,3,3,4,2,3,3,4,3,4,4,5,2,3,3,4,3,4,4,5,3,4,4,5,4,5,5,6]
def Qsv(c:Q0b):Tree Bool:=
.lf (decide ((c.D3.length:Int)<=(16:Int)))
def Q2c(c:Q0b):Bool:=(Qsv c).m
def Z8l:Q0c:=mkR 147 [] true [.agg Q0b.sig] [] (λargs rows=>Q2c (Q0b.of (aC args 0))) (λX=> .bool X) (λX=>[])
theorem Z3e:Q06 Tryz.prog Z8l:=Q0z Q0j Q0l (.nil) Tryz.func147 Tryz.call147 (λargs rows=>Qsv (Q0b.of (aC args 0))) [] [] 2
def Qls(t:Q0g):Tree Bool:=
.br t.D2 (.br (!t.D5) (.lf (t.C8 !=0)) (.lf false)) (.br t.D5 (.lf true) (.lf (t.C8==0)))
def Q4d(t:Q0g):Bool:=(Qls t).m
def Zfr:Q0c:=mkR 148 [] true [.agg Q0g.sig] [] (λargs rows=>Q4d (Q0g.of (aC args 0))) (λX=> .bool X) (λX=>[])
theorem Zc9:Q06 Tryz.prog Zfr:=Q0z Q0j Q0l (.nil) Tryz.func148 Tryz.call148 (λargs rows=>Qls (Q0g.of (aC args 0))) [] [] 2
def Q6z(d0:Q0e):Tree Bool:=
.br (d0.D8==1) (.lf (decide (d0.C3=[]))) (.br (d0.D8==2) (.lf ((d0.C3.length:Int)==(128:Int))) (.lf false))
def Q9l(d0:Q0e):Bool:=(Q6z d0).m
def Qug:Q0c:=mkR 206 [] true [.agg Q0e.sig] [] (λargs rows=>Q9l (Q0e.of (aC args 0))) (λX=> .bool X) (λX=>[])
theorem Qro:Q06 Tryz.prog Qug:=Q0z Q0j Q0l (.nil) Tryz.func206 Tryz.call206 (λargs rows=>Q6z (Q0e.of (aC args 0))) [] [] 2
def Q61(d0:Q0e)(pages:Int):Tree Bool:=
.br (decide (d0.Blocks>64)) (.lf false) (let T1:Tree (Bool):= .br (d0.D8==0) (.br (d0.B6==0) (.br (d0.B3==0) (.lf (decide (d0.C3=[]))) (.lf false)) (.lf false)) (.lf false); .br (d0.C1==0) T1 (.br (d0.C1==2) T1 (.br (d0.C1==3) T1 (.br (d0.C1==1) (.lv (Q9l d0) λ(x0:Bool)=> .br x0 (.br (decide (d0.B6<d0.Blocks)) (.lf (decide (wrap i64 d0.B3<pages))) (.lf false)) (.lf false)) (.lf false)))))
def Q1i(d0:Q0e)(pages:Int):Bool:=(Q61 d0 pages).m
def Zkx:Q0c:=mkR 149 [] true [.agg Q0e.sig, .one (.int .i64)] [] (λargs rows=>Q1i (Q0e.of (aC args 0)) (argI args 1)) (λX=> .bool X) (λX=>[])
theorem Zh6:Q06 Tryz.prog Zkx:=Q0z Q0j Q0l (.cons Qro (.nil)) Tryz.func149 Tryz.call149 (λargs rows=>Q61 (Q0e.of (aC args 0)) (argI args 1)) [] [] 2
def Ql5(n:Q0q)(pages:Int):Tree Bool:=
let T1:Tree (Bool):=let T2:Tree (Bool):= .br n.B8 (.br (decide (n.F3>=1)) (.lf (decide (n.F3<=128))) (.lf false)) (.lf (n.F3==0)); .br n.C7 (.br (decide (wrap i64 n.C2>=pages)) (.lf false) T2) (.br (n.C2 !=0) (.lf false) T2); .br n.C7 (.br n.B8 (.lf false) T1) T1
def Q5w(n:Q0q)(pages:Int):Bool:=(Ql5 n pages).m
def qA:Q0c:=mkR 150 [] true [.agg Q0q.sig, .one (.int .i64)] [] (λargs rows=>Q5w (Q0q.of (aC args 0)) (argI args 1)) (λX=> .bool X) (λX=>[])
theorem Zmh:Q06 Tryz.prog qA:=Q0z Q0j Q0l (.nil) Tryz.func150 Tryz.call150 (λargs rows=>Ql5 (Q0q.of (aC args 0)) (argI args 1)) [] [] 2
def Q1u(x:Int):Tree Int:=
let E1:=(↑(List.length (List.append (List.append tblYc0 Zdq) (List.append Qqb Qqb))):Int); .br (decide (x>=65536)) (.br (decide (ishr u32 x (16:Int)>=(256:Int))) (.cn (decide (0<=wrap u8 (ishr u32 (ishr u32 x 16) 8)/\wrap u8 (ishr u32 (ishr u32 x 16) 8)<E1)) (.lf (wrap i64 (wrap i64 ((16:Int)+(8:Int))+wrap i64 (↑(UInt8.toNat (List.getD ((0:UInt8)::(Zjb++Zdq++(Qqb++Qqb))) (Int.toNat (wrap u8 (ishr u32 (ishr u32 x 16) 8))) (0:UInt8))):Int))))) (.cn (decide (0<=wrap u8 (ishr u32 x 16)/\wrap u8 (ishr u32 x 16)<E1)) (.lf (wrap i64 (16+wrap i64 (↑(UInt8.toNat (List.getD ((0:UInt8)::(Zjb++Zdq++(Qqb++Qqb))) (Int.toNat (wrap u8 (ishr u32 x 16))) (0:UInt8))):Int)))))) (.br (decide (x>=256)) (.cn (decide (0<=wrap u8 (ishr u32 x 8)/\wrap u8 (ishr u32 x 8)<E1)) (.lf (wrap i64 (wrap i64 ((0:Int)+(8:Int))+wrap i64 (↑(UInt8.toNat (List.getD ((0:UInt8)::(Zjb++Zdq++(Qqb++Qqb))) (Int.toNat (wrap u8 (ishr u32 x 8))) (0:UInt8))):Int))))) (.cn (decide (0<=wrap u8 x/\wrap u8 x<E1)) (.lf (wrap i64 (0+wrap i64 (↑(UInt8.toNat (List.getD ((0:UInt8)::(Zjb++Zdq++(Qqb++Qqb))) (Int.toNat (wrap u8 x)) (0:UInt8))):Int))))))
def Q1l(x:Int):Int:=(Q1u x).m
abbrev Qb7(x:Int):Prop:=(Q1u x).p
def Quy:Q0c:=mkP 207 [] true [.one (.int .u32)] [] (λargs rows=>Qb7 (argI args 0)) (λargs rows=>Q1l (argI args 0)) (λX=> .int .i64 X) (λX=>[])
theorem Qs8:Q06 Tryz.prog Quy:=Q0n Q0j Q0l (.nil) Tryz.func207 Tryz.call207 (λargs rows=>Q1u (argI args 0)) [] [] 2
def Q3z(b:Q07)(pages:Int):Tree Bool:=
.an (Qb7 b.C5) (.lv (Q1l b.C5) λ(x0:Int)=> .lf (decide (x0<=if 0>pages then 0 else pages)))
def Q2m(b:Q07)(pages:Int):Bool:=(Q3z b pages).m
abbrev Qbz(b:Q07)(pages:Int):Prop:=(Q3z b pages).p
def Z9c:Q0c:=mkP 151 [] true [.agg Q07.sig, .one (.int .i64)] [] (λargs rows=>Qbz (Q07.of (aC args 0)) (argI args 1)) (λargs rows=>Q2m (Q07.of (aC args 0)) (argI args 1)) (λX=> .bool X) (λX=>[])
theorem Z4j:Q06 Tryz.prog Z9c:=Q0n Q0j Q0l (.cons Qs8 (.nil)) Tryz.func151 Tryz.call151 (λargs rows=>Q3z (Q07.of (aC args 0)) (argI args 1)) [] [] 2
def Q1q(m:Q00):Tree Bool:=
.lv (Q0u m.Mem) λ(x0:Int)=> .lv (Q2c m.A3) λ(x1:Bool)=> .br x1 (.lv (Q4d m.A7) λ(x2:Bool)=> .br x2 (.lv (Q1i m.B0 x0) λ(x3:Bool)=> .br x3 (.lv (Q5w m.C0 x0) λ(x4:Bool)=> .br x4 (.an (Qbz m.A2 x0) (.lv (Q2m m.A2 x0) λ(x5:Bool)=> .lf x5)) (.lf false)) (.lf false)) (.lf false)) (.lf false)
def Q0x(m:Q00):Bool:=(Q1q m).m
abbrev Q2q(m:Q00):Prop:=(Q1q m).p
def Qps:Q0c:=mkP 85 [] true [.agg Q00.sig] [] (λargs rows=>Q2q (Q00.of (aC args 0))) (λargs rows=>Q0x (Q00.of (aC args 0))) (λX=> .bool X) (λX=>[])
theorem Qn7:Q06 Tryz.prog Qps:=Q0n Q0j Q0l (.cons Q4b (.cons Z3e (.cons Zc9 (.cons Zh6 (.cons Zmh (.cons Z4j (.nil))))))) Tryz.func85 Tryz.call85 (λargs rows=>Q1q (Q00.of (aC args 0))) [] [] 2
def Q52(m:Q00):Tree Bool:=
.lv (Q0u m.Mem) λ(x0:Int)=> .br (x0==0) (.lf false) (.br (m.B2.X.a0 !=0) (.lf false) (.br (decide (m.B2.B5.a0>31)) (.lf false) (.br (decide (m.B2.B5.a7>31)) (.lf false) (.br (decide (m.B2.B5.a6>255)) (.lf false) (.br (Int.tmod m.B2.B5.a1 (4:Int) !=(0:Int)) (.lf false) (.br (decide (m.A1>1152921504606846976)) (.lf false) (.br m.A4 (.br m.A6 (.lf false) (.an (Q2q m) (.lv (Q0x m) λ(x1:Bool)=> .lf x1))) (.an (Q2q m) (.lv (Q0x m) λ(x2:Bool)=> .lf x2)))))))))
def Q14(m:Q00):Bool:=(Q52 m).m
abbrev Q5m(m:Q00):Prop:=(Q52 m).p
def Z80:Q0c:=mkP 43 [] true [.agg Q00.sig] [] (λargs rows=>Q5m (Q00.of (aC args 0))) (λargs rows=>Q14 (Q00.of (aC args 0))) (λX=> .bool X) (λX=>[])
theorem Qjp:Q06 Tryz.prog Z80:=Q0n Q0j Q0l (.cons Q4b (.cons Qn7 (.nil))) Tryz.func43 Tryz.call43 (λargs rows=>Q52 (Q00.of (aC args 0))) [] [] 2
def Qol(t:Q0g):Tree Bool:=
.lf t.D5
def Qgd(t:Q0g):Bool:=(Qol t).m
def Z13:Q0c:=mkR 92 [] true [.agg Q0g.sig] [] (λargs rows=>Qgd (Q0g.of (aC args 0))) (λX=> .bool X) (λX=>[])
theorem Qyp:Q06 Tryz.prog Z13:=Q0z Q0j Q0l (.nil) Tryz.func92 Tryz.call92 (λargs rows=>Qol (Q0g.of (aC args 0))) [] [] 2
def Qkd(c:Q0b):Tree Bool:=
.lf (!decide (c.D3=[]))
def Q93(c:Q0b):Bool:=(Qkd c).m
def Qur:Q0c:=mkR 93 [] true [.agg Q0b.sig] [] (λargs rows=>Q93 (Q0b.of (aC args 0))) (λX=> .bool X) (λX=>[])
theorem Qs7:Q06 Tryz.prog Qur:=Q0z Q0j Q0l (.nil) Tryz.func93 Tryz.call93 (λargs rows=>Qkd (Q0b.of (aC args 0))) [] [] 2
def Qjs(d0:Q0e):Tree Bool:=
.br (d0.C1==2) (.lf true) (.lf (d0.C1==3))
def Q9o(d0:Q0e):Bool:=(Qjs d0).m
def Z3v:Q0c:=mkR 94 [] true [.agg Q0e.sig] [] (λargs rows=>Q9o (Q0e.of (aC args 0))) (λX=> .bool X) (λX=>[])
theorem Qnx:Q06 Tryz.prog Z3v:=Q0z Q0j Q0l (.nil) Tryz.func94 Tryz.call94 (λargs rows=>Qjs (Q0e.of (aC args 0))) [] [] 2
def Qs3(n:Q0q):Tree Bool:=
.lf n.B8
def Qm(n:Q0q):Bool:=(Qs3 n).m
def Z7v:Q0c:=mkR 95 [] true [.agg Q0q.sig] [] (λargs rows=>Qm (Q0q.of (aC args 0))) (λX=> .bool X) (λX=>[])
theorem Z51:Q06 Tryz.prog Z7v:=Q0z Q0j Q0l (.nil) Tryz.func95 Tryz.call95 (λargs rows=>Qs3 (Q0q.of (aC args 0))) [] [] 2
def Q39(x:Int):Tree Int:=
let E1:=(↑(List.length (List.append (List.append tblYc4 Qqe) (List.append Qqe Zb6))):Int); .cn (decide (0<=ishr u32 x 24/\ishr u32 x 24<E1)) (.cn (decide (0<=iand u32 (ishr u32 x 16) 255/\iand u32 (ishr u32 x 16) 255<E1)) (.cn (decide (0<=iand u32 (ishr u32 x 8) 255/\iand u32 (ishr u32 x 8) 255<E1)) (.cn (decide (0<=iand u32 x 255/\iand u32 x 255<E1)) (.lf (wrap i64 (wrap u8 (wrap u8 (wrap u8 ((↑(UInt8.toNat (List.getD ((0:UInt8)::(Ziv++Qqe++(Qqe++Zb6))) (Int.toNat (ishr u32 x 24)) (0:UInt8))):Int)+(↑(UInt8.toNat (List.getD ((0:UInt8)::(Ziv++Qqe++(Qqe++Zb6))) (Int.toNat (iand u32 (ishr u32 x 16) 255)) (0:UInt8))):Int))+(↑(UInt8.toNat (List.getD ((0:UInt8)::(Ziv++Qqe++(Qqe++Zb6))) (Int.toNat (iand u32 (ishr u32 x 8) 255)) (0:UInt8))):Int))+(↑(UInt8.toNat (List.getD ((0:UInt8)::(Ziv++Qqe++(Qqe++Zb6))) (Int.toNat (iand u32 x 255)) (0:UInt8))):Int))))))))
def Q66(x:Int):Int:=(Q39 x).m
abbrev Qam(x:Int):Prop:=(Q39 x).p
def Qlu:Q0c:=mkP 208 [] true [.one (.int .u32)] [] (λargs rows=>Qam (argI args 0)) (λargs rows=>Q66 (argI args 0)) (λX=> .int .i64 X) (λX=>[])
theorem Qk:Q06 Tryz.prog Qlu:=Q0n Q0j Q0l (.nil) Tryz.func208 Tryz.call208 (λargs rows=>Q39 (argI args 0)) [] [] 2
def Q9(b:Q07):Tree Int:=
.an (Qam b.C5) (.lv (Q66 b.C5) λ(x0:Int)=> .lf x0)
def Qc(b:Q07):Int:=(Q9 b).m
abbrev Qdn(b:Q07):Prop:=(Q9 b).p
def Z23:Q0c:=mkP 152 [] true [.agg Q07.sig] [] (λargs rows=>Qdn (Q07.of (aC args 0))) (λargs rows=>Qc (Q07.of (aC args 0))) (λX=> .int .i64 X) (λX=>[])
theorem Qmp:Q06 Tryz.prog Z23:=Q0n Q0j Q0l (.cons Qk (.nil)) Tryz.func152 Tryz.call152 (λargs rows=>Q9 (Q07.of (aC args 0))) [] [] 2
def Q5b(b:Q07):Tree Bool:=
.an (Qdn b) (.lv (Qc b) λ(x0:Int)=> .lf (wrap u32 x0 !=b.C9))
def Q6s(b:Q07):Bool:=(Q5b b).m
abbrev Qib(b:Q07):Prop:=(Q5b b).p
def Qvb:Q0c:=mkP 96 [] true [.agg Q07.sig] [] (λargs rows=>Qib (Q07.of (aC args 0))) (λargs rows=>Q6s (Q07.of (aC args 0))) (λX=> .bool X) (λX=>[])
theorem Qt2:Q06 Tryz.prog Qvb:=Q0n Q0j Q0l (.cons Qmp (.nil)) Tryz.func96 Tryz.call96 (λargs rows=>Q5b (Q07.of (aC args 0))) [] [] 2
def Qh9(m:Q00)(z:(Int)×(Int)):Nat:=(5-z.2).toNat
def Q6w(m:Q00):Tree Int:=
.lv (Qgd m.A7) λ(x0:Bool)=> .lv (Q93 m.A3) λ(x1:Bool)=> .lv (Q9o m.B0) λ(x2:Bool)=> .lv (Qm m.C0) λ(x3:Bool)=> .an (Qib m.A2) (.lv (Q6s m.A2) λ(x4:Bool)=> .lp inferInstance (Qh9 m (0,0)+1) ((rE (0:Int)/\(rE (x0:Bool)/\rE (x1:Bool)/\rE (x2:Bool)/\rE (x3:Bool)/\rE (x4:Bool)/\True)/\rE (0:Int)/\True)/\True) (0,0) λ(v0:Int×Int)=> .br (decide (v0.2<5)) (.cn (Nat.beq 1 1&&(Nat.beq 5 5&&decide (0<=v0.2/\v0.2<(↑5:Int)))) (.br (List.getD [x0,x1,x2,x3,x4] v0.2.toNat false) (.cn (decide (0<=v0.2)) (.nx ((rE ((ior u32 v0.1 (ishl u32 1 v0.2)):Int)/\(rE (x0:Bool)/\rE (x1:Bool)/\rE (x2:Bool)/\rE (x3:Bool)/\rE (x4:Bool)/\True)/\rE ((wrap i64 (v0.2+1)):Int)/\True)/\True) (Sum.inl (ior u32 v0.1 (ishl u32 1 v0.2),wrap i64 (v0.2+1))))) (.nx ((rE v0.1/\(rE (x0:Bool)/\rE (x1:Bool)/\rE (x2:Bool)/\rE (x3:Bool)/\rE (x4:Bool)/\True)/\rE ((wrap i64 (v0.2+1)):Int)/\True)/\True) (Sum.inl (v0.1,wrap i64 (v0.2+1)))))) (.lf (Sum.inr v0.1)))
def Qcy(m:Q00):Int:=(Q6w m).m
abbrev Qjy(m:Q00):Prop:=(Q6w m).p
def Qxv:LInv:={
 α:=(Int)×(Int)
 F:=λst a=>([(4, .int u32 a.1),(23,(lk st 23)),(24, .int i64 a.2)],[])
 a0:=λst=>((lk st 4).toInt,(lk st 24).toInt)
 ex0:=λst=>[]++[]
 next:=λst=>((lk st 4).toInt,(lk st 24).toInt)
 ex:=λst=>[]++[]}
def Qtd:List (Nat×LInv):=[(4,Qxv)]
def Z0d:Q0c:=mkP 45 [] true [.agg Q00.sig] [] (λargs rows=>Qjy (Q00.of (aC args 0))) (λargs rows=>Qcy (Q00.of (aC args 0))) (λX=> .int .u32 X) (λX=>[])
theorem Qyh:Q06 Tryz.prog Z0d:=Q0n Q0j Q0l (.cons Qyp (.cons Qs7 (.cons Qnx (.cons Z51 (.cons Qt2 (.nil)))))) Tryz.func45 Tryz.call45 (λargs rows=>Q6w (Q00.of (aC args 0))) [] Qtd 3
def Q2x(m:Q00):Tree Int:=
.an (Qjy m) (.lv (Qcy m) λ(x0:Int)=> .lf (iand u32 x0 m.B2.B5.a7))
def Q5f(m:Q00):Int:=(Q2x m).m
abbrev Qbg(m:Q00):Prop:=(Q2x m).p
def Qw8:Q0c:=mkP 103 [] true [.agg Q00.sig] [] (λargs rows=>Qbg (Q00.of (aC args 0))) (λargs rows=>Q5f (Q00.of (aC args 0))) (λX=> .int .u32 X) (λX=>[])
theorem Qje:Q06 Tryz.prog Qw8:=Q0n Q0j Q0l (.cons Qyh (.nil)) Tryz.func103 Tryz.call103 (λargs rows=>Q2x (Q00.of (aC args 0))) [] [] 2
def Q31(m:Q00):Tree Bool:=
.br m.A4 (.an (Qbg m) (.lv (Q5f m) λ(x0:Int)=> .lf (x0==0))) (.lf false)
def Q94(m:Q00):Bool:=(Q31 m).m
abbrev Q85(m:Q00):Prop:=(Q31 m).p
def Z3h:Q0c:=mkP 47 [] true [.agg Q00.sig] [] (λargs rows=>Q85 (Q00.of (aC args 0))) (λargs rows=>Q94 (Q00.of (aC args 0))) (λX=> .bool X) (λX=>[])
theorem Qng:Q06 Tryz.prog Z3h:=Q0n Q0j Q0l (.cons Qje (.nil)) Tryz.func47 Tryz.call47 (λargs rows=>Q31 (Q00.of (aC args 0))) [] [] 2
end
end Go.Proofs.YtjaifpiopmhmlaaGreat

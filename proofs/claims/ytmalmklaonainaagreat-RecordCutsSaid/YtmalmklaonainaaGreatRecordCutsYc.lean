import Derived.Test.YtmalmklaonainaaGreatRecordCutsBase
import Derived.Test.YtmalmklaonainaaGreatRecordCutsYa
set_option maxRecDepth 100000
set_option linter.all false
namespace Go.Proofs.YtmalmklaonainaaGreat
open Go Go.GD Go.IntKind
noncomputable section
def tblYc0:List UInt8:=[(0:UInt8),1,2,2,3,3,3,3,4,4,4,4,4,4,4,4,5,5,5,5,5,5,5,5,5,5,5,5,5,5,5,5,6,6,6,6,6,6,6,6,6,6,6,6,6,6,6,6,6,6,6,6,6,6,6,6,6,6,6,6,6,6,6,6]
def Za4:List UInt8:=[(7:UInt8),7,7,7,7,7,7,7,7,7,7,7,7,7,7,7,7,7,7,7,7,7,7,7,7,7,7,7,7,7,7,7,7,7,7,7,7,7,7,7,7,7,7,7,7,7,7,7,7,7,7,7,7,7,7,7,7,7,7,7,7,7,7,7]
def Qp9:List UInt8:=[(8:UInt8),8,8,8,8,8,8,8,8,8,8,8,8,8,8,8,8,8,8,8,8,8,8,8,8,8,8,8,8,8,8,8,8,8,8,8,8,8,8,8,8,8,8,8,8,8,8,8,8,8,8,8,8,8,8,8,8,8,8,8,8,8,8,8]
def Zho:List UInt8:=[(1:UInt8),2,2,3,3,3,3,4,4,4,4,4,4,4,4,5,5,5,5,5,5,5,5,5,5,5,5,5,5,5,5,6,6,6,6,6,6,6,6,6,6,6,6,6,6,6,6,6,6,6,6,6,6,6,6,6,6,6,6,6,6,6,6]
def tblYc4:List UInt8:=[(0:UInt8),1,1,2,1,2,2,3,1,2,2,3,2,3,3,4,1,2,2,3,2,3,3,4,2,3,3,4,3,4,4,5,1,2,2,3,2,3,3,4,2,3,3,4,3,4,4,5,2,3,3,4,3,4,4,5,3,4,4,5,4,5,5,6]
def Qpd:List UInt8:=[(1:UInt8),2,2,3,2,3,3,4,2,3,3,4,3,4,4,5,2,3,3,4,3,4,4,5,3,4,4,5,4,5,5,6,2,3,3,4,3,4,4,5,3,4,4,5,4,5,5,6,3,4,4,5,4,5,5,6,4,5,5,6,5,6,6,7]
def Zaj:List UInt8:=[(2:UInt8),3,3,4,3,4,4,5,3,4,4,5,4,5,5,6,3,4,4,5,4,5,5,6,4,5,5,6,5,6,6,7,3,4,4,5,4,5,5,6,4,5,5,6,5,6,6,7,4,5,5,6,5,6,6,7,5,6,6,7,6,7,7,8]
def Zhr:List UInt8:=[(1:UInt8),1,2,1,2,2,3,1,2,2,3,2,3,3,4,1,2,2,3,2,3,3,4,2,3,3,4,3,4,4,5,1,2,2,3,2,3,3,4,2,3,3,4,3,4,4,5,2,3,3,4,3,4,4,5,3,4,4,5,4,5,5,6]
def Qt6(c:Q0b):Tree Bool:=
.lf (decide ((c.D0.length:Int)<=(16:Int)))
def Q27(c:Q0b):Bool:=(Qt6 c).m
def Z8v:Q0c:=mkR 171 [] true [.agg Q0b.sig] [] (λargs rows=>Q27 (Q0b.of (aC args 0))) (λX=> .bool X) (λX=>[])
theorem Z2z:Q04 Tryz.prog Z8v:=Q0v drawn Q0h (.nil) Tryz.func171 Tryz.call171 (λargs rows=>Qt6 (Q0b.of (aC args 0))) [] [] 2
def Qlg(t:Q0f):Tree Bool:=
.br t.D3 (.br (!t.D2) (.lf (t.C7 !=0)) (.lf false)) (.br t.D2 (.lf true) (.lf (t.C7==0)))
def Q41(t:Q0f):Bool:=(Qlg t).m
def Zhf:Q0c:=mkR 172 [] true [.agg Q0f.sig] [] (λargs rows=>Q41 (Q0f.of (aC args 0))) (λX=> .bool X) (λX=>[])
theorem Zdy:Q04 Tryz.prog Zhf:=Q0v drawn Q0h (.nil) Tryz.func172 Tryz.call172 (λargs rows=>Qlg (Q0f.of (aC args 0))) [] [] 2
def Q77(d0:Q0d):Tree Bool:=
.br (d0.D7==1) (.lf (decide (d0.C3=[]))) (.br (d0.D7==2) (.lf ((d0.C3.length:Int)==(128:Int))) (.lf false))
def Q8y(d0:Q0d):Bool:=(Q77 d0).m
def Qv9:Q0c:=mkR 227 [] true [.agg Q0d.sig] [] (λargs rows=>Q8y (Q0d.of (aC args 0))) (λX=> .bool X) (λX=>[])
theorem Qr5:Q04 Tryz.prog Qv9:=Q0v drawn Q0h (.nil) Tryz.func227 Tryz.call227 (λargs rows=>Q77 (Q0d.of (aC args 0))) [] [] 2
def Q5r(d0:Q0d)(pages:Int):Tree Bool:=
.br (decide (d0.Blocks>64)) (.lf false) (let T1:Tree (Bool):= .br (d0.D7==0) (.br (d0.B5==0) (.br (d0.B3==0) (.lf (decide (d0.C3=[]))) (.lf false)) (.lf false)) (.lf false); .br (d0.C0==0) T1 (.br (d0.C0==2) T1 (.br (d0.C0==3) T1 (.br (d0.C0==1) (.lv (Q8y d0) λ(x0:Bool)=> .br x0 (.br (decide (d0.B5<d0.Blocks)) (.lf (decide (wrap i64 d0.B3<pages))) (.lf false)) (.lf false)) (.lf false)))))
def Q1d(d0:Q0d)(pages:Int):Bool:=(Q5r d0 pages).m
def Zk2:Q0c:=mkR 173 [] true [.agg Q0d.sig, .one (.int .i64)] [] (λargs rows=>Q1d (Q0d.of (aC args 0)) (argI args 1)) (λX=> .bool X) (λX=>[])
theorem Zh:Q04 Tryz.prog Zk2:=Q0v drawn Q0h (.cons Qr5 (.nil)) Tryz.func173 Tryz.call173 (λargs rows=>Q5r (Q0d.of (aC args 0)) (argI args 1)) [] [] 2
def Qk3(n:Q0l)(pages:Int):Tree Bool:=
let T1:Tree (Bool):=let T2:Tree (Bool):= .br n.B6 (.br (decide (n.F0>=1)) (.lf (decide (n.F0<=128))) (.lf false)) (.lf (n.F0==0)); .br n.C5 (.br (decide (wrap i64 n.B8>=pages)) (.lf false) T2) (.br (n.B8 !=0) (.lf false) T2); .br n.C5 (.br n.B6 (.lf false) T1) T1
def Q5p(n:Q0l)(pages:Int):Bool:=(Qk3 n pages).m
def qz:Q0c:=mkR 174 [] true [.agg Q0l.sig, .one (.int .i64)] [] (λargs rows=>Q5p (Q0l.of (aC args 0)) (argI args 1)) (λX=> .bool X) (λX=>[])
theorem Zk3:Q04 Tryz.prog qz:=Q0v drawn Q0h (.nil) Tryz.func174 Tryz.call174 (λargs rows=>Qk3 (Q0l.of (aC args 0)) (argI args 1)) [] [] 2
def Q1o(x:Int):Tree Int:=
let E1:=(↑(List.length (List.append (List.append tblYc0 Za4) (List.append Qp9 Qp9))):Int); .br (decide (x>=65536)) (.br (decide (ishr u32 x (16:Int)>=(256:Int))) (.cn (decide (0<=wrap u8 (ishr u32 (ishr u32 x 16) 8)/\wrap u8 (ishr u32 (ishr u32 x 16) 8)<E1)) (.lf (wrap i64 (wrap i64 ((16:Int)+(8:Int))+wrap i64 (↑(UInt8.toNat (List.getD ((0:UInt8)::(Zho++Za4++(Qp9++Qp9))) (Int.toNat (wrap u8 (ishr u32 (ishr u32 x 16) 8))) (0:UInt8))):Int))))) (.cn (decide (0<=wrap u8 (ishr u32 x 16)/\wrap u8 (ishr u32 x 16)<E1)) (.lf (wrap i64 (16+wrap i64 (↑(UInt8.toNat (List.getD ((0:UInt8)::(Zho++Za4++(Qp9++Qp9))) (Int.toNat (wrap u8 (ishr u32 x 16))) (0:UInt8))):Int)))))) (.br (decide (x>=256)) (.cn (decide (0<=wrap u8 (ishr u32 x 8)/\wrap u8 (ishr u32 x 8)<E1)) (.lf (wrap i64 (wrap i64 ((0:Int)+(8:Int))+wrap i64 (↑(UInt8.toNat (List.getD ((0:UInt8)::(Zho++Za4++(Qp9++Qp9))) (Int.toNat (wrap u8 (ishr u32 x 8))) (0:UInt8))):Int))))) (.cn (decide (0<=wrap u8 x/\wrap u8 x<E1)) (.lf (wrap i64 (0+wrap i64 (↑(UInt8.toNat (List.getD ((0:UInt8)::(Zho++Za4++(Qp9++Qp9))) (Int.toNat (wrap u8 x)) (0:UInt8))):Int))))))
def Q1g(x:Int):Int:=(Q1o x).m
abbrev Qbt(x:Int):Prop:=(Q1o x).p
def Qvb:Q0c:=mkP 228 [] true [.one (.int .u32)] [] (λargs rows=>Qbt (argI args 0)) (λargs rows=>Q1g (argI args 0)) (λX=> .int .i64 X) (λX=>[])
theorem Qrl:Q04 Tryz.prog Qvb:=Q0k drawn Q0h (.nil) Tryz.func228 Tryz.call228 (λargs rows=>Q1o (argI args 0)) [] [] 2
def Q3s(b:Q05)(pages:Int):Tree Bool:=
.an (Qbt b.C2) (.lv (Q1g b.C2) λ(x0:Int)=> .lf (decide (x0<=if 0>pages then 0 else pages)))
def Q2d(b:Q05)(pages:Int):Bool:=(Q3s b pages).m
abbrev Qd7(b:Q05)(pages:Int):Prop:=(Q3s b pages).p
def Z7e:Q0c:=mkP 175 [] true [.agg Q05.sig, .one (.int .i64)] [] (λargs rows=>Qd7 (Q05.of (aC args 0)) (argI args 1)) (λargs rows=>Q2d (Q05.of (aC args 0)) (argI args 1)) (λX=> .bool X) (λX=>[])
theorem Z3i:Q04 Tryz.prog Z7e:=Q0k drawn Q0h (.cons Qrl (.nil)) Tryz.func175 Tryz.call175 (λargs rows=>Q3s (Q05.of (aC args 0)) (argI args 1)) [] [] 2
def Q1m(m:Q01):Tree Bool:=
.lv (Q0q m.Mem) λ(x0:Int)=> .lv (Q27 m.A4) λ(x1:Bool)=> .br x1 (.lv (Q41 m.B0) λ(x2:Bool)=> .br x2 (.lv (Q1d m.B1 x0) λ(x3:Bool)=> .br x3 (.lv (Q5p m.C4 x0) λ(x4:Bool)=> .br x4 (.an (Qd7 m.A1 x0) (.lv (Q2d m.A1 x0) λ(x5:Bool)=> .lf x5)) (.lf false)) (.lf false)) (.lf false)) (.lf false)
def Q0t(m:Q01):Bool:=(Q1m m).m
abbrev Q2j(m:Q01):Prop:=(Q1m m).p
def Qov:Q0c:=mkP 92 [] true [.agg Q01.sig] [] (λargs rows=>Q2j (Q01.of (aC args 0))) (λargs rows=>Q0t (Q01.of (aC args 0))) (λX=> .bool X) (λX=>[])
theorem Qn2:Q04 Tryz.prog Qov:=Q0k drawn Q0h (.cons Q45 (.cons Z2z (.cons Zdy (.cons Zh (.cons Zk3 (.cons Z3i (.nil))))))) Tryz.func92 Tryz.call92 (λargs rows=>Q1m (Q01.of (aC args 0))) [] [] 2
def Q4m(m:Q01):Tree Bool:=
.lv (Q0q m.Mem) λ(x0:Int)=> .br (x0==0) (.lf false) (.br (m.B2.X.a0 !=0) (.lf false) (.br (decide (m.B2.B4.a0>31)) (.lf false) (.br (decide (m.B2.B4.a7>31)) (.lf false) (.br (decide (m.B2.B4.a6>255)) (.lf false) (.br (Int.tmod m.B2.B4.a1 (4:Int) !=(0:Int)) (.lf false) (.br (decide (m.A3>1152921504606846976)) (.lf false) (.br m.A6 (.br m.A9 (.lf false) (.an (Q2j m) (.lv (Q0t m) λ(x1:Bool)=> .lf x1))) (.an (Q2j m) (.lv (Q0t m) λ(x2:Bool)=> .lf x2)))))))))
def Q1c(m:Q01):Bool:=(Q4m m).m
abbrev Q53(m:Q01):Prop:=(Q4m m).p
def Z6u:Q0c:=mkP 24 [] true [.agg Q01.sig] [] (λargs rows=>Q53 (Q01.of (aC args 0))) (λargs rows=>Q1c (Q01.of (aC args 0))) (λX=> .bool X) (λX=>[])
theorem Qja:Q04 Tryz.prog Z6u:=Q0k drawn Q0h (.cons Q45 (.cons Qn2 (.nil))) Tryz.func24 Tryz.call24 (λargs rows=>Q4m (Q01.of (aC args 0))) [] [] 2
def Qml(t:Q0f):Tree Bool:=
.lf t.D2
def Qgb(t:Q0f):Bool:=(Qml t).m
def Z1r:Q0c:=mkR 99 [] true [.agg Q0f.sig] [] (λargs rows=>Qgb (Q0f.of (aC args 0))) (λX=> .bool X) (λX=>[])
theorem Qxj:Q04 Tryz.prog Z1r:=Q0v drawn Q0h (.nil) Tryz.func99 Tryz.call99 (λargs rows=>Qml (Q0f.of (aC args 0))) [] [] 2
def Qjm(c:Q0b):Tree Bool:=
.lf (!decide (c.D0=[]))
def Q9i(c:Q0b):Bool:=(Qjm c).m
def Qv1:Q0c:=mkR 100 [] true [.agg Q0b.sig] [] (λargs rows=>Q9i (Q0b.of (aC args 0))) (λX=> .bool X) (λX=>[])
theorem Qt4:Q04 Tryz.prog Qv1:=Q0v drawn Q0h (.nil) Tryz.func100 Tryz.call100 (λargs rows=>Qjm (Q0b.of (aC args 0))) [] [] 2
def Qj9(d0:Q0d):Tree Bool:=
.br (d0.C0==2) (.lf true) (.lf (d0.C0==3))
def Q97(d0:Q0d):Bool:=(Qj9 d0).m
def Z35:Q0c:=mkR 101 [] true [.agg Q0d.sig] [] (λargs rows=>Q97 (Q0d.of (aC args 0))) (λX=> .bool X) (λX=>[])
theorem Qmk:Q04 Tryz.prog Z35:=Q0v drawn Q0h (.nil) Tryz.func101 Tryz.call101 (λargs rows=>Qj9 (Q0d.of (aC args 0))) [] [] 2
def Qsj(n:Q0l):Tree Bool:=
.lf n.B6
def Ql5(n:Q0l):Bool:=(Qsj n).m
def Z8t:Q0c:=mkR 102 [] true [.agg Q0l.sig] [] (λargs rows=>Ql5 (Q0l.of (aC args 0))) (λX=> .bool X) (λX=>[])
theorem Z32:Q04 Tryz.prog Z8t:=Q0v drawn Q0h (.nil) Tryz.func102 Tryz.call102 (λargs rows=>Qsj (Q0l.of (aC args 0))) [] [] 2
def Q1x(x:Int):Tree Int:=
let E1:=(↑(List.length (List.append (List.append tblYc4 Qpd) (List.append Qpd Zaj))):Int); .cn (decide (0<=ishr u32 x 24/\ishr u32 x 24<E1)) (.cn (decide (0<=iand u32 (ishr u32 x 16) 255/\iand u32 (ishr u32 x 16) 255<E1)) (.cn (decide (0<=iand u32 (ishr u32 x 8) 255/\iand u32 (ishr u32 x 8) 255<E1)) (.cn (decide (0<=iand u32 x 255/\iand u32 x 255<E1)) (.lf (wrap i64 (wrap u8 (wrap u8 (wrap u8 ((↑(UInt8.toNat (List.getD ((0:UInt8)::(Zhr++Qpd++(Qpd++Zaj))) (Int.toNat (ishr u32 x 24)) (0:UInt8))):Int)+(↑(UInt8.toNat (List.getD ((0:UInt8)::(Zhr++Qpd++(Qpd++Zaj))) (Int.toNat (iand u32 (ishr u32 x 16) 255)) (0:UInt8))):Int))+(↑(UInt8.toNat (List.getD ((0:UInt8)::(Zhr++Qpd++(Qpd++Zaj))) (Int.toNat (iand u32 (ishr u32 x 8) 255)) (0:UInt8))):Int))+(↑(UInt8.toNat (List.getD ((0:UInt8)::(Zhr++Qpd++(Qpd++Zaj))) (Int.toNat (iand u32 x 255)) (0:UInt8))):Int))))))))
def Q6f(x:Int):Int:=(Q1x x).m
abbrev Q6n(x:Int):Prop:=(Q1x x).p
def Qkn:Q0c:=mkP 229 [] true [.one (.int .u32)] [] (λargs rows=>Q6n (argI args 0)) (λargs rows=>Q6f (argI args 0)) (λX=> .int .i64 X) (λX=>[])
theorem Qjt:Q04 Tryz.prog Qkn:=Q0k drawn Q0h (.nil) Tryz.func229 Tryz.call229 (λargs rows=>Q1x (argI args 0)) [] [] 2
def Q56(b:Q05):Tree Int:=
.an (Q6n b.C2) (.lv (Q6f b.C2) λ(x0:Int)=> .lf x0)
def Qd0(b:Q05):Int:=(Q56 b).m
abbrev Qa(b:Q05):Prop:=(Q56 b).p
def Z0n:Q0c:=mkP 176 [] true [.agg Q05.sig] [] (λargs rows=>Qa (Q05.of (aC args 0))) (λargs rows=>Qd0 (Q05.of (aC args 0))) (λX=> .int .i64 X) (λX=>[])
theorem Qlq:Q04 Tryz.prog Z0n:=Q0k drawn Q0h (.cons Qjt (.nil)) Tryz.func176 Tryz.call176 (λargs rows=>Q56 (Q05.of (aC args 0))) [] [] 2
def Q2r(b:Q05):Tree Bool:=
.an (Qa b) (.lv (Qd0 b) λ(x0:Int)=> .lf (wrap u32 x0 !=b.C8))
def Q71(b:Q05):Bool:=(Q2r b).m
abbrev Qbr(b:Q05):Prop:=(Q2r b).p
def Qu5:Q0c:=mkP 103 [] true [.agg Q05.sig] [] (λargs rows=>Qbr (Q05.of (aC args 0))) (λargs rows=>Q71 (Q05.of (aC args 0))) (λX=> .bool X) (λX=>[])
theorem Qro:Q04 Tryz.prog Qu5:=Q0k drawn Q0h (.cons Qlq (.nil)) Tryz.func103 Tryz.call103 (λargs rows=>Q2r (Q05.of (aC args 0))) [] [] 2
def Qi9(m:Q01)(z:(Int)×(Int)):Nat:=(5-z.2).toNat
def Q42(m:Q01):Tree Int:=
.lv (Qgb m.B0) λ(x0:Bool)=> .lv (Q9i m.A4) λ(x1:Bool)=> .lv (Q97 m.B1) λ(x2:Bool)=> .lv (Ql5 m.C4) λ(x3:Bool)=> .an (Qbr m.A1) (.lv (Q71 m.A1) λ(x4:Bool)=> .lp inferInstance (Qi9 m (0,0)+1) ((rE (0:Int)/\(rE (x0:Bool)/\rE (x1:Bool)/\rE (x2:Bool)/\rE (x3:Bool)/\rE (x4:Bool)/\True)/\rE (0:Int)/\True)/\True) (0,0) λ(v0:Int×Int)=> .br (decide (v0.2<5)) (.cn (Nat.beq 1 1&&(Nat.beq 5 5&&decide (0<=v0.2/\v0.2<(↑5:Int)))) (.br (List.getD [x0,x1,x2,x3,x4] v0.2.toNat false) (.cn (decide (0<=v0.2)) (.nx ((rE ((ior u32 v0.1 (ishl u32 1 v0.2)):Int)/\(rE (x0:Bool)/\rE (x1:Bool)/\rE (x2:Bool)/\rE (x3:Bool)/\rE (x4:Bool)/\True)/\rE ((wrap i64 (v0.2+1)):Int)/\True)/\True) (Sum.inl (ior u32 v0.1 (ishl u32 1 v0.2),wrap i64 (v0.2+1))))) (.nx ((rE v0.1/\(rE (x0:Bool)/\rE (x1:Bool)/\rE (x2:Bool)/\rE (x3:Bool)/\rE (x4:Bool)/\True)/\rE ((wrap i64 (v0.2+1)):Int)/\True)/\True) (Sum.inl (v0.1,wrap i64 (v0.2+1)))))) (.lf (Sum.inr v0.1)))
def Qcs(m:Q01):Int:=(Q42 m).m
abbrev Qe3(m:Q01):Prop:=(Q42 m).p
def Qx3:LInv:={
 α:=(Int)×(Int)
 F:=λst a=>([(4, .int u32 a.1),(23,(lk st 23)),(24, .int i64 a.2)],[])
 a0:=λst=>((lk st 4).toInt,(lk st 24).toInt)
 ex0:=λst=>[]++[]
 next:=λst=>((lk st 4).toInt,(lk st 24).toInt)
 ex:=λst=>[]++[]}
def Qr3:List (Nat×LInv):=[(4,Qx3)]
def Z28:Q0c:=mkP 26 [] true [.agg Q01.sig] [] (λargs rows=>Qe3 (Q01.of (aC args 0))) (λargs rows=>Qcs (Q01.of (aC args 0))) (λX=> .int .u32 X) (λX=>[])
theorem Qxb:Q04 Tryz.prog Z28:=Q0k drawn Q0h (.cons Qxj (.cons Qt4 (.cons Qmk (.cons Z32 (.cons Qro (.nil)))))) Tryz.func26 Tryz.call26 (λargs rows=>Q42 (Q01.of (aC args 0))) [] Qr3 3
def Q2s(m:Q01):Tree Int:=
.an (Qe3 m) (.lv (Qcs m) λ(x0:Int)=> .lf (iand u32 x0 m.B2.B4.a7))
def Q57(m:Q01):Int:=(Q2s m).m
abbrev Q7v(m:Q01):Prop:=(Q2s m).p
def Qv:Q0c:=mkP 110 [] true [.agg Q01.sig] [] (λargs rows=>Q7v (Q01.of (aC args 0))) (λargs rows=>Q57 (Q01.of (aC args 0))) (λX=> .int .u32 X) (λX=>[])
theorem Qiq:Q04 Tryz.prog Qv:=Q0k drawn Q0h (.cons Qxb (.nil)) Tryz.func110 Tryz.call110 (λargs rows=>Q2s (Q01.of (aC args 0))) [] [] 2
def Q4u(m:Q01):Tree Bool:=
.br m.A6 (.an (Q7v m) (.lv (Q57 m) λ(x0:Int)=> .lf (x0==0))) (.lf false)
def Q99(m:Q01):Bool:=(Q4u m).m
abbrev Q80(m:Q01):Prop:=(Q4u m).p
def Z41:Q0c:=mkP 28 [] true [.agg Q01.sig] [] (λargs rows=>Q80 (Q01.of (aC args 0))) (λargs rows=>Q99 (Q01.of (aC args 0))) (λX=> .bool X) (λX=>[])
theorem Qn9:Q04 Tryz.prog Z41:=Q0k drawn Q0h (.cons Qiq (.nil)) Tryz.func28 Tryz.call28 (λargs rows=>Q4u (Q01.of (aC args 0))) [] [] 2
end
end Go.Proofs.YtmalmklaonainaaGreat

import Derived.Test.YtmalmklaonainaaGreatReplayRefusesYa
set_option maxRecDepth 100000
set_option linter.all false
namespace Go.Proofs.YtmalmklaonainaaGreat
open Go Go.GD Go.IntKind
noncomputable section
def tblYc0:List UInt8:=[(0:UInt8),1,2,2,3,3,3,3,4,4,4,4,4,4,4,4,5,5,5,5,5,5,5,5,5,5,5,5,5,5,5,5,6,6,6,6,6,6,6,6,6,6,6,6,6,6,6,6,6,6,6,6,6,6,6,6,6,6,6,6,6,6,6,6]
def Zgp:List UInt8:=[(7:UInt8),7,7,7,7,7,7,7,7,7,7,7,7,7,7,7,7,7,7,7,7,7,7,7,7,7,7,7,7,7,7,7,7,7,7,7,7,7,7,7,7,7,7,7,7,7,7,7,7,7,7,7,7,7,7,7,7,7,7,7,7,7,7,7]
def Qr9:List UInt8:=[(8:UInt8),8,8,8,8,8,8,8,8,8,8,8,8,8,8,8,8,8,8,8,8,8,8,8,8,8,8,8,8,8,8,8,8,8,8,8,8,8,8,8,8,8,8,8,8,8,8,8,8,8,8,8,8,8,8,8,8,8,8,8,8,8,8,8]
def Zl7:List UInt8:=[(1:UInt8),2,2,3,3,3,3,4,4,4,4,4,4,4,4,5,5,5,5,5,5,5,5,5,5,5,5,5,5,5,5,6,6,6,6,6,6,6,6,6,6,6,6,6,6,6,6,6,6,6,6,6,6,6,6,6,6,6,6,6,6,6,6]
def tblYc4:List UInt8:=[(0:UInt8),1,1,2,1,2,2,3,1,2,2,3,2,3,3,4,1,2,2,3,2,3,3,4,2,3,3,4,3,4,4,5,1,2,2,3,2,3,3,4,2,3,3,4,3,4,4,5,2,3,3,4,3,4,4,5,3,4,4,5,4,5,5,6]
def Qrc:List UInt8:=[(1:UInt8),2,2,3,2,3,3,4,2,3,3,4,3,4,4,5,2,3,3,4,3,4,4,5,3,4,4,5,4,5,5,6,2,3,3,4,3,4,4,5,3,4,4,5,4,5,5,6,3,4,4,5,4,5,5,6,4,5,5,6,5,6,6,7]
def Zdc:List UInt8:=[(2:UInt8),3,3,4,3,4,4,5,3,4,4,5,4,5,5,6,3,4,4,5,4,5,5,6,4,5,5,6,5,6,6,7,3,4,4,5,4,5,5,6,4,5,5,6,5,6,6,7,4,5,5,6,5,6,6,7,5,6,6,7,6,7,7,8]
def Zkp:List UInt8:=[(1:UInt8),1,2,1,2,2,3,1,2,2,3,2,3,3,4,1,2,2,3,2,3,3,4,2,3,3,4,3,4,4,5,1,2,2,3,2,3,3,4,2,3,3,4,3,4,4,5,2,3,3,4,3,4,4,5,3,4,4,5,4,5,5,6]
def Quq(c:Q0c):Tree Bool:=
.lf (decide ((c.D3.length:Int)<=(16:Int)))
def Q2c(c:Q0c):Bool:=(Quq c).m
def Zbi:Q0d:=mkR 171 [] true [.agg Q0c.sig] [] (λargs rows=>Q2c (Q0c.of (aC args 0))) (λX=> .bool X) (λX=>[])
theorem Z6m:Q05 Tryz.prog Zbi:=Q0z drawn Q0j (.nil) Tryz.func171 Tryz.call171 (λargs rows=>Quq (Q0c.of (aC args 0))) [] [] 2
def Qmq(t:Q0h):Tree Bool:=
.br t.D1 (.br (!t.D5) (.lf (t.C7 !=0)) (.lf false)) (.br t.D5 (.lf true) (.lf (t.C7==0)))
def Q4i(t:Q0h):Bool:=(Qmq t).m
def Zib:Q0d:=mkR 172 [] true [.agg Q0h.sig] [] (λargs rows=>Q4i (Q0h.of (aC args 0))) (λX=> .bool X) (λX=>[])
theorem Zex:Q05 Tryz.prog Zib:=Q0z drawn Q0j (.nil) Tryz.func172 Tryz.call172 (λargs rows=>Qmq (Q0h.of (aC args 0))) [] [] 2
def Q7s(d0:Q0e):Tree Bool:=
.br (d0.D8==1) (.lf (decide (d0.C3=[]))) (.br (d0.D8==2) (.lf ((d0.C3.length:Int)==(128:Int))) (.lf false))
def Qa8(d0:Q0e):Bool:=(Q7s d0).m
def Qxi:Q0d:=mkR 227 [] true [.agg Q0e.sig] [] (λargs rows=>Qa8 (Q0e.of (aC args 0))) (λX=> .bool X) (λX=>[])
theorem Qu2:Q05 Tryz.prog Qxi:=Q0z drawn Q0j (.nil) Tryz.func227 Tryz.call227 (λargs rows=>Q7s (Q0e.of (aC args 0))) [] [] 2
def Q6o(d0:Q0e)(pages:Int):Tree Bool:=
.br (decide (d0.Blocks>64)) (.lf false) (let T1:Tree (Bool):= .br (d0.D8==0) (.br (d0.B7==0) (.br (d0.B3==0) (.lf (decide (d0.C3=[]))) (.lf false)) (.lf false)) (.lf false); .br (d0.C0==0) T1 (.br (d0.C0==2) T1 (.br (d0.C0==3) T1 (.br (d0.C0==1) (.lv (Qa8 d0) λ(x0:Bool)=> .br x0 (.br (decide (d0.B7<d0.Blocks)) (.lf (decide (wrap i64 d0.B3<pages))) (.lf false)) (.lf false)) (.lf false)))))
def Q1k(d0:Q0e)(pages:Int):Bool:=(Q6o d0 pages).m
def Znm:Q0d:=mkR 173 [] true [.agg Q0e.sig, .one (.int .i64)] [] (λargs rows=>Q1k (Q0e.of (aC args 0)) (argI args 1)) (λX=> .bool X) (λX=>[])
theorem Zit:Q05 Tryz.prog Znm:=Q0z drawn Q0j (.cons Qu2 (.nil)) Tryz.func173 Tryz.call173 (λargs rows=>Q6o (Q0e.of (aC args 0)) (argI args 1)) [] [] 2
def Qm(n:Q0o)(pages:Int):Tree Bool:=
let T1:Tree (Bool):=let T2:Tree (Bool):= .br n.B8 (.br (decide (n.F1>=1)) (.lf (decide (n.F1<=128))) (.lf false)) (.lf (n.F1==0)); .br n.C5 (.br (decide (wrap i64 n.B9>=pages)) (.lf false) T2) (.br (n.B9 !=0) (.lf false) T2); .br n.C5 (.br n.B8 (.lf false) T1) T1
def Q6h(n:Q0o)(pages:Int):Bool:=(Qm n pages).m
def yA:Q0d:=mkR 174 [] true [.agg Q0o.sig, .one (.int .i64)] [] (λargs rows=>Q6h (Q0o.of (aC args 0)) (argI args 1)) (λX=> .bool X) (λX=>[])
theorem Zo2:Q05 Tryz.prog yA:=Q0z drawn Q0j (.nil) Tryz.func174 Tryz.call174 (λargs rows=>Qm (Q0o.of (aC args 0)) (argI args 1)) [] [] 2
def Q1u(x:Int):Tree Int:=
let E1:=(↑(List.length (List.append (List.append tblYc0 Zgp) (List.append Qr9 Qr9))):Int); .br (decide (x>=65536)) (.br (decide (ishr u32 x (16:Int)>=(256:Int))) (.cn (decide (0<=wrap u8 (ishr u32 (ishr u32 x 16) 8)/\wrap u8 (ishr u32 (ishr u32 x 16) 8)<E1)) (.lf (wrap i64 (wrap i64 ((16:Int)+(8:Int))+wrap i64 (↑(UInt8.toNat (List.getD ((0:UInt8)::(Zl7++Zgp++(Qr9++Qr9))) (Int.toNat (wrap u8 (ishr u32 (ishr u32 x 16) 8))) (0:UInt8))):Int))))) (.cn (decide (0<=wrap u8 (ishr u32 x 16)/\wrap u8 (ishr u32 x 16)<E1)) (.lf (wrap i64 (16+wrap i64 (↑(UInt8.toNat (List.getD ((0:UInt8)::(Zl7++Zgp++(Qr9++Qr9))) (Int.toNat (wrap u8 (ishr u32 x 16))) (0:UInt8))):Int)))))) (.br (decide (x>=256)) (.cn (decide (0<=wrap u8 (ishr u32 x 8)/\wrap u8 (ishr u32 x 8)<E1)) (.lf (wrap i64 (wrap i64 ((0:Int)+(8:Int))+wrap i64 (↑(UInt8.toNat (List.getD ((0:UInt8)::(Zl7++Zgp++(Qr9++Qr9))) (Int.toNat (wrap u8 (ishr u32 x 8))) (0:UInt8))):Int))))) (.cn (decide (0<=wrap u8 x/\wrap u8 x<E1)) (.lf (wrap i64 (0+wrap i64 (↑(UInt8.toNat (List.getD ((0:UInt8)::(Zl7++Zgp++(Qr9++Qr9))) (Int.toNat (wrap u8 x)) (0:UInt8))):Int))))))
def Q1n(x:Int):Int:=(Q1u x).m
abbrev Qd5(x:Int):Prop:=(Q1u x).p
def Qww:Q0d:=mkP 228 [] true [.one (.int .u32)] [] (λargs rows=>Qd5 (argI args 0)) (λargs rows=>Q1n (argI args 0)) (λX=> .int .i64 X) (λX=>[])
theorem Qud:Q05 Tryz.prog Qww:=Q0l drawn Q0j (.nil) Tryz.func228 Tryz.call228 (λargs rows=>Q1u (argI args 0)) [] [] 2
def Q46(b:Q07)(pages:Int):Tree Bool:=
.an (Qd5 b.C2) (.lv (Q1n b.C2) λ(x0:Int)=> .lf (decide (x0<=if 0>pages then 0 else pages)))
def Q2q(b:Q07)(pages:Int):Bool:=(Q46 b pages).m
abbrev Qdx(b:Q07)(pages:Int):Prop:=(Q46 b pages).p
def Zbt:Q0d:=mkP 175 [] true [.agg Q07.sig, .one (.int .i64)] [] (λargs rows=>Qdx (Q07.of (aC args 0)) (argI args 1)) (λargs rows=>Q2q (Q07.of (aC args 0)) (argI args 1)) (λX=> .bool X) (λX=>[])
theorem Z6q:Q05 Tryz.prog Zbt:=Q0l drawn Q0j (.cons Qud (.nil)) Tryz.func175 Tryz.call175 (λargs rows=>Q46 (Q07.of (aC args 0)) (argI args 1)) [] [] 2
def Q1t(m:Q00):Tree Bool:=
.lv (Q0v m.Mem) λ(x0:Int)=> .lv (Q2c m.A6) λ(x1:Bool)=> .br x1 (.lv (Q4i m.B0) λ(x2:Bool)=> .br x2 (.lv (Q1k m.B1 x0) λ(x3:Bool)=> .br x3 (.lv (Q6h m.C4 x0) λ(x4:Bool)=> .br x4 (.an (Qdx m.A2 x0) (.lv (Q2q m.A2 x0) λ(x5:Bool)=> .lf x5)) (.lf false)) (.lf false)) (.lf false)) (.lf false)
def Q0x(m:Q00):Bool:=(Q1t m).m
abbrev Q2u(m:Q00):Prop:=(Q1t m).p
def Qqm:Q0d:=mkP 92 [] true [.agg Q00.sig] [] (λargs rows=>Q2u (Q00.of (aC args 0))) (λargs rows=>Q0x (Q00.of (aC args 0))) (λX=> .bool X) (λX=>[])
theorem Qpa:Q05 Tryz.prog Qqm:=Q0l drawn Q0j (.cons Q4d (.cons Z6m (.cons Zex (.cons Zit (.cons Zo2 (.cons Z6q (.nil))))))) Tryz.func92 Tryz.call92 (λargs rows=>Q1t (Q00.of (aC args 0))) [] [] 2
def Q58(m:Q00):Tree Bool:=
.lv (Q0v m.Mem) λ(x0:Int)=> .br (x0==0) (.lf false) (.br (m.B2.X.a0 !=0) (.lf false) (.br (decide (m.B2.B5.a0>31)) (.lf false) (.br (decide (m.B2.B5.a7>31)) (.lf false) (.br (decide (m.B2.B5.a6>255)) (.lf false) (.br (Int.tmod m.B2.B5.a1 (4:Int) !=(0:Int)) (.lf false) (.br (decide (m.A1>1152921504606846976)) (.lf false) (.br m.A7 (.br m.A9 (.lf false) (.an (Q2u m) (.lv (Q0x m) λ(x1:Bool)=> .lf x1))) (.an (Q2u m) (.lv (Q0x m) λ(x2:Bool)=> .lf x2)))))))))
def Q1g(m:Q00):Bool:=(Q58 m).m
abbrev Q3c(m:Q00):Prop:=(Q58 m).p
def Zan:Q0d:=mkP 24 [] true [.agg Q00.sig] [] (λargs rows=>Q3c (Q00.of (aC args 0))) (λargs rows=>Q1g (Q00.of (aC args 0))) (λX=> .bool X) (λX=>[])
theorem Qca:Q05 Tryz.prog Zan:=Q0l drawn Q0j (.cons Q4d (.cons Qpa (.nil))) Tryz.func24 Tryz.call24 (λargs rows=>Q58 (Q00.of (aC args 0))) [] [] 2
def Qow(t:Q0h):Tree Bool:=
.lf t.D5
def Qhv(t:Q0h):Bool:=(Qow t).m
def Z1q:Q0d:=mkR 99 [] true [.agg Q0h.sig] [] (λargs rows=>Qhv (Q0h.of (aC args 0))) (λX=> .bool X) (λX=>[])
theorem Z0d:Q05 Tryz.prog Z1q:=Q0z drawn Q0j (.nil) Tryz.func99 Tryz.call99 (λargs rows=>Qow (Q0h.of (aC args 0))) [] [] 2
def Qm6(c:Q0c):Tree Bool:=
.lf (!decide (c.D3=[]))
def Qak(c:Q0c):Bool:=(Qm6 c).m
def Qwm:Q0d:=mkR 100 [] true [.agg Q0c.sig] [] (λargs rows=>Qak (Q0c.of (aC args 0))) (λX=> .bool X) (λX=>[])
theorem Qss:Q05 Tryz.prog Qwm:=Q0z drawn Q0j (.nil) Tryz.func100 Tryz.call100 (λargs rows=>Qm6 (Q0c.of (aC args 0))) [] [] 2
def Qkx(d0:Q0e):Tree Bool:=
.br (d0.C0==2) (.lf true) (.lf (d0.C0==3))
def Q9r(d0:Q0e):Bool:=(Qkx d0).m
def Z6d:Q0d:=mkR 101 [] true [.agg Q0e.sig] [] (λargs rows=>Q9r (Q0e.of (aC args 0))) (λX=> .bool X) (λX=>[])
theorem Qpk:Q05 Tryz.prog Z6d:=Q0z drawn Q0j (.nil) Tryz.func101 Tryz.call101 (λargs rows=>Qkx (Q0e.of (aC args 0))) [] [] 2
def Qup(n:Q0o):Tree Bool:=
.lf n.B8
def Qn1(n:Q0o):Bool:=(Qup n).m
def Z9v:Q0d:=mkR 102 [] true [.agg Q0o.sig] [] (λargs rows=>Qn1 (Q0o.of (aC args 0))) (λX=> .bool X) (λX=>[])
theorem Z51:Q05 Tryz.prog Z9v:=Q0z drawn Q0j (.nil) Tryz.func102 Tryz.call102 (λargs rows=>Qup (Q0o.of (aC args 0))) [] [] 2
def Q24(x:Int):Tree Int:=
let E1:=(↑(List.length (List.append (List.append tblYc4 Qrc) (List.append Qrc Zdc))):Int); .cn (decide (0<=ishr u32 x 24/\ishr u32 x 24<E1)) (.cn (decide (0<=iand u32 (ishr u32 x 16) 255/\iand u32 (ishr u32 x 16) 255<E1)) (.cn (decide (0<=iand u32 (ishr u32 x 8) 255/\iand u32 (ishr u32 x 8) 255<E1)) (.cn (decide (0<=iand u32 x 255/\iand u32 x 255<E1)) (.lf (wrap i64 (wrap u8 (wrap u8 (wrap u8 ((↑(UInt8.toNat (List.getD ((0:UInt8)::(Zkp++Qrc++(Qrc++Zdc))) (Int.toNat (ishr u32 x 24)) (0:UInt8))):Int)+(↑(UInt8.toNat (List.getD ((0:UInt8)::(Zkp++Qrc++(Qrc++Zdc))) (Int.toNat (iand u32 (ishr u32 x 16) 255)) (0:UInt8))):Int))+(↑(UInt8.toNat (List.getD ((0:UInt8)::(Zkp++Qrc++(Qrc++Zdc))) (Int.toNat (iand u32 (ishr u32 x 8) 255)) (0:UInt8))):Int))+(↑(UInt8.toNat (List.getD ((0:UInt8)::(Zkp++Qrc++(Qrc++Zdc))) (Int.toNat (iand u32 x 255)) (0:UInt8))):Int))))))))
def Q6p(x:Int):Int:=(Q24 x).m
abbrev Q7d(x:Int):Prop:=(Q24 x).p
def Qnb:Q0d:=mkP 229 [] true [.one (.int .u32)] [] (λargs rows=>Q7d (argI args 0)) (λargs rows=>Q6p (argI args 0)) (λX=> .int .i64 X) (λX=>[])
theorem Qlt:Q05 Tryz.prog Qnb:=Q0l drawn Q0j (.nil) Tryz.func229 Tryz.call229 (λargs rows=>Q24 (argI args 0)) [] [] 2
def Q5w(b:Q07):Tree Int:=
.an (Q7d b.C2) (.lv (Q6p b.C2) λ(x0:Int)=> .lf x0)
def Qeb(b:Q07):Int:=(Q5w b).m
abbrev Qat(b:Q07):Prop:=(Q5w b).p
def Z2z:Q0d:=mkP 176 [] true [.agg Q07.sig] [] (λargs rows=>Qat (Q07.of (aC args 0))) (λargs rows=>Qeb (Q07.of (aC args 0))) (λX=> .int .i64 X) (λX=>[])
theorem Qnj:Q05 Tryz.prog Z2z:=Q0l drawn Q0j (.cons Qlt (.nil)) Tryz.func176 Tryz.call176 (λargs rows=>Q5w (Q07.of (aC args 0))) [] [] 2
def Q32(b:Q07):Tree Bool:=
.an (Qat b) (.lv (Qeb b) λ(x0:Int)=> .lf (wrap u32 x0 !=b.C8))
def Q7y(b:Q07):Bool:=(Q32 b).m
abbrev Qd(b:Q07):Prop:=(Q32 b).p
def Qw1:Q0d:=mkP 103 [] true [.agg Q07.sig] [] (λargs rows=>Qd (Q07.of (aC args 0))) (λargs rows=>Q7y (Q07.of (aC args 0))) (λX=> .bool X) (λX=>[])
theorem Quk:Q05 Tryz.prog Qw1:=Q0l drawn Q0j (.cons Qnj (.nil)) Tryz.func103 Tryz.call103 (λargs rows=>Q32 (Q07.of (aC args 0))) [] [] 2
def Qj3(m:Q00)(z:(Int)×(Int)):Nat:=(5-z.2).toNat
def Q4c(m:Q00):Tree Int:=
.lv (Qhv m.B0) λ(x0:Bool)=> .lv (Qak m.A6) λ(x1:Bool)=> .lv (Q9r m.B1) λ(x2:Bool)=> .lv (Qn1 m.C4) λ(x3:Bool)=> .an (Qd m.A2) (.lv (Q7y m.A2) λ(x4:Bool)=> .lp inferInstance (Qj3 m (0,0)+1) ((rE (0:Int)/\(rE (x0:Bool)/\rE (x1:Bool)/\rE (x2:Bool)/\rE (x3:Bool)/\rE (x4:Bool)/\True)/\rE (0:Int)/\True)/\True) (0,0) λ(v0:Int×Int)=> .br (decide (v0.2<5)) (.cn (Nat.beq 1 1&&(Nat.beq 5 5&&decide (0<=v0.2/\v0.2<(↑5:Int)))) (.br (List.getD [x0,x1,x2,x3,x4] v0.2.toNat false) (.cn (decide (0<=v0.2)) (.nx ((rE ((ior u32 v0.1 (ishl u32 1 v0.2)):Int)/\(rE (x0:Bool)/\rE (x1:Bool)/\rE (x2:Bool)/\rE (x3:Bool)/\rE (x4:Bool)/\True)/\rE ((wrap i64 (v0.2+1)):Int)/\True)/\True) (Sum.inl (ior u32 v0.1 (ishl u32 1 v0.2),wrap i64 (v0.2+1))))) (.nx ((rE v0.1/\(rE (x0:Bool)/\rE (x1:Bool)/\rE (x2:Bool)/\rE (x3:Bool)/\rE (x4:Bool)/\True)/\rE ((wrap i64 (v0.2+1)):Int)/\True)/\True) (Sum.inl (v0.1,wrap i64 (v0.2+1)))))) (.lf (Sum.inr v0.1)))
def Qdz(m:Q00):Int:=(Q4c m).m
abbrev Qfa(m:Q00):Prop:=(Q4c m).p
def Z08:LInv:={
 α:=(Int)×(Int)
 F:=λst a=>([(4, .int u32 a.1),(23,(lk st 23)),(24, .int i64 a.2)],[])
 a0:=λst=>((lk st 4).toInt,(lk st 24).toInt)
 ex0:=λst=>[]++[]
 next:=λst=>((lk st 4).toInt,(lk st 24).toInt)
 ex:=λst=>[]++[]}
def Quj:List (Nat×LInv):=[(4,Z08)]
def Z39:Q0d:=mkP 26 [] true [.agg Q00.sig] [] (λargs rows=>Qfa (Q00.of (aC args 0))) (λargs rows=>Qdz (Q00.of (aC args 0))) (λX=> .int .u32 X) (λX=>[])
theorem Qzo:Q05 Tryz.prog Z39:=Q0l drawn Q0j (.cons Z0d (.cons Qss (.cons Qpk (.cons Z51 (.cons Quk (.nil)))))) Tryz.func26 Tryz.call26 (λargs rows=>Q4c (Q00.of (aC args 0))) [] Quj 3
def Q33(m:Q00):Tree Int:=
.an (Qfa m) (.lv (Qdz m) λ(x0:Int)=> .lf (iand u32 x0 m.B2.B5.a7))
def Q5y(m:Q00):Int:=(Q33 m).m
abbrev Q8q(m:Q00):Prop:=(Q33 m).p
def Qvl:Q0d:=mkP 110 [] true [.agg Q00.sig] [] (λargs rows=>Q8q (Q00.of (aC args 0))) (λargs rows=>Q5y (Q00.of (aC args 0))) (λX=> .int .u32 X) (λX=>[])
theorem Qk9:Q05 Tryz.prog Qvl:=Q0l drawn Q0j (.cons Qzo (.nil)) Tryz.func110 Tryz.call110 (λargs rows=>Q33 (Q00.of (aC args 0))) [] [] 2
def Q5o(m:Q00):Tree Bool:=
.br m.A7 (.an (Q8q m) (.lv (Q5y m) λ(x0:Int)=> .lf (x0==0))) (.lf false)
def Q86(m:Q00):Bool:=(Q5o m).m
abbrev Q6j(m:Q00):Prop:=(Q5o m).p
def Z6t:Q0d:=mkP 28 [] true [.agg Q00.sig] [] (λargs rows=>Q6j (Q00.of (aC args 0))) (λargs rows=>Q86 (Q00.of (aC args 0))) (λX=> .bool X) (λX=>[])
theorem Qio:Q05 Tryz.prog Z6t:=Q0l drawn Q0j (.cons Qk9 (.nil)) Tryz.func28 Tryz.call28 (λargs rows=>Q5o (Q00.of (aC args 0))) [] [] 2

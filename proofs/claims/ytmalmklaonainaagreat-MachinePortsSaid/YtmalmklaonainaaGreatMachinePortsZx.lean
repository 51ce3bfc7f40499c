import Derived.Test.YtmalmklaonainaaGreatMachinePortsYz
set_option maxRecDepth 100000
set_option linter.all false
namespace Go.Proofs.YtmalmklaonainaaGreat
open Go Go.GD Go.IntKind
noncomputable section
def Qkh(m:(List Int)):Tree (List Int):=
.cn (Nat.blt (0:Nat) (1:Nat)&&Nat.beq (1:Nat) (1:Nat)&&List.all [D.int u32 (0:Int)] D.plain&&decide ((0:Int)<=(m.length:Int)/\(m.length:Int)<=(m.length:Int)/\(m.length:Int)<=(9223372036854775807:Int)/\(↑(4:Nat):Int)*(m.length:Int)<=(140737488355328:Int))) (let E1:=List.length (List.replicate (Int.toNat (m.length:Int)) (0:Int)); .lf (List.take (Min.min (m.length) E1) m++List.drop (Min.min (m.length) E1) (List.replicate (Int.toNat (m.length:Int)) (0:Int))))
def Qru(m:(List Int)):(List Int):=(Qkh m).m
abbrev Qyy(m:(List Int)):Prop:=(Qkh m).p
def Qml(m:Q00):Tree Q00:=
.an (Qyy m.Mem) (.lv (Qru m.Mem) λ(x0:List Int)=> .lf ({B1:=m.B1,Mem:=x0,A1:=m.A1,A6:=m.A6,A9:=m.A9,C2:=m.C2,A0:=m.A0,A4:=m.A4,A2:=m.A2,A3:=m.A3}))
def Qz8(m:Q00):Q00:=(Qml m).m
abbrev Z37(m:Q00):Prop:=(Qml m).p
def Qp5(m:(List Int)):Tree Int:=
.br (Int.tmod (m.length:Int) (32:Int) !=(0:Int)) (.lf 0) (.br (decide ((m.length:Int)>(1024:Int))) (.lf 0) (.lf (wrap i64 (Int.tdiv (m.length:Int) 32))))
def Q37(m:(List Int)):Int:=(Qp5 m).m
def Qng(c:Q0a):Tree Bool:=
.lf (decide ((c.C7.length:Int)<=(16:Int)))
def Qhr(c:Q0a):Bool:=(Qng c).m
def Qh9(t:Q0f):Tree Bool:=
.br t.D0 (.br t.C9 (.lf false) (.br t.D0 (.lf (t.C4 !=0)) (.br t.C9 (.lf true) (.lf (t.C4==0))))) (.br t.D0 (.lf (t.C4 !=0)) (.br t.C9 (.lf true) (.lf (t.C4==0))))
def Qbu(t:Q0f):Bool:=(Qh9 t).m
def Qjo(d0:Q09)(pages:Int):Tree Bool:=
.br (decide (d0.Blocks>64)) (.lf false) (.br (decide (d0.B7<0)) (.lf false) (.br (decide (d0.B7>3)) (.lf false) (.br (d0.B7 !=1) (.br (d0.D1==0) (.br (d0.B2==0) (.br (d0.B0==0) (.lf (decide (d0.B9=[]))) (.lf false)) (.lf false)) (.lf false)) (.br (decide (d0.B2>=d0.Blocks)) (.lf false) (.br (decide (wrap i64 d0.B0>=pages)) (.lf false) (.br (d0.D1==1) (.br (decide (d0.B9=[])) (.lf true) (.br (d0.D1==2) (.lf ((d0.B9.length:Int)==(128:Int))) (.lf false))) (.br (d0.D1==2) (.lf ((d0.B9.length:Int)==(128:Int))) (.lf false))))))))
def Qe7(d0:Q09)(pages:Int):Bool:=(Qjo d0 pages).m
def Qks(n:Q0k)(pages:Int):Tree Bool:=
let T1:Tree (Bool):= .br n.B4 (.br (decide (n.D5>=1)) (.lf (decide (n.D5<=128))) (.lf false)) (.lf (n.D5==0)); .br n.C1 (.br n.B4 (.lf false) (.br (decide (wrap i64 n.B6>=pages)) (.lf false) (.br (!n.C1) (.br (n.B6 !=0) (.lf false) T1) T1))) (.br (!n.C1) (.br (n.B6 !=0) (.lf false) T1) T1)
def Qfy(n:Q0k)(pages:Int):Bool:=(Qks n pages).m
def Qb(b:Q06)(pages:Int)(z:(Int)):Nat:=(32-z).toNat
def Qac(b:Q06)(pages:Int):Tree Bool:=
.lp inferInstance (Qb b pages 0+1) ((rE (pages:Int)/\rZ/\rE (0:Int)/\True)/\(rE b.C3/\rE b.B8/\True)/\True) 0 λ(v0:Int)=> .br (decide (v0<32)) (.cn (decide (0<=wrap u64 v0)) (let T1:Tree ((Int)⊕(Bool)):= .nx ((rE (pages:Int)/\rZ/\rE ((wrap i64 (v0+1)):Int)/\True)/\(rE b.C3/\rE b.B8/\True)/\True) (Sum.inl (wrap i64 (v0+1))); .br (iand u32 (ishr u32 b.B8 (wrap u64 v0)) (1:Int)==(1:Int)) (.br (decide (v0>=pages)) (.lf (Sum.inr false)) T1) T1)) (.lf (Sum.inr true))
def Q90(b:Q06)(pages:Int):Bool:=(Qac b pages).m
def Qwr(m:Q00):Tree Bool:=
.lv (Q37 m.Mem) λ(x0:Int)=> .br (decide (x0<1)) (.lf false) (.br (m.B1.X.a0 !=0) (.lf false) (.br (decide (m.B1.B3.a0>31)) (.lf false) (.br (decide (m.B1.B3.a7>31)) (.lf false) (.br (decide (m.B1.B3.a6>255)) (.lf false) (.br (Int.tmod m.B1.B3.a1 (4:Int) !=(0:Int)) (.lf false) (.lv (Qhr m.A1) λ(x1:Bool)=> .br (!x1) (.lf false) (.lv (Qbu m.A6) λ(x2:Bool)=> .br (!x2) (.lf false) (.lv (Qe7 m.A9 x0) λ(x3:Bool)=> .br (!x3) (.lf false) (.lv (Qfy m.C2 x0) λ(x4:Bool)=> .br (!x4) (.lf false) (.lv (Q90 m.A0 x0) λ(x5:Bool)=> .br (!x5) (.lf false) (.br (decide (m.A4<=1152921504606846976)) (.br m.A2 (.lf (!m.A3)) (.lf true)) (.lf false))))))))))))
def Qbp(m:Q00):Bool:=(Qwr m).m
def Z4f(t:Q0f):Tree (Q0f×Bool):=
.br (!t.D0) (.lf (t,false)) (.lf ({D0:=false,C4:=t.C4,C9:=true},true))
def Z3f(t:Q0f):(Q0f×Bool):=(Z4f t).m
def Qfv(c:Q0a)(b:Int):Tree (Q0a×Bool):=
.br (decide ((c.C7.length:Int)>=(16:Int))) (.lf (c,false)) (.cn (decide (c.C7.length+1<=maxLen)) (.lf ({C7:=c.C7++[(λ(n:Int)=>UInt8.ofNat n.toNat) b]},true)))
def Qhy(c:Q0a)(b:Int):(Q0a×Bool):=(Qfv c b).m
abbrev Qza(c:Q0a)(b:Int):Prop:=(Qfv c b).p
def Qgj(m:(List Int))(frame:Int):Tree Bool:=
.lv (Q37 m) λ(x0:Int)=> .lf (decide (wrap u64 frame<wrap u64 x0))
def Q1l(m:(List Int))(frame:Int):Bool:=(Qgj m frame).m
def Qce(m:(List Int))(addr:Int)(size:Int)(v:Int):Tree (List Int):=
let E1:=Nat.beq 1 1&&Nat.blt 0 1&&decide (0<=wrap u32 (Int.tdiv addr 4)/\wrap u32 (Int.tdiv addr 4)<(m.length:Int));let E2:=Int.toNat (wrap u32 (Int.tdiv addr 4)); .br (size==4) (.cn E1 (.lf (List.set m E2 v))) (.cn E1 (let E3:=decide (0<=wrap u32 (8*Int.tmod addr 4)); .cn E3 (.cn E3 (.cn E1 (.lf (List.set m E2 (ior u32 (Qbs u32 (m.getD E2 0) (ishl u32 255 (wrap u32 (8*Int.tmod addr 4)))) (ishl u32 (iand u32 v 255) (wrap u32 (8*Int.tmod addr 4))))))))))
def Q87(m:(List Int))(addr:Int)(size:Int)(v:Int):(List Int):=(Qce m addr size v).m
abbrev Qdy(m:(List Int))(addr:Int)(size:Int)(v:Int):Prop:=(Qce m addr size v).p
def Qcp(m:(List Int))(frame:Int)(s:(List UInt8))(z:(Int)×(List Int)):Nat:=(128-z.1).toNat
def Q8b(m:(List Int))(frame:Int)(s:(List UInt8)):Tree (List Int):=
.lp inferInstance (Qcp m frame s (0,m)+1) ((True/\rE (frame:Int)/\rE (s:List UInt8)/\rE (0:Int)/\True)/\rE (m:List Int)/\True) (0,m) λ(v0:Int×List Int)=> .br (decide (v0.1<(s.length:Int))) (.br (decide (v0.1<128)) (.cn (decide (0<=v0.1/\v0.1<(s.length:Int))) (let E1:=wrap u32 (↑(UInt8.toNat (s.getD v0.1.toNat (0:UInt8))):Int);let E2:=wrap u32 (wrap i64 (wrap i64 (frame*128)+v0.1)); .an (Qdy v0.2 E2 1 E1) (.lv (Q87 v0.2 E2 1 E1) λ(x0:List Int)=> .nx ((True/\rE (frame:Int)/\rE (s:List UInt8)/\rE ((wrap i64 (v0.1+1)):Int)/\True)/\rE (x0:List Int)/\True) (Sum.inl (wrap i64 (v0.1+1),x0))))) (.lf (Sum.inr v0.2))) (.lf (Sum.inr v0.2))
def Qhu(m:(List Int))(frame:Int)(s:(List UInt8)):(List Int):=(Q8b m frame s).m
abbrev Qku(m:(List Int))(frame:Int)(s:(List UInt8)):Prop:=(Q8b m frame s).p
def Q9b(d0:Q09)(m:(List Int))(e:Q0s):Tree (Q09×Bool×(List Int)):=
.br (d0.B7 !=1) (.lf (d0,false,m)) (.br (e.C0 !=4) (.lf (d0,false,m)) (.br (decide (e.N>1)) (.lf (d0,false,m)) (let E4:=({Blocks:=d0.Blocks,B5:=d0.B5,Frame:=d0.Frame,B7:=2,D1:=0,B2:=0,B0:=0,B9:=[]}:Q09);let E5:=({Blocks:=d0.Blocks,B5:=d0.B5,Frame:=d0.Frame,B7:=3,D1:=0,B2:=0,B0:=0,B9:=[]}:Q09);let T2:Tree ((Q09×Bool×(List Int))):= .br (e.N==1) (.lf (E4,true,m)) (.lf (E5,true,m));let E6:=decide ((e.C6.length:Int)>(0:Int)); .br (e.N==1) (let T1:Tree ((Q09×Bool×(List Int))):= .br (d0.D1==1) (.an (Qku m (wrap i64 d0.B0) e.C6) (.lv (Qhu m (wrap i64 d0.B0) e.C6) λ(x1:List Int)=> .br (e.N==1) (.lf (E4,true,x1)) (.lf (E5,true,x1)))) T2;let T3:Tree ((Q09×Bool×(List Int))):= .br (!d0.D1==1) (.br E6 (.lf (d0,false,m)) T1) T1; .br (d0.D1==1) (.br ((e.C6.length:Int) !=(128:Int)) (.lf (d0,false,m)) (.lv (Q1l m d0.B0) λ(x0:Bool)=> .br (!x0) (.lf (d0,false,m)) T3)) T3) (.br E6 (.lf (d0,false,m)) T2))))
def Qcs(d0:Q09)(m:(List Int))(e:Q0s):(Q09×Bool×(List Int)):=(Q9b d0 m e).m
abbrev Qsb(d0:Q09)(m:(List Int))(e:Q0s):Prop:=(Q9b d0 m e).p
def Q9o(n:Q0k)(m:(List Int))(frame:(List UInt8)):Tree (Q0k×Bool×(List Int)):=
.br (!n.C1) (.lf (n,false,m)) (.br (decide ((frame.length:Int)<(1:Int))) (.lf (n,false,m)) (.br (decide ((frame.length:Int)>(128:Int))) (.lf (n,false,m)) (.lv (Q1l m n.B6) λ(x0:Bool)=> .br (!x0) (.lf (n,false,m)) (.an (Qku m (wrap i64 n.B6) frame) (.lv (Qhu m (wrap i64 n.B6) frame) λ(x1:List Int)=> .lf ({Frame:=n.Frame,D4:=n.D4,C1:=false,B6:=0,B4:=true,D5:=wrap u32 (frame.length:Int)},true,x1))))))
def Qci(n:Q0k)(m:(List Int))(frame:(List UInt8)):(Q0k×Bool×(List Int)):=(Q9o n m frame).m
abbrev Qsv(n:Q0k)(m:(List Int))(frame:(List UInt8)):Prop:=(Q9o n m frame).p
def Qb4(m:Q00)(e:Q0s):Tree (Bool×Q00):=
.br m.A3 (.lf (false,m)) (let T1:Tree ((Bool×Q00)):= .br (e.C0==4) (.an (Qsb m.A9 m.Mem e) (.lv (Qcs m.A9 m.Mem e) λ(x2:Q09×Bool×List Int)=> .lf (x2.2.1,{B1:=m.B1,Mem:=x2.2.2,A1:=m.A1,A6:=m.A6,A9:=x2.1,C2:=m.C2,A0:=m.A0,A4:=m.A4,A2:=m.A2,A3:=m.A3}))) (let T3:Tree ((Bool×Q00)):= .br (e.C0==6) (.br (decide (e.C6=[])) (.lf (true,{B1:=m.B1,Mem:=m.Mem,A1:=m.A1,A6:=m.A6,A9:=m.A9,C2:=m.C2,A0:={C3:=e.N,B8:=m.A0.B8},A4:=m.A4,A2:=m.A2,A3:=m.A3})) (.lf (false,m))) (.lf (false,m)); .br (e.C0==5) (.br (e.N==0) (.an (Qsv m.C2 m.Mem e.C6) (.lv (Qci m.C2 m.Mem e.C6) λ(x3:Q0k×Bool×List Int)=> .lf (x3.2.1,{B1:=m.B1,Mem:=x3.2.2,A1:=m.A1,A6:=m.A6,A9:=m.A9,C2:=x3.1,A0:=m.A0,A4:=m.A4,A2:=m.A2,A3:=m.A3}))) T3) T3);let T2:Tree ((Bool×Q00)):= .br (e.C0==3) (.br (decide (e.N<=255)) (.br (decide (e.C6=[])) (.an (Qza m.A1 (wrap u8 e.N)) (.lv (Qhy m.A1 (wrap u8 e.N)) λ(x1:Q0a×Bool)=> .lf (x1.2,{B1:=m.B1,Mem:=m.Mem,A1:=x1.1,A6:=m.A6,A9:=m.A9,C2:=m.C2,A0:=m.A0,A4:=m.A4,A2:=m.A2,A3:=m.A3}))) T1) T1) T1; .br (e.C0==2) (.br (e.N==0) (.br (decide (e.C6=[])) (.lv (Z3f m.A6) λ(x0:Q0f×Bool)=> .lf (x0.2,{B1:=m.B1,Mem:=m.Mem,A1:=m.A1,A6:=x0.1,A9:=m.A9,C2:=m.C2,A0:=m.A0,A4:=m.A4,A2:=m.A2,A3:=m.A3})) T2) T2) T2)
def Q64(m:Q00)(e:Q0s):(Bool×Q00):=(Qb4 m e).m
abbrev Qu8(m:Q00)(e:Q0s):Prop:=(Qb4 m e).p
def Qg5(is:Bool)(n:Int):Tree Int:=
.br is (.cn (decide (0<=wrap u64 n)) (.lf (ishl u32 1 (wrap u64 n)))) (.lf 0)
def Q7x(is:Bool)(n:Int):Int:=(Qg5 is n).m
abbrev Q9f(is:Bool)(n:Int):Prop:=(Qg5 is n).p
def Qkc(t:Q0f):Tree Bool:=
.lf t.C9
def Qag(t:Q0f):Bool:=(Qkc t).m
def Qh7(c:Q0a):Tree Bool:=
.lf (decide ((c.C7.length:Int)>(0:Int)))
def Q5q(c:Q0a):Bool:=(Qh7 c).m
def Qm9(d0:Q09):Tree Bool:=
.br (d0.B7==2) (.lf true) (.lf (d0.B7==3))
def Qb9(d0:Q09):Bool:=(Qm9 d0).m
def Qms(n:Q0k):Tree Bool:=
.lf n.B4
def Qcm(n:Q0k):Bool:=(Qms n).m
def Qpf(b:Q06)(z:(Int)×(Int)):Nat:=(32-z.2).toNat
def Z17(b:Q06):Tree Int:=
.lp inferInstance (Qpf b (0,0)+1) ((rZ/\rE (0:Int)/\rE (0:Int)/\True)/\(rE b.C3/\rE b.B8/\True)/\True) (0,0) λ(v0:Int×Int)=> .br (decide (v0.2<32)) (.cn (decide (0<=wrap u64 v0.2)) (.nx ((rZ/\rE ((wrap i64 (v0.1+wrap i64 (iand u32 (ishr u32 b.B8 (wrap u64 v0.2)) 1))):Int)/\rE ((wrap i64 (v0.2+1)):Int)/\True)/\(rE b.C3/\rE b.B8/\True)/\True) (Sum.inl (wrap i64 (v0.1+wrap i64 (iand u32 (ishr u32 b.B8 (wrap u64 v0.2)) 1)),wrap i64 (v0.2+1))))) (.lf (Sum.inr v0.1))
def Qca(b:Q06):Int:=(Z17 b).m
def Qb1(b:Q06):Tree Bool:=
.lv (Qca b) λ(x0:Int)=> .lf (wrap u64 x0 !=wrap u64 b.C3)
def Q3t(b:Q06):Bool:=(Qb1 b).m
def Qdv(m:Q00):Tree Int:=
.lv (Qag m.A6) λ(x0:Bool)=> .an (Q9f x0 0) (.lv (Q7x x0 0) λ(x1:Int)=> .lv (Q5q m.A1) λ(x2:Bool)=> .an (Q9f x2 1) (.lv (Q7x x2 1) λ(x3:Int)=> .lv (Qb9 m.A9) λ(x4:Bool)=> .an (Q9f x4 2) (.lv (Q7x x4 2) λ(x5:Int)=> .lv (Qcm m.C2) λ(x6:Bool)=> .an (Q9f x6 3) (.lv (Q7x x6 3) λ(x7:Int)=> .lv (Q3t m.A0) λ(x8:Bool)=> .an (Q9f x8 4) (.lv (Q7x x8 4) λ(x9:Int)=> .lf (ior u32 (ior u32 (ior u32 (ior u32 x1 x3) x5) x7) x9))))))
def Qf0(m:Q00):Int:=(Qdv m).m
abbrev Qu3(m:Q00):Prop:=(Qdv m).p
def Q7q(m:Q00):Tree Int:=
.an (Qu3 m) (.lv (Qf0 m) λ(x0:Int)=> .lf (iand u32 x0 m.B1.B3.a7))
def Q2d(m:Q00):Int:=(Q7q m).m
abbrev Qgr(m:Q00):Prop:=(Q7q m).p
def Qk6(m:Q00):Tree Bool:=
.br m.A2 (.an (Qgr m) (.lv (Q2d m) λ(x0:Int)=> .lf (x0==0))) (.lf false)
def Qfg(m:Q00):Bool:=(Qk6 m).m
abbrev Qxo(m:Q00):Prop:=(Qk6 m).p
def Qi(m:Q00):Tree Bool:=
.lv (Qbp m) λ(x0:Bool)=> .br (!x0) (.lf true) (.br m.A3 (.lf true) (.an (Qxo m) (.lv (Qfg m) λ(x1:Bool)=> .br x1 (.lf true) (.lf (decide (m.A4>=1152921504606846976))))))
def Q48(m:Q00):Bool:=(Qi m).m
end
noncomputable section
def Z9g(b:Bool):Tree Int:=
.br b (.lf 1) (.lf 0)
def Q9(b:Bool):Int:=(Z9g b).m
def Qfj(c:Q03)(cause:Int)(bad:Int):Tree Q03:=
.lv (Q9 (iand u32 c.B3.a0 (1:Int) !=(0:Int))) λ(x0:Int)=> .lv (Q9 (iand u32 c.B3.a0 (2:Int) !=(0:Int))) λ(x1:Int)=> .lf ({X:=c.X,Pc:=c.B3.a1,B3:={a0:=ior u32 (Qbs u32 (ior u32 (ior u32 (Qbs u32 c.B3.a0 24) (wrap u32 (8*x0))) (wrap u32 (16*x1))) 2) 1,a1:=c.B3.a1,a2:=c.Pc,a3:=wrap u32 cause,a4:=bad,a5:=c.B3.a5,a6:=c.B3.a6,a7:=c.B3.a7}})
def Q22(c:Q03)(cause:Int)(bad:Int):Q03:=(Qfj c cause bad).m
def Q7f(m:(List Int))(addr:Int)(size:Int):Tree Bool:=
let T1:Tree (Bool):= .cn (decide (wrap u32 size≠0)) (.br (Int.tmod addr (wrap u32 size)==0) (.lv (Q37 m) λ(x0:Int)=> .lf (decide (addr<wrap u32 (wrap i64 (128*x0))))) (.lf false)); .br (size !=1) (.br (size !=4) (.lf false) T1) T1
def Q1o(m:(List Int))(addr:Int)(size:Int):Bool:=(Q7f m addr size).m
abbrev Qcg(m:(List Int))(addr:Int)(size:Int):Prop:=(Q7f m addr size).p
def Q4q(m:(List Int))(addr:Int)(size:Int):Tree (Int×Bool):=
.an (Qcg m addr size) (.lv (Q1o m addr size) λ(x0:Bool)=> .br (!x0) (.lf (0,false)) (.cn (Nat.beq 1 1&&Nat.blt 0 1&&decide (0<=wrap u32 (Int.tdiv addr 4)/\wrap u32 (Int.tdiv addr 4)<(m.length:Int))) (.br (size==1) (.cn (decide (0<=wrap u32 (8*Int.tmod addr 4))) (.lf (iand u32 (ishr u32 (m.getD (Int.toNat (wrap u32 (Int.tdiv addr 4))) 0) (wrap u32 (8*Int.tmod addr 4))) 255,true))) (.lf (m.getD (Int.toNat (wrap u32 (Int.tdiv addr 4))) 0,true)))))
def Q1j(m:(List Int))(addr:Int)(size:Int):(Int×Bool):=(Q4q m addr size).m
abbrev Qgk(m:(List Int))(addr:Int)(size:Int):Prop:=(Q4q m addr size).p
def Q9i(w:Int):Tree (Q0e×Bool):=
.lv (Q1p (wrap i64 (ishr u32 w 24))) λ(x0:Int)=>let E5:=({Op:=0,A:=0,B:=0,C:=0,Imm:=0}:Q0e); .br (x0==0) (.lf (E5,false)) (.br (x0==2) (let E3:=({Op:=wrap i64 (ishr u32 w 24),A:=wrap i64 (iand u32 (ishr u32 w 20) 15),B:=wrap i64 (iand u32 (ishr u32 w 16) 15),C:=wrap i64 (iand u32 w 65535),Imm:=0}:Q0e); .lv (Q61 E3) λ(x1:Bool)=> .br (!x1) (.lf (E5,false)) (.lf (E3,true))) (let T1:Tree ((Q0e×Bool)):=let E2:=({Op:=wrap i64 (ishr u32 w 24),A:=wrap i64 (iand u32 (ishr u32 w 20) 15),B:=wrap i64 (iand u32 (ishr u32 w 16) 15),C:=0,Imm:=wrap i32 (wrap i16 (iand u32 w 65535))}:Q0e); .lv (Q61 E2) λ(x2:Bool)=> .br (!x2) (.lf (E5,false)) (.lf (E2,true)); .br (x0==3) T1 (.br (x0==7) T1 (let E4:=({Op:=wrap i64 (ishr u32 w 24),A:=wrap i64 (iand u32 (ishr u32 w 20) 15),B:=wrap i64 (iand u32 (ishr u32 w 16) 15),C:=0,Imm:=wrap i32 (iand u32 w 65535)}:Q0e); .lv (Q61 E4) λ(x4:Bool)=> .br (!x4) (.lf (E5,false)) (.lf (E4,true))))))
def Q0u(w:Int):(Q0e×Bool):=(Q9i w).m
def Z1j(access:Int):Tree Bool:=
.br (decide (access>=1)) (.lf (decide (access<=3))) (.lf false)
def Qcc(access:Int):Bool:=(Z1j access).m
def Z1g(c:Q03):Tree Bool:=
.lf (iand u32 c.B3.a0 (5:Int)==(4:Int))
def Qj0(c:Q03):Bool:=(Z1g c).m
def Q7t(access:Int):Tree Int:=
.br (access==1) (.lf 4) (.br (access==3) (.lf 6) (.lf 5))
def Q2e(access:Int):Int:=(Q7t access).m
def Q8f(m:(List Int))(root:Int)(va:Int)(access:Int):Tree Q0w:=
.lv (Q2e access) λ(x0:Int)=> .lv (Q37 m) λ(x1:Int)=> .lv (Qcc access) λ(x2:Bool)=>let E4:=({Addr:=0,D6:=0,D3:=x0}:Q0w); .br (!x2) (.lf (E4)) (.br (decide (va>=4096)) (.lf (E4)) (.br (decide (root>=wrap u32 x1)) (.lf (E4)) (let E6:=wrap u32 (root*128)+wrap u32 (4*wrap u32 (Int.tdiv va 128));let E3:=Int.tdiv (wrap u32 E6) 4; .cn (Nat.beq 1 1&&Nat.blt 0 1&&decide (0<=wrap u32 E3/\wrap u32 E3<(m.length:Int))) (let E5:=m.getD (Int.toNat (wrap u32 E3)) 0; .br (iand u32 E5 (1:Int)==(0:Int)) (.lf (E4)) (let T1:Tree (Q0w):= .br (decide (iand u32 (ishr u32 E5 8) 255>=wrap u32 x1)) (.lf (E4)) (.lf ({Addr:=wrap u32 (wrap u32 (iand u32 (ishr u32 E5 8) (255:Int)*(128:Int))+Int.tmod va 128),D6:=wrap u32 E6,D3:=0}));let T2:Tree (Q0w):= .br (access==1) (.br (iand u32 E5 (4:Int)==(0:Int)) (.lf (E4)) T1) T1; .br (access==3) (.br (iand u32 E5 (2:Int)==(0:Int)) (.lf (E4)) T2) T2)))))
def Q52(m:(List Int))(root:Int)(va:Int)(access:Int):Q0w:=(Q8f m root va access).m
abbrev Qzb(m:(List Int))(root:Int)(va:Int)(access:Int):Prop:=(Q8f m root va access).p
def Qcf(m:(List Int))(entry:Int)(access:Int):Tree (List Int):=
.an (Qcg m entry 4) (.lv (Q1o m entry 4) λ(x0:Bool)=> .br (!x0) (.lf m) (let E3:=Nat.beq 1 1&&Nat.blt 0 1&&decide (0<=wrap u32 (Int.tdiv entry 4)/\wrap u32 (Int.tdiv entry 4)<(m.length:Int)); .cn E3 (.cn E3 (let E4:=Int.toNat (wrap u32 (Int.tdiv entry 4));let E1:=List.set m E4 (ior u32 (m.getD E4 0) 8); .br (access==3) (let E2:=Nat.beq 1 1&&Nat.blt 0 1&&decide (0<=wrap u32 (Int.tdiv entry 4)/\wrap u32 (Int.tdiv entry 4)<(↑(List.length E1):Int)); .cn E2 (.cn E2 (.lf (List.set E1 E4 (ior u32 (List.getD E1 E4 0) 16))))) (.lf E1)))))
def Qlo(m:(List Int))(entry:Int)(access:Int):(List Int):=(Qcf m entry access).m
abbrev Qyo(m:(List Int))(entry:Int)(access:Int):Prop:=(Qcf m entry access).p
def Q71(c:Q03)(m:(List Int))(va:Int)(size:Int)(access:Int):Tree (Int×Int×(List Int)):=
.lv (Qcc access) λ(x0:Bool)=> .br (!x0) (.lf (0,5,m)) (let T1:Tree ((Int×Int×(List Int))):= .cn (decide (wrap u32 size≠0)) (.br (Int.tmod va (wrap u32 size) !=0) (.lf (0,3,m)) (.lv (Qj0 c) λ(x1:Bool)=> .br (!x1) (.an (Qcg m va size) (.lv (Q1o m va size) λ(x2:Bool)=> .br (!x2) (.lv (Q2e access) λ(x3:Int)=> .lf (0,x3,m)) (.lf (va,0,m)))) (.an (Qzb m c.B3.a6 va access) (.lv (Q52 m c.B3.a6 va access) λ(x4:Q0w)=> .br (x4.D3 !=0) (.lf (0,x4.D3,m)) (.an (Qyo m x4.D6 access) (.lv (Qlo m x4.D6 access) λ(x5:List Int)=> .lf (x4.Addr,0,x5))))))); .br (size !=1) (.br (size !=4) (.lf (0,5,m)) T1) T1)
def Q0o(c:Q03)(m:(List Int))(va:Int)(size:Int)(access:Int):(Int×Int×(List Int)):=(Q71 c m va size access).m
abbrev Q7s(c:Q03)(m:(List Int))(va:Int)(size:Int)(access:Int):Prop:=(Q71 c m va size access).p
def Qnr(op:Int):Tree Bool:=
.br (decide (op>=57)) (.lf (decide (op<=64))) (.lf false)
def Q59(op:Int):Bool:=(Qnr op).m
def Qc2(c:Q03):Tree Q03:=
.lv (Q9 (iand u32 c.B3.a0 (8:Int) !=(0:Int))) λ(x0:Int)=> .lv (Q9 (iand u32 c.B3.a0 (16:Int) !=(0:Int))) λ(x1:Int)=> .lf ({X:=c.X,Pc:=c.B3.a2,B3:={a0:=ior u32 (ior u32 (Qbs u32 c.B3.a0 3) (wrap u32 (1*x0))) (wrap u32 (2*x1)),a1:=c.B3.a1,a2:=c.B3.a2,a3:=c.B3.a3,a4:=c.B3.a4,a5:=c.B3.a5,a6:=c.B3.a6,a7:=c.B3.a7}})
def Qgf(c:Q03):Q03:=(Qc2 c).m
def Qc3(c:Q03)(r:Int)(v:Int):Tree Q03:=
.br (decide (r>0)) (.br (decide (r<16)) (.cn (Nat.blt 0 1&&decide (0<=r/\r<(↑16:Int))) (.lf ({X:=A16.of 0 (List.set (A16.l c.X) r.toNat v),Pc:=c.Pc,B3:=c.B3}))) (.lf c)) (.lf c)
def Q1g(c:Q03)(r:Int)(v:Int):Q03:=(Qc3 c r v).m
abbrev Q35(c:Q03)(r:Int)(v:Int):Prop:=(Qc3 c r v).p
def Qaw(c:Q03)(csr:Int)(v:Int):Tree Q03:=
let E4:=Nat.blt 0 1&&decide (0<=csr/\csr<(↑8:Int));let T2:Tree (Q03):= .cn E4 (.lf ({X:=c.X,Pc:=c.Pc,B3:=A8.of 0 (List.set (A8.l c.B3) csr.toNat (iand u32 v 31))})); .br (csr==0) T2 (.br (csr==7) T2 (.br (csr==6) (.cn E4 (.lf ({X:=c.X,Pc:=c.Pc,B3:=A8.of 0 (List.set (A8.l c.B3) csr.toNat (iand u32 v 255))}))) (let T3:Tree (Q03):= .cn E4 (.lf ({X:=c.X,Pc:=c.Pc,B3:=A8.of 0 (List.set (A8.l c.B3) csr.toNat (Qbs u32 v 3))})); .br (csr==1) T3 (.br (csr==2) T3 (let T1:Tree (Q03):= .cn E4 (.lf ({X:=c.X,Pc:=c.Pc,B3:=A8.of 0 (List.set (A8.l c.B3) csr.toNat v)})); .br (csr==3) T1 (.br (csr==4) T1 (.br (csr==5) T1 (.lf c))))))))
def Qf7(c:Q03)(csr:Int)(v:Int):Q03:=(Qaw c csr v).m
abbrev Quh(c:Q03)(csr:Int)(v:Int):Prop:=(Qaw c csr v).p
def Qbx(c:Q03)(i:Q0e):Tree (Q03×Q0y):=
.br (i.Op==56) (.lv (Q22 c 7 0) λ(x0:Q03)=> .lf (x0,{C0:=0,C5:=0,D2:=0,Value:=0})) (.br (i.Op==57) (.lv (Qgf c) λ(x1:Q03)=> .lf (x1,{C0:=0,C5:=0,D2:=0,Value:=0})) (.br (i.Op==58) (.cn (Nat.blt 0 1&&decide (0<=i.Imm/\i.Imm<(↑8:Int))) (let E3:=List.getD (A8.l c.B3) i.Imm.toNat 0; .an (Q35 c i.A E3) (.lv (Q1g c i.A E3) λ(x2:Q03)=> .lf ({X:=x2.X,Pc:=wrap u32 (x2.Pc+4),B3:=x2.B3},{C0:=0,C5:=0,D2:=0,Value:=0})))) (let E2:=Nat.blt 0 1&&decide (0<=i.A/\i.A<(↑16:Int)); .br (i.Op==59) (.cn E2 (let E4:=List.getD (A16.l c.X) i.A.toNat 0; .an (Quh c (wrap i64 i.Imm) E4) (.lv (Qf7 c (wrap i64 i.Imm) E4) λ(x3:Q03)=> .lf ({X:=x3.X,Pc:=wrap u32 (x3.Pc+4),B3:=x3.B3},{C0:=0,C5:=0,D2:=0,Value:=0})))) (let E1:=({X:=c.X,Pc:=wrap u32 (c.Pc+4),B3:=c.B3}:Q03); .br (i.Op==60) (.lf (E1,{C0:=1,C5:=wrap i64 i.Imm,D2:=i.A,Value:=0})) (.br (i.Op==61) (.cn E2 (.lf (E1,{C0:=2,C5:=wrap i64 i.Imm,D2:=0,Value:=List.getD (A16.l c.X) i.A.toNat 0}))) (.br (i.Op==62) (.lf (E1,{C0:=3,C5:=0,D2:=0,Value:=0})) (.br (i.Op==63) (.lf (E1,{C0:=5,C5:=0,D2:=0,Value:=0})) (.br (i.Op==64) (.lf (E1,{C0:=4,C5:=0,D2:=0,Value:=0})) (.lf (E1,{C0:=0,C5:=0,D2:=0,Value:=0}))))))))))
def Qkk(c:Q03)(i:Q0e):(Q03×Q0y):=(Qbx c i).m
abbrev Qtf(c:Q03)(i:Q0e):Prop:=(Qbx c i).p
def Z2z(op:Int)(a:Int)(b:Int):Tree Bool:=
.br (op==40) (.lf (a==b)) (.br (op==41) (.lf (a !=b)) (.br (op==42) (.lf (decide (wrap i32 a<wrap i32 b))) (.br (op==43) (.lf (decide (wrap i32 a>=wrap i32 b))) (.br (op==44) (.lf (decide (a<b))) (.lf (decide (a>=b)))))))
def Q1v(op:Int)(a:Int)(b:Int):Bool:=(Z2z op a b).m
def Qg6(c:Q03)(i:Q0e):Tree Q03:=
.br (i.Op==48) (.an (Q35 c i.A (wrap u32 (c.Pc+4))) (.lv (Q1g c i.A (wrap u32 (c.Pc+4))) λ(x0:Q03)=> .lf ({X:=x0.X,Pc:=wrap u32 (c.Pc+wrap u32 (4*wrap u32 i.Imm)),B3:=x0.B3}))) (let E1:=Nat.blt 0 1&&decide (0<=i.B/\i.B<(↑16:Int)); .br (i.Op==49) (.cn E1 (.an (Q35 c i.A (wrap u32 (c.Pc+4))) (.lv (Q1g c i.A (wrap u32 (c.Pc+4))) λ(x1:Q03)=> .lf ({X:=x1.X,Pc:=wrap u32 (List.getD (A16.l c.X) i.B.toNat 0+wrap u32 i.Imm),B3:=x1.B3})))) (.cn (Nat.blt 0 1&&decide (0<=i.A/\i.A<(↑16:Int))) (.cn E1 (.lv (Q1v i.Op (List.getD (A16.l c.X) i.A.toNat 0) (List.getD (A16.l c.X) i.B.toNat 0)) λ(x2:Bool)=> .br x2 (.lf ({X:=c.X,Pc:=wrap u32 (c.Pc+wrap u32 (4*wrap u32 i.Imm)),B3:=c.B3})) (.lf ({X:=c.X,Pc:=wrap u32 (c.Pc+4),B3:=c.B3}))))))
def Z3m(c:Q03)(i:Q0e):Q03:=(Qg6 c i).m
abbrev Qzu(c:Q03)(i:Q0e):Prop:=(Qg6 c i).p
def Q73(x:Int)(n:Int):Tree Int:=
.br (decide (n<1)) (.lf 0) (.br (decide (n>=32)) (.lf x) (.cn (decide (0<=wrap u64 n)) (.cn (decide (0<=wrap u64 (wrap i64 (n-1)))) (let E1:=iand u32 x (wrap u32 (ishl u32 1 (wrap u64 n)-1)); .br (ishr u32 E1 (wrap u64 (wrap i64 (n-1)))==1) (.cn (decide (0<=wrap u64 n)) (.lf (ior u32 E1 (ishl u32 4294967295 (wrap u64 n))))) (.lf E1)))))
def Q34(x:Int)(n:Int):Int:=(Q73 x n).m
abbrev Qd5(x:Int)(n:Int):Prop:=(Q73 x n).p
def Q97(c:Q03)(m:(List Int))(i:Q0e):Tree (Q03×(List Int)):=
.cn (Nat.blt 0 1&&decide (0<=i.B/\i.B<(↑16:Int))) (let E4:=wrap u32 (List.getD (A16.l c.X) i.B.toNat 0+wrap u32 i.Imm);let E5:=List.getD (A16.l c.X) i.A.toNat 0;let E6:=Nat.blt 0 1&&decide (0<=i.A/\i.A<(↑16:Int));let E7:=({X:=c.X,Pc:=wrap u32 (c.Pc+4),B3:=c.B3}:Q03);let T1:Tree ((Q03×(List Int))):=let T3:Tree ((Q03×(List Int))):= .an (Q7s c m E4 4 3) (.lv (Q0o c m E4 4 3) λ(x0:Int×Int×List Int)=> .br (x0.2.1 !=0) (.lv (Q22 c x0.2.1 E4) λ(x1:Q03)=> .lf (x1,x0.2.2)) (.cn E6 (.an (Qdy x0.2.2 x0.1 4 E5) (.lv (Q87 x0.2.2 x0.1 4 E5) λ(x2:List Int)=> .lf (E7,x2))))); .br (i.Op==35) T3 (.br (i.Op==36) T3 (.an (Q7s c m E4 4 2) (.lv (Q0o c m E4 4 2) λ(x6:Int×Int×List Int)=> .br (x6.2.1 !=0) (.lv (Q22 c x6.2.1 E4) λ(x7:Q03)=> .lf (x7,x6.2.2)) (.an (Qgk x6.2.2 x6.1 4) (.lv (Q1j x6.2.2 x6.1 4) λ(x8:Int×Bool)=> .br (i.Op==33) (.an (Qd5 x8.1 8) (.lv (Q34 x8.1 8) λ(x9:Int)=> .an (Q35 c i.A x9) (.lv (Q1g c i.A x9) λ(x10:Q03)=> .lf ({X:=x10.X,Pc:=wrap u32 (x10.Pc+4),B3:=x10.B3},x6.2.2)))) (.an (Q35 c i.A x8.1) (.lv (Q1g c i.A x8.1) λ(x11:Q03)=> .lf ({X:=x11.X,Pc:=wrap u32 (x11.Pc+4),B3:=x11.B3},x6.2.2)))))))); .br (i.Op==32) T1 (.br (i.Op==35) T1 (let T2:Tree ((Q03×(List Int))):= .an (Q7s c m E4 1 3) (.lv (Q0o c m E4 1 3) λ(x24:Int×Int×List Int)=> .br (x24.2.1 !=0) (.lv (Q22 c x24.2.1 E4) λ(x25:Q03)=> .lf (x25,x24.2.2)) (.cn E6 (.an (Qdy x24.2.2 x24.1 1 E5) (.lv (Q87 x24.2.2 x24.1 1 E5) λ(x26:List Int)=> .lf (E7,x26))))); .br (i.Op==35) T2 (.br (i.Op==36) T2 (.an (Q7s c m E4 1 2) (.lv (Q0o c m E4 1 2) λ(x30:Int×Int×List Int)=> .br (x30.2.1 !=0) (.lv (Q22 c x30.2.1 E4) λ(x31:Q03)=> .lf (x31,x30.2.2)) (.an (Qgk x30.2.2 x30.1 1) (.lv (Q1j x30.2.2 x30.1 1) λ(x32:Int×Bool)=> .br (i.Op==33) (.an (Qd5 x32.1 8) (.lv (Q34 x32.1 8) λ(x33:Int)=> .an (Q35 c i.A x33) (.lv (Q1g c i.A x33) λ(x34:Q03)=> .lf ({X:=x34.X,Pc:=wrap u32 (x34.Pc+4),B3:=x34.B3},x30.2.2)))) (.an (Q35 c i.A x32.1) (.lv (Q1g c i.A x32.1) λ(x35:Q03)=> .lf ({X:=x35.X,Pc:=wrap u32 (x35.Pc+4),B3:=x35.B3},x30.2.2)))))))))))
def Q4f(c:Q03)(m:(List Int))(i:Q0e):(Q03×(List Int)):=(Q97 c m i).m
abbrev Qn6(c:Q03)(m:(List Int))(i:Q0e):Prop:=(Q97 c m i).p
def Z0w(op:Int):Tree Int:=
.br (op==16) (.lf 1) (.br (op==17) (.lf 3) (.br (op==18) (.lf 4) (.br (op==19) (.lf 5) (.br (op==20) (.lf 6) (.br (op==21) (.lf 7) (.br (op==22) (.lf 8) (.br (op==23) (.lf 12) (.lf op))))))))
def Z82(op:Int):Int:=(Z0w op).m
def Q9r(a:Int)(b:Int):Tree (Int×Int):=
.br (b==0) (.lf (4294967295,a)) (.cn (decide (wrap i64 (wrap i32 b)≠0)) (.cn (decide (wrap i64 (wrap i32 b)≠0)) (.lf (wrap u32 (wrap i64 (Int.tdiv (wrap i64 (wrap i32 a)) (wrap i64 (wrap i32 b)))),wrap u32 (Int.tmod (wrap i64 (wrap i32 a)) (wrap i64 (wrap i32 b)))))))
def Qa9(a:Int)(b:Int):(Int×Int):=(Q9r a b).m
abbrev Qib(a:Int)(b:Int):Prop:=(Q9r a b).p
def Qj2(op:Int)(a:Int)(b:Int):Tree (Int×Bool):=
.lv (Z82 op) λ(x0:Int)=> .br (x0==1) (.lf (wrap u32 (a+b),true)) (.br (x0==2) (.lf (wrap u32 (a-b),true)) (.br (x0==3) (.lf (iand u32 a b,true)) (.br (x0==4) (.lf (ior u32 a b,true)) (.br (x0==5) (.lf (ixor u32 a b,true)) (.br (x0==6) (.lf (ishl u32 a (iand u32 b 31),true)) (.br (x0==7) (.lf (ishr u32 a (iand u32 b 31),true)) (.br (x0==8) (.lf (wrap u32 (ishr i32 (wrap i32 a) (iand u32 b 31)),true)) (.br (x0==9) (.lf (wrap u32 (a*b),true)) (.br (x0==10) (.an (Qib a b) (.lv (Qa9 a b) λ(x1:Int×Int)=> .lf (x1.1,true))) (.br (x0==11) (.an (Qib a b) (.lv (Qa9 a b) λ(x2:Int×Int)=> .lf (x2.2,true))) (.br (x0==12) (.lv (Q9 (decide (wrap i32 a<wrap i32 b))) λ(x3:Int)=> .lf (x3,true)) (.br (x0==13) (.lv (Q9 (decide (a<b))) λ(x4:Int)=> .lf (x4,true)) (.lf (0,false))))))))))))))
def Qam(op:Int)(a:Int)(b:Int):(Int×Bool):=(Qj2 op a b).m
abbrev Qoo(op:Int)(a:Int)(b:Int):Prop:=(Qj2 op a b).p
def Qli(c:Q03)(m:(List Int)):Tree (Q03×Q0y×(List Int)):=
.an (Q7s c m c.Pc 4 1) (.lv (Q0o c m c.Pc 4 1) λ(x0:Int×Int×List Int)=> .br (x0.2.1 !=0) (.lv (Q22 c x0.2.1 c.Pc) λ(x1:Q03)=> .lf (x1,{C0:=0,C5:=0,D2:=0,Value:=0},x0.2.2)) (.an (Qgk x0.2.2 x0.1 4) (.lv (Q1j x0.2.2 x0.1 4) λ(x2:Int×Bool)=> .lv (Q0u x2.1) λ(x3:Q0e×Bool)=> .br (!x3.2) (.lv (Q22 c 1 x2.1) λ(x4:Q03)=> .lf (x4,{C0:=0,C5:=0,D2:=0,Value:=0},x0.2.2)) (.lv (Q59 x3.1.Op) λ(x5:Bool)=>let T1:Tree ((Q03×Q0y×(List Int))):= .br (decide (x3.1.Op>=56)) (.an (Qtf c x3.1) (.lv (Qkk c x3.1) λ(x7:Q03×Q0y)=> .lf (x7.1,x7.2,x0.2.2))) (.br (decide (x3.1.Op>=40)) (.an (Qzu c x3.1) (.lv (Z3m c x3.1) λ(x8:Q03)=> .lf (x8,{C0:=0,C5:=0,D2:=0,Value:=0},x0.2.2))) (.br (decide (x3.1.Op>=32)) (.an (Qn6 c x0.2.2 x3.1) (.lv (Q4f c x0.2.2 x3.1) λ(x9:Q03×List Int)=> .lf (x9.1,{C0:=0,C5:=0,D2:=0,Value:=0},x9.2))) (.br (x3.1.Op==24) (.an (Q35 c x3.1.A (ishl u32 (wrap u32 x3.1.Imm) 16)) (.lv (Q1g c x3.1.A (ishl u32 (wrap u32 x3.1.Imm) 16)) λ(x10:Q03)=> .lf ({X:=x10.X,Pc:=wrap u32 (x10.Pc+4),B3:=x10.B3},{C0:=0,C5:=0,D2:=0,Value:=0},x0.2.2))) (let E2:=List.getD (A16.l c.X) x3.1.B.toNat 0;let E3:=Nat.blt 0 1&&decide (0<=x3.1.B/\x3.1.B<(↑16:Int)); .br (decide (x3.1.Op<=13)) (.cn (Nat.blt 0 1&&decide (0<=x3.1.C/\x3.1.C<(↑16:Int))) (.cn E3 (let E4:=List.getD (A16.l c.X) x3.1.C.toNat 0; .an (Qoo x3.1.Op E2 E4) (.lv (Qam x3.1.Op E2 E4) λ(x11:Int×Bool)=> .an (Q35 c x3.1.A x11.1) (.lv (Q1g c x3.1.A x11.1) λ(x12:Q03)=> .lf ({X:=x12.X,Pc:=wrap u32 (x12.Pc+4),B3:=x12.B3},{C0:=0,C5:=0,D2:=0,Value:=0},x0.2.2)))))) (.cn E3 (.an (Qoo x3.1.Op E2 (wrap u32 x3.1.Imm)) (.lv (Qam x3.1.Op E2 (wrap u32 x3.1.Imm)) λ(x13:Int×Bool)=> .an (Q35 c x3.1.A x13.1) (.lv (Q1g c x3.1.A x13.1) λ(x14:Q03)=> .lf ({X:=x14.X,Pc:=wrap u32 (x14.Pc+4),B3:=x14.B3},{C0:=0,C5:=0,D2:=0,Value:=0},x0.2.2))))))))); .br x5 (.br (iand u32 c.B3.a0 (1:Int)==(0:Int)) (.lv (Q22 c 2 x2.1) λ(x6:Q03)=> .lf (x6,{C0:=0,C5:=0,D2:=0,Value:=0},x0.2.2)) T1) T1))))
def Q9z(c:Q03)(m:(List Int)):(Q03×Q0y×(List Int)):=(Qli c m).m
abbrev Z5x(c:Q03)(m:(List Int)):Prop:=(Qli c m).p
end
noncomputable section
def Q9x(m:Q00)(z:(Int)):Nat:=(32-z).toNat
def Q4b(m:Q00):Tree Q03:=
.an (Qgr m) (.lv (Q2d m) λ(x0:Int)=> .br (iand u32 m.B1.B3.a0 (2:Int)==(0:Int)) (.lf m.B1) (.br (x0==0) (.lf m.B1) (.lp inferInstance (Q9x m 0+1) ((rZ/\rZ/\rE (x0:Int)/\rE (0:Int)/\True)/\(mE m (((Els.Nil (Els.ints u32 m.Mem)\/rE (1:Nat))/\rE m.Mem)) True)/\(rE (0:Int)/\rE (0:Int)/\rE (0:Int)/\rE (0:Int)/\rE (0:Int)/\rE (0:Int)/\rE (0:Int)/\rE (0:Int)/\rE (0:Int)/\rE (0:Int)/\rE (0:Int)/\rE (0:Int)/\rE (0:Int)/\rE (0:Int)/\rE (0:Int)/\rE (0:Int)/\rE (0:Int)/\rE (0:Int)/\rE (0:Int)/\rE (0:Int)/\rE (0:Int)/\rE (0:Int)/\rE (0:Int)/\rE (0:Int)/\rE (0:Int)/\True)/\True) 0 λ(v0:Int)=> .cn (decide (0<=wrap u64 v0)) (.br (iand u32 (ishr u32 x0 (wrap u64 v0)) (1:Int)==(0:Int)) (.nx ((rZ/\rZ/\rE (x0:Int)/\rE ((wrap i64 (v0+1)):Int)/\True)/\(mE m (((Els.Nil (Els.ints u32 m.Mem)\/rE (1:Nat))/\rE m.Mem)) True)/\(rE (0:Int)/\rE (0:Int)/\rE (0:Int)/\rE (0:Int)/\rE (0:Int)/\rE (0:Int)/\rE (0:Int)/\rE (0:Int)/\rE (0:Int)/\rE (0:Int)/\rE (0:Int)/\rE (0:Int)/\rE (0:Int)/\rE (0:Int)/\rE (0:Int)/\rE (0:Int)/\rE (0:Int)/\rE (0:Int)/\rE (0:Int)/\rE (0:Int)/\rE (0:Int)/\rE (0:Int)/\rE (0:Int)/\rE (0:Int)/\rE (0:Int)/\True)/\True) (Sum.inl (wrap i64 (v0+1)))) (.lv (Q22 m.B1 (wrap i64 (16+v0)) 0) λ(x1:Q03)=> .lf (Sum.inr x1))))))
def Q0m(m:Q00):Q03:=(Q4b m).m
abbrev Qjf(m:Q00):Prop:=(Q4b m).p
def Q5r(c:Q0a)(port:Int):Tree (Q0a×Int):=
let T1:Tree ((Q0a×Int)):= .br (port==0) (.cn (decide ((0:Int)<=(1:Int)/\1<=(c.C7.length:Int)/\(c.C7.length:Int)<=(c.C7.length:Int))) (.cn (decide ((0:Int)<=(0:Int)/\0<(c.C7.length:Int))) (.lf ({C7:=List.take (Int.toNat (c.C7.length:Int)-Int.toNat 1) (List.drop (Int.toNat 1) c.C7)},wrap u32 (↑(UInt8.toNat (c.C7.getD (Int.toNat 0) (0:UInt8))):Int))))) (.br (port==1) (.lf (c,wrap u32 (c.C7.length:Int))) (.lf (c,0))); .br (port==0) (.br ((c.C7.length:Int)==(0:Int)) (.lf (c,4294967295)) T1) T1
def Q62(c:Q0a)(port:Int):(Q0a×Int):=(Q5r c port).m
def Qee(t:Q0f):Tree Int:=
.br t.C9 (.lf 1) (.lf 0)
def Qi4(t:Q0f):Int:=(Qee t).m
def Qfm(d0:Q09)(port:Int):Tree Int:=
.br (port==4) (.lf d0.B5) (.br (port==5) (.lf d0.Frame) (.br (port==6) (.lf (wrap u32 d0.B7)) (.lf 0)))
def Qk9(d0:Q09)(port:Int):Int:=(Qfm d0 port).m
def Qe9(n:Q0k)(port:Int):Tree Int:=
.br (port==7) (.lf n.Frame) (.br (port==8) (.lf n.D5) (.br (port==9) (.br n.C1 (.br n.B4 (.lf (wrap u32 ((1:Int)+(2:Int)))) (.lf 1)) (.br n.B4 (.lf (wrap u32 ((0:Int)+(2:Int)))) (.lf 0))) (.lf 0)))
def Qip(n:Q0k)(port:Int):Int:=(Qe9 n port).m
def Q5z(b:Q06)(port:Int):Tree Int:=
.br (port==10) (.lf b.C3) (.br (port==11) (.lv (Qca b) λ(x0:Int)=> .lf (wrap u32 x0)) (.lf 0))
def Q65(b:Q06)(port:Int):Int:=(Q5z b port).m
def Qm2(m:Q00)(port:Int)(clock:Int):Tree (Int×Q00):=
.br (decide (port<=1)) (.lv (Q62 m.A1 port) λ(x0:Q0a×Int)=> .lf (x0.2,{B1:=m.B1,Mem:=m.Mem,A1:=x0.1,A6:=m.A6,A9:=m.A9,C2:=m.C2,A0:=m.A0,A4:=m.A4,A2:=m.A2,A3:=m.A3})) (.br (port==2) (.lf (clock,m)) (.br (port==3) (.lv (Qi4 m.A6) λ(x1:Int)=> .lf (x1,m)) (.br (decide (port<=6)) (.lv (Qk9 m.A9 port) λ(x2:Int)=> .lf (x2,m)) (.br (decide (port<=9)) (.lv (Qip m.C2 port) λ(x3:Int)=> .lf (x3,m)) (.lv (Q65 m.A0 port) λ(x4:Int)=> .lf (x4,m))))))
def Qeh(m:Q00)(port:Int)(clock:Int):(Int×Q00):=(Qm2 m port clock).m
def Qvp(deadline:Int):Tree Q0f:=
.br (deadline==0) (.lf ({D0:=false,C4:=0,C9:=false})) (.lf ({D0:=true,C4:=deadline,C9:=false}))
def Z03(deadline:Int):Q0f:=(Qvp deadline).m
def Qjp(x:Int)(n:Int)(z:(Int)×(List Int)):Nat:=(n-z.1).toNat
def Qnc(x:Int)(n:Int):Tree (List UInt8):=
.lp inferInstance (Qjp x n (0,[])+1) ((rE (x:Int)/\rE (n:Int)/\True/\rE (0:Int)/\True)/\rE ([]:List Int)/\True) (0,[]) λ(v0:Int×List Int)=> .br (decide (v0.1<n)) (.cn (decide (0<=wrap u64 (wrap i64 (8*v0.1)))) (.cn (decide (1*(v0.2.length+1)<=140737488355328)) (.nx ((rE (x:Int)/\rE (n:Int)/\True/\rE ((wrap i64 (v0.1+1)):Int)/\True)/\rE ((v0.2++[wrap u8 (ishr u32 x (wrap u64 (wrap i64 (8*v0.1))))]):List Int)/\True) (Sum.inl (wrap i64 (v0.1+1),v0.2++[wrap u8 (ishr u32 x (wrap u64 (wrap i64 (8*v0.1))))]))))) (.lf (Sum.inr (bytesOf v0.2)))
def Z7a(x:Int)(n:Int):(List UInt8):=(Qnc x n).m
def Z2n(x:Int)(n:Int):Prop:=
n<=1000000000000
def Qd7(m:(List Int))(frame:Int)(z:(Int)×(List Int)):Nat:=(32-z.1).toNat
def Q8n(m:(List Int))(frame:Int):Tree ((List UInt8)×Bool):=
.br (decide (frame<0)) (.lf ([],false)) (.lv (Q37 m) λ(x0:Int)=> .br (decide (frame>=x0)) (.lf ([],false)) (.lp inferInstance (Qd7 m frame (0,[])+1) ((((Els.Nil (Els.ints u32 m)\/rE (1:Nat))/\rE (m:List Int))/\rE (frame:Int)/\True/\rE (0:Int)/\True)/\rE ([]:List Int)/\True) (0,[]) λ(v0:Int×List Int)=> .br (decide (v0.1<32)) (.cn (Nat.beq 1 1&&Nat.blt 0 1&&decide (0<=wrap i64 (wrap i64 (frame*32)+v0.1)/\wrap i64 (wrap i64 (frame*32)+v0.1)<(m.length:Int))) (let E1:=m.getD (Int.toNat (wrap i64 (wrap i64 (frame*32)+v0.1))) 0; .an (Z2n E1 4) (.lv (Z7a E1 4) λ(x1:List UInt8)=> .cn (decide (1*(v0.2.length+List.length (Q82 x1))<=140737488355328)) (.nx ((((Els.Nil (Els.ints u32 m)\/rE (1:Nat))/\rE (m:List Int))/\rE (frame:Int)/\True/\rE ((wrap i64 (v0.1+1)):Int)/\True)/\rE ((v0.2++Q82 x1):List Int)/\True) (Sum.inl (wrap i64 (v0.1+1),v0.2++Q82 x1)))))) (.lf (Sum.inr (bytesOf v0.2,true)))))
def Qer(m:(List Int))(frame:Int):((List UInt8)×Bool):=(Q8n m frame).m
abbrev Qfs(m:(List Int))(frame:Int):Prop:=(Q8n m frame).p
def Qv6(d0:Q09)(at0:Int):Tree (Q08×Bool):=
.br (d0.B7 !=1) (.lf ({C0:=0,At:=0,B5:=0,C6:=[]},false)) (.br (d0.D1==1) (.lf ({C0:=3,At:=at0,B5:=d0.B2,C6:=[]},true)) (.br (d0.D1==2) (.lf ({C0:=4,At:=at0,B5:=d0.B2,C6:=d0.B9},true)) (.lf ({C0:=0,At:=0,B5:=0,C6:=[]},false))))
def Qha(d0:Q09)(at0:Int):(Q08×Bool):=(Qv6 d0 at0).m
def Q7u(d0:Q09)(m:(List Int))(port:Int)(v:Int)(at0:Int):Tree (Q09×(List Q08)):=
.br (port==4) (.lf ({Blocks:=d0.Blocks,B5:=v,Frame:=d0.Frame,B7:=d0.B7,D1:=d0.D1,B2:=d0.B2,B0:=d0.B0,B9:=d0.B9},[])) (.br (port==5) (.lf ({Blocks:=d0.Blocks,B5:=d0.B5,Frame:=v,B7:=d0.B7,D1:=d0.D1,B2:=d0.B2,B0:=d0.B0,B9:=d0.B9},[])) (.br (port !=6) (.lf (d0,[])) (let T1:Tree ((Q09×(List Q08))):= .br (d0.B7==0) (let T2:Tree ((Q09×(List Q08))):= .lf ({Blocks:=d0.Blocks,B5:=d0.B5,Frame:=d0.Frame,B7:=3,D1:=d0.D1,B2:=d0.B2,B0:=d0.B0,B9:=d0.B9},[]); .br (decide (d0.B5>=d0.Blocks)) T2 (.lv (Q1l m d0.Frame) λ(x0:Bool)=> .br (!x0) T2 (.br (v==2) (.an (Qfs m (wrap i64 d0.Frame)) (.lv (Qer m (wrap i64 d0.Frame)) λ(x1:List UInt8×Bool)=>let E4:=({Blocks:=d0.Blocks,B5:=d0.B5,Frame:=d0.Frame,B7:=1,D1:=wrap i64 v,B2:=d0.B5,B0:=d0.Frame,B9:=x1.1}:Q09); .lv (Qha E4 at0) λ(x2:Q08×Bool)=> .lf (E4,[x2.1]))) (let E5:=({Blocks:=d0.Blocks,B5:=d0.B5,Frame:=d0.Frame,B7:=1,D1:=wrap i64 v,B2:=d0.B5,B0:=d0.Frame,B9:=[]}:Q09); .lv (Qha E5 at0) λ(x3:Q08×Bool)=> .lf (E5,[x3.1]))))) (.lf (d0,[])); .br (v==0) (let T3:Tree ((Q09×(List Q08))):= .lf ({Blocks:=d0.Blocks,B5:=d0.B5,Frame:=d0.Frame,B7:=0,D1:=d0.D1,B2:=d0.B2,B0:=d0.B0,B9:=d0.B9},[]); .br (d0.B7==2) T3 (.br (d0.B7==3) T3 (.br (v==1) T1 (.br (v==2) T1 (.lf (d0,[])))))) (.br (v==1) T1 (.br (v==2) T1 (.lf (d0,[])))))))
def Qhx(d0:Q09)(m:(List Int))(port:Int)(v:Int)(at0:Int):(Q09×(List Q08)):=(Q7u d0 m port v at0).m
abbrev Qpc(d0:Q09)(m:(List Int))(port:Int)(v:Int)(at0:Int):Prop:=(Q7u d0 m port v at0).p
def Q9l(n:Q0k)(m:(List Int))(port:Int)(v:Int)(at0:Int):Tree (Q0k×(List Q08)):=
.br (port==7) (.lf ({Frame:=v,D4:=n.D4,C1:=n.C1,B6:=n.B6,B4:=n.B4,D5:=n.D5},[])) (.br (port==8) (.lf ({Frame:=n.Frame,D4:=v,C1:=n.C1,B6:=n.B6,B4:=n.B4,D5:=n.D5},[])) (.br (port !=9) (.lf (n,[])) (.br (v==0) (.lf ({Frame:=n.Frame,D4:=n.D4,C1:=n.C1,B6:=n.B6,B4:=false,D5:=0},[])) (let T1:Tree ((Q0k×(List Q08))):= .br (v==2) (.lv (Q1l m n.Frame) λ(x2:Bool)=> .br x2 (.br (!n.C1) (.br (!n.B4) (.lf ({Frame:=n.Frame,D4:=n.D4,C1:=true,B6:=n.Frame,B4:=n.B4,D5:=n.D5},[])) (.lf (n,[]))) (.lf (n,[]))) (.lf (n,[]))) (.lf (n,[])); .br (v==1) (.br (decide (n.D4>=1)) (.br (decide (n.D4<=128)) (.lv (Q1l m n.Frame) λ(x0:Bool)=> .br x0 (.an (Qfs m (wrap i64 n.Frame)) (.lv (Qer m (wrap i64 n.Frame)) λ(x1:List UInt8×Bool)=> .cn (decide ((0:Int)<=(0:Int)/\0<=n.D4/\n.D4<=(x1.1.length:Int))) (.lf (n,[{C0:=2,At:=at0,B5:=0,C6:=List.take (Int.toNat n.D4-Int.toNat 0) (List.drop (Int.toNat 0) x1.1)}])))) T1) T1) T1) T1))))
def Qkp(n:Q0k)(m:(List Int))(port:Int)(v:Int)(at0:Int):(Q0k×(List Q08)):=(Q9l n m port v at0).m
abbrev Qs6(n:Q0k)(m:(List Int))(port:Int)(v:Int)(at0:Int):Prop:=(Q9l n m port v at0).p
def Qdi(b:Q06)(m:(List Int))(port:Int)(v:Int)(z:(Int)×(List Int)):Nat:=(32-z.1).toNat
def Q3z(b:Q06)(m:(List Int))(port:Int)(v:Int):Tree (Q06×(List Int)):=
let T1:Tree ((Q06×(List Int))):= .br (port==11) (.br (decide (v<32)) (.cn (decide (0<=v)) (.lf ({C3:=b.C3,B8:=Qbs u32 b.B8 (ishl u32 1 v)},m))) (.lf (b,m))) (.lf (b,m)); .br (port==10) (.lv (Q1l m v) λ(x0:Bool)=> .br x0 (.cn (decide (0<=v)) (.br (iand u32 (ishr u32 b.B8 v) (1:Int)==(0:Int)) (.cn (decide (0<=v)) (.lp inferInstance (Qdi b m port v (0,m)+1) ((True/\rE (v:Int)/\rZ/\rZ/\rE (0:Int)/\True)/\rE (m:List Int)/\(rE b.C3/\rE ((ior u32 b.B8 (ishl u32 1 v)):Int)/\True)/\(rE (0:Int)/\rE (0:Int)/\True)/\True) (0,m) λ(v0:Int×List Int)=> .br (decide (v0.1<32)) (let E2:=wrap i64 (wrap i64 v*32)+v0.1; .cn (Nat.beq 1 1&&Nat.blt 0 1&&decide (0<=wrap i64 E2/\wrap i64 E2<(v0.2.length:Int))) (.nx ((True/\rE (v:Int)/\rZ/\rZ/\rE ((wrap i64 (v0.1+1)):Int)/\True)/\rE ((List.set v0.2 (Int.toNat (wrap i64 (wrap i64 (wrap i64 v*32)+v0.1))) 0):List Int)/\(rE b.C3/\rE ((ior u32 b.B8 (ishl u32 1 v)):Int)/\True)/\(rE (0:Int)/\rE (0:Int)/\True)/\True) (Sum.inl (wrap i64 (v0.1+1),List.set v0.2 (Int.toNat (wrap i64 E2)) 0)))) (.lf (Sum.inr ({C3:=b.C3,B8:=ior u32 b.B8 (ishl u32 1 v)},v0.2))))) T1)) T1) T1
def Q5w(b:Q06)(m:(List Int))(port:Int)(v:Int):(Q06×(List Int)):=(Q3z b m port v).m
abbrev Z0(b:Q06)(m:(List Int))(port:Int)(v:Int):Prop:=(Q3z b m port v).p
def Qf3(m:Q00)(port:Int)(v:Int):Tree ((List Q08)×Q00):=
.br (port==0) (.lf ([{C0:=1,At:=m.A4,B5:=0,C6:=[(λ(n:Int)=>UInt8.ofNat n.toNat) (wrap u8 v)]}],m)) (.br (decide (port<=2)) (.lf ([],m)) (.br (port==3) (.lv (Z03 v) λ(x0:Q0f)=> .lf ([],{B1:=m.B1,Mem:=m.Mem,A1:=m.A1,A6:=x0,A9:=m.A9,C2:=m.C2,A0:=m.A0,A4:=m.A4,A2:=m.A2,A3:=m.A3})) (.br (decide (port<=6)) (.an (Qpc m.A9 m.Mem port v m.A4) (.lv (Qhx m.A9 m.Mem port v m.A4) λ(x1:Q09×List Q08)=> .lf (x1.2,{B1:=m.B1,Mem:=m.Mem,A1:=m.A1,A6:=m.A6,A9:=x1.1,C2:=m.C2,A0:=m.A0,A4:=m.A4,A2:=m.A2,A3:=m.A3}))) (.br (decide (port<=9)) (.an (Qs6 m.C2 m.Mem port v m.A4) (.lv (Qkp m.C2 m.Mem port v m.A4) λ(x2:Q0k×List Q08)=> .lf (x2.2,{B1:=m.B1,Mem:=m.Mem,A1:=m.A1,A6:=m.A6,A9:=m.A9,C2:=x2.1,A0:=m.A0,A4:=m.A4,A2:=m.A2,A3:=m.A3}))) (.an (Z0 m.A0 m.Mem port v) (.lv (Q5w m.A0 m.Mem port v) λ(x3:Q06×List Int)=> .lf ([],{B1:=m.B1,Mem:=x3.2,A1:=m.A1,A6:=m.A6,A9:=m.A9,C2:=m.C2,A0:=x3.1,A4:=m.A4,A2:=m.A2,A3:=m.A3})))))))
def Qbr(m:Q00)(port:Int)(v:Int):((List Q08)×Q00):=(Qf3 m port v).m
abbrev Z35(m:Q00)(port:Int)(v:Int):Prop:=(Qf3 m port v).p
def Qeg(m:Q00)(clock:Int):Tree ((List Q08)×Q00):=
.an (Qjf m) (.lv (Q0m m) λ(x0:Q03)=> .an (Z5x x0 m.Mem) (.lv (Q9z x0 m.Mem) λ(x1:Q03×Q0y×List Int)=>let E1:=({B1:=x1.1,Mem:=x1.2.2,A1:=m.A1,A6:=m.A6,A9:=m.A9,C2:=m.C2,A0:=m.A0,A4:=m.A4,A2:=false,A3:=m.A3}:Q00); .br (x1.2.1.C0==1) (.lv (Qeh E1 x1.2.1.C5 clock) λ(x2:Int×Q00)=> .an (Q35 x2.2.B1 x1.2.1.D2 x2.1) (.lv (Q1g x2.2.B1 x1.2.1.D2 x2.1) λ(x3:Q03)=> .lf ([],{B1:=x3,Mem:=x2.2.Mem,A1:=x2.2.A1,A6:=x2.2.A6,A9:=x2.2.A9,C2:=x2.2.C2,A0:=x2.2.A0,A4:=wrap u64 (x2.2.A4+1),A2:=x2.2.A2,A3:=x2.2.A3}))) (.br (x1.2.1.C0==2) (.an (Z35 E1 x1.2.1.C5 x1.2.1.Value) (.lv (Qbr E1 x1.2.1.C5 x1.2.1.Value) λ(x4:List Q08×Q00)=> .lf (x4.1,{B1:=x4.2.B1,Mem:=x4.2.Mem,A1:=x4.2.A1,A6:=x4.2.A6,A9:=x4.2.A9,C2:=x4.2.C2,A0:=x4.2.A0,A4:=wrap u64 (x4.2.A4+1),A2:=x4.2.A2,A3:=x4.2.A3}))) (.br (x1.2.1.C0==3) (.lf ([],{B1:=x1.1,Mem:=x1.2.2,A1:=m.A1,A6:=m.A6,A9:=m.A9,C2:=m.C2,A0:=m.A0,A4:=wrap u64 (m.A4+1),A2:=true,A3:=m.A3})) (.br (x1.2.1.C0==4) (.lf ([],{B1:=x1.1,Mem:=x1.2.2,A1:=m.A1,A6:=m.A6,A9:=m.A9,C2:=m.C2,A0:=m.A0,A4:=wrap u64 (m.A4+1),A2:=false,A3:=true})) (.lf ([],{B1:=x1.1,Mem:=x1.2.2,A1:=m.A1,A6:=m.A6,A9:=m.A9,C2:=m.C2,A0:=m.A0,A4:=wrap u64 (m.A4+1),A2:=false,A3:=m.A3})))))))
def Q1q(m:Q00)(clock:Int):((List Q08)×Q00):=(Qeg m clock).m
end
noncomputable section
instance sumInhZg {α β:Type} [Inhabited β]:Inhabited (α⊕β):=⟨.inr default⟩

/-
  Functions of the program: models, and that its calls come to them (by a program: gen3.py).
-/
import Derived.Test.YtjaifpiopmhmlaaGreatBareClockBase
import Derived.Test.YtjaifpiopmhmlaaGreatBareClockYe
set_option maxRecDepth 100000
set_option linter.unusedVariables false
set_option linter.unusedSimpArgs false
namespace Go.Proofs.YtjaifpiopmhmlaaGreat
open Go Go.GD Go.IntKind
noncomputable section
def Ql9(m:(List Int)):Tree (List Int):=
.cn (Nat.blt (0:Nat) (1:Nat)&&Nat.beq (1:Nat) (1:Nat)&&List.all [D.int u32 (0:Int)] D.plain&&decide ((0:Int)≤(m.length:Int)∧(m.length:Int)≤(m.length:Int)∧(m.length:Int)≤(9223372036854775807:Int)∧(↑(4:Nat):Int)*(m.length:Int)≤(140737488355328:Int))) (let E1:=List.length (List.replicate (Int.toNat (m.length:Int)) (0:Int)); .lf (List.take (Min.min (m.length) E1) m++List.drop (Min.min (m.length) E1) (List.replicate (Int.toNat (m.length:Int)) (0:Int))))
def Qto(m:(List Int)):(List Int):=(Ql9 m).m
abbrev Z0e(m:(List Int)):Prop:=(Ql9 m).p
def Qo2(m:Q00):Tree Q00:=
.an (Z0e m.Mem) (.lv (Qto m.Mem) λ(x0:List Int)=> .lf ({B1:=m.B1,Mem:=x0,A1:=m.A1,A6:=m.A6,A7:=m.A7,C3:=m.C3,A0:=m.A0,A3:=m.A3,A2:=m.A2,A4:=m.A4}))
def Qxy(m:Q00):Q00:=(Qo2 m).m
abbrev Z1j(m:Q00):Prop:=(Qo2 m).p
def Qz6(e:Q0m):Tree Bool:=
.br (e.C1==1) (.lf (decide (e.C7=[]))) (.br (e.C1==6) (.lf (decide (e.C7=[]))) (.br (e.C1==2) (.br (e.N==0) (.lf (decide (e.C7=[]))) (.lf false)) (.br (e.C1==3) (.br (decide (e.N≤255)) (.lf (decide (e.C7=[]))) (.lf false)) (.br (e.C1==4) (.br (decide (e.N≤1)) (.br (decide (e.C7=[])) (.lf true) (.br (e.N==1) (.lf ((e.C7.length:Int)==(128:Int))) (.lf false))) (.lf false)) (.br (e.C1==5) (.br (e.N==0) (.br (decide ((e.C7.length:Int)≥(1:Int))) (.lf (decide ((e.C7.length:Int)≤(128:Int)))) (.lf false)) (.lf false)) (.lf false))))))
def Qu2(e:Q0m):Bool:=(Qz6 e).m
def Qpx(m:(List Int)):Tree Int:=
.br (Int.tmod (m.length:Int) (32:Int) !=(0:Int)) (.lf 0) (.br (decide ((m.length:Int)>(1024:Int))) (.lf 0) (.lf (wrap i64 (Int.tdiv (m.length:Int) 32))))
def Q3t(m:(List Int)):Int:=(Qpx m).m
def Qot(c:Q0a):Tree Bool:=
.lf (decide ((c.C9.length:Int)≤(16:Int)))
def Qiy(c:Q0a):Bool:=(Qot c).m
def Qiq(t:Q0f):Tree Bool:=
.br t.D3 (.br t.D2 (.lf false) (.br t.D3 (.lf (t.C5 !=0)) (.br t.D2 (.lf true) (.lf (t.C5==0))))) (.br t.D3 (.lf (t.C5 !=0)) (.br t.D2 (.lf true) (.lf (t.C5==0))))
def Qd1(t:Q0f):Bool:=(Qiq t).m
def Qko(d0:Q09)(pages:Int):Tree Bool:=
.br (decide (d0.Blocks>64)) (.lf false) (.br (decide (d0.B7<0)) (.lf false) (.br (decide (d0.B7>3)) (.lf false) (.br (d0.B7 !=1) (.br (d0.D6==0) (.br (d0.B2==0) (.br (d0.A9==0) (.lf (decide (d0.C0=[]))) (.lf false)) (.lf false)) (.lf false)) (.br (decide (d0.B2≥d0.Blocks)) (.lf false) (.br (decide (wrap i64 d0.A9≥pages)) (.lf false) (.br (d0.D6==1) (.br (decide (d0.C0=[])) (.lf true) (.br (d0.D6==2) (.lf ((d0.C0.length:Int)==(128:Int))) (.lf false))) (.br (d0.D6==2) (.lf ((d0.C0.length:Int)==(128:Int))) (.lf false))))))))
def Qf5(d0:Q09)(pages:Int):Bool:=(Qko d0 pages).m
def Qmr(n:Q0j)(pages:Int):Tree Bool:=
let T1:Tree (Bool):= .br n.B5 (.br (decide (n.F0≥1)) (.lf (decide (n.F0≤128))) (.lf false)) (.lf (n.F0==0)); .br n.C2 (.br n.B5 (.lf false) (.br (decide (wrap i64 n.B8≥pages)) (.lf false) (.br (!n.C2) (.br (n.B8 !=0) (.lf false) T1) T1))) (.br (!n.C2) (.br (n.B8 !=0) (.lf false) T1) T1)
def Qh9(n:Q0j)(pages:Int):Bool:=(Qmr n pages).m
def Qbk(b:Q06)(pages:Int)(z:(Int)):Nat:=(32-z).toNat
def Qat(b:Q06)(pages:Int):Tree Bool:=
.lp inferInstance (Qbk b pages 0+1) ((rE (pages:Int)∧(rE (0:Nat)∧rE (0:Nat))∧rE (0:Int)∧True)∧(rE b.C4∧rE b.B9∧True)∧True) 0 λ(v0:Int)=> .br (decide (v0<32)) (.cn (decide (0≤wrap u64 v0)) (let T1:Tree ((Int)⊕(Bool)):= .nx ((rE (pages:Int)∧(rE (0:Nat)∧rE (0:Nat))∧rE ((wrap i64 (v0+1)):Int)∧True)∧(rE b.C4∧rE b.B9∧True)∧True) (Sum.inl (wrap i64 (v0+1))); .br (iand u32 (ishr u32 b.B9 (wrap u64 v0)) (1:Int)==(1:Int)) (.br (decide (v0≥pages)) (.lf (Sum.inr false)) T1) T1)) (.lf (Sum.inr true))
def Q9t(b:Q06)(pages:Int):Bool:=(Qat b pages).m
def Qxk(m:Q00):Tree Bool:=
.lv (Q3t m.Mem) λ(x0:Int)=> .br (decide (x0<1)) (.lf false) (.br (m.B1.X.a0 !=0) (.lf false) (.br (decide (m.B1.B3.a0>31)) (.lf false) (.br (decide (m.B1.B3.a7>31)) (.lf false) (.br (decide (m.B1.B3.a6>255)) (.lf false) (.br (Int.tmod m.B1.B3.a1 (4:Int) !=(0:Int)) (.lf false) (.lv (Qiy m.A1) λ(x1:Bool)=> .br (!x1) (.lf false) (.lv (Qd1 m.A6) λ(x2:Bool)=> .br (!x2) (.lf false) (.lv (Qf5 m.A7 x0) λ(x3:Bool)=> .br (!x3) (.lf false) (.lv (Qh9 m.C3 x0) λ(x4:Bool)=> .br (!x4) (.lf false) (.lv (Q9t m.A0 x0) λ(x5:Bool)=> .br (!x5) (.lf false) (.br (decide (m.A3≤1152921504606846976)) (.br m.A2 (.lf (!m.A4)) (.lf true)) (.lf false))))))))))))
def Qcv(m:Q00):Bool:=(Qxk m).m
def Z5a(t:Q0f):Tree (Q0f×Bool):=
.br (!t.D3) (.lf (t,false)) (.lf ({D3:=false,C5:=t.C5,D2:=true},true))
def Z18(t:Q0f):(Q0f×Bool):=(Z5a t).m
def Qh1(c:Q0a)(b:Int):Tree (Q0a×Bool):=
.br (decide ((c.C9.length:Int)≥(16:Int))) (.lf (c,false)) (.cn (decide (c.C9.length+1≤maxLen)) (.lf ({C9:=c.C9++[(λ(n:Int)=>UInt8.ofNat n.toNat) b]},true)))
def Z2b(c:Q0a)(b:Int):(Q0a×Bool):=(Qh1 c b).m
abbrev Qz7(c:Q0a)(b:Int):Prop:=(Qh1 c b).p
def Qh2(m:(List Int))(frame:Int):Tree Bool:=
.lv (Q3t m) λ(x0:Int)=> .lf (decide (wrap u64 frame<wrap u64 x0))
def Q1s(m:(List Int))(frame:Int):Bool:=(Qh2 m frame).m
def Qdj(m:(List Int))(addr:Int)(size:Int)(v:Int):Tree (List Int):=
let E1:=Nat.beq 1 1&&Nat.blt 0 1&&decide (0≤wrap u32 (Int.tdiv addr 4)∧wrap u32 (Int.tdiv addr 4)<(m.length:Int));let E2:=Int.toNat (wrap u32 (Int.tdiv addr 4)); .br (size==4) (.cn E1 (.lf (List.set m E2 v))) (.cn E1 (let E3:=decide (0≤wrap u32 (8*Int.tmod addr 4)); .cn E3 (.cn E3 (.cn E1 (.lf (List.set m E2 (ior u32 (Qdf u32 (m.getD E2 0) (ishl u32 255 (wrap u32 (8*Int.tmod addr 4)))) (ishl u32 (iand u32 v 255) (wrap u32 (8*Int.tmod addr 4))))))))))
def Q8y(m:(List Int))(addr:Int)(size:Int)(v:Int):(List Int):=(Qdj m addr size v).m
abbrev Qfh(m:(List Int))(addr:Int)(size:Int)(v:Int):Prop:=(Qdj m addr size v).p
def Qe3(m:(List Int))(frame:Int)(s:(List UInt8))(z:(Int)×(List Int)):Nat:=(128-z.1).toNat
def Q93(m:(List Int))(frame:Int)(s:(List UInt8)):Tree (List Int):=
.lp inferInstance (Qe3 m frame s (0,m)+1) ((True∧rE (frame:Int)∧rE (s:List UInt8)∧rE (0:Int)∧True)∧rE (m:List Int)∧True) (0,m) λ(v0:Int×List Int)=> .br (decide (v0.1<(s.length:Int))) (.br (decide (v0.1<128)) (.cn (decide (0≤v0.1∧v0.1<(s.length:Int))) (let E1:=wrap u32 (↑(UInt8.toNat (s.getD v0.1.toNat (0:UInt8))):Int);let E2:=wrap u32 (wrap i64 (wrap i64 (frame*128)+v0.1)); .an (Qfh v0.2 E2 1 E1) (.lv (Q8y v0.2 E2 1 E1) λ(x0:List Int)=> .nx ((True∧rE (frame:Int)∧rE (s:List UInt8)∧rE ((wrap i64 (v0.1+1)):Int)∧True)∧rE (x0:List Int)∧True) (Sum.inl (wrap i64 (v0.1+1),x0))))) (.lf (Sum.inr v0.2))) (.lf (Sum.inr v0.2))
def Qj(m:(List Int))(frame:Int)(s:(List UInt8)):(List Int):=(Q93 m frame s).m
abbrev Qmj(m:(List Int))(frame:Int)(s:(List UInt8)):Prop:=(Q93 m frame s).p
def Qa3(d0:Q09)(m:(List Int))(e:Q0m):Tree (Q09×Bool×(List Int)):=
.br (d0.B7 !=1) (.lf (d0,false,m)) (.br (e.C1 !=4) (.lf (d0,false,m)) (.br (decide (e.N>1)) (.lf (d0,false,m)) (let E4:=({Blocks:=d0.Blocks,B6:=d0.B6,B0:=d0.B0,B7:=2,D6:=0,B2:=0,A9:=0,C0:=[]}:Q09);let E5:=({Blocks:=d0.Blocks,B6:=d0.B6,B0:=d0.B0,B7:=3,D6:=0,B2:=0,A9:=0,C0:=[]}:Q09);let T2:Tree ((Q09×Bool×(List Int))):= .br (e.N==1) (.lf (E4,true,m)) (.lf (E5,true,m));let E6:=decide ((e.C7.length:Int)>(0:Int)); .br (e.N==1) (let T1:Tree ((Q09×Bool×(List Int))):= .br (d0.D6==1) (.an (Qmj m (wrap i64 d0.A9) e.C7) (.lv (Qj m (wrap i64 d0.A9) e.C7) λ(x1:List Int)=> .br (e.N==1) (.lf (E4,true,x1)) (.lf (E5,true,x1)))) T2;let T3:Tree ((Q09×Bool×(List Int))):= .br (!d0.D6==1) (.br E6 (.lf (d0,false,m)) T1) T1; .br (d0.D6==1) (.br ((e.C7.length:Int) !=(128:Int)) (.lf (d0,false,m)) (.lv (Q1s m d0.A9) λ(x0:Bool)=> .br (!x0) (.lf (d0,false,m)) T3)) T3) (.br E6 (.lf (d0,false,m)) T2))))
def Qee(d0:Q09)(m:(List Int))(e:Q0m):(Q09×Bool×(List Int)):=(Qa3 d0 m e).m
abbrev Qs1(d0:Q09)(m:(List Int))(e:Q0m):Prop:=(Qa3 d0 m e).p
def Q9j(n:Q0j)(m:(List Int))(frame:(List UInt8)):Tree (Q0j×Bool×(List Int)):=
.br (!n.C2) (.lf (n,false,m)) (.br (decide ((frame.length:Int)<(1:Int))) (.lf (n,false,m)) (.br (decide ((frame.length:Int)>(128:Int))) (.lf (n,false,m)) (.lv (Q1s m n.B8) λ(x0:Bool)=> .br (!x0) (.lf (n,false,m)) (.an (Qmj m (wrap i64 n.B8) frame) (.lv (Qj m (wrap i64 n.B8) frame) λ(x1:List Int)=> .lf ({B0:=n.B0,D9:=n.D9,C2:=false,B8:=0,B5:=true,F0:=wrap u32 (frame.length:Int)},true,x1))))))
def Qey(n:Q0j)(m:(List Int))(frame:(List UInt8)):(Q0j×Bool×(List Int)):=(Q9j n m frame).m
abbrev Quf(n:Q0j)(m:(List Int))(frame:(List UInt8)):Prop:=(Q9j n m frame).p
def Qc(m:Q00)(e:Q0m):Tree (Bool×Q00):=
.br m.A4 (.lf (false,m)) (let T1:Tree ((Bool×Q00)):= .br (e.C1==4) (.an (Qs1 m.A7 m.Mem e) (.lv (Qee m.A7 m.Mem e) λ(x2:Q09×Bool×List Int)=> .lf (x2.2.1,{B1:=m.B1,Mem:=x2.2.2,A1:=m.A1,A6:=m.A6,A7:=x2.1,C3:=m.C3,A0:=m.A0,A3:=m.A3,A2:=m.A2,A4:=m.A4}))) (let T3:Tree ((Bool×Q00)):= .br (e.C1==6) (.br (decide (e.C7=[])) (.lf (true,{B1:=m.B1,Mem:=m.Mem,A1:=m.A1,A6:=m.A6,A7:=m.A7,C3:=m.C3,A0:={C4:=e.N,B9:=m.A0.B9},A3:=m.A3,A2:=m.A2,A4:=m.A4})) (.lf (false,m))) (.lf (false,m)); .br (e.C1==5) (.br (e.N==0) (.an (Quf m.C3 m.Mem e.C7) (.lv (Qey m.C3 m.Mem e.C7) λ(x3:Q0j×Bool×List Int)=> .lf (x3.2.1,{B1:=m.B1,Mem:=x3.2.2,A1:=m.A1,A6:=m.A6,A7:=m.A7,C3:=x3.1,A0:=m.A0,A3:=m.A3,A2:=m.A2,A4:=m.A4}))) T3) T3);let T2:Tree ((Bool×Q00)):= .br (e.C1==3) (.br (decide (e.N≤255)) (.br (decide (e.C7=[])) (.an (Qz7 m.A1 (wrap u8 e.N)) (.lv (Z2b m.A1 (wrap u8 e.N)) λ(x1:Q0a×Bool)=> .lf (x1.2,{B1:=m.B1,Mem:=m.Mem,A1:=x1.1,A6:=m.A6,A7:=m.A7,C3:=m.C3,A0:=m.A0,A3:=m.A3,A2:=m.A2,A4:=m.A4}))) T1) T1) T1; .br (e.C1==2) (.br (e.N==0) (.br (decide (e.C7=[])) (.lv (Z18 m.A6) λ(x0:Q0f×Bool)=> .lf (x0.2,{B1:=m.B1,Mem:=m.Mem,A1:=m.A1,A6:=x0.1,A7:=m.A7,C3:=m.C3,A0:=m.A0,A3:=m.A3,A2:=m.A2,A4:=m.A4})) T2) T2) T2)
def Q6x(m:Q00)(e:Q0m):(Bool×Q00):=(Qc m e).m
abbrev Qv9(m:Q00)(e:Q0m):Prop:=(Qc m e).p
def Qhc(is:Bool)(n:Int):Tree Int:=
.br is (.cn (decide (0≤wrap u64 n)) (.lf (ishl u32 1 (wrap u64 n)))) (.lf 0)
def Q8j(is:Bool)(n:Int):Int:=(Qhc is n).m
abbrev Q9y(is:Bool)(n:Int):Prop:=(Qhc is n).p
def Ql(t:Q0f):Tree Bool:=
.lf t.D2
def Qax(t:Q0f):Bool:=(Ql t).m
def Qiu(c:Q0a):Tree Bool:=
.lf (decide ((c.C9.length:Int)>(0:Int)))
def Q6g(c:Q0a):Bool:=(Qiu c).m
def Qmw(d0:Q09):Tree Bool:=
.br (d0.B7==2) (.lf true) (.lf (d0.B7==3))
def Qcn(d0:Q09):Bool:=(Qmw d0).m
def Qne(n:Q0j):Tree Bool:=
.lf n.B5
def Qdy(n:Q0j):Bool:=(Qne n).m
def Qqc(b:Q06)(z:(Int)×(Int)):Nat:=(32-z.2).toNat
def Z2v(b:Q06):Tree Int:=
.lp inferInstance (Qqc b (0,0)+1) (((rE (0:Nat)∧rE (0:Nat))∧rE (0:Int)∧rE (0:Int)∧True)∧(rE b.C4∧rE b.B9∧True)∧True) (0,0) λ(v0:Int×Int)=> .br (decide (v0.2<32)) (.cn (decide (0≤wrap u64 v0.2)) (.nx (((rE (0:Nat)∧rE (0:Nat))∧rE ((wrap i64 (v0.1+wrap i64 (iand u32 (ishr u32 b.B9 (wrap u64 v0.2)) 1))):Int)∧rE ((wrap i64 (v0.2+1)):Int)∧True)∧(rE b.C4∧rE b.B9∧True)∧True) (Sum.inl (wrap i64 (v0.1+wrap i64 (iand u32 (ishr u32 b.B9 (wrap u64 v0.2)) 1)),wrap i64 (v0.2+1))))) (.lf (Sum.inr v0.1))
def Qdl(b:Q06):Int:=(Z2v b).m
def Qbz(b:Q06):Tree Bool:=
.lv (Qdl b) λ(x0:Int)=> .lf (wrap u64 x0 !=wrap u64 b.C4)
def Q4g(b:Q06):Bool:=(Qbz b).m
def Qfg(m:Q00):Tree Int:=
.lv (Qax m.A6) λ(x0:Bool)=> .an (Q9y x0 0) (.lv (Q8j x0 0) λ(x1:Int)=> .lv (Q6g m.A1) λ(x2:Bool)=> .an (Q9y x2 1) (.lv (Q8j x2 1) λ(x3:Int)=> .lv (Qcn m.A7) λ(x4:Bool)=> .an (Q9y x4 2) (.lv (Q8j x4 2) λ(x5:Int)=> .lv (Qdy m.C3) λ(x6:Bool)=> .an (Q9y x6 3) (.lv (Q8j x6 3) λ(x7:Int)=> .lv (Q4g m.A0) λ(x8:Bool)=> .an (Q9y x8 4) (.lv (Q8j x8 4) λ(x9:Int)=> .lf (ior u32 (ior u32 (ior u32 (ior u32 x1 x3) x5) x7) x9))))))
def Qg8(m:Q00):Int:=(Qfg m).m
abbrev Qv0(m:Q00):Prop:=(Qfg m).p
def Q8u(m:Q00):Tree Int:=
.an (Qv0 m) (.lv (Qg8 m) λ(x0:Int)=> .lf (iand u32 x0 m.B1.B3.a7))
def Q2t(m:Q00):Int:=(Q8u m).m
abbrev Qi5(m:Q00):Prop:=(Q8u m).p
def Qlk(m:Q00):Tree Bool:=
.br m.A2 (.an (Qi5 m) (.lv (Q2t m) λ(x0:Int)=> .lf (x0==0))) (.lf false)
def Qgi(m:Q00):Bool:=(Qlk m).m
abbrev Qy5(m:Q00):Prop:=(Qlk m).p
def Qfc(m:Q00):Tree Bool:=
.lv (Qcv m) λ(x0:Bool)=> .br (!x0) (.lf true) (.br m.A4 (.lf true) (.an (Qy5 m) (.lv (Qgi m) λ(x1:Bool)=> .br x1 (.lf true) (.lf (decide (m.A3≥1152921504606846976))))))
def Q5(m:Q00):Bool:=(Qfc m).m
abbrev Qui(m:Q00):Prop:=(Qfc m).p
end
end Go.Proofs.YtjaifpiopmhmlaaGreat

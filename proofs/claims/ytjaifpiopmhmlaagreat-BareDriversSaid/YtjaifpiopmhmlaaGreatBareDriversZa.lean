/-
  Functions of the program: models, and that its calls come to them (by a program: gen3.py).
-/
import Derived.Test.YtjaifpiopmhmlaaGreatBareDriversBase
import Derived.Test.YtjaifpiopmhmlaaGreatBareDriversYe
set_option maxRecDepth 100000
set_option linter.unusedVariables false
set_option linter.unusedSimpArgs false
namespace Go.Proofs.YtjaifpiopmhmlaaGreat
open Go Go.GD Go.IntKind
noncomputable section
def Qlm(m:(List Int)):Tree (List Int):=
.cn (Nat.blt (0:Nat) (1:Nat)&&Nat.beq (1:Nat) (1:Nat)&&List.all [D.int u32 (0:Int)] D.plain&&decide ((0:Int)≤(m.length:Int)∧(m.length:Int)≤(m.length:Int)∧(m.length:Int)≤(9223372036854775807:Int)∧(↑(4:Nat):Int)*(m.length:Int)≤(140737488355328:Int))) (let E1:=List.length (List.replicate (Int.toNat (m.length:Int)) (0:Int)); .lf (List.take (Min.min (m.length) E1) m++List.drop (Min.min (m.length) E1) (List.replicate (Int.toNat (m.length:Int)) (0:Int))))
def Qsl(m:(List Int)):(List Int):=(Qlm m).m
abbrev Z01(m:(List Int)):Prop:=(Qlm m).p
def Qpa(m:Q00):Tree Q00:=
.an (Z01 m.Mem) (.lv (Qsl m.Mem) λ(x0:List Int)=> .lf ({B1:=m.B1,Mem:=x0,A2:=m.A2,A7:=m.A7,A6:=m.A6,C5:=m.C5,A1:=m.A1,A0:=m.A0,A3:=m.A3,A4:=m.A4}))
def Z17(m:Q00):Q00:=(Qpa m).m
abbrev Z2o(m:Q00):Prop:=(Qpa m).p
def Z1(e:Q0p):Tree Bool:=
.br (e.B2==1) (.lf (decide (e.C3=[]))) (.br (e.B2==6) (.lf (decide (e.C3=[]))) (.br (e.B2==2) (.br (e.N==0) (.lf (decide (e.C3=[]))) (.lf false)) (.br (e.B2==3) (.br (decide (e.N≤255)) (.lf (decide (e.C3=[]))) (.lf false)) (.br (e.B2==4) (.br (decide (e.N≤1)) (.br (decide (e.C3=[])) (.lf true) (.br (e.N==1) (.lf ((e.C3.length:Int)==(128:Int))) (.lf false))) (.lf false)) (.br (e.B2==5) (.br (e.N==0) (.br (decide ((e.C3.length:Int)≥(1:Int))) (.lf (decide ((e.C3.length:Int)≤(128:Int)))) (.lf false)) (.lf false)) (.lf false))))))
def Qts(e:Q0p):Bool:=(Z1 e).m
def Qq4(m:(List Int)):Tree Int:=
.br (Int.tmod (m.length:Int) (32:Int) !=(0:Int)) (.lf 0) (.br (decide ((m.length:Int)>(1024:Int))) (.lf 0) (.lf (wrap i64 (Int.tdiv (m.length:Int) 32))))
def Q4(m:(List Int)):Int:=(Qq4 m).m
def Qow(c:Q0b):Tree Bool:=
.lf (decide ((c.C9.length:Int)≤(16:Int)))
def Qjl(c:Q0b):Bool:=(Qow c).m
def Qjn(t:Q0i):Tree Bool:=
.br t.D5 (.br t.D4 (.lf false) (.br t.D5 (.lf (t.C7 !=0)) (.br t.D4 (.lf true) (.lf (t.C7==0))))) (.br t.D5 (.lf (t.C7 !=0)) (.br t.D4 (.lf true) (.lf (t.C7==0))))
def Qd1(t:Q0i):Bool:=(Qjn t).m
def Qky(d0:Q0a)(pages:Int):Tree Bool:=
.br (decide (d0.Blocks>64)) (.lf false) (.br (decide (d0.B8<0)) (.lf false) (.br (decide (d0.B8>3)) (.lf false) (.br (d0.B8 !=1) (.br (d0.D6==0) (.br (d0.B5==0) (.br (d0.A9==0) (.lf (decide (d0.C1=[]))) (.lf false)) (.lf false)) (.lf false)) (.br (decide (d0.B5≥d0.Blocks)) (.lf false) (.br (decide (wrap i64 d0.A9≥pages)) (.lf false) (.br (d0.D6==1) (.br (decide (d0.C1=[])) (.lf true) (.br (d0.D6==2) (.lf ((d0.C1.length:Int)==(128:Int))) (.lf false))) (.br (d0.D6==2) (.lf ((d0.C1.length:Int)==(128:Int))) (.lf false))))))))
def Qfk(d0:Q0a)(pages:Int):Bool:=(Qky d0 pages).m
def Qmy(n:Q0n)(pages:Int):Tree Bool:=
let T1:Tree (Bool):= .br n.B7 (.br (decide (n.F0≥1)) (.lf (decide (n.F0≤128))) (.lf false)) (.lf (n.F0==0)); .br n.C4 (.br n.B7 (.lf false) (.br (decide (wrap i64 n.B9≥pages)) (.lf false) (.br (!n.C4) (.br (n.B9 !=0) (.lf false) T1) T1))) (.br (!n.C4) (.br (n.B9 !=0) (.lf false) T1) T1)
def Qhj(n:Q0n)(pages:Int):Bool:=(Qmy n pages).m
def Qck(b:Q07)(pages:Int)(z:(Int)):Nat:=(32-z).toNat
def Qar(b:Q07)(pages:Int):Tree Bool:=
.lp inferInstance (Qck b pages 0+1) ((rE (pages:Int)∧(rE (0:Nat)∧rE (0:Nat))∧rE (0:Int)∧True)∧(rE b.C6∧rE b.C0∧True)∧True) 0 λ(v0:Int)=> .br (decide (v0<32)) (.cn (decide (0≤wrap u64 v0)) (let T1:Tree ((Int)⊕(Bool)):= .nx ((rE (pages:Int)∧(rE (0:Nat)∧rE (0:Nat))∧rE ((wrap i64 (v0+1)):Int)∧True)∧(rE b.C6∧rE b.C0∧True)∧True) (Sum.inl (wrap i64 (v0+1))); .br (iand u32 (ishr u32 b.C0 (wrap u64 v0)) (1:Int)==(1:Int)) (.br (decide (v0≥pages)) (.lf (Sum.inr false)) T1) T1)) (.lf (Sum.inr true))
def Q9v(b:Q07)(pages:Int):Bool:=(Qar b pages).m
def Qxs(m:Q00):Tree Bool:=
.lv (Q4 m.Mem) λ(x0:Int)=> .br (decide (x0<1)) (.lf false) (.br (m.B1.X.a0 !=0) (.lf false) (.br (decide (m.B1.B4.a0>31)) (.lf false) (.br (decide (m.B1.B4.a7>31)) (.lf false) (.br (decide (m.B1.B4.a6>255)) (.lf false) (.br (Int.tmod m.B1.B4.a1 (4:Int) !=(0:Int)) (.lf false) (.lv (Qjl m.A2) λ(x1:Bool)=> .br (!x1) (.lf false) (.lv (Qd1 m.A7) λ(x2:Bool)=> .br (!x2) (.lf false) (.lv (Qfk m.A6 x0) λ(x3:Bool)=> .br (!x3) (.lf false) (.lv (Qhj m.C5 x0) λ(x4:Bool)=> .br (!x4) (.lf false) (.lv (Q9v m.A1 x0) λ(x5:Bool)=> .br (!x5) (.lf false) (.br (decide (m.A0≤1152921504606846976)) (.br m.A3 (.lf (!m.A4)) (.lf true)) (.lf false))))))))))))
def Qdf(m:Q00):Bool:=(Qxs m).m
def Z6x(t:Q0i):Tree (Q0i×Bool):=
.br (!t.D5) (.lf (t,false)) (.lf ({D5:=false,C7:=t.C7,D4:=true},true))
def Z1u(t:Q0i):(Q0i×Bool):=(Z6x t).m
def Qh3(c:Q0b)(b:Int):Tree (Q0b×Bool):=
.br (decide ((c.C9.length:Int)≥(16:Int))) (.lf (c,false)) (.cn (decide (c.C9.length+1≤maxLen)) (.lf ({C9:=c.C9++[(λ(n:Int)=>UInt8.ofNat n.toNat) b]},true)))
def Qmp(c:Q0b)(b:Int):(Q0b×Bool):=(Qh3 c b).m
abbrev Qyf(c:Q0b)(b:Int):Prop:=(Qh3 c b).p
def Qh4(m:(List Int))(frame:Int):Tree Bool:=
.lv (Q4 m) λ(x0:Int)=> .lf (decide (wrap u64 frame<wrap u64 x0))
def Q22(m:(List Int))(frame:Int):Bool:=(Qh4 m frame).m
def Qdu(m:(List Int))(addr:Int)(size:Int)(v:Int):Tree (List Int):=
let E1:=Nat.beq 1 1&&Nat.blt 0 1&&decide (0≤wrap u32 (Int.tdiv addr 4)∧wrap u32 (Int.tdiv addr 4)<(m.length:Int));let E2:=Int.toNat (wrap u32 (Int.tdiv addr 4)); .br (size==4) (.cn E1 (.lf (List.set m E2 v))) (.cn E1 (let E3:=decide (0≤wrap u32 (8*Int.tmod addr 4)); .cn E3 (.cn E3 (.cn E1 (.lf (List.set m E2 (ior u32 (Qd8 u32 (m.getD E2 0) (ishl u32 255 (wrap u32 (8*Int.tmod addr 4)))) (ishl u32 (iand u32 v 255) (wrap u32 (8*Int.tmod addr 4))))))))))
def Q97(m:(List Int))(addr:Int)(size:Int)(v:Int):(List Int):=(Qdu m addr size v).m
abbrev Qfu(m:(List Int))(addr:Int)(size:Int)(v:Int):Prop:=(Qdu m addr size v).p
def Qdx(m:(List Int))(frame:Int)(s:(List UInt8))(z:(Int)×(List Int)):Nat:=(128-z.1).toNat
def Q9f(m:(List Int))(frame:Int)(s:(List UInt8)):Tree (List Int):=
.lp inferInstance (Qdx m frame s (0,m)+1) ((True∧rE (frame:Int)∧rE (s:List UInt8)∧rE (0:Int)∧True)∧rE (m:List Int)∧True) (0,m) λ(v0:Int×List Int)=> .br (decide (v0.1<(s.length:Int))) (.br (decide (v0.1<128)) (.cn (decide (0≤v0.1∧v0.1<(s.length:Int))) (let E1:=wrap u32 (↑(UInt8.toNat (s.getD v0.1.toNat (0:UInt8))):Int);let E2:=wrap u32 (wrap i64 (wrap i64 (frame*128)+v0.1)); .an (Qfu v0.2 E2 1 E1) (.lv (Q97 v0.2 E2 1 E1) λ(x0:List Int)=> .nx ((True∧rE (frame:Int)∧rE (s:List UInt8)∧rE ((wrap i64 (v0.1+1)):Int)∧True)∧rE (x0:List Int)∧True) (Sum.inl (wrap i64 (v0.1+1),x0))))) (.lf (Sum.inr v0.2))) (.lf (Sum.inr v0.2))
def Qjq(m:(List Int))(frame:Int)(s:(List UInt8)):(List Int):=(Q9f m frame s).m
abbrev Qnh(m:(List Int))(frame:Int)(s:(List UInt8)):Prop:=(Q9f m frame s).p
def Qa2(d0:Q0a)(m:(List Int))(e:Q0p):Tree (Q0a×Bool×(List Int)):=
.br (d0.B8 !=1) (.lf (d0,false,m)) (.br (e.B2 !=4) (.lf (d0,false,m)) (.br (decide (e.N>1)) (.lf (d0,false,m)) (let E4:=({Blocks:=d0.Blocks,B3:=d0.B3,B0:=d0.B0,B8:=2,D6:=0,B5:=0,A9:=0,C1:=[]}:Q0a);let E5:=({Blocks:=d0.Blocks,B3:=d0.B3,B0:=d0.B0,B8:=3,D6:=0,B5:=0,A9:=0,C1:=[]}:Q0a);let T2:Tree ((Q0a×Bool×(List Int))):= .br (e.N==1) (.lf (E4,true,m)) (.lf (E5,true,m));let E6:=decide ((e.C3.length:Int)>(0:Int)); .br (e.N==1) (let T1:Tree ((Q0a×Bool×(List Int))):= .br (d0.D6==1) (.an (Qnh m (wrap i64 d0.A9) e.C3) (.lv (Qjq m (wrap i64 d0.A9) e.C3) λ(x1:List Int)=> .br (e.N==1) (.lf (E4,true,x1)) (.lf (E5,true,x1)))) T2;let T3:Tree ((Q0a×Bool×(List Int))):= .br (!d0.D6==1) (.br E6 (.lf (d0,false,m)) T1) T1; .br (d0.D6==1) (.br ((e.C3.length:Int) !=(128:Int)) (.lf (d0,false,m)) (.lv (Q22 m d0.A9) λ(x0:Bool)=> .br (!x0) (.lf (d0,false,m)) T3)) T3) (.br E6 (.lf (d0,false,m)) T2))))
def Qes(d0:Q0a)(m:(List Int))(e:Q0p):(Q0a×Bool×(List Int)):=(Qa2 d0 m e).m
abbrev Qu4(d0:Q0a)(m:(List Int))(e:Q0p):Prop:=(Qa2 d0 m e).p
def Qa4(n:Q0n)(m:(List Int))(frame:(List UInt8)):Tree (Q0n×Bool×(List Int)):=
.br (!n.C4) (.lf (n,false,m)) (.br (decide ((frame.length:Int)<(1:Int))) (.lf (n,false,m)) (.br (decide ((frame.length:Int)>(128:Int))) (.lf (n,false,m)) (.lv (Q22 m n.B9) λ(x0:Bool)=> .br (!x0) (.lf (n,false,m)) (.an (Qnh m (wrap i64 n.B9) frame) (.lv (Qjq m (wrap i64 n.B9) frame) λ(x1:List Int)=> .lf ({B0:=n.B0,D9:=n.D9,C4:=false,B9:=0,B7:=true,F0:=wrap u32 (frame.length:Int)},true,x1))))))
def Qf4(n:Q0n)(m:(List Int))(frame:(List UInt8)):(Q0n×Bool×(List Int)):=(Qa4 n m frame).m
abbrev Qsv(n:Q0n)(m:(List Int))(frame:(List UInt8)):Prop:=(Qa4 n m frame).p
def Qc7(m:Q00)(e:Q0p):Tree (Bool×Q00):=
.br m.A4 (.lf (false,m)) (let T1:Tree ((Bool×Q00)):= .br (e.B2==4) (.an (Qu4 m.A6 m.Mem e) (.lv (Qes m.A6 m.Mem e) λ(x2:Q0a×Bool×List Int)=> .lf (x2.2.1,{B1:=m.B1,Mem:=x2.2.2,A2:=m.A2,A7:=m.A7,A6:=x2.1,C5:=m.C5,A1:=m.A1,A0:=m.A0,A3:=m.A3,A4:=m.A4}))) (let T3:Tree ((Bool×Q00)):= .br (e.B2==6) (.br (decide (e.C3=[])) (.lf (true,{B1:=m.B1,Mem:=m.Mem,A2:=m.A2,A7:=m.A7,A6:=m.A6,C5:=m.C5,A1:={C6:=e.N,C0:=m.A1.C0},A0:=m.A0,A3:=m.A3,A4:=m.A4})) (.lf (false,m))) (.lf (false,m)); .br (e.B2==5) (.br (e.N==0) (.an (Qsv m.C5 m.Mem e.C3) (.lv (Qf4 m.C5 m.Mem e.C3) λ(x3:Q0n×Bool×List Int)=> .lf (x3.2.1,{B1:=m.B1,Mem:=x3.2.2,A2:=m.A2,A7:=m.A7,A6:=m.A6,C5:=x3.1,A1:=m.A1,A0:=m.A0,A3:=m.A3,A4:=m.A4}))) T3) T3);let T2:Tree ((Bool×Q00)):= .br (e.B2==3) (.br (decide (e.N≤255)) (.br (decide (e.C3=[])) (.an (Qyf m.A2 (wrap u8 e.N)) (.lv (Qmp m.A2 (wrap u8 e.N)) λ(x1:Q0b×Bool)=> .lf (x1.2,{B1:=m.B1,Mem:=m.Mem,A2:=x1.1,A7:=m.A7,A6:=m.A6,C5:=m.C5,A1:=m.A1,A0:=m.A0,A3:=m.A3,A4:=m.A4}))) T1) T1) T1; .br (e.B2==2) (.br (e.N==0) (.br (decide (e.C3=[])) (.lv (Z1u m.A7) λ(x0:Q0i×Bool)=> .lf (x0.2,{B1:=m.B1,Mem:=m.Mem,A2:=m.A2,A7:=x0.1,A6:=m.A6,C5:=m.C5,A1:=m.A1,A0:=m.A0,A3:=m.A3,A4:=m.A4})) T2) T2) T2)
def Q2f(m:Q00)(e:Q0p):(Bool×Q00):=(Qc7 m e).m
abbrev Qv3(m:Q00)(e:Q0p):Prop:=(Qc7 m e).p
def Qh2(is:Bool)(n:Int):Tree Int:=
.br is (.cn (decide (0≤wrap u64 n)) (.lf (ishl u32 1 (wrap u64 n)))) (.lf 0)
def Q91(is:Bool)(n:Int):Int:=(Qh2 is n).m
abbrev Q9s(is:Bool)(n:Int):Prop:=(Qh2 is n).p
def Qlr(t:Q0i):Tree Bool:=
.lf t.D4
def Qb0(t:Q0i):Bool:=(Qlr t).m
def Qis(c:Q0b):Tree Bool:=
.lf (decide ((c.C9.length:Int)>(0:Int)))
def Q6h(c:Q0b):Bool:=(Qis c).m
def Qmg(d0:Q0a):Tree Bool:=
.br (d0.B8==2) (.lf true) (.lf (d0.B8==3))
def Qcs(d0:Q0a):Bool:=(Qmg d0).m
def Qou(n:Q0n):Tree Bool:=
.lf n.B7
def Qet(n:Q0n):Bool:=(Qou n).m
def Qqj(b:Q07)(z:(Int)×(Int)):Nat:=(32-z.2).toNat
def Z4j(b:Q07):Tree Int:=
.lp inferInstance (Qqj b (0,0)+1) (((rE (0:Nat)∧rE (0:Nat))∧rE (0:Int)∧rE (0:Int)∧True)∧(rE b.C6∧rE b.C0∧True)∧True) (0,0) λ(v0:Int×Int)=> .br (decide (v0.2<32)) (.cn (decide (0≤wrap u64 v0.2)) (.nx (((rE (0:Nat)∧rE (0:Nat))∧rE ((wrap i64 (v0.1+wrap i64 (iand u32 (ishr u32 b.C0 (wrap u64 v0.2)) 1))):Int)∧rE ((wrap i64 (v0.2+1)):Int)∧True)∧(rE b.C6∧rE b.C0∧True)∧True) (Sum.inl (wrap i64 (v0.1+wrap i64 (iand u32 (ishr u32 b.C0 (wrap u64 v0.2)) 1)),wrap i64 (v0.2+1))))) (.lf (Sum.inr v0.1))
def Qdw(b:Q07):Int:=(Z4j b).m
def Qbr(b:Q07):Tree Bool:=
.lv (Qdw b) λ(x0:Int)=> .lf (wrap u64 x0 !=wrap u64 b.C6)
def Q4x(b:Q07):Bool:=(Qbr b).m
def Qfn(m:Q00):Tree Int:=
.lv (Qb0 m.A7) λ(x0:Bool)=> .an (Q9s x0 0) (.lv (Q91 x0 0) λ(x1:Int)=> .lv (Q6h m.A2) λ(x2:Bool)=> .an (Q9s x2 1) (.lv (Q91 x2 1) λ(x3:Int)=> .lv (Qcs m.A6) λ(x4:Bool)=> .an (Q9s x4 2) (.lv (Q91 x4 2) λ(x5:Int)=> .lv (Qet m.C5) λ(x6:Bool)=> .an (Q9s x6 3) (.lv (Q91 x6 3) λ(x7:Int)=> .lv (Q4x m.A1) λ(x8:Bool)=> .an (Q9s x8 4) (.lv (Q91 x8 4) λ(x9:Int)=> .lf (ior u32 (ior u32 (ior u32 (ior u32 x1 x3) x5) x7) x9))))))
def Qgz(m:Q00):Int:=(Qfn m).m
abbrev Qvi(m:Q00):Prop:=(Qfn m).p
def Q96(m:Q00):Tree Int:=
.an (Qvi m) (.lv (Qgz m) λ(x0:Int)=> .lf (iand u32 x0 m.B1.B4.a7))
def Q35(m:Q00):Int:=(Q96 m).m
abbrev Qi0(m:Q00):Prop:=(Q96 m).p
def Qlf(m:Q00):Tree Bool:=
.br m.A3 (.an (Qi0 m) (.lv (Q35 m) λ(x0:Int)=> .lf (x0==0))) (.lf false)
def Qeu(m:Q00):Bool:=(Qlf m).m
abbrev Z1c(m:Q00):Prop:=(Qlf m).p
def Qcl(m:Q00):Tree Bool:=
.lv (Qdf m) λ(x0:Bool)=> .br (!x0) (.lf true) (.br m.A4 (.lf true) (.an (Z1c m) (.lv (Qeu m) λ(x1:Bool)=> .br x1 (.lf true) (.lf (decide (m.A0≥1152921504606846976))))))
def Q1q(m:Q00):Bool:=(Qcl m).m
abbrev Qvv(m:Q00):Prop:=(Qcl m).p
end
end Go.Proofs.YtjaifpiopmhmlaaGreat

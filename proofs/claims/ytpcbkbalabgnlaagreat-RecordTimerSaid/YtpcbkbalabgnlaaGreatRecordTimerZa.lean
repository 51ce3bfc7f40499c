/-
  Functions of the program: models, and that its calls come to them (by a program: gen3.py).
-/
import Derived.Test.YtpcbkbalabgnlaaGreatRecordTimerBase
import Derived.Test.YtpcbkbalabgnlaaGreatRecordTimerYe
set_option linter.unusedVariables false
set_option linter.unusedSimpArgs false
namespace Go.Proofs.YtpcbkbalabgnlaaGreat
open Go Go.GD Go.IntKind
set_option maxRecDepth 100000
noncomputable section
def Qlo(m:(List Int)):Tree (List Int):=
.cn (Nat.blt (0:Nat) (1:Nat)&&Nat.beq (1:Nat) (1:Nat)&&List.all [D.int u32 (0:Int)] D.plain&&decide ((0:Int)≤(m.length:Int)∧(m.length:Int)≤(m.length:Int)∧(m.length:Int)≤(9223372036854775807:Int)∧(↑(4:Nat):Int)*(m.length:Int)≤(140737488355328:Int))) (let E1:=List.length (List.replicate (Int.toNat (m.length:Int)) (0:Int)); .lf (List.take (Min.min (m.length) E1) m++List.drop (Min.min (m.length) E1) (List.replicate (Int.toNat (m.length:Int)) (0:Int))))
def Qu5(m:(List Int)):(List Int):=(Qlo m).m
abbrev Qzz(m:(List Int)):Prop:=(Qlo m).p
def Qpl(m:Q00):Tree Q00:=
.an (Qzz m.Mem) (.lv (Qu5 m.Mem) λ(x0:List Int)=> .lf ({B2:=m.B2,Mem:=x0,A2:=m.A2,A7:=m.A7,B0:=m.B0,C5:=m.C5,A1:=m.A1,A4:=m.A4,A3:=m.A3,A6:=m.A6}))
def Z14(m:Q00):Q00:=(Qpl m).m
abbrev Z27(m:Q00):Prop:=(Qpl m).p
def Qps(m:(List Int)):Tree Int:=
.br (Int.tmod (m.length:Int) (32:Int) !=(0:Int)) (.lf 0) (.br (decide ((m.length:Int)>(1024:Int))) (.lf 0) (.lf (wrap i64 (Int.tdiv (m.length:Int) 32))))
def Q4f(m:(List Int)):Int:=(Qps m).m
def Qp9(c:Q0d):Tree Bool:=
.lf (decide ((c.D3.length:Int)≤(16:Int)))
def Qj6(c:Q0d):Bool:=(Qp9 c).m
def Qj(t:Q0g):Tree Bool:=
.br t.D4 (.br t.D6 (.lf false) (.br t.D4 (.lf (t.C6 !=0)) (.br t.D6 (.lf true) (.lf (t.C6==0))))) (.br t.D4 (.lf (t.C6 !=0)) (.br t.D6 (.lf true) (.lf (t.C6==0))))
def Q2g(t:Q0g):Bool:=(Qj t).m
def Ql2(d0:Q0b)(pages:Int):Tree Bool:=
.br (decide (d0.Blocks>64)) (.lf false) (.br (decide (d0.B8<0)) (.lf false) (.br (decide (d0.B8>3)) (.lf false) (.br (d0.B8 !=1) (.br (d0.D9==0) (.br (d0.B6==0) (.br (d0.A9==0) (.lf (decide (d0.C2=[]))) (.lf false)) (.lf false)) (.lf false)) (.br (decide (d0.B6≥d0.Blocks)) (.lf false) (.br (decide (wrap i64 d0.A9≥pages)) (.lf false) (.br (d0.D9==1) (.br (decide (d0.C2=[])) (.lf true) (.br (d0.D9==2) (.lf ((d0.C2.length:Int)==(128:Int))) (.lf false))) (.br (d0.D9==2) (.lf ((d0.C2.length:Int)==(128:Int))) (.lf false))))))))
def Qg(d0:Q0b)(pages:Int):Bool:=(Ql2 d0 pages).m
def Qnb(n:Q0m)(pages:Int):Tree Bool:=
let T1:Tree (Bool):= .br n.B7 (.br (decide (n.F3≥1)) (.lf (decide (n.F3≤128))) (.lf false)) (.lf (n.F3==0)); .br n.C4 (.br n.B7 (.lf false) (.br (decide (wrap i64 n.B9≥pages)) (.lf false) (.br (!n.C4) (.br (n.B9 !=0) (.lf false) T1) T1))) (.br (!n.C4) (.br (n.B9 !=0) (.lf false) T1) T1)
def Qi2(n:Q0m)(pages:Int):Bool:=(Qnb n pages).m
def Qcz(b:Q07)(pages:Int)(z:(Int)):Nat:=(32-z).toNat
def Qbt(b:Q07)(pages:Int):Tree Bool:=
.lp inferInstance (Qcz b pages 0+1) ((rE (pages:Int)∧(rE (0:Nat)∧rE (0:Nat))∧rE (0:Int)∧True)∧(rE b.C7∧rE b.C1∧True)∧True) 0 λ(v0:Int)=> .br (decide (v0<32)) (.cn (decide (0≤wrap u64 v0)) (let T1:Tree ((Int)⊕(Bool)):= .nx ((rE (pages:Int)∧(rE (0:Nat)∧rE (0:Nat))∧rE ((wrap i64 (v0+1)):Int)∧True)∧(rE b.C7∧rE b.C1∧True)∧True) (Sum.inl (wrap i64 (v0+1))); .br (iand u32 (ishr u32 b.C1 (wrap u64 v0)) (1:Int)==(1:Int)) (.br (decide (v0≥pages)) (.lf (Sum.inr false)) T1) T1)) (.lf (Sum.inr true))
def Qb0(b:Q07)(pages:Int):Bool:=(Qbt b pages).m
def Qy0(m:Q00):Tree Bool:=
.lv (Q4f m.Mem) λ(x0:Int)=> .br (decide (x0<1)) (.lf false) (.br (m.B2.X.a0 !=0) (.lf false) (.br (decide (m.B2.B5.a0>31)) (.lf false) (.br (decide (m.B2.B5.a7>31)) (.lf false) (.br (decide (m.B2.B5.a6>255)) (.lf false) (.br (Int.tmod m.B2.B5.a1 (4:Int) !=(0:Int)) (.lf false) (.lv (Qj6 m.A2) λ(x1:Bool)=> .br (!x1) (.lf false) (.lv (Q2g m.A7) λ(x2:Bool)=> .br (!x2) (.lf false) (.lv (Qg m.B0 x0) λ(x3:Bool)=> .br (!x3) (.lf false) (.lv (Qi2 m.C5 x0) λ(x4:Bool)=> .br (!x4) (.lf false) (.lv (Qb0 m.A1 x0) λ(x5:Bool)=> .br (!x5) (.lf false) (.br (decide (m.A4≤1152921504606846976)) (.br m.A3 (.lf (!m.A6)) (.lf true)) (.lf false))))))))))))
def Q7i(m:Q00):Bool:=(Qy0 m).m
def Qm3(t:Q0g):Tree (Q0g×Bool):=
.br (!t.D4) (.lf (t,false)) (.lf ({D4:=false,C6:=t.C6,D6:=true},true))
def Qme(t:Q0g):(Q0g×Bool):=(Qm3 t).m
def Qc3(c:Q0d)(b:Int):Tree (Q0d×Bool):=
.br (decide ((c.D3.length:Int)≥(16:Int))) (.lf (c,false)) (.cn (decide (c.D3.length+1≤maxLen)) (.lf ({D3:=c.D3++[(λ(n:Int)=>UInt8.ofNat n.toNat) b]},true)))
def Qn5(c:Q0d)(b:Int):(Q0d×Bool):=(Qc3 c b).m
abbrev Qyi(c:Q0d)(b:Int):Prop:=(Qc3 c b).p
def Qhd(m:(List Int))(frame:Int):Tree Bool:=
.lv (Q4f m) λ(x0:Int)=> .lf (decide (wrap u64 frame<wrap u64 x0))
def Q25(m:(List Int))(frame:Int):Bool:=(Qhd m frame).m
def Qea(m:(List Int))(addr:Int)(size:Int)(v:Int):Tree (List Int):=
let E1:=Nat.beq 1 1&&Nat.blt 0 1&&decide (0≤wrap u32 (Int.tdiv addr 4)∧wrap u32 (Int.tdiv addr 4)<(m.length:Int));let E2:=Int.toNat (wrap u32 (Int.tdiv addr 4)); .br (size==4) (.cn E1 (.lf (List.set m E2 v))) (.cn E1 (let E3:=decide (0≤wrap u32 (8*Int.tmod addr 4)); .cn E3 (.cn E3 (.cn E1 (.lf (List.set m E2 (ior u32 (Qdr u32 (m.getD E2 0) (ishl u32 255 (wrap u32 (8*Int.tmod addr 4)))) (ishl u32 (iand u32 v 255) (wrap u32 (8*Int.tmod addr 4))))))))))
def Qa5(m:(List Int))(addr:Int)(size:Int)(v:Int):(List Int):=(Qea m addr size v).m
abbrev Qfy(m:(List Int))(addr:Int)(size:Int)(v:Int):Prop:=(Qea m addr size v).p
def Qf9(m:(List Int))(frame:Int)(s:(List UInt8))(z:(Int)×(List Int)):Nat:=(128-z.1).toNat
def Qaf(m:(List Int))(frame:Int)(s:(List UInt8)):Tree (List Int):=
.lp inferInstance (Qf9 m frame s (0,m)+1) ((True∧rE (frame:Int)∧rE (s:List UInt8)∧rE (0:Int)∧True)∧rE (m:List Int)∧True) (0,m) λ(v0:Int×List Int)=> .br (decide (v0.1<(s.length:Int))) (.br (decide (v0.1<128)) (.cn (decide (0≤v0.1∧v0.1<(s.length:Int))) (let E1:=wrap u32 (↑(UInt8.toNat (s.getD v0.1.toNat (0:UInt8))):Int);let E2:=wrap u32 (wrap i64 (wrap i64 (frame*128)+v0.1)); .an (Qfy v0.2 E2 1 E1) (.lv (Qa5 v0.2 E2 1 E1) λ(x0:List Int)=> .nx ((True∧rE (frame:Int)∧rE (s:List UInt8)∧rE ((wrap i64 (v0.1+1)):Int)∧True)∧rE (x0:List Int)∧True) (Sum.inl (wrap i64 (v0.1+1),x0))))) (.lf (Sum.inr v0.2))) (.lf (Sum.inr v0.2))
def Qio(m:(List Int))(frame:Int)(s:(List UInt8)):(List Int):=(Qaf m frame s).m
abbrev Qnl(m:(List Int))(frame:Int)(s:(List UInt8)):Prop:=(Qaf m frame s).p
def Q79(d0:Q0b)(m:(List Int))(e:Q09):Tree (Q0b×Bool×(List Int)):=
.br (d0.B8 !=1) (.lf (d0,false,m)) (.br (e.C3 !=4) (.lf (d0,false,m)) (.br (decide (e.N>1)) (.lf (d0,false,m)) (let E4:=({Blocks:=d0.Blocks,C0:=d0.C0,B1:=d0.B1,B8:=2,D9:=0,B6:=0,A9:=0,C2:=[]}:Q0b);let E5:=({Blocks:=d0.Blocks,C0:=d0.C0,B1:=d0.B1,B8:=3,D9:=0,B6:=0,A9:=0,C2:=[]}:Q0b);let T2:Tree ((Q0b×Bool×(List Int))):= .br (e.N==1) (.lf (E4,true,m)) (.lf (E5,true,m));let E6:=decide ((e.C8.length:Int)>(0:Int)); .br (e.N==1) (let T1:Tree ((Q0b×Bool×(List Int))):= .br (d0.D9==1) (.an (Qnl m (wrap i64 d0.A9) e.C8) (.lv (Qio m (wrap i64 d0.A9) e.C8) λ(x1:List Int)=> .br (e.N==1) (.lf (E4,true,x1)) (.lf (E5,true,x1)))) T2;let T3:Tree ((Q0b×Bool×(List Int))):= .br (!d0.D9==1) (.br E6 (.lf (d0,false,m)) T1) T1; .br (d0.D9==1) (.br ((e.C8.length:Int) !=(128:Int)) (.lf (d0,false,m)) (.lv (Q25 m d0.A9) λ(x0:Bool)=> .br (!x0) (.lf (d0,false,m)) T3)) T3) (.br E6 (.lf (d0,false,m)) T2))))
def Qah(d0:Q0b)(m:(List Int))(e:Q09):(Q0b×Bool×(List Int)):=(Q79 d0 m e).m
abbrev Qsw(d0:Q0b)(m:(List Int))(e:Q09):Prop:=(Q79 d0 m e).p
def Q7h(n:Q0m)(m:(List Int))(frame:(List UInt8)):Tree (Q0m×Bool×(List Int)):=
.br (!n.C4) (.lf (n,false,m)) (.br (decide ((frame.length:Int)<(1:Int))) (.lf (n,false,m)) (.br (decide ((frame.length:Int)>(128:Int))) (.lf (n,false,m)) (.lv (Q25 m n.B9) λ(x0:Bool)=> .br (!x0) (.lf (n,false,m)) (.an (Qnl m (wrap i64 n.B9) frame) (.lv (Qio m (wrap i64 n.B9) frame) λ(x1:List Int)=> .lf ({B1:=n.B1,F1:=n.F1,C4:=false,B9:=0,B7:=true,F3:=wrap u32 (frame.length:Int)},true,x1))))))
def Qaj(n:Q0m)(m:(List Int))(frame:(List UInt8)):(Q0m×Bool×(List Int)):=(Q7h n m frame).m
abbrev Qus(n:Q0m)(m:(List Int))(frame:(List UInt8)):Prop:=(Q7h n m frame).p
def Q83(m:Q00)(e:Q09):Tree (Bool×Q00):=
.br m.A6 (.lf (false,m)) (let T1:Tree ((Bool×Q00)):= .br (e.C3==4) (.an (Qsw m.B0 m.Mem e) (.lv (Qah m.B0 m.Mem e) λ(x2:Q0b×Bool×List Int)=> .lf (x2.2.1,{B2:=m.B2,Mem:=x2.2.2,A2:=m.A2,A7:=m.A7,B0:=x2.1,C5:=m.C5,A1:=m.A1,A4:=m.A4,A3:=m.A3,A6:=m.A6}))) (let T3:Tree ((Bool×Q00)):= .br (e.C3==6) (.br (decide (e.C8=[])) (.lf (true,{B2:=m.B2,Mem:=m.Mem,A2:=m.A2,A7:=m.A7,B0:=m.B0,C5:=m.C5,A1:={C7:=e.N,C1:=m.A1.C1},A4:=m.A4,A3:=m.A3,A6:=m.A6})) (.lf (false,m))) (.lf (false,m)); .br (e.C3==5) (.br (e.N==0) (.an (Qus m.C5 m.Mem e.C8) (.lv (Qaj m.C5 m.Mem e.C8) λ(x3:Q0m×Bool×List Int)=> .lf (x3.2.1,{B2:=m.B2,Mem:=x3.2.2,A2:=m.A2,A7:=m.A7,B0:=m.B0,C5:=x3.1,A1:=m.A1,A4:=m.A4,A3:=m.A3,A6:=m.A6}))) T3) T3);let T2:Tree ((Bool×Q00)):= .br (e.C3==3) (.br (decide (e.N≤255)) (.br (decide (e.C8=[])) (.an (Qyi m.A2 (wrap u8 e.N)) (.lv (Qn5 m.A2 (wrap u8 e.N)) λ(x1:Q0d×Bool)=> .lf (x1.2,{B2:=m.B2,Mem:=m.Mem,A2:=x1.1,A7:=m.A7,B0:=m.B0,C5:=m.C5,A1:=m.A1,A4:=m.A4,A3:=m.A3,A6:=m.A6}))) T1) T1) T1; .br (e.C3==2) (.br (e.N==0) (.br (decide (e.C8=[])) (.lv (Qme m.A7) λ(x0:Q0g×Bool)=> .lf (x0.2,{B2:=m.B2,Mem:=m.Mem,A2:=m.A2,A7:=x0.1,B0:=m.B0,C5:=m.C5,A1:=m.A1,A4:=m.A4,A3:=m.A3,A6:=m.A6})) T2) T2) T2)
def Q1r(m:Q00)(e:Q09):(Bool×Q00):=(Q83 m e).m
abbrev Qvo(m:Q00)(e:Q09):Prop:=(Q83 m e).p
def Qhj(is:Bool)(n:Int):Tree Int:=
.br is (.cn (decide (0≤wrap u64 n)) (.lf (ishl u32 1 (wrap u64 n)))) (.lf 0)
def Q9u(is:Bool)(n:Int):Int:=(Qhj is n).m
abbrev Qb4(is:Bool)(n:Int):Prop:=(Qhj is n).p
def Qmb(t:Q0g):Tree Bool:=
.lf t.D6
def Qbz(t:Q0g):Bool:=(Qmb t).m
def Qip(c:Q0d):Tree Bool:=
.lf (decide ((c.D3.length:Int)>(0:Int)))
def Q7g(c:Q0d):Bool:=(Qip c).m
def Qmj(d0:Q0b):Tree Bool:=
.br (d0.B8==2) (.lf true) (.lf (d0.B8==3))
def Qdi(d0:Q0b):Bool:=(Qmj d0).m
def Qp4(n:Q0m):Tree Bool:=
.lf n.B7
def Qev(n:Q0m):Bool:=(Qp4 n).m
def Qr6(b:Q07)(z:(Int)×(Int)):Nat:=(32-z.2).toNat
def Z3i(b:Q07):Tree Int:=
.lp inferInstance (Qr6 b (0,0)+1) (((rE (0:Nat)∧rE (0:Nat))∧rE (0:Int)∧rE (0:Int)∧True)∧(rE b.C7∧rE b.C1∧True)∧True) (0,0) λ(v0:Int×Int)=> .br (decide (v0.2<32)) (.cn (decide (0≤wrap u64 v0.2)) (.nx (((rE (0:Nat)∧rE (0:Nat))∧rE ((wrap i64 (v0.1+wrap i64 (iand u32 (ishr u32 b.C1 (wrap u64 v0.2)) 1))):Int)∧rE ((wrap i64 (v0.2+1)):Int)∧True)∧(rE b.C7∧rE b.C1∧True)∧True) (Sum.inl (wrap i64 (v0.1+wrap i64 (iand u32 (ishr u32 b.C1 (wrap u64 v0.2)) 1)),wrap i64 (v0.2+1))))) (.lf (Sum.inr v0.1))
def Qe8(b:Q07):Int:=(Z3i b).m
def Qd3(b:Q07):Tree Bool:=
.lv (Qe8 b) λ(x0:Int)=> .lf (wrap u64 x0 !=wrap u64 b.C7)
def Q5i(b:Q07):Bool:=(Qd3 b).m
def Qfz(m:Q00):Tree Int:=
.lv (Qbz m.A7) λ(x0:Bool)=> .an (Qb4 x0 0) (.lv (Q9u x0 0) λ(x1:Int)=> .lv (Q7g m.A2) λ(x2:Bool)=> .an (Qb4 x2 1) (.lv (Q9u x2 1) λ(x3:Int)=> .lv (Qdi m.B0) λ(x4:Bool)=> .an (Qb4 x4 2) (.lv (Q9u x4 2) λ(x5:Int)=> .lv (Qev m.C5) λ(x6:Bool)=> .an (Qb4 x6 3) (.lv (Q9u x6 3) λ(x7:Int)=> .lv (Q5i m.A1) λ(x8:Bool)=> .an (Qb4 x8 4) (.lv (Q9u x8 4) λ(x9:Int)=> .lf (ior u32 (ior u32 (ior u32 (ior u32 x1 x3) x5) x7) x9))))))
def Qh6(m:Q00):Int:=(Qfz m).m
abbrev Qvy(m:Q00):Prop:=(Qfz m).p
def Q9m(m:Q00):Tree Int:=
.an (Qvy m) (.lv (Qh6 m) λ(x0:Int)=> .lf (iand u32 x0 m.B2.B5.a7))
def Q3l(m:Q00):Int:=(Q9m m).m
abbrev Qia(m:Q00):Prop:=(Q9m m).p
def Qlt(m:Q00):Tree Bool:=
.br m.A3 (.an (Qia m) (.lv (Q3l m) λ(x0:Int)=> .lf (x0==0))) (.lf false)
def Qfq(m:Q00):Bool:=(Qlt m).m
abbrev Qyv(m:Q00):Prop:=(Qlt m).p
def Qcx(m:Q00):Tree Bool:=
.lv (Q7i m) λ(x0:Bool)=> .br (!x0) (.lf true) (.br m.A6 (.lf true) (.an (Qyv m) (.lv (Qfq m) λ(x1:Bool)=> .br x1 (.lf true) (.lf (decide (m.A4≥1152921504606846976))))))
def Q1b(m:Q00):Bool:=(Qcx m).m
abbrev Qw3(m:Q00):Prop:=(Qcx m).p
end
end Go.Proofs.YtpcbkbalabgnlaaGreat

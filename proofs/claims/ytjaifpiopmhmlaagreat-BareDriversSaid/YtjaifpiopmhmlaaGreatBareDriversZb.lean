/-
  Functions of the program: models, and that its calls come to them (by a program: gen3.py).
-/
import Derived.Test.YtjaifpiopmhmlaaGreatBareDriversBase
import Derived.Test.YtjaifpiopmhmlaaGreatBareDriversZa
import Derived.Test.YtjaifpiopmhmlaaGreatBareDriversYe
set_option maxRecDepth 100000
set_option linter.unusedVariables false
set_option linter.unusedSimpArgs false
namespace Go.Proofs.YtjaifpiopmhmlaaGreat
open Go Go.GD Go.IntKind
noncomputable section
def Z9z(b:Bool):Tree Int:=
.br b (.lf 1) (.lf 0)
def Qad(b:Bool):Int:=(Z9z b).m
def Qhw(c:Q02)(cause:Int)(bad:Int):Tree Q02:=
.lv (Qad (iand u32 c.B4.a0 (1:Int) !=(0:Int))) λ(x0:Int)=> .lv (Qad (iand u32 c.B4.a0 (2:Int) !=(0:Int))) λ(x1:Int)=> .lf ({X:=c.X,Pc:=c.B4.a1,B4:={a0:=ior u32 (Qd8 u32 (ior u32 (ior u32 (Qd8 u32 c.B4.a0 24) (wrap u32 (8*x0))) (wrap u32 (16*x1))) 2) 1,a1:=c.B4.a1,a2:=c.Pc,a3:=wrap u32 cause,a4:=bad,a5:=c.B4.a5,a6:=c.B4.a6,a7:=c.B4.a7}})
def Q2u(c:Q02)(cause:Int)(bad:Int):Q02:=(Qhw c cause bad).m
def Q8j(m:(List Int))(addr:Int)(size:Int):Tree Bool:=
let T1:Tree (Bool):= .cn (decide (wrap u32 size≠0)) (.br (Int.tmod addr (wrap u32 size)==0) (.lv (Q4 m) λ(x0:Int)=> .lf (decide (addr<wrap u32 (wrap i64 (128*x0))))) (.lf false)); .br (size !=1) (.br (size !=4) (.lf false) T1) T1
def Q2(m:(List Int))(addr:Int)(size:Int):Bool:=(Q8j m addr size).m
abbrev Qea(m:(List Int))(addr:Int)(size:Int):Prop:=(Q8j m addr size).p
def Q45(m:(List Int))(addr:Int)(size:Int):Tree (Int×Bool):=
.an (Qea m addr size) (.lv (Q2 m addr size) λ(x0:Bool)=> .br (!x0) (.lf (0,false)) (.cn (Nat.beq 1 1&&Nat.blt 0 1&&decide (0≤wrap u32 (Int.tdiv addr 4)∧wrap u32 (Int.tdiv addr 4)<(m.length:Int))) (.br (size==1) (.cn (decide (0≤wrap u32 (8*Int.tmod addr 4))) (.lf (iand u32 (ishr u32 (m.getD (Int.toNat (wrap u32 (Int.tdiv addr 4))) 0) (wrap u32 (8*Int.tmod addr 4))) 255,true))) (.lf (m.getD (Int.toNat (wrap u32 (Int.tdiv addr 4))) 0,true)))))
def Q11(m:(List Int))(addr:Int)(size:Int):(Int×Bool):=(Q45 m addr size).m
abbrev Qdn(m:(List Int))(addr:Int)(size:Int):Prop:=(Q45 m addr size).p
def Q6p(w:Int):Tree (Q0g×Bool):=
.lv (Q23 (wrap i64 (ishr u32 w 24))) λ(x0:Int)=>let E5:=({Op:=0,A:=0,B:=0,C:=0,Imm:=0}:Q0g); .br (x0==0) (.lf (E5,false)) (.br (x0==2) (let E3:=({Op:=wrap i64 (ishr u32 w 24),A:=wrap i64 (iand u32 (ishr u32 w 20) 15),B:=wrap i64 (iand u32 (ishr u32 w 16) 15),C:=wrap i64 (iand u32 w 65535),Imm:=0}:Q0g); .lv (Q5v E3) λ(x1:Bool)=> .br (!x1) (.lf (E5,false)) (.lf (E3,true))) (let T1:Tree ((Q0g×Bool)):=let E2:=({Op:=wrap i64 (ishr u32 w 24),A:=wrap i64 (iand u32 (ishr u32 w 20) 15),B:=wrap i64 (iand u32 (ishr u32 w 16) 15),C:=0,Imm:=wrap i32 (wrap i16 (iand u32 w 65535))}:Q0g); .lv (Q5v E2) λ(x2:Bool)=> .br (!x2) (.lf (E5,false)) (.lf (E2,true)); .br (x0==3) T1 (.br (x0==7) T1 (let E4:=({Op:=wrap i64 (ishr u32 w 24),A:=wrap i64 (iand u32 (ishr u32 w 20) 15),B:=wrap i64 (iand u32 (ishr u32 w 16) 15),C:=0,Imm:=wrap i32 (iand u32 w 65535)}:Q0g); .lv (Q5v E4) λ(x4:Bool)=> .br (!x4) (.lf (E5,false)) (.lf (E4,true))))))
def Q1r(w:Int):(Q0g×Bool):=(Q6p w).m
def Z1r(access:Int):Tree Bool:=
.br (decide (access≥1)) (.lf (decide (access≤3))) (.lf false)
def Qdr(access:Int):Bool:=(Z1r access).m
def Z4i(c:Q02):Tree Bool:=
.lf (iand u32 c.B4.a0 (5:Int)==(4:Int))
def Qk2(c:Q02):Bool:=(Z4i c).m
def Q92(access:Int):Tree Int:=
.br (access==1) (.lf 4) (.br (access==3) (.lf 6) (.lf 5))
def Q1z(access:Int):Int:=(Q92 access).m
def Q9g(m:(List Int))(root:Int)(va:Int)(access:Int):Tree Q12:=
.lv (Q1z access) λ(x0:Int)=> .lv (Q4 m) λ(x1:Int)=> .lv (Qdr access) λ(x2:Bool)=>let E4:=({Addr:=0,E0:=0,D8:=x0}:Q12); .br (!x2) (.lf (E4)) (.br (decide (va≥4096)) (.lf (E4)) (.br (decide (root≥wrap u32 x1)) (.lf (E4)) (let E6:=wrap u32 (root*128)+wrap u32 (4*wrap u32 (Int.tdiv va 128));let E3:=Int.tdiv (wrap u32 E6) 4; .cn (Nat.beq 1 1&&Nat.blt 0 1&&decide (0≤wrap u32 E3∧wrap u32 E3<(m.length:Int))) (let E5:=m.getD (Int.toNat (wrap u32 E3)) 0; .br (iand u32 E5 (1:Int)==(0:Int)) (.lf (E4)) (let T1:Tree (Q12):= .br (decide (iand u32 (ishr u32 E5 8) 255≥wrap u32 x1)) (.lf (E4)) (.lf ({Addr:=wrap u32 (wrap u32 (iand u32 (ishr u32 E5 8) (255:Int)*(128:Int))+Int.tmod va 128),E0:=wrap u32 E6,D8:=0}));let T2:Tree (Q12):= .br (access==1) (.br (iand u32 E5 (4:Int)==(0:Int)) (.lf (E4)) T1) T1; .br (access==3) (.br (iand u32 E5 (2:Int)==(0:Int)) (.lf (E4)) T2) T2)))))
def Q5w(m:(List Int))(root:Int)(va:Int)(access:Int):Q12:=(Q9g m root va access).m
abbrev Qzl(m:(List Int))(root:Int)(va:Int)(access:Int):Prop:=(Q9g m root va access).p
def Qf(m:(List Int))(entry:Int)(access:Int):Tree (List Int):=
.an (Qea m entry 4) (.lv (Q2 m entry 4) λ(x0:Bool)=> .br (!x0) (.lf m) (let E3:=Nat.beq 1 1&&Nat.blt 0 1&&decide (0≤wrap u32 (Int.tdiv entry 4)∧wrap u32 (Int.tdiv entry 4)<(m.length:Int)); .cn E3 (.cn E3 (let E4:=Int.toNat (wrap u32 (Int.tdiv entry 4));let E1:=List.set m E4 (ior u32 (m.getD E4 0) 8); .br (access==3) (let E2:=Nat.beq 1 1&&Nat.blt 0 1&&decide (0≤wrap u32 (Int.tdiv entry 4)∧wrap u32 (Int.tdiv entry 4)<(↑(List.length E1):Int)); .cn E2 (.cn E2 (.lf (List.set E1 E4 (ior u32 (List.getD E1 E4 0) 16))))) (.lf E1)))))
def Qn2(m:(List Int))(entry:Int)(access:Int):(List Int):=(Qf m entry access).m
abbrev Z0i(m:(List Int))(entry:Int)(access:Int):Prop:=(Qf m entry access).p
def Q82(c:Q02)(m:(List Int))(va:Int)(size:Int)(access:Int):Tree (Int×Int×(List Int)):=
.lv (Qdr access) λ(x0:Bool)=> .br (!x0) (.lf (0,5,m)) (let T1:Tree ((Int×Int×(List Int))):= .cn (decide (wrap u32 size≠0)) (.br (Int.tmod va (wrap u32 size) !=0) (.lf (0,3,m)) (.lv (Qk2 c) λ(x1:Bool)=> .br (!x1) (.an (Qea m va size) (.lv (Q2 m va size) λ(x2:Bool)=> .br (!x2) (.lv (Q1z access) λ(x3:Int)=> .lf (0,x3,m)) (.lf (va,0,m)))) (.an (Qzl m c.B4.a6 va access) (.lv (Q5w m c.B4.a6 va access) λ(x4:Q12)=> .br (x4.D8 !=0) (.lf (0,x4.D8,m)) (.an (Z0i m x4.E0 access) (.lv (Qn2 m x4.E0 access) λ(x5:List Int)=> .lf (x4.Addr,0,x5))))))); .br (size !=1) (.br (size !=4) (.lf (0,5,m)) T1) T1)
def Q0w(c:Q02)(m:(List Int))(va:Int)(size:Int)(access:Int):(Int×Int×(List Int)):=(Q82 c m va size access).m
abbrev Q8y(c:Q02)(m:(List Int))(va:Int)(size:Int)(access:Int):Prop:=(Q82 c m va size access).p
def Qp6(op:Int):Tree Bool:=
.br (decide (op≥57)) (.lf (decide (op≤64))) (.lf false)
def Q3n(op:Int):Bool:=(Qp6 op).m
def Qdi(c:Q02):Tree Q02:=
.lv (Qad (iand u32 c.B4.a0 (8:Int) !=(0:Int))) λ(x0:Int)=> .lv (Qad (iand u32 c.B4.a0 (16:Int) !=(0:Int))) λ(x1:Int)=> .lf ({X:=c.X,Pc:=c.B4.a2,B4:={a0:=ior u32 (ior u32 (Qd8 u32 c.B4.a0 3) (wrap u32 (1*x0))) (wrap u32 (2*x1)),a1:=c.B4.a1,a2:=c.B4.a2,a3:=c.B4.a3,a4:=c.B4.a4,a5:=c.B4.a5,a6:=c.B4.a6,a7:=c.B4.a7}})
def Qhb(c:Q02):Q02:=(Qdi c).m
def Qdt(c:Q02)(r:Int)(v:Int):Tree Q02:=
.br (decide (r>0)) (.br (decide (r<16)) (.cn (Nat.blt 0 1&&decide (0≤r∧r<(↑16:Int))) (.lf ({X:=A16.of 0 (List.set (A16.l c.X) r.toNat v),Pc:=c.Pc,B4:=c.B4}))) (.lf c)) (.lf c)
def Q1o(c:Q02)(r:Int)(v:Int):Q02:=(Qdt c r v).m
abbrev Q3o(c:Q02)(r:Int)(v:Int):Prop:=(Qdt c r v).p
def Qc4(c:Q02)(csr:Int)(v:Int):Tree Q02:=
let E4:=Nat.blt 0 1&&decide (0≤csr∧csr<(↑8:Int));let T2:Tree (Q02):= .cn E4 (.lf ({X:=c.X,Pc:=c.Pc,B4:=A8.of 0 (List.set (A8.l c.B4) csr.toNat (iand u32 v 31))})); .br (csr==0) T2 (.br (csr==7) T2 (.br (csr==6) (.cn E4 (.lf ({X:=c.X,Pc:=c.Pc,B4:=A8.of 0 (List.set (A8.l c.B4) csr.toNat (iand u32 v 255))}))) (let T3:Tree (Q02):= .cn E4 (.lf ({X:=c.X,Pc:=c.Pc,B4:=A8.of 0 (List.set (A8.l c.B4) csr.toNat (Qd8 u32 v 3))})); .br (csr==1) T3 (.br (csr==2) T3 (let T1:Tree (Q02):= .cn E4 (.lf ({X:=c.X,Pc:=c.Pc,B4:=A8.of 0 (List.set (A8.l c.B4) csr.toNat v)})); .br (csr==3) T1 (.br (csr==4) T1 (.br (csr==5) T1 (.lf c))))))))
def Qgb(c:Q02)(csr:Int)(v:Int):Q02:=(Qc4 c csr v).m
abbrev Qvn(c:Q02)(csr:Int)(v:Int):Prop:=(Qc4 c csr v).p
def Q8b(c:Q02)(i:Q0g):Tree (Q02×Q0z):=
.br (i.Op==56) (.lv (Q2u c 7 0) λ(x0:Q02)=> .lf (x0,{B2:=0,C8:=0,D7:=0,Value:=0})) (.br (i.Op==57) (.lv (Qhb c) λ(x1:Q02)=> .lf (x1,{B2:=0,C8:=0,D7:=0,Value:=0})) (.br (i.Op==58) (.cn (Nat.blt 0 1&&decide (0≤i.Imm∧i.Imm<(↑8:Int))) (let E3:=List.getD (A8.l c.B4) i.Imm.toNat 0; .an (Q3o c i.A E3) (.lv (Q1o c i.A E3) λ(x2:Q02)=> .lf ({X:=x2.X,Pc:=wrap u32 (x2.Pc+4),B4:=x2.B4},{B2:=0,C8:=0,D7:=0,Value:=0})))) (let E2:=Nat.blt 0 1&&decide (0≤i.A∧i.A<(↑16:Int)); .br (i.Op==59) (.cn E2 (let E4:=List.getD (A16.l c.X) i.A.toNat 0; .an (Qvn c (wrap i64 i.Imm) E4) (.lv (Qgb c (wrap i64 i.Imm) E4) λ(x3:Q02)=> .lf ({X:=x3.X,Pc:=wrap u32 (x3.Pc+4),B4:=x3.B4},{B2:=0,C8:=0,D7:=0,Value:=0})))) (let E1:=({X:=c.X,Pc:=wrap u32 (c.Pc+4),B4:=c.B4}:Q02); .br (i.Op==60) (.lf (E1,{B2:=1,C8:=wrap i64 i.Imm,D7:=i.A,Value:=0})) (.br (i.Op==61) (.cn E2 (.lf (E1,{B2:=2,C8:=wrap i64 i.Imm,D7:=0,Value:=List.getD (A16.l c.X) i.A.toNat 0}))) (.br (i.Op==62) (.lf (E1,{B2:=3,C8:=0,D7:=0,Value:=0})) (.br (i.Op==63) (.lf (E1,{B2:=5,C8:=0,D7:=0,Value:=0})) (.br (i.Op==64) (.lf (E1,{B2:=4,C8:=0,D7:=0,Value:=0})) (.lf (E1,{B2:=0,C8:=0,D7:=0,Value:=0}))))))))))
def Qi(c:Q02)(i:Q0g):(Q02×Q0z):=(Q8b c i).m
abbrev Qu7(c:Q02)(i:Q0g):Prop:=(Q8b c i).p
def Z2l(op:Int)(a:Int)(b:Int):Tree Bool:=
.br (op==40) (.lf (a==b)) (.br (op==41) (.lf (a !=b)) (.br (op==42) (.lf (decide (wrap i32 a<wrap i32 b))) (.br (op==43) (.lf (decide (wrap i32 a≥wrap i32 b))) (.br (op==44) (.lf (decide (a<b))) (.lf (decide (a≥b)))))))
def Q2b(op:Int)(a:Int)(b:Int):Bool:=(Z2l op a b).m
def Qhz(c:Q02)(i:Q0g):Tree Q02:=
.br (i.Op==48) (.an (Q3o c i.A (wrap u32 (c.Pc+4))) (.lv (Q1o c i.A (wrap u32 (c.Pc+4))) λ(x0:Q02)=> .lf ({X:=x0.X,Pc:=wrap u32 (c.Pc+wrap u32 (4*wrap u32 i.Imm)),B4:=x0.B4}))) (let E1:=Nat.blt 0 1&&decide (0≤i.B∧i.B<(↑16:Int)); .br (i.Op==49) (.cn E1 (.an (Q3o c i.A (wrap u32 (c.Pc+4))) (.lv (Q1o c i.A (wrap u32 (c.Pc+4))) λ(x1:Q02)=> .lf ({X:=x1.X,Pc:=wrap u32 (List.getD (A16.l c.X) i.B.toNat 0+wrap u32 i.Imm),B4:=x1.B4})))) (.cn (Nat.blt 0 1&&decide (0≤i.A∧i.A<(↑16:Int))) (.cn E1 (.lv (Q2b i.Op (List.getD (A16.l c.X) i.A.toNat 0) (List.getD (A16.l c.X) i.B.toNat 0)) λ(x2:Bool)=> .br x2 (.lf ({X:=c.X,Pc:=wrap u32 (c.Pc+wrap u32 (4*wrap u32 i.Imm)),B4:=c.B4})) (.lf ({X:=c.X,Pc:=wrap u32 (c.Pc+4),B4:=c.B4}))))))
def Z1t(c:Q02)(i:Q0g):Q02:=(Qhz c i).m
abbrev Qzw(c:Q02)(i:Q0g):Prop:=(Qhz c i).p
def Q8l(x:Int)(n:Int):Tree Int:=
.br (decide (n<1)) (.lf 0) (.br (decide (n≥32)) (.lf x) (.cn (decide (0≤wrap u64 n)) (.cn (decide (0≤wrap u64 (wrap i64 (n-1)))) (let E1:=iand u32 x (wrap u32 (ishl u32 1 (wrap u64 n)-1)); .br (ishr u32 E1 (wrap u64 (wrap i64 (n-1)))==1) (.cn (decide (0≤wrap u64 n)) (.lf (ior u32 E1 (ishl u32 4294967295 (wrap u64 n))))) (.lf E1)))))
def Q3p(x:Int)(n:Int):Int:=(Q8l x n).m
abbrev Qe8(x:Int)(n:Int):Prop:=(Q8l x n).p
def Qa5(c:Q02)(m:(List Int))(i:Q0g):Tree (Q02×(List Int)):=
.cn (Nat.blt 0 1&&decide (0≤i.B∧i.B<(↑16:Int))) (let E4:=wrap u32 (List.getD (A16.l c.X) i.B.toNat 0+wrap u32 i.Imm);let E5:=List.getD (A16.l c.X) i.A.toNat 0;let E6:=Nat.blt 0 1&&decide (0≤i.A∧i.A<(↑16:Int));let E7:=({X:=c.X,Pc:=wrap u32 (c.Pc+4),B4:=c.B4}:Q02);let T1:Tree ((Q02×(List Int))):=let T3:Tree ((Q02×(List Int))):= .an (Q8y c m E4 4 3) (.lv (Q0w c m E4 4 3) λ(x0:Int×Int×List Int)=> .br (x0.2.1 !=0) (.lv (Q2u c x0.2.1 E4) λ(x1:Q02)=> .lf (x1,x0.2.2)) (.cn E6 (.an (Qfu x0.2.2 x0.1 4 E5) (.lv (Q97 x0.2.2 x0.1 4 E5) λ(x2:List Int)=> .lf (E7,x2))))); .br (i.Op==35) T3 (.br (i.Op==36) T3 (.an (Q8y c m E4 4 2) (.lv (Q0w c m E4 4 2) λ(x6:Int×Int×List Int)=> .br (x6.2.1 !=0) (.lv (Q2u c x6.2.1 E4) λ(x7:Q02)=> .lf (x7,x6.2.2)) (.an (Qdn x6.2.2 x6.1 4) (.lv (Q11 x6.2.2 x6.1 4) λ(x8:Int×Bool)=> .br (i.Op==33) (.an (Qe8 x8.1 8) (.lv (Q3p x8.1 8) λ(x9:Int)=> .an (Q3o c i.A x9) (.lv (Q1o c i.A x9) λ(x10:Q02)=> .lf ({X:=x10.X,Pc:=wrap u32 (x10.Pc+4),B4:=x10.B4},x6.2.2)))) (.an (Q3o c i.A x8.1) (.lv (Q1o c i.A x8.1) λ(x11:Q02)=> .lf ({X:=x11.X,Pc:=wrap u32 (x11.Pc+4),B4:=x11.B4},x6.2.2)))))))); .br (i.Op==32) T1 (.br (i.Op==35) T1 (let T2:Tree ((Q02×(List Int))):= .an (Q8y c m E4 1 3) (.lv (Q0w c m E4 1 3) λ(x24:Int×Int×List Int)=> .br (x24.2.1 !=0) (.lv (Q2u c x24.2.1 E4) λ(x25:Q02)=> .lf (x25,x24.2.2)) (.cn E6 (.an (Qfu x24.2.2 x24.1 1 E5) (.lv (Q97 x24.2.2 x24.1 1 E5) λ(x26:List Int)=> .lf (E7,x26))))); .br (i.Op==35) T2 (.br (i.Op==36) T2 (.an (Q8y c m E4 1 2) (.lv (Q0w c m E4 1 2) λ(x30:Int×Int×List Int)=> .br (x30.2.1 !=0) (.lv (Q2u c x30.2.1 E4) λ(x31:Q02)=> .lf (x31,x30.2.2)) (.an (Qdn x30.2.2 x30.1 1) (.lv (Q11 x30.2.2 x30.1 1) λ(x32:Int×Bool)=> .br (i.Op==33) (.an (Qe8 x32.1 8) (.lv (Q3p x32.1 8) λ(x33:Int)=> .an (Q3o c i.A x33) (.lv (Q1o c i.A x33) λ(x34:Q02)=> .lf ({X:=x34.X,Pc:=wrap u32 (x34.Pc+4),B4:=x34.B4},x30.2.2)))) (.an (Q3o c i.A x32.1) (.lv (Q1o c i.A x32.1) λ(x35:Q02)=> .lf ({X:=x35.X,Pc:=wrap u32 (x35.Pc+4),B4:=x35.B4},x30.2.2)))))))))))
def Q5e(c:Q02)(m:(List Int))(i:Q0g):(Q02×(List Int)):=(Qa5 c m i).m
abbrev Qpb(c:Q02)(m:(List Int))(i:Q0g):Prop:=(Qa5 c m i).p
def Z33(op:Int):Tree Int:=
.br (op==16) (.lf 1) (.br (op==17) (.lf 3) (.br (op==18) (.lf 4) (.br (op==19) (.lf 5) (.br (op==20) (.lf 6) (.br (op==21) (.lf 7) (.br (op==22) (.lf 8) (.br (op==23) (.lf 12) (.lf op))))))))
def Z9p(op:Int):Int:=(Z33 op).m
def Qa1(a:Int)(b:Int):Tree (Int×Int):=
.br (b==0) (.lf (4294967295,a)) (.cn (decide (wrap i64 (wrap i32 b)≠0)) (.cn (decide (wrap i64 (wrap i32 b)≠0)) (.lf (wrap u32 (wrap i64 (Int.tdiv (wrap i64 (wrap i32 a)) (wrap i64 (wrap i32 b)))),wrap u32 (Int.tmod (wrap i64 (wrap i32 a)) (wrap i64 (wrap i32 b)))))))
def Qb1(a:Int)(b:Int):(Int×Int):=(Qa1 a b).m
abbrev Qil(a:Int)(b:Int):Prop:=(Qa1 a b).p
def Qkf(op:Int)(a:Int)(b:Int):Tree (Int×Bool):=
.lv (Z9p op) λ(x0:Int)=> .br (x0==1) (.lf (wrap u32 (a+b),true)) (.br (x0==2) (.lf (wrap u32 (a-b),true)) (.br (x0==3) (.lf (iand u32 a b,true)) (.br (x0==4) (.lf (ior u32 a b,true)) (.br (x0==5) (.lf (ixor u32 a b,true)) (.br (x0==6) (.lf (ishl u32 a (iand u32 b 31),true)) (.br (x0==7) (.lf (ishr u32 a (iand u32 b 31),true)) (.br (x0==8) (.lf (wrap u32 (ishr i32 (wrap i32 a) (iand u32 b 31)),true)) (.br (x0==9) (.lf (wrap u32 (a*b),true)) (.br (x0==10) (.an (Qil a b) (.lv (Qb1 a b) λ(x1:Int×Int)=> .lf (x1.1,true))) (.br (x0==11) (.an (Qil a b) (.lv (Qb1 a b) λ(x2:Int×Int)=> .lf (x2.2,true))) (.br (x0==12) (.lv (Qad (decide (wrap i32 a<wrap i32 b))) λ(x3:Int)=> .lf (x3,true)) (.br (x0==13) (.lv (Qad (decide (a<b))) λ(x4:Int)=> .lf (x4,true)) (.lf (0,false))))))))))))))
def Qbi(op:Int)(a:Int)(b:Int):(Int×Bool):=(Qkf op a b).m
abbrev Qpr(op:Int)(a:Int)(b:Int):Prop:=(Qkf op a b).p
def Qmm(c:Q02)(m:(List Int)):Tree (Q02×Q0z×(List Int)):=
.an (Q8y c m c.Pc 4 1) (.lv (Q0w c m c.Pc 4 1) λ(x0:Int×Int×List Int)=> .br (x0.2.1 !=0) (.lv (Q2u c x0.2.1 c.Pc) λ(x1:Q02)=> .lf (x1,{B2:=0,C8:=0,D7:=0,Value:=0},x0.2.2)) (.an (Qdn x0.2.2 x0.1 4) (.lv (Q11 x0.2.2 x0.1 4) λ(x2:Int×Bool)=> .lv (Q1r x2.1) λ(x3:Q0g×Bool)=> .br (!x3.2) (.lv (Q2u c 1 x2.1) λ(x4:Q02)=> .lf (x4,{B2:=0,C8:=0,D7:=0,Value:=0},x0.2.2)) (.lv (Q3n x3.1.Op) λ(x5:Bool)=>let T1:Tree ((Q02×Q0z×(List Int))):= .br (decide (x3.1.Op≥56)) (.an (Qu7 c x3.1) (.lv (Qi c x3.1) λ(x7:Q02×Q0z)=> .lf (x7.1,x7.2,x0.2.2))) (.br (decide (x3.1.Op≥40)) (.an (Qzw c x3.1) (.lv (Z1t c x3.1) λ(x8:Q02)=> .lf (x8,{B2:=0,C8:=0,D7:=0,Value:=0},x0.2.2))) (.br (decide (x3.1.Op≥32)) (.an (Qpb c x0.2.2 x3.1) (.lv (Q5e c x0.2.2 x3.1) λ(x9:Q02×List Int)=> .lf (x9.1,{B2:=0,C8:=0,D7:=0,Value:=0},x9.2))) (.br (x3.1.Op==24) (.an (Q3o c x3.1.A (ishl u32 (wrap u32 x3.1.Imm) 16)) (.lv (Q1o c x3.1.A (ishl u32 (wrap u32 x3.1.Imm) 16)) λ(x10:Q02)=> .lf ({X:=x10.X,Pc:=wrap u32 (x10.Pc+4),B4:=x10.B4},{B2:=0,C8:=0,D7:=0,Value:=0},x0.2.2))) (let E2:=List.getD (A16.l c.X) x3.1.B.toNat 0;let E3:=Nat.blt 0 1&&decide (0≤x3.1.B∧x3.1.B<(↑16:Int)); .br (decide (x3.1.Op≤13)) (.cn (Nat.blt 0 1&&decide (0≤x3.1.C∧x3.1.C<(↑16:Int))) (.cn E3 (let E4:=List.getD (A16.l c.X) x3.1.C.toNat 0; .an (Qpr x3.1.Op E2 E4) (.lv (Qbi x3.1.Op E2 E4) λ(x11:Int×Bool)=> .an (Q3o c x3.1.A x11.1) (.lv (Q1o c x3.1.A x11.1) λ(x12:Q02)=> .lf ({X:=x12.X,Pc:=wrap u32 (x12.Pc+4),B4:=x12.B4},{B2:=0,C8:=0,D7:=0,Value:=0},x0.2.2)))))) (.cn E3 (.an (Qpr x3.1.Op E2 (wrap u32 x3.1.Imm)) (.lv (Qbi x3.1.Op E2 (wrap u32 x3.1.Imm)) λ(x13:Int×Bool)=> .an (Q3o c x3.1.A x13.1) (.lv (Q1o c x3.1.A x13.1) λ(x14:Q02)=> .lf ({X:=x14.X,Pc:=wrap u32 (x14.Pc+4),B4:=x14.B4},{B2:=0,C8:=0,D7:=0,Value:=0},x0.2.2))))))))); .br x5 (.br (iand u32 c.B4.a0 (1:Int)==(0:Int)) (.lv (Q2u c 2 x2.1) λ(x6:Q02)=> .lf (x6,{B2:=0,C8:=0,D7:=0,Value:=0},x0.2.2)) T1) T1))))
def Qay(c:Q02)(m:(List Int)):(Q02×Q0z×(List Int)):=(Qmm c m).m
abbrev Z5i(c:Q02)(m:(List Int)):Prop:=(Qmm c m).p
end
end Go.Proofs.YtjaifpiopmhmlaaGreat

/-
  Functions of the program: models, and that its calls come to them (by a program: gen3.py).
-/
import Derived.Test.YtpcbkbalabgnlaaGreatRecordTimerBase
import Derived.Test.YtpcbkbalabgnlaaGreatRecordTimerZa
import Derived.Test.YtpcbkbalabgnlaaGreatRecordTimerYe
set_option linter.unusedVariables false
set_option linter.unusedSimpArgs false
namespace Go.Proofs.YtpcbkbalabgnlaaGreat
open Go Go.GD Go.IntKind
set_option maxRecDepth 100000
noncomputable section
def Z9t(b:Bool):Tree Int:=
.br b (.lf 1) (.lf 0)
def Qb5(b:Bool):Int:=(Z9t b).m
def Qhl(c:Q03)(cause:Int)(bad:Int):Tree Q03:=
.lv (Qb5 (iand u32 c.B5.a0 (1:Int) !=(0:Int))) λ(x0:Int)=> .lv (Qb5 (iand u32 c.B5.a0 (2:Int) !=(0:Int))) λ(x1:Int)=> .lf ({X:=c.X,Pc:=c.B5.a1,B5:={a0:=ior u32 (Qdr u32 (ior u32 (ior u32 (Qdr u32 c.B5.a0 24) (wrap u32 (8*x0))) (wrap u32 (16*x1))) 2) 1,a1:=c.B5.a1,a2:=c.Pc,a3:=wrap u32 cause,a4:=bad,a5:=c.B5.a5,a6:=c.B5.a6,a7:=c.B5.a7}})
def Q35(c:Q03)(cause:Int)(bad:Int):Q03:=(Qhl c cause bad).m
def Q91(m:(List Int))(addr:Int)(size:Int):Tree Bool:=
let T1:Tree (Bool):= .cn (decide (wrap u32 size≠0)) (.br (Int.tmod addr (wrap u32 size)==0) (.lv (Q4f m) λ(x0:Int)=> .lf (decide (addr<wrap u32 (wrap i64 (128*x0))))) (.lf false)); .br (size !=1) (.br (size !=4) (.lf false) T1) T1
def Q23(m:(List Int))(addr:Int)(size:Int):Bool:=(Q91 m addr size).m
abbrev Qf4(m:(List Int))(addr:Int)(size:Int):Prop:=(Q91 m addr size).p
def Q4l(m:(List Int))(addr:Int)(size:Int):Tree (Int×Bool):=
.an (Qf4 m addr size) (.lv (Q23 m addr size) λ(x0:Bool)=> .br (!x0) (.lf (0,false)) (.cn (Nat.beq 1 1&&Nat.blt 0 1&&decide (0≤wrap u32 (Int.tdiv addr 4)∧wrap u32 (Int.tdiv addr 4)<(m.length:Int))) (.br (size==1) (.cn (decide (0≤wrap u32 (8*Int.tmod addr 4))) (.lf (iand u32 (ishr u32 (m.getD (Int.toNat (wrap u32 (Int.tdiv addr 4))) 0) (wrap u32 (8*Int.tmod addr 4))) 255,true))) (.lf (m.getD (Int.toNat (wrap u32 (Int.tdiv addr 4))) 0,true)))))
def Q15(m:(List Int))(addr:Int)(size:Int):(Int×Bool):=(Q4l m addr size).m
abbrev Qdx(m:(List Int))(addr:Int)(size:Int):Prop:=(Q4l m addr size).p
def Q7b(w:Int):Tree (Q0h×Bool):=
.lv (Q26 (wrap i64 (ishr u32 w 24))) λ(x0:Int)=>let E5:=({Op:=0,A:=0,B:=0,C:=0,Imm:=0}:Q0h); .br (x0==0) (.lf (E5,false)) (.br (x0==2) (let E3:=({Op:=wrap i64 (ishr u32 w 24),A:=wrap i64 (iand u32 (ishr u32 w 20) 15),B:=wrap i64 (iand u32 (ishr u32 w 16) 15),C:=wrap i64 (iand u32 w 65535),Imm:=0}:Q0h); .lv (Q6u E3) λ(x1:Bool)=> .br (!x1) (.lf (E5,false)) (.lf (E3,true))) (let T1:Tree ((Q0h×Bool)):=let E2:=({Op:=wrap i64 (ishr u32 w 24),A:=wrap i64 (iand u32 (ishr u32 w 20) 15),B:=wrap i64 (iand u32 (ishr u32 w 16) 15),C:=0,Imm:=wrap i32 (wrap i16 (iand u32 w 65535))}:Q0h); .lv (Q6u E2) λ(x2:Bool)=> .br (!x2) (.lf (E5,false)) (.lf (E2,true)); .br (x0==3) T1 (.br (x0==7) T1 (let E4:=({Op:=wrap i64 (ishr u32 w 24),A:=wrap i64 (iand u32 (ishr u32 w 20) 15),B:=wrap i64 (iand u32 (ishr u32 w 16) 15),C:=0,Imm:=wrap i32 (iand u32 w 65535)}:Q0h); .lv (Q6u E4) λ(x4:Bool)=> .br (!x4) (.lf (E5,false)) (.lf (E4,true))))))
def Q1w(w:Int):(Q0h×Bool):=(Q7b w).m
def Z1y(access:Int):Tree Bool:=
.br (decide (access≥1)) (.lf (decide (access≤3))) (.lf false)
def Qec(access:Int):Bool:=(Z1y access).m
def Z3u(c:Q03):Tree Bool:=
.lf (iand u32 c.B5.a0 (5:Int)==(4:Int))
def Qk7(c:Q03):Bool:=(Z3u c).m
def Q9p(access:Int):Tree Int:=
.br (access==1) (.lf 4) (.br (access==3) (.lf 6) (.lf 5))
def Q20(access:Int):Int:=(Q9p access).m
def Qak(m:(List Int))(root:Int)(va:Int)(access:Int):Tree Q16:=
.lv (Q20 access) λ(x0:Int)=> .lv (Q4f m) λ(x1:Int)=> .lv (Qec access) λ(x2:Bool)=>let E4:=({Addr:=0,F2:=0,F0:=x0}:Q16); .br (!x2) (.lf (E4)) (.br (decide (va≥4096)) (.lf (E4)) (.br (decide (root≥wrap u32 x1)) (.lf (E4)) (let E6:=wrap u32 (root*128)+wrap u32 (4*wrap u32 (Int.tdiv va 128));let E3:=Int.tdiv (wrap u32 E6) 4; .cn (Nat.beq 1 1&&Nat.blt 0 1&&decide (0≤wrap u32 E3∧wrap u32 E3<(m.length:Int))) (let E5:=m.getD (Int.toNat (wrap u32 E3)) 0; .br (iand u32 E5 (1:Int)==(0:Int)) (.lf (E4)) (let T1:Tree (Q16):= .br (decide (iand u32 (ishr u32 E5 8) 255≥wrap u32 x1)) (.lf (E4)) (.lf ({Addr:=wrap u32 (wrap u32 (iand u32 (ishr u32 E5 8) (255:Int)*(128:Int))+Int.tmod va 128),F2:=wrap u32 E6,F0:=0}));let T2:Tree (Q16):= .br (access==1) (.br (iand u32 E5 (4:Int)==(0:Int)) (.lf (E4)) T1) T1; .br (access==3) (.br (iand u32 E5 (2:Int)==(0:Int)) (.lf (E4)) T2) T2)))))
def Q70(m:(List Int))(root:Int)(va:Int)(access:Int):Q16:=(Qak m root va access).m
abbrev Z0c(m:(List Int))(root:Int)(va:Int)(access:Int):Prop:=(Qak m root va access).p
def Qfa(m:(List Int))(entry:Int)(access:Int):Tree (List Int):=
.an (Qf4 m entry 4) (.lv (Q23 m entry 4) λ(x0:Bool)=> .br (!x0) (.lf m) (let E3:=Nat.beq 1 1&&Nat.blt 0 1&&decide (0≤wrap u32 (Int.tdiv entry 4)∧wrap u32 (Int.tdiv entry 4)<(m.length:Int)); .cn E3 (.cn E3 (let E4:=Int.toNat (wrap u32 (Int.tdiv entry 4));let E1:=List.set m E4 (ior u32 (m.getD E4 0) 8); .br (access==3) (let E2:=Nat.beq 1 1&&Nat.blt 0 1&&decide (0≤wrap u32 (Int.tdiv entry 4)∧wrap u32 (Int.tdiv entry 4)<(↑(List.length E1):Int)); .cn E2 (.cn E2 (.lf (List.set E1 E4 (ior u32 (List.getD E1 E4 0) 16))))) (.lf E1)))))
def Qmw(m:(List Int))(entry:Int)(access:Int):(List Int):=(Qfa m entry access).m
abbrev Qz9(m:(List Int))(entry:Int)(access:Int):Prop:=(Qfa m entry access).p
def Q84(c:Q03)(m:(List Int))(va:Int)(size:Int)(access:Int):Tree (Int×Int×(List Int)):=
.lv (Qec access) λ(x0:Bool)=> .br (!x0) (.lf (0,5,m)) (let T1:Tree ((Int×Int×(List Int))):= .cn (decide (wrap u32 size≠0)) (.br (Int.tmod va (wrap u32 size) !=0) (.lf (0,3,m)) (.lv (Qk7 c) λ(x1:Bool)=> .br (!x1) (.an (Qf4 m va size) (.lv (Q23 m va size) λ(x2:Bool)=> .br (!x2) (.lv (Q20 access) λ(x3:Int)=> .lf (0,x3,m)) (.lf (va,0,m)))) (.an (Z0c m c.B5.a6 va access) (.lv (Q70 m c.B5.a6 va access) λ(x4:Q16)=> .br (x4.F0 !=0) (.lf (0,x4.F0,m)) (.an (Qz9 m x4.F2 access) (.lv (Qmw m x4.F2 access) λ(x5:List Int)=> .lf (x4.Addr,0,x5))))))); .br (size !=1) (.br (size !=4) (.lf (0,5,m)) T1) T1)
def Q0w(c:Q03)(m:(List Int))(va:Int)(size:Int)(access:Int):(Int×Int×(List Int)):=(Q84 c m va size access).m
abbrev Qa2(c:Q03)(m:(List Int))(va:Int)(size:Int)(access:Int):Prop:=(Q84 c m va size access).p
def Qov(op:Int):Tree Bool:=
.br (decide (op≥57)) (.lf (decide (op≤64))) (.lf false)
def Q49(op:Int):Bool:=(Qov op).m
def Qdv(c:Q03):Tree Q03:=
.lv (Qb5 (iand u32 c.B5.a0 (8:Int) !=(0:Int))) λ(x0:Int)=> .lv (Qb5 (iand u32 c.B5.a0 (16:Int) !=(0:Int))) λ(x1:Int)=> .lf ({X:=c.X,Pc:=c.B5.a2,B5:={a0:=ior u32 (ior u32 (Qdr u32 c.B5.a0 3) (wrap u32 (1*x0))) (wrap u32 (2*x1)),a1:=c.B5.a1,a2:=c.B5.a2,a3:=c.B5.a3,a4:=c.B5.a4,a5:=c.B5.a5,a6:=c.B5.a6,a7:=c.B5.a7}})
def Qho(c:Q03):Q03:=(Qdv c).m
def Qe6(c:Q03)(r:Int)(v:Int):Tree Q03:=
.br (decide (r>0)) (.br (decide (r<16)) (.cn (Nat.blt 0 1&&decide (0≤r∧r<(↑16:Int))) (.lf ({X:=A16.of 0 (List.set (A16.l c.X) r.toNat v),Pc:=c.Pc,B5:=c.B5}))) (.lf c)) (.lf c)
def Q1t(c:Q03)(r:Int)(v:Int):Q03:=(Qe6 c r v).m
abbrev Q4b(c:Q03)(r:Int)(v:Int):Prop:=(Qe6 c r v).p
def Qcu(c:Q03)(csr:Int)(v:Int):Tree Q03:=
let E4:=Nat.blt 0 1&&decide (0≤csr∧csr<(↑8:Int));let T2:Tree (Q03):= .cn E4 (.lf ({X:=c.X,Pc:=c.Pc,B5:=A8.of 0 (List.set (A8.l c.B5) csr.toNat (iand u32 v 31))})); .br (csr==0) T2 (.br (csr==7) T2 (.br (csr==6) (.cn E4 (.lf ({X:=c.X,Pc:=c.Pc,B5:=A8.of 0 (List.set (A8.l c.B5) csr.toNat (iand u32 v 255))}))) (let T3:Tree (Q03):= .cn E4 (.lf ({X:=c.X,Pc:=c.Pc,B5:=A8.of 0 (List.set (A8.l c.B5) csr.toNat (Qdr u32 v 3))})); .br (csr==1) T3 (.br (csr==2) T3 (let T1:Tree (Q03):= .cn E4 (.lf ({X:=c.X,Pc:=c.Pc,B5:=A8.of 0 (List.set (A8.l c.B5) csr.toNat v)})); .br (csr==3) T1 (.br (csr==4) T1 (.br (csr==5) T1 (.lf c))))))))
def Qgl(c:Q03)(csr:Int)(v:Int):Q03:=(Qcu c csr v).m
abbrev Qwj(c:Q03)(csr:Int)(v:Int):Prop:=(Qcu c csr v).p
def Q8s(c:Q03)(i:Q0h):Tree (Q03×Q13):=
.br (i.Op==56) (.lv (Q35 c 7 0) λ(x0:Q03)=> .lf (x0,{C3:=0,C9:=0,E0:=0,Value:=0})) (.br (i.Op==57) (.lv (Qho c) λ(x1:Q03)=> .lf (x1,{C3:=0,C9:=0,E0:=0,Value:=0})) (.br (i.Op==58) (.cn (Nat.blt 0 1&&decide (0≤i.Imm∧i.Imm<(↑8:Int))) (let E3:=List.getD (A8.l c.B5) i.Imm.toNat 0; .an (Q4b c i.A E3) (.lv (Q1t c i.A E3) λ(x2:Q03)=> .lf ({X:=x2.X,Pc:=wrap u32 (x2.Pc+4),B5:=x2.B5},{C3:=0,C9:=0,E0:=0,Value:=0})))) (let E2:=Nat.blt 0 1&&decide (0≤i.A∧i.A<(↑16:Int)); .br (i.Op==59) (.cn E2 (let E4:=List.getD (A16.l c.X) i.A.toNat 0; .an (Qwj c (wrap i64 i.Imm) E4) (.lv (Qgl c (wrap i64 i.Imm) E4) λ(x3:Q03)=> .lf ({X:=x3.X,Pc:=wrap u32 (x3.Pc+4),B5:=x3.B5},{C3:=0,C9:=0,E0:=0,Value:=0})))) (let E1:=({X:=c.X,Pc:=wrap u32 (c.Pc+4),B5:=c.B5}:Q03); .br (i.Op==60) (.lf (E1,{C3:=1,C9:=wrap i64 i.Imm,E0:=i.A,Value:=0})) (.br (i.Op==61) (.cn E2 (.lf (E1,{C3:=2,C9:=wrap i64 i.Imm,E0:=0,Value:=List.getD (A16.l c.X) i.A.toNat 0}))) (.br (i.Op==62) (.lf (E1,{C3:=3,C9:=0,E0:=0,Value:=0})) (.br (i.Op==63) (.lf (E1,{C3:=5,C9:=0,E0:=0,Value:=0})) (.br (i.Op==64) (.lf (E1,{C3:=4,C9:=0,E0:=0,Value:=0})) (.lf (E1,{C3:=0,C9:=0,E0:=0,Value:=0}))))))))))
def Qhm(c:Q03)(i:Q0h):(Q03×Q13):=(Q8s c i).m
abbrev Qt5(c:Q03)(i:Q0h):Prop:=(Q8s c i).p
def Z2w(op:Int)(a:Int)(b:Int):Tree Bool:=
.br (op==40) (.lf (a==b)) (.br (op==41) (.lf (a !=b)) (.br (op==42) (.lf (decide (wrap i32 a<wrap i32 b))) (.br (op==43) (.lf (decide (wrap i32 a≥wrap i32 b))) (.br (op==44) (.lf (decide (a<b))) (.lf (decide (a≥b)))))))
def Q2j(op:Int)(a:Int)(b:Int):Bool:=(Z2w op a b).m
def Qhv(c:Q03)(i:Q0h):Tree Q03:=
.br (i.Op==48) (.an (Q4b c i.A (wrap u32 (c.Pc+4))) (.lv (Q1t c i.A (wrap u32 (c.Pc+4))) λ(x0:Q03)=> .lf ({X:=x0.X,Pc:=wrap u32 (c.Pc+wrap u32 (4*wrap u32 i.Imm)),B5:=x0.B5}))) (let E1:=Nat.blt 0 1&&decide (0≤i.B∧i.B<(↑16:Int)); .br (i.Op==49) (.cn E1 (.an (Q4b c i.A (wrap u32 (c.Pc+4))) (.lv (Q1t c i.A (wrap u32 (c.Pc+4))) λ(x1:Q03)=> .lf ({X:=x1.X,Pc:=wrap u32 (List.getD (A16.l c.X) i.B.toNat 0+wrap u32 i.Imm),B5:=x1.B5})))) (.cn (Nat.blt 0 1&&decide (0≤i.A∧i.A<(↑16:Int))) (.cn E1 (.lv (Q2j i.Op (List.getD (A16.l c.X) i.A.toNat 0) (List.getD (A16.l c.X) i.B.toNat 0)) λ(x2:Bool)=> .br x2 (.lf ({X:=c.X,Pc:=wrap u32 (c.Pc+wrap u32 (4*wrap u32 i.Imm)),B5:=c.B5})) (.lf ({X:=c.X,Pc:=wrap u32 (c.Pc+4),B5:=c.B5}))))))
def Z3t(c:Q03)(i:Q0h):Q03:=(Qhv c i).m
abbrev Z0p(c:Q03)(i:Q0h):Prop:=(Qhv c i).p
def Q8u(x:Int)(n:Int):Tree Int:=
.br (decide (n<1)) (.lf 0) (.br (decide (n≥32)) (.lf x) (.cn (decide (0≤wrap u64 n)) (.cn (decide (0≤wrap u64 (wrap i64 (n-1)))) (let E1:=iand u32 x (wrap u32 (ishl u32 1 (wrap u64 n)-1)); .br (ishr u32 E1 (wrap u64 (wrap i64 (n-1)))==1) (.cn (decide (0≤wrap u64 n)) (.lf (ior u32 E1 (ishl u32 4294967295 (wrap u64 n))))) (.lf E1)))))
def Q4c(x:Int)(n:Int):Int:=(Q8u x n).m
abbrev Qep(x:Int)(n:Int):Prop:=(Q8u x n).p
def Qbk(c:Q03)(m:(List Int))(i:Q0h):Tree (Q03×(List Int)):=
.cn (Nat.blt 0 1&&decide (0≤i.B∧i.B<(↑16:Int))) (let E4:=wrap u32 (List.getD (A16.l c.X) i.B.toNat 0+wrap u32 i.Imm);let E5:=List.getD (A16.l c.X) i.A.toNat 0;let E6:=Nat.blt 0 1&&decide (0≤i.A∧i.A<(↑16:Int));let E7:=({X:=c.X,Pc:=wrap u32 (c.Pc+4),B5:=c.B5}:Q03);let T1:Tree ((Q03×(List Int))):=let T3:Tree ((Q03×(List Int))):= .an (Qa2 c m E4 4 3) (.lv (Q0w c m E4 4 3) λ(x0:Int×Int×List Int)=> .br (x0.2.1 !=0) (.lv (Q35 c x0.2.1 E4) λ(x1:Q03)=> .lf (x1,x0.2.2)) (.cn E6 (.an (Qfy x0.2.2 x0.1 4 E5) (.lv (Qa5 x0.2.2 x0.1 4 E5) λ(x2:List Int)=> .lf (E7,x2))))); .br (i.Op==35) T3 (.br (i.Op==36) T3 (.an (Qa2 c m E4 4 2) (.lv (Q0w c m E4 4 2) λ(x6:Int×Int×List Int)=> .br (x6.2.1 !=0) (.lv (Q35 c x6.2.1 E4) λ(x7:Q03)=> .lf (x7,x6.2.2)) (.an (Qdx x6.2.2 x6.1 4) (.lv (Q15 x6.2.2 x6.1 4) λ(x8:Int×Bool)=> .br (i.Op==33) (.an (Qep x8.1 8) (.lv (Q4c x8.1 8) λ(x9:Int)=> .an (Q4b c i.A x9) (.lv (Q1t c i.A x9) λ(x10:Q03)=> .lf ({X:=x10.X,Pc:=wrap u32 (x10.Pc+4),B5:=x10.B5},x6.2.2)))) (.an (Q4b c i.A x8.1) (.lv (Q1t c i.A x8.1) λ(x11:Q03)=> .lf ({X:=x11.X,Pc:=wrap u32 (x11.Pc+4),B5:=x11.B5},x6.2.2)))))))); .br (i.Op==32) T1 (.br (i.Op==35) T1 (let T2:Tree ((Q03×(List Int))):= .an (Qa2 c m E4 1 3) (.lv (Q0w c m E4 1 3) λ(x24:Int×Int×List Int)=> .br (x24.2.1 !=0) (.lv (Q35 c x24.2.1 E4) λ(x25:Q03)=> .lf (x25,x24.2.2)) (.cn E6 (.an (Qfy x24.2.2 x24.1 1 E5) (.lv (Qa5 x24.2.2 x24.1 1 E5) λ(x26:List Int)=> .lf (E7,x26))))); .br (i.Op==35) T2 (.br (i.Op==36) T2 (.an (Qa2 c m E4 1 2) (.lv (Q0w c m E4 1 2) λ(x30:Int×Int×List Int)=> .br (x30.2.1 !=0) (.lv (Q35 c x30.2.1 E4) λ(x31:Q03)=> .lf (x31,x30.2.2)) (.an (Qdx x30.2.2 x30.1 1) (.lv (Q15 x30.2.2 x30.1 1) λ(x32:Int×Bool)=> .br (i.Op==33) (.an (Qep x32.1 8) (.lv (Q4c x32.1 8) λ(x33:Int)=> .an (Q4b c i.A x33) (.lv (Q1t c i.A x33) λ(x34:Q03)=> .lf ({X:=x34.X,Pc:=wrap u32 (x34.Pc+4),B5:=x34.B5},x30.2.2)))) (.an (Q4b c i.A x32.1) (.lv (Q1t c i.A x32.1) λ(x35:Q03)=> .lf ({X:=x35.X,Pc:=wrap u32 (x35.Pc+4),B5:=x35.B5},x30.2.2)))))))))))
def Q66(c:Q03)(m:(List Int))(i:Q0h):(Q03×(List Int)):=(Qbk c m i).m
abbrev Qo(c:Q03)(m:(List Int))(i:Q0h):Prop:=(Qbk c m i).p
def Z4r(op:Int):Tree Int:=
.br (op==16) (.lf 1) (.br (op==17) (.lf 3) (.br (op==18) (.lf 4) (.br (op==19) (.lf 5) (.br (op==20) (.lf 6) (.br (op==21) (.lf 7) (.br (op==22) (.lf 8) (.br (op==23) (.lf 12) (.lf op))))))))
def Zas(op:Int):Int:=(Z4r op).m
def Qb(a:Int)(b:Int):Tree (Int×Int):=
.br (b==0) (.lf (4294967295,a)) (.cn (decide (wrap i64 (wrap i32 b)≠0)) (.cn (decide (wrap i64 (wrap i32 b)≠0)) (.lf (wrap u32 (wrap i64 (Int.tdiv (wrap i64 (wrap i32 a)) (wrap i64 (wrap i32 b)))),wrap u32 (Int.tmod (wrap i64 (wrap i32 a)) (wrap i64 (wrap i32 b)))))))
def Qc8(a:Int)(b:Int):(Int×Int):=(Qb a b).m
abbrev Qje(a:Int)(b:Int):Prop:=(Qb a b).p
def Qk3(op:Int)(a:Int)(b:Int):Tree (Int×Bool):=
.lv (Zas op) λ(x0:Int)=> .br (x0==1) (.lf (wrap u32 (a+b),true)) (.br (x0==2) (.lf (wrap u32 (a-b),true)) (.br (x0==3) (.lf (iand u32 a b,true)) (.br (x0==4) (.lf (ior u32 a b,true)) (.br (x0==5) (.lf (ixor u32 a b,true)) (.br (x0==6) (.lf (ishl u32 a (iand u32 b 31),true)) (.br (x0==7) (.lf (ishr u32 a (iand u32 b 31),true)) (.br (x0==8) (.lf (wrap u32 (ishr i32 (wrap i32 a) (iand u32 b 31)),true)) (.br (x0==9) (.lf (wrap u32 (a*b),true)) (.br (x0==10) (.an (Qje a b) (.lv (Qc8 a b) λ(x1:Int×Int)=> .lf (x1.1,true))) (.br (x0==11) (.an (Qje a b) (.lv (Qc8 a b) λ(x2:Int×Int)=> .lf (x2.2,true))) (.br (x0==12) (.lv (Qb5 (decide (wrap i32 a<wrap i32 b))) λ(x3:Int)=> .lf (x3,true)) (.br (x0==13) (.lv (Qb5 (decide (a<b))) λ(x4:Int)=> .lf (x4,true)) (.lf (0,false))))))))))))))
def Qck(op:Int)(a:Int)(b:Int):(Int×Bool):=(Qk3 op a b).m
abbrev Qql(op:Int)(a:Int)(b:Int):Prop:=(Qk3 op a b).p
def Qnf(c:Q03)(m:(List Int)):Tree (Q03×Q13×(List Int)):=
.an (Qa2 c m c.Pc 4 1) (.lv (Q0w c m c.Pc 4 1) λ(x0:Int×Int×List Int)=> .br (x0.2.1 !=0) (.lv (Q35 c x0.2.1 c.Pc) λ(x1:Q03)=> .lf (x1,{C3:=0,C9:=0,E0:=0,Value:=0},x0.2.2)) (.an (Qdx x0.2.2 x0.1 4) (.lv (Q15 x0.2.2 x0.1 4) λ(x2:Int×Bool)=> .lv (Q1w x2.1) λ(x3:Q0h×Bool)=> .br (!x3.2) (.lv (Q35 c 1 x2.1) λ(x4:Q03)=> .lf (x4,{C3:=0,C9:=0,E0:=0,Value:=0},x0.2.2)) (.lv (Q49 x3.1.Op) λ(x5:Bool)=>let T1:Tree ((Q03×Q13×(List Int))):= .br (decide (x3.1.Op≥56)) (.an (Qt5 c x3.1) (.lv (Qhm c x3.1) λ(x7:Q03×Q13)=> .lf (x7.1,x7.2,x0.2.2))) (.br (decide (x3.1.Op≥40)) (.an (Z0p c x3.1) (.lv (Z3t c x3.1) λ(x8:Q03)=> .lf (x8,{C3:=0,C9:=0,E0:=0,Value:=0},x0.2.2))) (.br (decide (x3.1.Op≥32)) (.an (Qo c x0.2.2 x3.1) (.lv (Q66 c x0.2.2 x3.1) λ(x9:Q03×List Int)=> .lf (x9.1,{C3:=0,C9:=0,E0:=0,Value:=0},x9.2))) (.br (x3.1.Op==24) (.an (Q4b c x3.1.A (ishl u32 (wrap u32 x3.1.Imm) 16)) (.lv (Q1t c x3.1.A (ishl u32 (wrap u32 x3.1.Imm) 16)) λ(x10:Q03)=> .lf ({X:=x10.X,Pc:=wrap u32 (x10.Pc+4),B5:=x10.B5},{C3:=0,C9:=0,E0:=0,Value:=0},x0.2.2))) (let E2:=List.getD (A16.l c.X) x3.1.B.toNat 0;let E3:=Nat.blt 0 1&&decide (0≤x3.1.B∧x3.1.B<(↑16:Int)); .br (decide (x3.1.Op≤13)) (.cn (Nat.blt 0 1&&decide (0≤x3.1.C∧x3.1.C<(↑16:Int))) (.cn E3 (let E4:=List.getD (A16.l c.X) x3.1.C.toNat 0; .an (Qql x3.1.Op E2 E4) (.lv (Qck x3.1.Op E2 E4) λ(x11:Int×Bool)=> .an (Q4b c x3.1.A x11.1) (.lv (Q1t c x3.1.A x11.1) λ(x12:Q03)=> .lf ({X:=x12.X,Pc:=wrap u32 (x12.Pc+4),B5:=x12.B5},{C3:=0,C9:=0,E0:=0,Value:=0},x0.2.2)))))) (.cn E3 (.an (Qql x3.1.Op E2 (wrap u32 x3.1.Imm)) (.lv (Qck x3.1.Op E2 (wrap u32 x3.1.Imm)) λ(x13:Int×Bool)=> .an (Q4b c x3.1.A x13.1) (.lv (Q1t c x3.1.A x13.1) λ(x14:Q03)=> .lf ({X:=x14.X,Pc:=wrap u32 (x14.Pc+4),B5:=x14.B5},{C3:=0,C9:=0,E0:=0,Value:=0},x0.2.2))))))))); .br x5 (.br (iand u32 c.B5.a0 (1:Int)==(0:Int)) (.lv (Q35 c 2 x2.1) λ(x6:Q03)=> .lf (x6,{C3:=0,C9:=0,E0:=0,Value:=0},x0.2.2)) T1) T1))))
def Qbx(c:Q03)(m:(List Int)):(Q03×Q13×(List Int)):=(Qnf c m).m
abbrev Z5y(c:Q03)(m:(List Int)):Prop:=(Qnf c m).p
end
end Go.Proofs.YtpcbkbalabgnlaaGreat

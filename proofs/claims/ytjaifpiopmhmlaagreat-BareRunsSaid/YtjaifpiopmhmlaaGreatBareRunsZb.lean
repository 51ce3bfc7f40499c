import Derived.Test.YtjaifpiopmhmlaaGreatBareRunsBase
import Derived.Test.YtjaifpiopmhmlaaGreatBareRunsZa
import Derived.Test.YtjaifpiopmhmlaaGreatBareRunsYe
set_option maxRecDepth 100000
set_option linter.all false
namespace Go.Proofs.YtjaifpiopmhmlaaGreat
open Go Go.GD Go.IntKind
noncomputable section
def Z5w(b:Bool):Tree Int:=
.br b (.lf 1) (.lf 0)
def Qb1(b:Bool):Int:=(Z5w b).m
def Zkt:Q0c:=mkR 235 [] true [.one (.bool)] [] (λargs rows=>Qb1 (argB args 0)) (λX=> .int .u32 X) (λX=>[])
theorem Qqv:Q06 Tryz.prog Zkt:=Q0z Q0j Q0l (.nil) Tryz.func235 Tryz.call235 (λargs rows=>Z5w (argB args 0)) [] [] 2
def Qim(c:Q04)(cause:Int)(bad:Int):Tree Q04:=
.lv (Qb1 (iand u32 c.B5.a0 (1:Int) !=(0:Int))) λ(x0:Int)=> .lv (Qb1 (iand u32 c.B5.a0 (2:Int) !=(0:Int))) λ(x1:Int)=> .lf ({X:=c.X,Pc:=c.B5.a1,B5:={a0:=ior u32 (Qg7 u32 (ior u32 (ior u32 (Qg7 u32 c.B5.a0 24) (wrap u32 (8*x0))) (wrap u32 (16*x1))) 2) 1,a1:=c.B5.a1,a2:=c.Pc,a3:=wrap u32 cause,a4:=bad,a5:=c.B5.a5,a6:=c.B5.a6,a7:=c.B5.a7}})
def Q2s(c:Q04)(cause:Int)(bad:Int):Q04:=(Qim c cause bad).m
def Zgv:Q0c:=mkR 188 [] true [.agg Q04.sig, .one (.int .i64), .one (.int .u32)] [] (λargs rows=>Q2s (Q04.of (aC args 0)) (argI args 1) (argI args 2)) (λX=> .agg (Q04.cells X)) (λX=>[])
theorem Qj0:Q06 Tryz.prog Zgv:=Q0z Q0j Q0l (.cons Qqv (.nil)) Tryz.func188 Tryz.call188 (λargs rows=>Qim (Q04.of (aC args 0)) (argI args 1) (argI args 2)) [] [] 2
def Q7m(m:(List Int))(addr:Int)(size:Int):Tree Bool:=
let T1:Tree (Bool):= .cn (decide (wrap u32 size≠0)) (.br (Int.tmod addr (wrap u32 size)==0) (.lv (Q3k m) λ(x0:Int)=> .lf (decide (addr<wrap u32 (wrap i64 (128*x0))))) (.lf false)); .br (size !=1) (.br (size !=4) (.lf false) T1) T1
def Q22(m:(List Int))(addr:Int)(size:Int):Bool:=(Q7m m addr size).m
abbrev Qbx(m:(List Int))(addr:Int)(size:Int):Prop:=(Q7m m addr size).p
def Z9u:Q0c:=mkP 189 [] true [.one (.ints .u32), .one (.int .u32), .one (.int .i64)] [] (λargs rows=>Qbx (argL .u32 args 0) (argI args 1) (argI args 2)) (λargs rows=>Q22 (argL .u32 args 0) (argI args 1) (argI args 2)) (λX=> .bool X) (λX=>[])
theorem Qjf:Q06 Tryz.prog Z9u:=Q0n Q0j Q0l (.cons Qcg (.nil)) Tryz.func189 Tryz.call189 (λargs rows=>Q7m (argL .u32 args 0) (argI args 1) (argI args 2)) [] [] 2
def Q3t(m:(List Int))(addr:Int)(size:Int):Tree (Int×Bool):=
.an (Qbx m addr size) (.lv (Q22 m addr size) λ(x0:Bool)=> .br (!x0) (.lf (0,false)) (.cn (Nat.beq 1 1&&Nat.blt 0 1&&decide (0<=wrap u32 (Int.tdiv addr 4)/\wrap u32 (Int.tdiv addr 4)<(m.length:Int))) (.br (size==1) (.cn (decide (0<=wrap u32 (8*Int.tmod addr 4))) (.lf (iand u32 (ishr u32 (m.getD (Int.toNat (wrap u32 (Int.tdiv addr 4))) 0) (wrap u32 (8*Int.tmod addr 4))) 255,true))) (.lf (m.getD (Int.toNat (wrap u32 (Int.tdiv addr 4))) 0,true)))))
def Q17(m:(List Int))(addr:Int)(size:Int):(Int×Bool):=(Q3t m addr size).m
abbrev Qc5(m:(List Int))(addr:Int)(size:Int):Prop:=(Q3t m addr size).p
def Zg1:Q0c:=mkP 137 [] true [.one (.ints .u32), .one (.int .u32), .one (.int .i64)] [] (λargs rows=>Qc5 (argL .u32 args 0) (argI args 1) (argI args 2)) (λargs rows=>Q17 (argL .u32 args 0) (argI args 1) (argI args 2)) (λX=> .tup [.int .u32 (X.1), .bool (X.2)]) (λX=>[])
theorem Qog:Q06 Tryz.prog Zg1:=Q0n Q0j Q0l (.cons Qjf (.nil)) Tryz.func137 Tryz.call137 (λargs rows=>Q3t (argL .u32 args 0) (argI args 1) (argI args 2)) [] [] 2
def Q65(w:Int):Tree (Q0k×Bool):=
.lv (Q2d (wrap i64 (ishr u32 w 24))) λ(x0:Int)=>let E5:=({Op:=0,A:=0,B:=0,C:=0,Imm:=0}:Q0k); .br (x0==0) (.lf (E5,false)) (.br (x0==2) (let E3:=({Op:=wrap i64 (ishr u32 w 24),A:=wrap i64 (iand u32 (ishr u32 w 20) 15),B:=wrap i64 (iand u32 (ishr u32 w 16) 15),C:=wrap i64 (iand u32 w 65535),Imm:=0}:Q0k); .lv (Q6x E3) λ(x1:Bool)=> .br (!x1) (.lf (E5,false)) (.lf (E3,true))) (let T1:Tree ((Q0k×Bool)):=let E2:=({Op:=wrap i64 (ishr u32 w 24),A:=wrap i64 (iand u32 (ishr u32 w 20) 15),B:=wrap i64 (iand u32 (ishr u32 w 16) 15),C:=0,Imm:=wrap i32 (wrap i16 (iand u32 w 65535))}:Q0k); .lv (Q6x E2) λ(x2:Bool)=> .br (!x2) (.lf (E5,false)) (.lf (E2,true)); .br (x0==3) T1 (.br (x0==7) T1 (let E4:=({Op:=wrap i64 (ishr u32 w 24),A:=wrap i64 (iand u32 (ishr u32 w 20) 15),B:=wrap i64 (iand u32 (ishr u32 w 16) 15),C:=0,Imm:=wrap i32 (iand u32 w 65535)}:Q0k); .lv (Q6x E4) λ(x4:Bool)=> .br (!x4) (.lf (E5,false)) (.lf (E4,true))))))
def Q2(w:Int):(Q0k×Bool):=(Q65 w).m
def Z7z:Q0c:=mkR 138 [] true [.one (.int .u32)] [] (λargs rows=>Q2 (argI args 0)) (λX=> .tup [.agg (Q0k.cells (X.1)), .bool (X.2)]) (λX=>[])
theorem Qqg:Q06 Tryz.prog Z7z:=Q0z Q0j Q0l (.cons Qeh (.cons Qrl (.nil))) Tryz.func138 Tryz.call138 (λargs rows=>Q65 (argI args 0)) [] [] 2
def Qwz(access:Int):Tree Bool:=
.br (decide (access>=1)) (.lf (decide (access<=3))) (.lf false)
def Qdv(access:Int):Bool:=(Qwz access).m
def Ze0:Q0c:=mkR 236 [] true [.one (.int .i64)] [] (λargs rows=>Qdv (argI args 0)) (λX=> .bool X) (λX=>[])
theorem Qt5:Q06 Tryz.prog Ze0:=Q0z Q0j Q0l (.nil) Tryz.func236 Tryz.call236 (λargs rows=>Qwz (argI args 0)) [] [] 2
def Qxh(c:Q04):Tree Bool:=
.lf (iand u32 c.B5.a0 (5:Int)==(4:Int))
def Qkp(c:Q04):Bool:=(Qxh c).m
def Zdv:Q0c:=mkR 237 [] true [.agg Q04.sig] [] (λargs rows=>Qkp (Q04.of (aC args 0))) (λX=> .bool X) (λX=>[])
theorem Zad:Q06 Tryz.prog Zdv:=Q0z Q0j Q0l (.nil) Tryz.func237 Tryz.call237 (λargs rows=>Qxh (Q04.of (aC args 0))) [] [] 2
def Q8l(access:Int):Tree Int:=
.br (access==1) (.lf 4) (.br (access==3) (.lf 6) (.lf 5))
def Q20(access:Int):Int:=(Q8l access).m
def Z4s:Q0c:=mkR 238 [] true [.one (.int .i64)] [] (λargs rows=>Q20 (argI args 0)) (λX=> .int .i64 X) (λX=>[])
theorem Qok:Q06 Tryz.prog Z4s:=Q0z Q0j Q0l (.nil) Tryz.func238 Tryz.call238 (λargs rows=>Q8l (argI args 0)) [] [] 2
def Q95(m:(List Int))(root:Int)(va:Int)(access:Int):Tree Q15:=
.lv (Q20 access) λ(x0:Int)=> .lv (Q3k m) λ(x1:Int)=> .lv (Qdv access) λ(x2:Bool)=>let E4:=({Addr:=0,F4:=0,F1:=x0}:Q15); .br (!x2) (.lf (E4)) (.br (decide (va>=4096)) (.lf (E4)) (.br (decide (root>=wrap u32 x1)) (.lf (E4)) (let E6:=wrap u32 (root*128)+wrap u32 (4*wrap u32 (Int.tdiv va 128));let E3:=Int.tdiv (wrap u32 E6) 4; .cn (Nat.beq 1 1&&Nat.blt 0 1&&decide (0<=wrap u32 E3/\wrap u32 E3<(m.length:Int))) (let E5:=m.getD (Int.toNat (wrap u32 E3)) 0; .br (iand u32 E5 (1:Int)==(0:Int)) (.lf (E4)) (let T1:Tree (Q15):= .br (decide (iand u32 (ishr u32 E5 8) 255>=wrap u32 x1)) (.lf (E4)) (.lf ({Addr:=wrap u32 (wrap u32 (iand u32 (ishr u32 E5 8) (255:Int)*(128:Int))+Int.tmod va 128),F4:=wrap u32 E6,F1:=0}));let T2:Tree (Q15):= .br (access==1) (.br (iand u32 E5 (4:Int)==(0:Int)) (.lf (E4)) T1) T1; .br (access==3) (.br (iand u32 E5 (2:Int)==(0:Int)) (.lf (E4)) T2) T2)))))
def Q64(m:(List Int))(root:Int)(va:Int)(access:Int):Q15:=(Q95 m root va access).m
abbrev Qtr(m:(List Int))(root:Int)(va:Int)(access:Int):Prop:=(Q95 m root va access).p
def Zfi:Q0c:=mkP 239 [] true [.one (.ints .u32), .one (.int .u32), .one (.int .u32), .one (.int .i64)] [] (λargs rows=>Qtr (argL .u32 args 0) (argI args 1) (argI args 2) (argI args 3)) (λargs rows=>Q64 (argL .u32 args 0) (argI args 1) (argI args 2) (argI args 3)) (λX=> .agg (Q15.cells X)) (λX=>[])
theorem Ze:Q06 Tryz.prog Zfi:=Q0n Q0j Q0l (.cons Qok (.cons Qcg (.cons Qt5 (.nil)))) Tryz.func239 Tryz.call239 (λargs rows=>Q95 (argL .u32 args 0) (argI args 1) (argI args 2) (argI args 3)) [] [] 2
def Qdr(m:(List Int))(entry:Int)(access:Int):Tree (List Int):=
.an (Qbx m entry 4) (.lv (Q22 m entry 4) λ(x0:Bool)=> .br (!x0) (.lf m) (let E3:=Nat.beq 1 1&&Nat.blt 0 1&&decide (0<=wrap u32 (Int.tdiv entry 4)/\wrap u32 (Int.tdiv entry 4)<(m.length:Int)); .cn E3 (.cn E3 (let E4:=Int.toNat (wrap u32 (Int.tdiv entry 4));let E1:=List.set m E4 (ior u32 (m.getD E4 0) 8); .br (access==3) (let E2:=Nat.beq 1 1&&Nat.blt 0 1&&decide (0<=wrap u32 (Int.tdiv entry 4)/\wrap u32 (Int.tdiv entry 4)<(↑(List.length E1):Int)); .cn E2 (.cn E2 (.lf (List.set E1 E4 (ior u32 (List.getD E1 E4 0) 16))))) (.lf E1)))))
def Qoq(m:(List Int))(entry:Int)(access:Int):(List Int):=(Qdr m entry access).m
abbrev Qt6(m:(List Int))(entry:Int)(access:Int):Prop:=(Qdr m entry access).p
def Zh2:Q0c:=mkP 240 [true,false,false] true [.one (.row 0), .one (.int .u32), .one (.int .i64)] [.arr 23 1 (.ints .u32)] (λargs rows=>Qt6 (rowL .u32 rows 0) (argI args 1) (argI args 2)) (λargs rows=>Qoq (rowL .u32 rows 0) (argI args 1) (argI args 2)) (λX=> .tup []) (λX=>[⟨false,23,1, .ints .u32 X⟩])
theorem Zf2:Q06 Tryz.prog Zh2:=Q0n Q0j Q0l (.cons Qjf (.nil)) Tryz.func240 Tryz.call240 (λargs rows=>Qdr (rowL .u32 rows 0) (argI args 1) (argI args 2)) [] [] 2
def Q75(c:Q04)(m:(List Int))(va:Int)(size:Int)(access:Int):Tree (Int×Int×(List Int)):=
.lv (Qdv access) λ(x0:Bool)=> .br (!x0) (.lf (0,5,m)) (let T1:Tree ((Int×Int×(List Int))):= .cn (decide (wrap u32 size≠0)) (.br (Int.tmod va (wrap u32 size) !=0) (.lf (0,3,m)) (.lv (Qkp c) λ(x1:Bool)=> .br (!x1) (.an (Qbx m va size) (.lv (Q22 m va size) λ(x2:Bool)=> .br (!x2) (.lv (Q20 access) λ(x3:Int)=> .lf (0,x3,m)) (.lf (va,0,m)))) (.an (Qtr m c.B5.a6 va access) (.lv (Q64 m c.B5.a6 va access) λ(x4:Q15)=> .br (x4.F1 !=0) (.lf (0,x4.F1,m)) (.an (Qt6 m x4.F4 access) (.lv (Qoq m x4.F4 access) λ(x5:List Int)=> .lf (x4.Addr,0,x5))))))); .br (size !=1) (.br (size !=4) (.lf (0,5,m)) T1) T1)
def Q11(c:Q04)(m:(List Int))(va:Int)(size:Int)(access:Int):(Int×Int×(List Int)):=(Q75 c m va size access).m
abbrev Q89(c:Q04)(m:(List Int))(va:Int)(size:Int)(access:Int):Prop:=(Q75 c m va size access).p
def Zcr:Q0c:=mkP 190 [false,true,false,false,false] true [.agg Q04.sig, .one (.row 0), .one (.int .u32), .one (.int .i64), .one (.int .i64)] [.arr 23 1 (.ints .u32)] (λargs rows=>Q89 (Q04.of (aC args 0)) (rowL .u32 rows 0) (argI args 2) (argI args 3) (argI args 4)) (λargs rows=>Q11 (Q04.of (aC args 0)) (rowL .u32 rows 0) (argI args 2) (argI args 3) (argI args 4)) (λX=> .tup [.int .u32 (X.1), .int .i64 (X.2.1)]) (λX=>[⟨false,23,1, .ints .u32 (X.2.2)⟩])
theorem Qrw:Q06 Tryz.prog Zcr:=Q0n Q0j Q0l (.cons Qt5 (.cons Zad (.cons Qjf (.cons Qok (.cons Ze (.cons Zf2 (.nil))))))) Tryz.func190 Tryz.call190 (λargs rows=>Q75 (Q04.of (aC args 0)) (rowL .u32 rows 0) (argI args 2) (argI args 3) (argI args 4)) [] [] 2
def Qkn(op:Int):Tree Bool:=
.br (decide (op>=57)) (.lf (decide (op<=64))) (.lf false)
def Q34(op:Int):Bool:=(Qkn op).m
def Quz:Q0c:=mkR 191 [] true [.one (.int .i64)] [] (λargs rows=>Q34 (argI args 0)) (λX=> .bool X) (λX=>[])
theorem Qsn:Q06 Tryz.prog Quz:=Q0z Q0j Q0l (.nil) Tryz.func191 Tryz.call191 (λargs rows=>Qkn (argI args 0)) [] [] 2
def Qc1(c:Q04):Tree Q04:=
.lv (Qb1 (iand u32 c.B5.a0 (8:Int) !=(0:Int))) λ(x0:Int)=> .lv (Qb1 (iand u32 c.B5.a0 (16:Int) !=(0:Int))) λ(x1:Int)=> .lf ({X:=c.X,Pc:=c.B5.a2,B5:={a0:=ior u32 (ior u32 (Qg7 u32 c.B5.a0 3) (wrap u32 (1*x0))) (wrap u32 (2*x1)),a1:=c.B5.a1,a2:=c.B5.a2,a3:=c.B5.a3,a4:=c.B5.a4,a5:=c.B5.a5,a6:=c.B5.a6,a7:=c.B5.a7}})
def Qh6(c:Q04):Q04:=(Qc1 c).m
def Za3:Q0c:=mkR 241 [] true [.agg Q04.sig] [] (λargs rows=>Qh6 (Q04.of (aC args 0))) (λX=> .agg (Q04.cells X)) (λX=>[])
theorem Z48:Q06 Tryz.prog Za3:=Q0z Q0j Q0l (.cons Qqv (.nil)) Tryz.func241 Tryz.call241 (λargs rows=>Qc1 (Q04.of (aC args 0))) [] [] 2
def Qdu(c:Q04)(r:Int)(v:Int):Tree Q04:=
.br (decide (r>0)) (.br (decide (r<16)) (.cn (Nat.blt 0 1&&decide (0<=r/\r<(↑16:Int))) (.lf ({X:=A16.of 0 (List.set (A16.l c.X) r.toNat v),Pc:=c.Pc,B5:=c.B5}))) (.lf c)) (.lf c)
def Q1y(c:Q04)(r:Int)(v:Int):Q04:=(Qdu c r v).m
abbrev Q2w(c:Q04)(r:Int)(v:Int):Prop:=(Qdu c r v).p
def Zlo:Q0c:=mkP 141 [] true [.agg Q04.sig, .one (.int .i64), .one (.int .u32)] [] (λargs rows=>Q2w (Q04.of (aC args 0)) (argI args 1) (argI args 2)) (λargs rows=>Q1y (Q04.of (aC args 0)) (argI args 1) (argI args 2)) (λX=> .agg (Q04.cells X)) (λX=>[])
theorem Qdo:Q06 Tryz.prog Zlo:=Q0n Q0j Q0l (.nil) Tryz.func141 Tryz.call141 (λargs rows=>Qdu (Q04.of (aC args 0)) (argI args 1) (argI args 2)) [] [] 2
def Qbt(c:Q04)(csr:Int)(v:Int):Tree Q04:=
let E4:=Nat.blt 0 1&&decide (0<=csr/\csr<(↑8:Int));let T2:Tree (Q04):= .cn E4 (.lf ({X:=c.X,Pc:=c.Pc,B5:=A8.of 0 (List.set (A8.l c.B5) csr.toNat (iand u32 v 31))})); .br (csr==0) T2 (.br (csr==7) T2 (.br (csr==6) (.cn E4 (.lf ({X:=c.X,Pc:=c.Pc,B5:=A8.of 0 (List.set (A8.l c.B5) csr.toNat (iand u32 v 255))}))) (let T3:Tree (Q04):= .cn E4 (.lf ({X:=c.X,Pc:=c.Pc,B5:=A8.of 0 (List.set (A8.l c.B5) csr.toNat (Qg7 u32 v 3))})); .br (csr==1) T3 (.br (csr==2) T3 (let T1:Tree (Q04):= .cn E4 (.lf ({X:=c.X,Pc:=c.Pc,B5:=A8.of 0 (List.set (A8.l c.B5) csr.toNat v)})); .br (csr==3) T1 (.br (csr==4) T1 (.br (csr==5) T1 (.lf c))))))))
def Qgv(c:Q04)(csr:Int)(v:Int):Q04:=(Qbt c csr v).m
abbrev Qqd(c:Q04)(csr:Int)(v:Int):Prop:=(Qbt c csr v).p
def Zcl:Q0c:=mkP 242 [] true [.agg Q04.sig, .one (.int .i64), .one (.int .u32)] [] (λargs rows=>Qqd (Q04.of (aC args 0)) (argI args 1) (argI args 2)) (λargs rows=>Qgv (Q04.of (aC args 0)) (argI args 1) (argI args 2)) (λX=> .agg (Q04.cells X)) (λX=>[])
theorem Z7k:Q06 Tryz.prog Zcl:=Q0n Q0j Q0l (.nil) Tryz.func242 Tryz.call242 (λargs rows=>Qbt (Q04.of (aC args 0)) (argI args 1) (argI args 2)) [] [] 2
def Q7n(c:Q04)(i:Q0k):Tree (Q04×Q10):=
.br (i.Op==56) (.lv (Q2s c 7 0) λ(x0:Q04)=> .lf (x0,{B7:=0,D1:=0,E0:=0,Value:=0})) (.br (i.Op==57) (.lv (Qh6 c) λ(x1:Q04)=> .lf (x1,{B7:=0,D1:=0,E0:=0,Value:=0})) (.br (i.Op==58) (.cn (Nat.blt 0 1&&decide (0<=i.Imm/\i.Imm<(↑8:Int))) (let E3:=List.getD (A8.l c.B5) i.Imm.toNat 0; .an (Q2w c i.A E3) (.lv (Q1y c i.A E3) λ(x2:Q04)=> .lf ({X:=x2.X,Pc:=wrap u32 (x2.Pc+4),B5:=x2.B5},{B7:=0,D1:=0,E0:=0,Value:=0})))) (let E2:=Nat.blt 0 1&&decide (0<=i.A/\i.A<(↑16:Int)); .br (i.Op==59) (.cn E2 (let E4:=List.getD (A16.l c.X) i.A.toNat 0; .an (Qqd c (wrap i64 i.Imm) E4) (.lv (Qgv c (wrap i64 i.Imm) E4) λ(x3:Q04)=> .lf ({X:=x3.X,Pc:=wrap u32 (x3.Pc+4),B5:=x3.B5},{B7:=0,D1:=0,E0:=0,Value:=0})))) (let E1:=({X:=c.X,Pc:=wrap u32 (c.Pc+4),B5:=c.B5}:Q04); .br (i.Op==60) (.lf (E1,{B7:=1,D1:=wrap i64 i.Imm,E0:=i.A,Value:=0})) (.br (i.Op==61) (.cn E2 (.lf (E1,{B7:=2,D1:=wrap i64 i.Imm,E0:=0,Value:=List.getD (A16.l c.X) i.A.toNat 0}))) (.br (i.Op==62) (.lf (E1,{B7:=3,D1:=0,E0:=0,Value:=0})) (.br (i.Op==63) (.lf (E1,{B7:=5,D1:=0,E0:=0,Value:=0})) (.br (i.Op==64) (.lf (E1,{B7:=4,D1:=0,E0:=0,Value:=0})) (.lf (E1,{B7:=0,D1:=0,E0:=0,Value:=0}))))))))))
def Qhu(c:Q04)(i:Q0k):(Q04×Q10):=(Q7n c i).m
abbrev Qns(c:Q04)(i:Q0k):Prop:=(Q7n c i).p
def Z8o:Q0c:=mkP 192 [] true [.agg Q04.sig, .agg Q0k.sig] [] (λargs rows=>Qns (Q04.of (aC args 0)) (Q0k.of (aC args 1))) (λargs rows=>Qhu (Q04.of (aC args 0)) (Q0k.of (aC args 1))) (λX=> .tup [.agg (Q04.cells (X.1)), .agg (Q10.cells (X.2))]) (λX=>[])
theorem Z33:Q06 Tryz.prog Z8o:=Q0n Q0j Q0l (.cons Qj0 (.cons Z48 (.cons Qdo (.cons Z7k (.nil))))) Tryz.func192 Tryz.call192 (λargs rows=>Q7n (Q04.of (aC args 0)) (Q0k.of (aC args 1))) [] [] 2
def Qx9(op:Int)(a:Int)(b:Int):Tree Bool:=
.br (op==40) (.lf (a==b)) (.br (op==41) (.lf (a !=b)) (.br (op==42) (.lf (decide (wrap i32 a<wrap i32 b))) (.br (op==43) (.lf (decide (wrap i32 a>=wrap i32 b))) (.br (op==44) (.lf (decide (a<b))) (.lf (decide (a>=b)))))))
def Q2a(op:Int)(a:Int)(b:Int):Bool:=(Qx9 op a b).m
def Zb3:Q0c:=mkR 243 [] true [.one (.int .i64), .one (.int .u32), .one (.int .u32)] [] (λargs rows=>Q2a (argI args 0) (argI args 1) (argI args 2)) (λX=> .bool X) (λX=>[])
theorem Za2:Q06 Tryz.prog Zb3:=Q0z Q0j Q0l (.nil) Tryz.func243 Tryz.call243 (λargs rows=>Qx9 (argI args 0) (argI args 1) (argI args 2)) [] [] 2
def Qhl(c:Q04)(i:Q0k):Tree Q04:=
.br (i.Op==48) (.an (Q2w c i.A (wrap u32 (c.Pc+4))) (.lv (Q1y c i.A (wrap u32 (c.Pc+4))) λ(x0:Q04)=> .lf ({X:=x0.X,Pc:=wrap u32 (c.Pc+wrap u32 (4*wrap u32 i.Imm)),B5:=x0.B5}))) (let E1:=Nat.blt 0 1&&decide (0<=i.B/\i.B<(↑16:Int)); .br (i.Op==49) (.cn E1 (.an (Q2w c i.A (wrap u32 (c.Pc+4))) (.lv (Q1y c i.A (wrap u32 (c.Pc+4))) λ(x1:Q04)=> .lf ({X:=x1.X,Pc:=wrap u32 (List.getD (A16.l c.X) i.B.toNat 0+wrap u32 i.Imm),B5:=x1.B5})))) (.cn (Nat.blt 0 1&&decide (0<=i.A/\i.A<(↑16:Int))) (.cn E1 (.lv (Q2a i.Op (List.getD (A16.l c.X) i.A.toNat 0) (List.getD (A16.l c.X) i.B.toNat 0)) λ(x2:Bool)=> .br x2 (.lf ({X:=c.X,Pc:=wrap u32 (c.Pc+wrap u32 (4*wrap u32 i.Imm)),B5:=c.B5})) (.lf ({X:=c.X,Pc:=wrap u32 (c.Pc+4),B5:=c.B5}))))))
def Z1l(c:Q04)(i:Q0k):Q04:=(Qhl c i).m
abbrev Qry(c:Q04)(i:Q0k):Prop:=(Qhl c i).p
def Zg0:Q0c:=mkP 193 [] true [.agg Q04.sig, .agg Q0k.sig] [] (λargs rows=>Qry (Q04.of (aC args 0)) (Q0k.of (aC args 1))) (λargs rows=>Z1l (Q04.of (aC args 0)) (Q0k.of (aC args 1))) (λX=> .agg (Q04.cells X)) (λX=>[])
theorem Zeb:Q06 Tryz.prog Zg0:=Q0n Q0j Q0l (.cons Qdo (.cons Za2 (.nil))) Tryz.func193 Tryz.call193 (λargs rows=>Qhl (Q04.of (aC args 0)) (Q0k.of (aC args 1))) [] [] 2
def Q6t(x:Int)(n:Int):Tree Int:=
.br (decide (n<1)) (.lf 0) (.br (decide (n>=32)) (.lf x) (.cn (decide (0<=wrap u64 n)) (.cn (decide (0<=wrap u64 (wrap i64 (n-1)))) (let E1:=iand u32 x (wrap u32 (ishl u32 1 (wrap u64 n)-1)); .br (ishr u32 E1 (wrap u64 (wrap i64 (n-1)))==1) (.cn (decide (0<=wrap u64 n)) (.lf (ior u32 E1 (ishl u32 4294967295 (wrap u64 n))))) (.lf E1)))))
def Q3a(x:Int)(n:Int):Int:=(Q6t x n).m
abbrev Qbe(x:Int)(n:Int):Prop:=(Q6t x n).p
def Qu5:Q0c:=mkP 244 [] true [.one (.int .u32), .one (.int .i64)] [] (λargs rows=>Qbe (argI args 0) (argI args 1)) (λargs rows=>Q3a (argI args 0) (argI args 1)) (λX=> .int .u32 X) (λX=>[])
theorem Qsm:Q06 Tryz.prog Qu5:=Q0n Q0j Q0l (.nil) Tryz.func244 Tryz.call244 (λargs rows=>Q6t (argI args 0) (argI args 1)) [] [] 2
def Q9f(c:Q04)(m:(List Int))(i:Q0k):Tree (Q04×(List Int)):=
.cn (Nat.blt 0 1&&decide (0<=i.B/\i.B<(↑16:Int))) (let E4:=wrap u32 (List.getD (A16.l c.X) i.B.toNat 0+wrap u32 i.Imm);let E5:=List.getD (A16.l c.X) i.A.toNat 0;let E6:=Nat.blt 0 1&&decide (0<=i.A/\i.A<(↑16:Int));let E7:=({X:=c.X,Pc:=wrap u32 (c.Pc+4),B5:=c.B5}:Q04);let T1:Tree ((Q04×(List Int))):=let T3:Tree ((Q04×(List Int))):= .an (Q89 c m E4 4 3) (.lv (Q11 c m E4 4 3) λ(x0:Int×Int×List Int)=> .br (x0.2.1 !=0) (.lv (Q2s c x0.2.1 E4) λ(x1:Q04)=> .lf (x1,x0.2.2)) (.cn E6 (.an (Qem x0.2.2 x0.1 4 E5) (.lv (Qac x0.2.2 x0.1 4 E5) λ(x2:List Int)=> .lf (E7,x2))))); .br (i.Op==35) T3 (.br (i.Op==36) T3 (.an (Q89 c m E4 4 2) (.lv (Q11 c m E4 4 2) λ(x6:Int×Int×List Int)=> .br (x6.2.1 !=0) (.lv (Q2s c x6.2.1 E4) λ(x7:Q04)=> .lf (x7,x6.2.2)) (.an (Qc5 x6.2.2 x6.1 4) (.lv (Q17 x6.2.2 x6.1 4) λ(x8:Int×Bool)=> .br (i.Op==33) (.an (Qbe x8.1 8) (.lv (Q3a x8.1 8) λ(x9:Int)=> .an (Q2w c i.A x9) (.lv (Q1y c i.A x9) λ(x10:Q04)=> .lf ({X:=x10.X,Pc:=wrap u32 (x10.Pc+4),B5:=x10.B5},x6.2.2)))) (.an (Q2w c i.A x8.1) (.lv (Q1y c i.A x8.1) λ(x11:Q04)=> .lf ({X:=x11.X,Pc:=wrap u32 (x11.Pc+4),B5:=x11.B5},x6.2.2)))))))); .br (i.Op==32) T1 (.br (i.Op==35) T1 (let T2:Tree ((Q04×(List Int))):= .an (Q89 c m E4 1 3) (.lv (Q11 c m E4 1 3) λ(x24:Int×Int×List Int)=> .br (x24.2.1 !=0) (.lv (Q2s c x24.2.1 E4) λ(x25:Q04)=> .lf (x25,x24.2.2)) (.cn E6 (.an (Qem x24.2.2 x24.1 1 E5) (.lv (Qac x24.2.2 x24.1 1 E5) λ(x26:List Int)=> .lf (E7,x26))))); .br (i.Op==35) T2 (.br (i.Op==36) T2 (.an (Q89 c m E4 1 2) (.lv (Q11 c m E4 1 2) λ(x30:Int×Int×List Int)=> .br (x30.2.1 !=0) (.lv (Q2s c x30.2.1 E4) λ(x31:Q04)=> .lf (x31,x30.2.2)) (.an (Qc5 x30.2.2 x30.1 1) (.lv (Q17 x30.2.2 x30.1 1) λ(x32:Int×Bool)=> .br (i.Op==33) (.an (Qbe x32.1 8) (.lv (Q3a x32.1 8) λ(x33:Int)=> .an (Q2w c i.A x33) (.lv (Q1y c i.A x33) λ(x34:Q04)=> .lf ({X:=x34.X,Pc:=wrap u32 (x34.Pc+4),B5:=x34.B5},x30.2.2)))) (.an (Q2w c i.A x32.1) (.lv (Q1y c i.A x32.1) λ(x35:Q04)=> .lf ({X:=x35.X,Pc:=wrap u32 (x35.Pc+4),B5:=x35.B5},x30.2.2)))))))))))
def Q5(c:Q04)(m:(List Int))(i:Q0k):(Q04×(List Int)):=(Q9f c m i).m
abbrev Ql1(c:Q04)(m:(List Int))(i:Q0k):Prop:=(Q9f c m i).p
def Z15:Q0c:=mkP 194 [false,true,false] true [.agg Q04.sig, .one (.row 0), .agg Q0k.sig] [.arr 23 1 (.ints .u32)] (λargs rows=>Ql1 (Q04.of (aC args 0)) (rowL .u32 rows 0) (Q0k.of (aC args 2))) (λargs rows=>Q5 (Q04.of (aC args 0)) (rowL .u32 rows 0) (Q0k.of (aC args 2))) (λX=> .agg (Q04.cells (X.1))) (λX=>[⟨false,23,1, .ints .u32 (X.2)⟩])
theorem Qxy:Q06 Tryz.prog Z15:=Q0n Q0j Q0l (.cons Qrw (.cons Qj0 (.cons Z1q (.cons Qog (.cons Qsm (.cons Qdo (.nil))))))) Tryz.func194 Tryz.call194 (λargs rows=>Q9f (Q04.of (aC args 0)) (rowL .u32 rows 0) (Q0k.of (aC args 2))) [] [] 2
def Qwj(op:Int):Tree Int:=
.br (op==16) (.lf 1) (.br (op==17) (.lf 3) (.br (op==18) (.lf 4) (.br (op==19) (.lf 5) (.br (op==20) (.lf 6) (.br (op==21) (.lf 7) (.br (op==22) (.lf 8) (.br (op==23) (.lf 12) (.lf op))))))))
def Z5f(op:Int):Int:=(Qwj op).m
def Zew:Q0c:=mkR 245 [] true [.one (.int .i64)] [] (λargs rows=>Z5f (argI args 0)) (λX=> .int .i64 X) (λX=>[])
theorem Z8r:Q06 Tryz.prog Zew:=Q0z Q0j Q0l (.nil) Tryz.func245 Tryz.call245 (λargs rows=>Qwj (argI args 0)) [] [] 2
def Q9v(a:Int)(b:Int):Tree (Int×Int):=
.br (b==0) (.lf (4294967295,a)) (.cn (decide (wrap i64 (wrap i32 b)≠0)) (.cn (decide (wrap i64 (wrap i32 b)≠0)) (.lf (wrap u32 (wrap i64 (Int.tdiv (wrap i64 (wrap i32 a)) (wrap i64 (wrap i32 b)))),wrap u32 (Int.tmod (wrap i64 (wrap i32 a)) (wrap i64 (wrap i32 b)))))))
def Qbc(a:Int)(b:Int):(Int×Int):=(Q9v a b).m
abbrev Qh7(a:Int)(b:Int):Prop:=(Q9v a b).p
def Z90:Q0c:=mkP 246 [] true [.one (.int .u32), .one (.int .u32)] [] (λargs rows=>Qh7 (argI args 0) (argI args 1)) (λargs rows=>Qbc (argI args 0) (argI args 1)) (λX=> .tup [.int .u32 (X.1), .int .u32 (X.2)]) (λX=>[])
theorem Z4f:Q06 Tryz.prog Z90:=Q0n Q0j Q0l (.nil) Tryz.func246 Tryz.call246 (λargs rows=>Q9v (argI args 0) (argI args 1)) [] [] 2
def Qkk(op:Int)(a:Int)(b:Int):Tree (Int×Bool):=
.lv (Z5f op) λ(x0:Int)=> .br (x0==1) (.lf (wrap u32 (a+b),true)) (.br (x0==2) (.lf (wrap u32 (a-b),true)) (.br (x0==3) (.lf (iand u32 a b,true)) (.br (x0==4) (.lf (ior u32 a b,true)) (.br (x0==5) (.lf (ixor u32 a b,true)) (.br (x0==6) (.lf (ishl u32 a (iand u32 b 31),true)) (.br (x0==7) (.lf (ishr u32 a (iand u32 b 31),true)) (.br (x0==8) (.lf (wrap u32 (ishr i32 (wrap i32 a) (iand u32 b 31)),true)) (.br (x0==9) (.lf (wrap u32 (a*b),true)) (.br (x0==10) (.an (Qh7 a b) (.lv (Qbc a b) λ(x1:Int×Int)=> .lf (x1.1,true))) (.br (x0==11) (.an (Qh7 a b) (.lv (Qbc a b) λ(x2:Int×Int)=> .lf (x2.2,true))) (.br (x0==12) (.lv (Qb1 (decide (wrap i32 a<wrap i32 b))) λ(x3:Int)=> .lf (x3,true)) (.br (x0==13) (.lv (Qb1 (decide (a<b))) λ(x4:Int)=> .lf (x4,true)) (.lf (0,false))))))))))))))
def Qcd(op:Int)(a:Int)(b:Int):(Int×Bool):=(Qkk op a b).m
abbrev Qo6(op:Int)(a:Int)(b:Int):Prop:=(Qkk op a b).p
def Zl0:Q0c:=mkP 195 [] true [.one (.int .i64), .one (.int .u32), .one (.int .u32)] [] (λargs rows=>Qo6 (argI args 0) (argI args 1) (argI args 2)) (λargs rows=>Qcd (argI args 0) (argI args 1) (argI args 2)) (λX=> .tup [.int .u32 (X.1), .bool (X.2)]) (λX=>[])
theorem Zh8:Q06 Tryz.prog Zl0:=Q0n Q0j Q0l (.cons Z8r (.cons Z4f (.cons Qqv (.nil)))) Tryz.func195 Tryz.call195 (λargs rows=>Qkk (argI args 0) (argI args 1) (argI args 2)) [] [] 2
def Qn(c:Q04)(m:(List Int)):Tree (Q04×Q10×(List Int)):=
.an (Q89 c m c.Pc 4 1) (.lv (Q11 c m c.Pc 4 1) λ(x0:Int×Int×List Int)=> .br (x0.2.1 !=0) (.lv (Q2s c x0.2.1 c.Pc) λ(x1:Q04)=> .lf (x1,{B7:=0,D1:=0,E0:=0,Value:=0},x0.2.2)) (.an (Qc5 x0.2.2 x0.1 4) (.lv (Q17 x0.2.2 x0.1 4) λ(x2:Int×Bool)=> .lv (Q2 x2.1) λ(x3:Q0k×Bool)=> .br (!x3.2) (.lv (Q2s c 1 x2.1) λ(x4:Q04)=> .lf (x4,{B7:=0,D1:=0,E0:=0,Value:=0},x0.2.2)) (.lv (Q34 x3.1.Op) λ(x5:Bool)=>let T1:Tree ((Q04×Q10×(List Int))):= .br (decide (x3.1.Op>=56)) (.an (Qns c x3.1) (.lv (Qhu c x3.1) λ(x7:Q04×Q10)=> .lf (x7.1,x7.2,x0.2.2))) (.br (decide (x3.1.Op>=40)) (.an (Qry c x3.1) (.lv (Z1l c x3.1) λ(x8:Q04)=> .lf (x8,{B7:=0,D1:=0,E0:=0,Value:=0},x0.2.2))) (.br (decide (x3.1.Op>=32)) (.an (Ql1 c x0.2.2 x3.1) (.lv (Q5 c x0.2.2 x3.1) λ(x9:Q04×List Int)=> .lf (x9.1,{B7:=0,D1:=0,E0:=0,Value:=0},x9.2))) (.br (x3.1.Op==24) (.an (Q2w c x3.1.A (ishl u32 (wrap u32 x3.1.Imm) 16)) (.lv (Q1y c x3.1.A (ishl u32 (wrap u32 x3.1.Imm) 16)) λ(x10:Q04)=> .lf ({X:=x10.X,Pc:=wrap u32 (x10.Pc+4),B5:=x10.B5},{B7:=0,D1:=0,E0:=0,Value:=0},x0.2.2))) (let E2:=List.getD (A16.l c.X) x3.1.B.toNat 0;let E3:=Nat.blt 0 1&&decide (0<=x3.1.B/\x3.1.B<(↑16:Int)); .br (decide (x3.1.Op<=13)) (.cn (Nat.blt 0 1&&decide (0<=x3.1.C/\x3.1.C<(↑16:Int))) (.cn E3 (let E4:=List.getD (A16.l c.X) x3.1.C.toNat 0; .an (Qo6 x3.1.Op E2 E4) (.lv (Qcd x3.1.Op E2 E4) λ(x11:Int×Bool)=> .an (Q2w c x3.1.A x11.1) (.lv (Q1y c x3.1.A x11.1) λ(x12:Q04)=> .lf ({X:=x12.X,Pc:=wrap u32 (x12.Pc+4),B5:=x12.B5},{B7:=0,D1:=0,E0:=0,Value:=0},x0.2.2)))))) (.cn E3 (.an (Qo6 x3.1.Op E2 (wrap u32 x3.1.Imm)) (.lv (Qcd x3.1.Op E2 (wrap u32 x3.1.Imm)) λ(x13:Int×Bool)=> .an (Q2w c x3.1.A x13.1) (.lv (Q1y c x3.1.A x13.1) λ(x14:Q04)=> .lf ({X:=x14.X,Pc:=wrap u32 (x14.Pc+4),B5:=x14.B5},{B7:=0,D1:=0,E0:=0,Value:=0},x0.2.2))))))))); .br x5 (.br (iand u32 c.B5.a0 (1:Int)==(0:Int)) (.lv (Q2s c 2 x2.1) λ(x6:Q04)=> .lf (x6,{B7:=0,D1:=0,E0:=0,Value:=0},x0.2.2)) T1) T1))))
def Q73(c:Q04)(m:(List Int)):(Q04×Q10×(List Int)):=(Qn c m).m
abbrev Qrf(c:Q04)(m:(List Int)):Prop:=(Qn c m).p
def vA:Q0c:=mkP 139 [false,true] true [.agg Q04.sig, .one (.row 0)] [.arr 23 1 (.ints .u32)] (λargs rows=>Qrf (Q04.of (aC args 0)) (rowL .u32 rows 0)) (λargs rows=>Q73 (Q04.of (aC args 0)) (rowL .u32 rows 0)) (λX=> .tup [.agg (Q04.cells (X.1)), .agg (Q10.cells (X.2.1))]) (λX=>[⟨false,23,1, .ints .u32 (X.2.2)⟩])
theorem Z5m:Q06 Tryz.prog vA:=Q0n Q0j Q0l (.cons Qrw (.cons Qj0 (.cons Qog (.cons Qqg (.cons Qsn (.cons Z33 (.cons Zeb (.cons Qxy (.cons Qdo (.cons Zh8 (.nil))))))))))) Tryz.func139 Tryz.call139 (λargs rows=>Qn (Q04.of (aC args 0)) (rowL .u32 rows 0)) [] [] 2
end
end Go.Proofs.YtjaifpiopmhmlaaGreat

import Derived.Test.YtmalmklaonainaaGreatRecordCutsBase
import Derived.Test.YtmalmklaonainaaGreatRecordCutsZa
import Derived.Test.YtmalmklaonainaaGreatRecordCutsYe
set_option maxRecDepth 100000
set_option linter.all false
namespace Go.Proofs.YtmalmklaonainaaGreat
open Go Go.GD Go.IntKind
noncomputable section
def Z4m(b:Bool):Tree Int:=
.br b (.lf 1) (.lf 0)
def Qbd(b:Bool):Int:=(Z4m b).m
def Zlj:Q0c:=mkR 281 [] true [.one (.bool)] [] (λargs rows=>Qbd (argB args 0)) (λX=> .int .u32 X) (λX=>[])
theorem Qq7:Q04 Tryz.prog Zlj:=Q0v drawn Q0h (.nil) Tryz.func281 Tryz.call281 (λargs rows=>Z4m (argB args 0)) [] [] 2
def Qhk(c:Q02)(cause:Int)(bad:Int):Tree Q02:=
.lv (Qbd (iand u32 c.B4.a0 (1:Int) !=(0:Int))) λ(x0:Int)=> .lv (Qbd (iand u32 c.B4.a0 (2:Int) !=(0:Int))) λ(x1:Int)=> .lf ({X:=c.X,Pc:=c.B4.a1,B4:={a0:=ior u32 (Qg7 u32 (ior u32 (ior u32 (Qg7 u32 c.B4.a0 24) (wrap u32 (8*x0))) (wrap u32 (16*x1))) 2) 1,a1:=c.B4.a1,a2:=c.Pc,a3:=wrap u32 cause,a4:=bad,a5:=c.B4.a5,a6:=c.B4.a6,a7:=c.B4.a7}})
def Q2m(c:Q02)(cause:Int)(bad:Int):Q02:=(Qhk c cause bad).m
def Zfg:Q0c:=mkR 244 [] true [.agg Q02.sig, .one (.int .i64), .one (.int .u32)] [] (λargs rows=>Q2m (Q02.of (aC args 0)) (argI args 1) (argI args 2)) (λX=> .agg (Q02.cells X)) (λX=>[])
theorem Qj:Q04 Tryz.prog Zfg:=Q0v drawn Q0h (.cons Qq7 (.nil)) Tryz.func244 Tryz.call244 (λargs rows=>Qhk (Q02.of (aC args 0)) (argI args 1) (argI args 2)) [] [] 2
def Q7n(m:(List Int))(addr:Int)(size:Int):Tree Bool:=
let T1:Tree (Bool):= .cn (decide (wrap u32 size≠0)) (.br (Int.tmod addr (wrap u32 size)==0) (.lv (Q3l m) λ(x0:Int)=> .lf (decide (addr<wrap u32 (wrap i64 (128*x0))))) (.lf false)); .br (size !=1) (.br (size !=4) (.lf false) T1) T1
def Q2f(m:(List Int))(addr:Int)(size:Int):Bool:=(Q7n m addr size).m
abbrev Qd5(m:(List Int))(addr:Int)(size:Int):Prop:=(Q7n m addr size).p
def Z85:Q0c:=mkP 245 [] true [.one (.ints .u32), .one (.int .u32), .one (.int .i64)] [] (λargs rows=>Qd5 (argL .u32 args 0) (argI args 1) (argI args 2)) (λargs rows=>Q2f (argL .u32 args 0) (argI args 1) (argI args 2)) (λX=> .bool X) (λX=>[])
theorem Qjg:Q04 Tryz.prog Z85:=Q0k drawn Q0h (.cons Qcp (.nil)) Tryz.func245 Tryz.call245 (λargs rows=>Q7n (argL .u32 args 0) (argI args 1) (argI args 2)) [] [] 2
def Q6l(m:(List Int))(addr:Int)(size:Int):Tree (Int×Bool):=
.an (Qd5 m addr size) (.lv (Q2f m addr size) λ(x0:Bool)=> .br (!x0) (.lf (0,false)) (.cn (Nat.beq 1 1&&Nat.blt 0 1&&decide (0<=wrap u32 (Int.tdiv addr 4)/\wrap u32 (Int.tdiv addr 4)<(m.length:Int))) (.br (size==1) (.cn (decide (0<=wrap u32 (8*Int.tmod addr 4))) (.lf (iand u32 (ishr u32 (m.getD (Int.toNat (wrap u32 (Int.tdiv addr 4))) 0) (wrap u32 (8*Int.tmod addr 4))) 255,true))) (.lf (m.getD (Int.toNat (wrap u32 (Int.tdiv addr 4))) 0,true)))))
def Q23(m:(List Int))(addr:Int)(size:Int):(Int×Bool):=(Q6l m addr size).m
abbrev Qcm(m:(List Int))(addr:Int)(size:Int):Prop:=(Q6l m addr size).p
def Zfh:Q0c:=mkP 187 [] true [.one (.ints .u32), .one (.int .u32), .one (.int .i64)] [] (λargs rows=>Qcm (argL .u32 args 0) (argI args 1) (argI args 2)) (λargs rows=>Q23 (argL .u32 args 0) (argI args 1) (argI args 2)) (λX=> .tup [.int .u32 (X.1), .bool (X.2)]) (λX=>[])
theorem Qnk:Q04 Tryz.prog Zfh:=Q0k drawn Q0h (.cons Qjg (.nil)) Tryz.func187 Tryz.call187 (λargs rows=>Q6l (argL .u32 args 0) (argI args 1) (argI args 2)) [] [] 2
def Q9q(w:Int):Tree (Q0i×Bool):=
.lv (Q26 (wrap i64 (ishr u32 w 24))) λ(x0:Int)=>let E5:=({Op:=0,A:=0,B:=0,C:=0,Imm:=0}:Q0i); .br (x0==0) (.lf (E5,false)) (.br (x0==2) (let E3:=({Op:=wrap i64 (ishr u32 w 24),A:=wrap i64 (iand u32 (ishr u32 w 20) 15),B:=wrap i64 (iand u32 (ishr u32 w 16) 15),C:=wrap i64 (iand u32 w 65535),Imm:=0}:Q0i); .lv (Q8b E3) λ(x1:Bool)=> .br (!x1) (.lf (E5,false)) (.lf (E3,true))) (let T1:Tree ((Q0i×Bool)):=let E2:=({Op:=wrap i64 (ishr u32 w 24),A:=wrap i64 (iand u32 (ishr u32 w 20) 15),B:=wrap i64 (iand u32 (ishr u32 w 16) 15),C:=0,Imm:=wrap i32 (wrap i16 (iand u32 w 65535))}:Q0i); .lv (Q8b E2) λ(x2:Bool)=> .br (!x2) (.lf (E5,false)) (.lf (E2,true)); .br (x0==3) T1 (.br (x0==7) T1 (let E4:=({Op:=wrap i64 (ishr u32 w 24),A:=wrap i64 (iand u32 (ishr u32 w 20) 15),B:=wrap i64 (iand u32 (ishr u32 w 16) 15),C:=0,Imm:=wrap i32 (iand u32 w 65535)}:Q0i); .lv (Q8b E4) λ(x4:Bool)=> .br (!x4) (.lf (E5,false)) (.lf (E4,true))))))
def Q3o(w:Int):(Q0i×Bool):=(Q9q w).m
def Z9a:Q0c:=mkR 188 [] true [.one (.int .u32)] [] (λargs rows=>Q3o (argI args 0)) (λX=> .tup [.agg (Q0i.cells (X.1)), .bool (X.2)]) (λX=>[])
theorem Qpg:Q04 Tryz.prog Z9a:=Q0v drawn Q0h (.cons Qey (.cons Qru (.nil))) Tryz.func188 Tryz.call188 (λargs rows=>Q9q (argI args 0)) [] [] 2
def Qwh(access:Int):Tree Bool:=
.br (decide (access>=1)) (.lf (decide (access<=3))) (.lf false)
def Qgp(access:Int):Bool:=(Qwh access).m
def Zd7:Q0c:=mkR 292 [] true [.one (.int .i64)] [] (λargs rows=>Qgp (argI args 0)) (λX=> .bool X) (λX=>[])
theorem Qqw:Q04 Tryz.prog Zd7:=Q0v drawn Q0h (.nil) Tryz.func292 Tryz.call292 (λargs rows=>Qwh (argI args 0)) [] [] 2
def Qvn(c:Q02):Tree Bool:=
.lf (iand u32 c.B4.a0 (5:Int)==(4:Int))
def Qnw(c:Q02):Bool:=(Qvn c).m
def Zaa:Q0c:=mkR 293 [] true [.agg Q02.sig] [] (λargs rows=>Qnw (Q02.of (aC args 0))) (λX=> .bool X) (λX=>[])
theorem Z8s:Q04 Tryz.prog Zaa:=Q0v drawn Q0h (.nil) Tryz.func293 Tryz.call293 (λargs rows=>Qvn (Q02.of (aC args 0))) [] [] 2
def Q8a(access:Int):Tree Int:=
.br (access==1) (.lf 4) (.br (access==3) (.lf 6) (.lf 5))
def Q39(access:Int):Int:=(Q8a access).m
def Z44:Q0c:=mkR 294 [] true [.one (.int .i64)] [] (λargs rows=>Q39 (argI args 0)) (λX=> .int .i64 X) (λX=>[])
theorem Qma:Q04 Tryz.prog Z44:=Q0v drawn Q0h (.nil) Tryz.func294 Tryz.call294 (λargs rows=>Q8a (argI args 0)) [] [] 2
def Q9f(m:(List Int))(root:Int)(va:Int)(access:Int):Tree Q15:=
.lv (Q39 access) λ(x0:Int)=> .lv (Q3l m) λ(x1:Int)=> .lv (Qgp access) λ(x2:Bool)=>let E4:=({Addr:=0,F1:=0,E0:=x0}:Q15); .br (!x2) (.lf (E4)) (.br (decide (va>=4096)) (.lf (E4)) (.br (decide (root>=wrap u32 x1)) (.lf (E4)) (let E6:=wrap u32 (root*128)+wrap u32 (4*wrap u32 (Int.tdiv va 128));let E3:=Int.tdiv (wrap u32 E6) 4; .cn (Nat.beq 1 1&&Nat.blt 0 1&&decide (0<=wrap u32 E3/\wrap u32 E3<(m.length:Int))) (let E5:=m.getD (Int.toNat (wrap u32 E3)) 0; .br (iand u32 E5 (1:Int)==(0:Int)) (.lf (E4)) (let T1:Tree (Q15):= .br (decide (iand u32 (ishr u32 E5 8) 255>=wrap u32 x1)) (.lf (E4)) (.lf ({Addr:=wrap u32 (wrap u32 (iand u32 (ishr u32 E5 8) (255:Int)*(128:Int))+Int.tmod va 128),F1:=wrap u32 E6,E0:=0}));let T2:Tree (Q15):= .br (access==1) (.br (iand u32 E5 (4:Int)==(0:Int)) (.lf (E4)) T1) T1; .br (access==3) (.br (iand u32 E5 (2:Int)==(0:Int)) (.lf (E4)) T2) T2)))))
def Q6a(m:(List Int))(root:Int)(va:Int)(access:Int):Q15:=(Q9f m root va access).m
abbrev Qst(m:(List Int))(root:Int)(va:Int)(access:Int):Prop:=(Q9f m root va access).p
def Zgj:Q0c:=mkP 295 [] true [.one (.ints .u32), .one (.int .u32), .one (.int .u32), .one (.int .i64)] [] (λargs rows=>Qst (argL .u32 args 0) (argI args 1) (argI args 2) (argI args 3)) (λargs rows=>Q6a (argL .u32 args 0) (argI args 1) (argI args 2) (argI args 3)) (λX=> .agg (Q15.cells X)) (λX=>[])
theorem Zeg:Q04 Tryz.prog Zgj:=Q0k drawn Q0h (.cons Qma (.cons Qcp (.cons Qqw (.nil)))) Tryz.func295 Tryz.call295 (λargs rows=>Q9f (argL .u32 args 0) (argI args 1) (argI args 2) (argI args 3)) [] [] 2
def Qe9(m:(List Int))(entry:Int)(access:Int):Tree (List Int):=
.an (Qd5 m entry 4) (.lv (Q2f m entry 4) λ(x0:Bool)=> .br (!x0) (.lf m) (let E3:=Nat.beq 1 1&&Nat.blt 0 1&&decide (0<=wrap u32 (Int.tdiv entry 4)/\wrap u32 (Int.tdiv entry 4)<(m.length:Int)); .cn E3 (.cn E3 (let E4:=Int.toNat (wrap u32 (Int.tdiv entry 4));let E1:=List.set m E4 (ior u32 (m.getD E4 0) 8); .br (access==3) (let E2:=Nat.beq 1 1&&Nat.blt 0 1&&decide (0<=wrap u32 (Int.tdiv entry 4)/\wrap u32 (Int.tdiv entry 4)<(↑(List.length E1):Int)); .cn E2 (.cn E2 (.lf (List.set E1 E4 (ior u32 (List.getD E1 E4 0) 16))))) (.lf E1)))))
def Qme(m:(List Int))(entry:Int)(access:Int):(List Int):=(Qe9 m entry access).m
abbrev Qra(m:(List Int))(entry:Int)(access:Int):Prop:=(Qe9 m entry access).p
def Zfz:Q0c:=mkP 296 [true,false,false] true [.one (.row 0), .one (.int .u32), .one (.int .i64)] [.arr 25 1 (.ints .u32)] (λargs rows=>Qra (rowL .u32 rows 0) (argI args 1) (argI args 2)) (λargs rows=>Qme (rowL .u32 rows 0) (argI args 1) (argI args 2)) (λX=> .tup []) (λX=>[⟨false,25,1, .ints .u32 X⟩])
theorem Zba:Q04 Tryz.prog Zfz:=Q0k drawn Q0h (.cons Qjg (.nil)) Tryz.func296 Tryz.call296 (λargs rows=>Qe9 (rowL .u32 rows 0) (argI args 1) (argI args 2)) [] [] 2
def Q8x(c:Q02)(m:(List Int))(va:Int)(size:Int)(access:Int):Tree (Int×Int×(List Int)):=
.lv (Qgp access) λ(x0:Bool)=> .br (!x0) (.lf (0,5,m)) (let T1:Tree ((Int×Int×(List Int))):= .cn (decide (wrap u32 size≠0)) (.br (Int.tmod va (wrap u32 size) !=0) (.lf (0,3,m)) (.lv (Qnw c) λ(x1:Bool)=> .br (!x1) (.an (Qd5 m va size) (.lv (Q2f m va size) λ(x2:Bool)=> .br (!x2) (.lv (Q39 access) λ(x3:Int)=> .lf (0,x3,m)) (.lf (va,0,m)))) (.an (Qst m c.B4.a6 va access) (.lv (Q6a m c.B4.a6 va access) λ(x4:Q15)=> .br (x4.E0 !=0) (.lf (0,x4.E0,m)) (.an (Qra m x4.F1 access) (.lv (Qme m x4.F1 access) λ(x5:List Int)=> .lf (x4.Addr,0,x5))))))); .br (size !=1) (.br (size !=4) (.lf (0,5,m)) T1) T1)
def Q14(c:Q02)(m:(List Int))(va:Int)(size:Int)(access:Int):(Int×Int×(List Int)):=(Q8x c m va size access).m
abbrev Q88(c:Q02)(m:(List Int))(va:Int)(size:Int)(access:Int):Prop:=(Q8x c m va size access).p
def Zam:Q0c:=mkP 254 [false,true,false,false,false] true [.agg Q02.sig, .one (.row 0), .one (.int .u32), .one (.int .i64), .one (.int .i64)] [.arr 25 1 (.ints .u32)] (λargs rows=>Q88 (Q02.of (aC args 0)) (rowL .u32 rows 0) (argI args 2) (argI args 3) (argI args 4)) (λargs rows=>Q14 (Q02.of (aC args 0)) (rowL .u32 rows 0) (argI args 2) (argI args 3) (argI args 4)) (λX=> .tup [.int .u32 (X.1), .int .i64 (X.2.1)]) (λX=>[⟨false,25,1, .ints .u32 (X.2.2)⟩])
theorem Qqv:Q04 Tryz.prog Zam:=Q0k drawn Q0h (.cons Qqw (.cons Z8s (.cons Qjg (.cons Qma (.cons Zeg (.cons Zba (.nil))))))) Tryz.func254 Tryz.call254 (λargs rows=>Q8x (Q02.of (aC args 0)) (rowL .u32 rows 0) (argI args 2) (argI args 3) (argI args 4)) [] [] 2
def Qk4(op:Int):Tree Bool:=
.br (decide (op>=57)) (.lf (decide (op<=64))) (.lf false)
def Q5e(op:Int):Bool:=(Qk4 op).m
def Qva:Q0c:=mkR 255 [] true [.one (.int .i64)] [] (λargs rows=>Q5e (argI args 0)) (λX=> .bool X) (λX=>[])
theorem Qrx:Q04 Tryz.prog Qva:=Q0v drawn Q0h (.nil) Tryz.func255 Tryz.call255 (λargs rows=>Qk4 (argI args 0)) [] [] 2
def Qd8(c:Q02):Tree Q02:=
.lv (Qbd (iand u32 c.B4.a0 (8:Int) !=(0:Int))) λ(x0:Int)=> .lv (Qbd (iand u32 c.B4.a0 (16:Int) !=(0:Int))) λ(x1:Int)=> .lf ({X:=c.X,Pc:=c.B4.a2,B4:={a0:=ior u32 (ior u32 (Qg7 u32 c.B4.a0 3) (wrap u32 (1*x0))) (wrap u32 (2*x1)),a1:=c.B4.a1,a2:=c.B4.a2,a3:=c.B4.a3,a4:=c.B4.a4,a5:=c.B4.a5,a6:=c.B4.a6,a7:=c.B4.a7}})
def Qhu(c:Q02):Q02:=(Qd8 c).m
def Z75:Q0c:=mkR 297 [] true [.agg Q02.sig] [] (λargs rows=>Qhu (Q02.of (aC args 0))) (λX=> .agg (Q02.cells X)) (λX=>[])
theorem Z3:Q04 Tryz.prog Z75:=Q0v drawn Q0h (.cons Qq7 (.nil)) Tryz.func297 Tryz.call297 (λargs rows=>Qd8 (Q02.of (aC args 0))) [] [] 2
def Qdp(c:Q02)(r:Int)(v:Int):Tree Q02:=
.br (decide (r>0)) (.br (decide (r<16)) (.cn (Nat.blt 0 1&&decide (0<=r/\r<(↑16:Int))) (.lf ({X:=A16.of 0 (List.set (A16.l c.X) r.toNat v),Pc:=c.Pc,B4:=c.B4}))) (.lf c)) (.lf c)
def Q1q(c:Q02)(r:Int)(v:Int):Q02:=(Qdp c r v).m
abbrev Q2w(c:Q02)(r:Int)(v:Int):Prop:=(Qdp c r v).p
def Zky:Q0c:=mkP 219 [] true [.agg Q02.sig, .one (.int .i64), .one (.int .u32)] [] (λargs rows=>Q2w (Q02.of (aC args 0)) (argI args 1) (argI args 2)) (λargs rows=>Q1q (Q02.of (aC args 0)) (argI args 1) (argI args 2)) (λX=> .agg (Q02.cells X)) (λX=>[])
theorem Qe8:Q04 Tryz.prog Zky:=Q0k drawn Q0h (.nil) Tryz.func219 Tryz.call219 (λargs rows=>Qdp (Q02.of (aC args 0)) (argI args 1) (argI args 2)) [] [] 2
def Qc8(c:Q02)(csr:Int)(v:Int):Tree Q02:=
let E4:=Nat.blt 0 1&&decide (0<=csr/\csr<(↑8:Int));let T2:Tree (Q02):= .cn E4 (.lf ({X:=c.X,Pc:=c.Pc,B4:=A8.of 0 (List.set (A8.l c.B4) csr.toNat (iand u32 v 31))})); .br (csr==0) T2 (.br (csr==7) T2 (.br (csr==6) (.cn E4 (.lf ({X:=c.X,Pc:=c.Pc,B4:=A8.of 0 (List.set (A8.l c.B4) csr.toNat (iand u32 v 255))}))) (let T3:Tree (Q02):= .cn E4 (.lf ({X:=c.X,Pc:=c.Pc,B4:=A8.of 0 (List.set (A8.l c.B4) csr.toNat (Qg7 u32 v 3))})); .br (csr==1) T3 (.br (csr==2) T3 (let T1:Tree (Q02):= .cn E4 (.lf ({X:=c.X,Pc:=c.Pc,B4:=A8.of 0 (List.set (A8.l c.B4) csr.toNat v)})); .br (csr==3) T1 (.br (csr==4) T1 (.br (csr==5) T1 (.lf c))))))))
def Qgk(c:Q02)(csr:Int)(v:Int):Q02:=(Qc8 c csr v).m
abbrev Qpm(c:Q02)(csr:Int)(v:Int):Prop:=(Qc8 c csr v).p
def Zb2:Q0c:=mkP 298 [] true [.agg Q02.sig, .one (.int .i64), .one (.int .u32)] [] (λargs rows=>Qpm (Q02.of (aC args 0)) (argI args 1) (argI args 2)) (λargs rows=>Qgk (Q02.of (aC args 0)) (argI args 1) (argI args 2)) (λX=> .agg (Q02.cells X)) (λX=>[])
theorem Z8z:Q04 Tryz.prog Zb2:=Q0k drawn Q0h (.nil) Tryz.func298 Tryz.call298 (λargs rows=>Qc8 (Q02.of (aC args 0)) (argI args 1) (argI args 2)) [] [] 2
def Qct(c:Q02)(i:Q0i):Tree (Q02×Q1):=
.br (i.Op==56) (.lv (Q2m c 7 0) λ(x0:Q02)=> .lf (x0,{B7:=0,C9:=0,D8:=0,Value:=0})) (.br (i.Op==57) (.lv (Qhu c) λ(x1:Q02)=> .lf (x1,{B7:=0,C9:=0,D8:=0,Value:=0})) (.br (i.Op==58) (.cn (Nat.blt 0 1&&decide (0<=i.Imm/\i.Imm<(↑8:Int))) (let E3:=List.getD (A8.l c.B4) i.Imm.toNat 0; .an (Q2w c i.A E3) (.lv (Q1q c i.A E3) λ(x2:Q02)=> .lf ({X:=x2.X,Pc:=wrap u32 (x2.Pc+4),B4:=x2.B4},{B7:=0,C9:=0,D8:=0,Value:=0})))) (let E2:=Nat.blt 0 1&&decide (0<=i.A/\i.A<(↑16:Int)); .br (i.Op==59) (.cn E2 (let E4:=List.getD (A16.l c.X) i.A.toNat 0; .an (Qpm c (wrap i64 i.Imm) E4) (.lv (Qgk c (wrap i64 i.Imm) E4) λ(x3:Q02)=> .lf ({X:=x3.X,Pc:=wrap u32 (x3.Pc+4),B4:=x3.B4},{B7:=0,C9:=0,D8:=0,Value:=0})))) (let E1:=({X:=c.X,Pc:=wrap u32 (c.Pc+4),B4:=c.B4}:Q02); .br (i.Op==60) (.lf (E1,{B7:=1,C9:=wrap i64 i.Imm,D8:=i.A,Value:=0})) (.br (i.Op==61) (.cn E2 (.lf (E1,{B7:=2,C9:=wrap i64 i.Imm,D8:=0,Value:=List.getD (A16.l c.X) i.A.toNat 0}))) (.br (i.Op==62) (.lf (E1,{B7:=3,C9:=0,D8:=0,Value:=0})) (.br (i.Op==63) (.lf (E1,{B7:=5,C9:=0,D8:=0,Value:=0})) (.br (i.Op==64) (.lf (E1,{B7:=4,C9:=0,D8:=0,Value:=0})) (.lf (E1,{B7:=0,C9:=0,D8:=0,Value:=0}))))))))))
def Ql4(c:Q02)(i:Q0i):(Q02×Q1):=(Qct c i).m
abbrev Qnm(c:Q02)(i:Q0i):Prop:=(Qct c i).p
def Z9f:Q0c:=mkP 256 [] true [.agg Q02.sig, .agg Q0i.sig] [] (λargs rows=>Qnm (Q02.of (aC args 0)) (Q0i.of (aC args 1))) (λargs rows=>Ql4 (Q02.of (aC args 0)) (Q0i.of (aC args 1))) (λX=> .tup [.agg (Q02.cells (X.1)), .agg (Q1.cells (X.2))]) (λX=>[])
theorem Z33:Q04 Tryz.prog Z9f:=Q0k drawn Q0h (.cons Qj (.cons Z3 (.cons Qe8 (.cons Z8z (.nil))))) Tryz.func256 Tryz.call256 (λargs rows=>Qct (Q02.of (aC args 0)) (Q0i.of (aC args 1))) [] [] 2
def Qwj(op:Int)(a:Int)(b:Int):Tree Bool:=
.br (op==40) (.lf (a==b)) (.br (op==41) (.lf (a !=b)) (.br (op==42) (.lf (decide (wrap i32 a<wrap i32 b))) (.br (op==43) (.lf (decide (wrap i32 a>=wrap i32 b))) (.br (op==44) (.lf (decide (a<b))) (.lf (decide (a>=b)))))))
def Q21(op:Int)(a:Int)(b:Int):Bool:=(Qwj op a b).m
def Zbq:Q0c:=mkR 299 [] true [.one (.int .i64), .one (.int .u32), .one (.int .u32)] [] (λargs rows=>Q21 (argI args 0) (argI args 1) (argI args 2)) (λX=> .bool X) (λX=>[])
theorem Z86:Q04 Tryz.prog Zbq:=Q0v drawn Q0h (.nil) Tryz.func299 Tryz.call299 (λargs rows=>Qwj (argI args 0) (argI args 1) (argI args 2)) [] [] 2
def Qhe(c:Q02)(i:Q0i):Tree Q02:=
.br (i.Op==48) (.an (Q2w c i.A (wrap u32 (c.Pc+4))) (.lv (Q1q c i.A (wrap u32 (c.Pc+4))) λ(x0:Q02)=> .lf ({X:=x0.X,Pc:=wrap u32 (c.Pc+wrap u32 (4*wrap u32 i.Imm)),B4:=x0.B4}))) (let E1:=Nat.blt 0 1&&decide (0<=i.B/\i.B<(↑16:Int)); .br (i.Op==49) (.cn E1 (.an (Q2w c i.A (wrap u32 (c.Pc+4))) (.lv (Q1q c i.A (wrap u32 (c.Pc+4))) λ(x1:Q02)=> .lf ({X:=x1.X,Pc:=wrap u32 (List.getD (A16.l c.X) i.B.toNat 0+wrap u32 i.Imm),B4:=x1.B4})))) (.cn (Nat.blt 0 1&&decide (0<=i.A/\i.A<(↑16:Int))) (.cn E1 (.lv (Q21 i.Op (List.getD (A16.l c.X) i.A.toNat 0) (List.getD (A16.l c.X) i.B.toNat 0)) λ(x2:Bool)=> .br x2 (.lf ({X:=c.X,Pc:=wrap u32 (c.Pc+wrap u32 (4*wrap u32 i.Imm)),B4:=c.B4})) (.lf ({X:=c.X,Pc:=wrap u32 (c.Pc+4),B4:=c.B4}))))))
def Qzv(c:Q02)(i:Q0i):Q02:=(Qhe c i).m
abbrev Qs7(c:Q02)(i:Q0i):Prop:=(Qhe c i).p
def Zg1:Q0c:=mkP 257 [] true [.agg Q02.sig, .agg Q0i.sig] [] (λargs rows=>Qs7 (Q02.of (aC args 0)) (Q0i.of (aC args 1))) (λargs rows=>Qzv (Q02.of (aC args 0)) (Q0i.of (aC args 1))) (λX=> .agg (Q02.cells X)) (λX=>[])
theorem Zat:Q04 Tryz.prog Zg1:=Q0k drawn Q0h (.cons Qe8 (.cons Z86 (.nil))) Tryz.func257 Tryz.call257 (λargs rows=>Qhe (Q02.of (aC args 0)) (Q0i.of (aC args 1))) [] [] 2
def Q76(x:Int)(n:Int):Tree Int:=
.br (decide (n<1)) (.lf 0) (.br (decide (n>=32)) (.lf x) (.cn (decide (0<=wrap u64 n)) (.cn (decide (0<=wrap u64 (wrap i64 (n-1)))) (let E1:=iand u32 x (wrap u32 (ishl u32 1 (wrap u64 n)-1)); .br (ishr u32 E1 (wrap u64 (wrap i64 (n-1)))==1) (.cn (decide (0<=wrap u64 n)) (.lf (ior u32 E1 (ishl u32 4294967295 (wrap u64 n))))) (.lf E1)))))
def Q36(x:Int)(n:Int):Int:=(Q76 x n).m
abbrev Qbi(x:Int)(n:Int):Prop:=(Q76 x n).p
def Qv4:Q0c:=mkP 301 [] true [.one (.int .u32), .one (.int .i64)] [] (λargs rows=>Qbi (argI args 0) (argI args 1)) (λargs rows=>Q36 (argI args 0) (argI args 1)) (λX=> .int .u32 X) (λX=>[])
theorem Qt1:Q04 Tryz.prog Qv4:=Q0k drawn Q0h (.nil) Tryz.func301 Tryz.call301 (λargs rows=>Q76 (argI args 0) (argI args 1)) [] [] 2
def Q9m(c:Q02)(m:(List Int))(i:Q0i):Tree (Q02×(List Int)):=
.cn (Nat.blt 0 1&&decide (0<=i.B/\i.B<(↑16:Int))) (let E4:=wrap u32 (List.getD (A16.l c.X) i.B.toNat 0+wrap u32 i.Imm);let E5:=List.getD (A16.l c.X) i.A.toNat 0;let E6:=Nat.blt 0 1&&decide (0<=i.A/\i.A<(↑16:Int));let E7:=({X:=c.X,Pc:=wrap u32 (c.Pc+4),B4:=c.B4}:Q02);let T1:Tree ((Q02×(List Int))):=let T3:Tree ((Q02×(List Int))):= .an (Q88 c m E4 4 3) (.lv (Q14 c m E4 4 3) λ(x0:Int×Int×List Int)=> .br (x0.2.1 !=0) (.lv (Q2m c x0.2.1 E4) λ(x1:Q02)=> .lf (x1,x0.2.2)) (.cn E6 (.an (Qep x0.2.2 x0.1 4 E5) (.lv (Qag x0.2.2 x0.1 4 E5) λ(x2:List Int)=> .lf (E7,x2))))); .br (i.Op==35) T3 (.br (i.Op==36) T3 (.an (Q88 c m E4 4 2) (.lv (Q14 c m E4 4 2) λ(x6:Int×Int×List Int)=> .br (x6.2.1 !=0) (.lv (Q2m c x6.2.1 E4) λ(x7:Q02)=> .lf (x7,x6.2.2)) (.an (Qcm x6.2.2 x6.1 4) (.lv (Q23 x6.2.2 x6.1 4) λ(x8:Int×Bool)=> .br (i.Op==33) (.an (Qbi x8.1 8) (.lv (Q36 x8.1 8) λ(x9:Int)=> .an (Q2w c i.A x9) (.lv (Q1q c i.A x9) λ(x10:Q02)=> .lf ({X:=x10.X,Pc:=wrap u32 (x10.Pc+4),B4:=x10.B4},x6.2.2)))) (.an (Q2w c i.A x8.1) (.lv (Q1q c i.A x8.1) λ(x11:Q02)=> .lf ({X:=x11.X,Pc:=wrap u32 (x11.Pc+4),B4:=x11.B4},x6.2.2)))))))); .br (i.Op==32) T1 (.br (i.Op==35) T1 (let T2:Tree ((Q02×(List Int))):= .an (Q88 c m E4 1 3) (.lv (Q14 c m E4 1 3) λ(x24:Int×Int×List Int)=> .br (x24.2.1 !=0) (.lv (Q2m c x24.2.1 E4) λ(x25:Q02)=> .lf (x25,x24.2.2)) (.cn E6 (.an (Qep x24.2.2 x24.1 1 E5) (.lv (Qag x24.2.2 x24.1 1 E5) λ(x26:List Int)=> .lf (E7,x26))))); .br (i.Op==35) T2 (.br (i.Op==36) T2 (.an (Q88 c m E4 1 2) (.lv (Q14 c m E4 1 2) λ(x30:Int×Int×List Int)=> .br (x30.2.1 !=0) (.lv (Q2m c x30.2.1 E4) λ(x31:Q02)=> .lf (x31,x30.2.2)) (.an (Qcm x30.2.2 x30.1 1) (.lv (Q23 x30.2.2 x30.1 1) λ(x32:Int×Bool)=> .br (i.Op==33) (.an (Qbi x32.1 8) (.lv (Q36 x32.1 8) λ(x33:Int)=> .an (Q2w c i.A x33) (.lv (Q1q c i.A x33) λ(x34:Q02)=> .lf ({X:=x34.X,Pc:=wrap u32 (x34.Pc+4),B4:=x34.B4},x30.2.2)))) (.an (Q2w c i.A x32.1) (.lv (Q1q c i.A x32.1) λ(x35:Q02)=> .lf ({X:=x35.X,Pc:=wrap u32 (x35.Pc+4),B4:=x35.B4},x30.2.2)))))))))))
def Q4n(c:Q02)(m:(List Int))(i:Q0i):(Q02×(List Int)):=(Q9m c m i).m
abbrev Qk9(c:Q02)(m:(List Int))(i:Q0i):Prop:=(Q9m c m i).p
def Z1:Q0c:=mkP 258 [false,true,false] true [.agg Q02.sig, .one (.row 0), .agg Q0i.sig] [.arr 25 1 (.ints .u32)] (λargs rows=>Qk9 (Q02.of (aC args 0)) (rowL .u32 rows 0) (Q0i.of (aC args 2))) (λargs rows=>Q4n (Q02.of (aC args 0)) (rowL .u32 rows 0) (Q0i.of (aC args 2))) (λX=> .agg (Q02.cells (X.1))) (λX=>[⟨false,25,1, .ints .u32 (X.2)⟩])
theorem Qx2:Q04 Tryz.prog Z1:=Q0k drawn Q0h (.cons Qqv (.cons Qj (.cons Z0r (.cons Qnk (.cons Qt1 (.cons Qe8 (.nil))))))) Tryz.func258 Tryz.call258 (λargs rows=>Q9m (Q02.of (aC args 0)) (rowL .u32 rows 0) (Q0i.of (aC args 2))) [] [] 2
def Qvw(op:Int):Tree Int:=
.br (op==16) (.lf 1) (.br (op==17) (.lf 3) (.br (op==18) (.lf 4) (.br (op==19) (.lf 5) (.br (op==20) (.lf 6) (.br (op==21) (.lf 7) (.br (op==22) (.lf 8) (.br (op==23) (.lf 12) (.lf op))))))))
def Z4k(op:Int):Int:=(Qvw op).m
def Zd4:Q0c:=mkR 302 [] true [.one (.int .i64)] [] (λargs rows=>Z4k (argI args 0)) (λX=> .int .i64 X) (λX=>[])
theorem Z9l:Q04 Tryz.prog Zd4:=Q0v drawn Q0h (.nil) Tryz.func302 Tryz.call302 (λargs rows=>Qvw (argI args 0)) [] [] 2
def Q9r(a:Int)(b:Int):Tree (Int×Int):=
.br (b==0) (.lf (4294967295,a)) (.cn (decide (wrap i64 (wrap i32 b)≠0)) (.cn (decide (wrap i64 (wrap i32 b)≠0)) (.lf (wrap u32 (wrap i64 (Int.tdiv (wrap i64 (wrap i32 a)) (wrap i64 (wrap i32 b)))),wrap u32 (Int.tmod (wrap i64 (wrap i32 a)) (wrap i64 (wrap i32 b)))))))
def Qby(a:Int)(b:Int):(Int×Int):=(Q9r a b).m
abbrev Qha(a:Int)(b:Int):Prop:=(Q9r a b).p
def Z6p:Q0c:=mkP 303 [] true [.one (.int .u32), .one (.int .u32)] [] (λargs rows=>Qha (argI args 0) (argI args 1)) (λargs rows=>Qby (argI args 0) (argI args 1)) (λX=> .tup [.int .u32 (X.1), .int .u32 (X.2)]) (λX=>[])
theorem Z2n:Q04 Tryz.prog Z6p:=Q0k drawn Q0h (.nil) Tryz.func303 Tryz.call303 (λargs rows=>Q9r (argI args 0) (argI args 1)) [] [] 2
def Qjj(op:Int)(a:Int)(b:Int):Tree (Int×Bool):=
.lv (Z4k op) λ(x0:Int)=> .br (x0==1) (.lf (wrap u32 (a+b),true)) (.br (x0==2) (.lf (wrap u32 (a-b),true)) (.br (x0==3) (.lf (iand u32 a b,true)) (.br (x0==4) (.lf (ior u32 a b,true)) (.br (x0==5) (.lf (ixor u32 a b,true)) (.br (x0==6) (.lf (ishl u32 a (iand u32 b 31),true)) (.br (x0==7) (.lf (ishr u32 a (iand u32 b 31),true)) (.br (x0==8) (.lf (wrap u32 (ishr i32 (wrap i32 a) (iand u32 b 31)),true)) (.br (x0==9) (.lf (wrap u32 (a*b),true)) (.br (x0==10) (.an (Qha a b) (.lv (Qby a b) λ(x1:Int×Int)=> .lf (x1.1,true))) (.br (x0==11) (.an (Qha a b) (.lv (Qby a b) λ(x2:Int×Int)=> .lf (x2.2,true))) (.br (x0==12) (.lv (Qbd (decide (wrap i32 a<wrap i32 b))) λ(x3:Int)=> .lf (x3,true)) (.br (x0==13) (.lv (Qbd (decide (a<b))) λ(x4:Int)=> .lf (x4,true)) (.lf (0,false))))))))))))))
def Qci(op:Int)(a:Int)(b:Int):(Int×Bool):=(Qjj op a b).m
abbrev Qnr(op:Int)(a:Int)(b:Int):Prop:=(Qjj op a b).p
def Zjt:Q0c:=mkP 259 [] true [.one (.int .i64), .one (.int .u32), .one (.int .u32)] [] (λargs rows=>Qnr (argI args 0) (argI args 1) (argI args 2)) (λargs rows=>Qci (argI args 0) (argI args 1) (argI args 2)) (λX=> .tup [.int .u32 (X.1), .bool (X.2)]) (λX=>[])
theorem Zes:Q04 Tryz.prog Zjt:=Q0k drawn Q0h (.cons Z9l (.cons Z2n (.cons Qq7 (.nil)))) Tryz.func259 Tryz.call259 (λargs rows=>Qjj (argI args 0) (argI args 1) (argI args 2)) [] [] 2
def Qmg(c:Q02)(m:(List Int)):Tree (Q02×Q1×(List Int)):=
.an (Q88 c m c.Pc 4 1) (.lv (Q14 c m c.Pc 4 1) λ(x0:Int×Int×List Int)=> .br (x0.2.1 !=0) (.lv (Q2m c x0.2.1 c.Pc) λ(x1:Q02)=> .lf (x1,{B7:=0,C9:=0,D8:=0,Value:=0},x0.2.2)) (.an (Qcm x0.2.2 x0.1 4) (.lv (Q23 x0.2.2 x0.1 4) λ(x2:Int×Bool)=> .lv (Q3o x2.1) λ(x3:Q0i×Bool)=> .br (!x3.2) (.lv (Q2m c 1 x2.1) λ(x4:Q02)=> .lf (x4,{B7:=0,C9:=0,D8:=0,Value:=0},x0.2.2)) (.lv (Q5e x3.1.Op) λ(x5:Bool)=>let T1:Tree ((Q02×Q1×(List Int))):= .br (decide (x3.1.Op>=56)) (.an (Qnm c x3.1) (.lv (Ql4 c x3.1) λ(x7:Q02×Q1)=> .lf (x7.1,x7.2,x0.2.2))) (.br (decide (x3.1.Op>=40)) (.an (Qs7 c x3.1) (.lv (Qzv c x3.1) λ(x8:Q02)=> .lf (x8,{B7:=0,C9:=0,D8:=0,Value:=0},x0.2.2))) (.br (decide (x3.1.Op>=32)) (.an (Qk9 c x0.2.2 x3.1) (.lv (Q4n c x0.2.2 x3.1) λ(x9:Q02×List Int)=> .lf (x9.1,{B7:=0,C9:=0,D8:=0,Value:=0},x9.2))) (.br (x3.1.Op==24) (.an (Q2w c x3.1.A (ishl u32 (wrap u32 x3.1.Imm) 16)) (.lv (Q1q c x3.1.A (ishl u32 (wrap u32 x3.1.Imm) 16)) λ(x10:Q02)=> .lf ({X:=x10.X,Pc:=wrap u32 (x10.Pc+4),B4:=x10.B4},{B7:=0,C9:=0,D8:=0,Value:=0},x0.2.2))) (let E2:=List.getD (A16.l c.X) x3.1.B.toNat 0;let E3:=Nat.blt 0 1&&decide (0<=x3.1.B/\x3.1.B<(↑16:Int)); .br (decide (x3.1.Op<=13)) (.cn (Nat.blt 0 1&&decide (0<=x3.1.C/\x3.1.C<(↑16:Int))) (.cn E3 (let E4:=List.getD (A16.l c.X) x3.1.C.toNat 0; .an (Qnr x3.1.Op E2 E4) (.lv (Qci x3.1.Op E2 E4) λ(x11:Int×Bool)=> .an (Q2w c x3.1.A x11.1) (.lv (Q1q c x3.1.A x11.1) λ(x12:Q02)=> .lf ({X:=x12.X,Pc:=wrap u32 (x12.Pc+4),B4:=x12.B4},{B7:=0,C9:=0,D8:=0,Value:=0},x0.2.2)))))) (.cn E3 (.an (Qnr x3.1.Op E2 (wrap u32 x3.1.Imm)) (.lv (Qci x3.1.Op E2 (wrap u32 x3.1.Imm)) λ(x13:Int×Bool)=> .an (Q2w c x3.1.A x13.1) (.lv (Q1q c x3.1.A x13.1) λ(x14:Q02)=> .lf ({X:=x14.X,Pc:=wrap u32 (x14.Pc+4),B4:=x14.B4},{B7:=0,C9:=0,D8:=0,Value:=0},x0.2.2))))))))); .br x5 (.br (iand u32 c.B4.a0 (1:Int)==(0:Int)) (.lv (Q2m c 2 x2.1) λ(x6:Q02)=> .lf (x6,{B7:=0,C9:=0,D8:=0,Value:=0},x0.2.2)) T1) T1))))
def Q8g(c:Q02)(m:(List Int)):(Q02×Q1×(List Int)):=(Qmg c m).m
abbrev Qpz(c:Q02)(m:(List Int)):Prop:=(Qmg c m).p
def vz:Q0c:=mkP 217 [false,true] true [.agg Q02.sig, .one (.row 0)] [.arr 25 1 (.ints .u32)] (λargs rows=>Qpz (Q02.of (aC args 0)) (rowL .u32 rows 0)) (λargs rows=>Q8g (Q02.of (aC args 0)) (rowL .u32 rows 0)) (λX=> .tup [.agg (Q02.cells (X.1)), .agg (Q1.cells (X.2.1))]) (λX=>[⟨false,25,1, .ints .u32 (X.2.2)⟩])
theorem Z55:Q04 Tryz.prog vz:=Q0k drawn Q0h (.cons Qqv (.cons Qj (.cons Qnk (.cons Qpg (.cons Qrx (.cons Z33 (.cons Zat (.cons Qx2 (.cons Qe8 (.cons Zes (.nil))))))))))) Tryz.func217 Tryz.call217 (λargs rows=>Qmg (Q02.of (aC args 0)) (rowL .u32 rows 0)) [] [] 2
end
end Go.Proofs.YtmalmklaonainaaGreat

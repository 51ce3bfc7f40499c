import Derived.Test.YtmalmklaonainaaGreatReplayRefusesZa
set_option maxRecDepth 100000
set_option linter.all false
namespace Go.Proofs.YtmalmklaonainaaGreat
open Go Go.GD Go.IntKind
noncomputable section
def Z7x(b:Bool):Tree Int:=
.br b (.lf 1) (.lf 0)
def Qcl(b:Bool):Int:=(Z7x b).m
def Zob:Q0d:=mkR 281 [] true [.one (.bool)] [] (λargs rows=>Qcl (argB args 0)) (λX=> .int .u32 X) (λX=>[])
theorem Qrw:Q05 Tryz.prog Zob:=Q0z drawn Q0j (.nil) Tryz.func281 Tryz.call281 (λargs rows=>Z7x (argB args 0)) [] [] 2
def Qjw(c:Q02)(cause:Int)(bad:Int):Tree Q02:=
.lv (Qcl (iand u32 c.B5.a0 (1:Int) !=(0:Int))) λ(x0:Int)=> .lv (Qcl (iand u32 c.B5.a0 (2:Int) !=(0:Int))) λ(x1:Int)=> .lf ({X:=c.X,Pc:=c.B5.a1,B5:={a0:=ior u32 (Qhp u32 (ior u32 (ior u32 (Qhp u32 c.B5.a0 24) (wrap u32 (8*x0))) (wrap u32 (16*x1))) 2) 1,a1:=c.B5.a1,a2:=c.Pc,a3:=wrap u32 cause,a4:=bad,a5:=c.B5.a5,a6:=c.B5.a6,a7:=c.B5.a7}})
def Q2x(c:Q02)(cause:Int)(bad:Int):Q02:=(Qjw c cause bad).m
def Zk7:Q0d:=mkR 244 [] true [.agg Q02.sig, .one (.int .i64), .one (.int .u32)] [] (λargs rows=>Q2x (Q02.of (aC args 0)) (argI args 1) (argI args 2)) (λX=> .agg (Q02.cells X)) (λX=>[])
theorem Qkh:Q05 Tryz.prog Zk7:=Q0z drawn Q0j (.cons Qrw (.nil)) Tryz.func244 Tryz.call244 (λargs rows=>Qjw (Q02.of (aC args 0)) (argI args 1) (argI args 2)) [] [] 2
def Q8d(m:(List Int))(addr:Int)(size:Int):Tree Bool:=
let T1:Tree (Bool):= .cn (decide (wrap u32 size≠0)) (.br (Int.tmod addr (wrap u32 size)==0) (.lv (Q3z m) λ(x0:Int)=> .lf (decide (addr<wrap u32 (wrap i64 (128*x0))))) (.lf false)); .br (size !=1) (.br (size !=4) (.lf false) T1) T1
def Q25(m:(List Int))(addr:Int)(size:Int):Bool:=(Q8d m addr size).m
abbrev Qeg(m:(List Int))(addr:Int)(size:Int):Prop:=(Q8d m addr size).p
def Zc9:Q0d:=mkP 245 [] true [.one (.ints .u32), .one (.int .u32), .one (.int .i64)] [] (λargs rows=>Qeg (argL .u32 args 0) (argI args 1) (argI args 2)) (λargs rows=>Q25 (argL .u32 args 0) (argI args 1) (argI args 2)) (λX=> .bool X) (λX=>[])
theorem Ql0:Q05 Tryz.prog Zc9:=Q0l drawn Q0j (.cons Qe8 (.nil)) Tryz.func245 Tryz.call245 (λargs rows=>Q8d (argL .u32 args 0) (argI args 1) (argI args 2)) [] [] 2
def Q41(m:(List Int))(addr:Int)(size:Int):Tree (Int×Bool):=
.an (Qeg m addr size) (.lv (Q25 m addr size) λ(x0:Bool)=> .br (!x0) (.lf (0,false)) (.cn (Nat.beq 1 1&&Nat.blt 0 1&&decide (0<=wrap u32 (Int.tdiv addr 4)/\wrap u32 (Int.tdiv addr 4)<(m.length:Int))) (.br (size==1) (.cn (decide (0<=wrap u32 (8*Int.tmod addr 4))) (.lf (iand u32 (ishr u32 (m.getD (Int.toNat (wrap u32 (Int.tdiv addr 4))) 0) (wrap u32 (8*Int.tmod addr 4))) 255,true))) (.lf (m.getD (Int.toNat (wrap u32 (Int.tdiv addr 4))) 0,true)))))
def Q1c(m:(List Int))(addr:Int)(size:Int):(Int×Bool):=(Q41 m addr size).m
abbrev Qer(m:(List Int))(addr:Int)(size:Int):Prop:=(Q41 m addr size).p
def Zhk:Q0d:=mkP 187 [] true [.one (.ints .u32), .one (.int .u32), .one (.int .i64)] [] (λargs rows=>Qer (argL .u32 args 0) (argI args 1) (argI args 2)) (λargs rows=>Q1c (argL .u32 args 0) (argI args 1) (argI args 2)) (λX=> .tup [.int .u32 (X.1), .bool (X.2)]) (λX=>[])
theorem Qpc:Q05 Tryz.prog Zhk:=Q0l drawn Q0j (.cons Ql0 (.nil)) Tryz.func187 Tryz.call187 (λargs rows=>Q41 (argL .u32 args 0) (argI args 1) (argI args 2)) [] [] 2
def Q6x(w:Int):Tree (Q0k×Bool):=
.lv (Q2e (wrap i64 (ishr u32 w 24))) λ(x0:Int)=>let E5:=({Op:=0,A:=0,B:=0,C:=0,Imm:=0}:Q0k); .br (x0==0) (.lf (E5,false)) (.br (x0==2) (let E3:=({Op:=wrap i64 (ishr u32 w 24),A:=wrap i64 (iand u32 (ishr u32 w 20) 15),B:=wrap i64 (iand u32 (ishr u32 w 16) 15),C:=wrap i64 (iand u32 w 65535),Imm:=0}:Q0k); .lv (Q7u E3) λ(x1:Bool)=> .br (!x1) (.lf (E5,false)) (.lf (E3,true))) (let T1:Tree ((Q0k×Bool)):=let E2:=({Op:=wrap i64 (ishr u32 w 24),A:=wrap i64 (iand u32 (ishr u32 w 20) 15),B:=wrap i64 (iand u32 (ishr u32 w 16) 15),C:=0,Imm:=wrap i32 (wrap i16 (iand u32 w 65535))}:Q0k); .lv (Q7u E2) λ(x2:Bool)=> .br (!x2) (.lf (E5,false)) (.lf (E2,true)); .br (x0==3) T1 (.br (x0==7) T1 (let E4:=({Op:=wrap i64 (ishr u32 w 24),A:=wrap i64 (iand u32 (ishr u32 w 20) 15),B:=wrap i64 (iand u32 (ishr u32 w 16) 15),C:=0,Imm:=wrap i32 (iand u32 w 65535)}:Q0k); .lv (Q7u E4) λ(x4:Bool)=> .br (!x4) (.lf (E5,false)) (.lf (E4,true))))))
def Q20(w:Int):(Q0k×Bool):=(Q6x w).m
def Za1:Q0d:=mkR 188 [] true [.one (.int .u32)] [] (λargs rows=>Q20 (argI args 0)) (λX=> .tup [.agg (Q0k.cells (X.1)), .bool (X.2)]) (λX=>[])
theorem Qra:Q05 Tryz.prog Za1:=Q0z drawn Q0j (.cons Qgg (.cons Qur (.nil))) Tryz.func188 Tryz.call188 (λargs rows=>Q6x (argI args 0)) [] [] 2
def Qxs(access:Int):Tree Bool:=
.br (decide (access>=1)) (.lf (decide (access<=3))) (.lf false)
def Qez(access:Int):Bool:=(Qxs access).m
def Zcu:Q0d:=mkR 292 [] true [.one (.int .i64)] [] (λargs rows=>Qez (argI args 0)) (λX=> .bool X) (λX=>[])
theorem Qv1:Q05 Tryz.prog Zcu:=Q0z drawn Q0j (.nil) Tryz.func292 Tryz.call292 (λargs rows=>Qxs (argI args 0)) [] [] 2
def Qz2(c:Q02):Tree Bool:=
.lf (iand u32 c.B5.a0 (5:Int)==(4:Int))
def Qlk(c:Q02):Bool:=(Qz2 c).m
def Ze2:Q0d:=mkR 293 [] true [.agg Q02.sig] [] (λargs rows=>Qlk (Q02.of (aC args 0))) (λX=> .bool X) (λX=>[])
theorem Zcd:Q05 Tryz.prog Ze2:=Q0z drawn Q0j (.nil) Tryz.func293 Tryz.call293 (λargs rows=>Qz2 (Q02.of (aC args 0))) [] [] 2
def Q97(access:Int):Tree Int:=
.br (access==1) (.lf 4) (.br (access==3) (.lf 6) (.lf 5))
def Q22(access:Int):Int:=(Q97 access).m
def Z67:Q0d:=mkR 294 [] true [.one (.int .i64)] [] (λargs rows=>Q22 (argI args 0)) (λX=> .int .i64 X) (λX=>[])
theorem Qp1:Q05 Tryz.prog Z67:=Q0z drawn Q0j (.nil) Tryz.func294 Tryz.call294 (λargs rows=>Q97 (argI args 0)) [] [] 2
def Qa3(m:(List Int))(root:Int)(va:Int)(access:Int):Tree Q1b:=
.lv (Q22 access) λ(x0:Int)=> .lv (Q3z m) λ(x1:Int)=> .lv (Qez access) λ(x2:Bool)=>let E4:=({Addr:=0,F2:=0,F0:=x0}:Q1b); .br (!x2) (.lf (E4)) (.br (decide (va>=4096)) (.lf (E4)) (.br (decide (root>=wrap u32 x1)) (.lf (E4)) (let E6:=wrap u32 (root*128)+wrap u32 (4*wrap u32 (Int.tdiv va 128));let E3:=Int.tdiv (wrap u32 E6) 4; .cn (Nat.beq 1 1&&Nat.blt 0 1&&decide (0<=wrap u32 E3/\wrap u32 E3<(m.length:Int))) (let E5:=m.getD (Int.toNat (wrap u32 E3)) 0; .br (iand u32 E5 (1:Int)==(0:Int)) (.lf (E4)) (let T1:Tree (Q1b):= .br (decide (iand u32 (ishr u32 E5 8) 255>=wrap u32 x1)) (.lf (E4)) (.lf ({Addr:=wrap u32 (wrap u32 (iand u32 (ishr u32 E5 8) (255:Int)*(128:Int))+Int.tmod va 128),F2:=wrap u32 E6,F0:=0}));let T2:Tree (Q1b):= .br (access==1) (.br (iand u32 E5 (4:Int)==(0:Int)) (.lf (E4)) T1) T1; .br (access==3) (.br (iand u32 E5 (2:Int)==(0:Int)) (.lf (E4)) T2) T2)))))
def Q79(m:(List Int))(root:Int)(va:Int)(access:Int):Q1b:=(Qa3 m root va access).m
abbrev Qtc(m:(List Int))(root:Int)(va:Int)(access:Int):Prop:=(Qa3 m root va access).p
def Zis:Q0d:=mkP 295 [] true [.one (.ints .u32), .one (.int .u32), .one (.int .u32), .one (.int .i64)] [] (λargs rows=>Qtc (argL .u32 args 0) (argI args 1) (argI args 2) (argI args 3)) (λargs rows=>Q79 (argL .u32 args 0) (argI args 1) (argI args 2) (argI args 3)) (λX=> .agg (Q1b.cells X)) (λX=>[])
theorem Zdq:Q05 Tryz.prog Zis:=Q0l drawn Q0j (.cons Qp1 (.cons Qe8 (.cons Qv1 (.nil)))) Tryz.func295 Tryz.call295 (λargs rows=>Qa3 (argL .u32 args 0) (argI args 1) (argI args 2) (argI args 3)) [] [] 2
def Qf5(m:(List Int))(entry:Int)(access:Int):Tree (List Int):=
.an (Qeg m entry 4) (.lv (Q25 m entry 4) λ(x0:Bool)=> .br (!x0) (.lf m) (let E3:=Nat.beq 1 1&&Nat.blt 0 1&&decide (0<=wrap u32 (Int.tdiv entry 4)/\wrap u32 (Int.tdiv entry 4)<(m.length:Int)); .cn E3 (.cn E3 (let E4:=Int.toNat (wrap u32 (Int.tdiv entry 4));let E1:=List.set m E4 (ior u32 (m.getD E4 0) 8); .br (access==3) (let E2:=Nat.beq 1 1&&Nat.blt 0 1&&decide (0<=wrap u32 (Int.tdiv entry 4)/\wrap u32 (Int.tdiv entry 4)<(↑(List.length E1):Int)); .cn E2 (.cn E2 (.lf (List.set E1 E4 (ior u32 (List.getD E1 E4 0) 16))))) (.lf E1)))))
def Qp2(m:(List Int))(entry:Int)(access:Int):(List Int):=(Qf5 m entry access).m
abbrev Qta(m:(List Int))(entry:Int)(access:Int):Prop:=(Qf5 m entry access).p
def Zi4:Q0d:=mkP 296 [true,false,false] true [.one (.row 0), .one (.int .u32), .one (.int .i64)] [.arr 25 1 (.ints .u32)] (λargs rows=>Qta (rowL .u32 rows 0) (argI args 1) (argI args 2)) (λargs rows=>Qp2 (rowL .u32 rows 0) (argI args 1) (argI args 2)) (λX=> .tup []) (λX=>[⟨false,25,1, .ints .u32 X⟩])
theorem Zee:Q05 Tryz.prog Zi4:=Q0l drawn Q0j (.cons Ql0 (.nil)) Tryz.func296 Tryz.call296 (λargs rows=>Qf5 (rowL .u32 rows 0) (argI args 1) (argI args 2)) [] [] 2
def Q88(c:Q02)(m:(List Int))(va:Int)(size:Int)(access:Int):Tree (Int×Int×(List Int)):=
.lv (Qez access) λ(x0:Bool)=> .br (!x0) (.lf (0,5,m)) (let T1:Tree ((Int×Int×(List Int))):= .cn (decide (wrap u32 size≠0)) (.br (Int.tmod va (wrap u32 size) !=0) (.lf (0,3,m)) (.lv (Qlk c) λ(x1:Bool)=> .br (!x1) (.an (Qeg m va size) (.lv (Q25 m va size) λ(x2:Bool)=> .br (!x2) (.lv (Q22 access) λ(x3:Int)=> .lf (0,x3,m)) (.lf (va,0,m)))) (.an (Qtc m c.B5.a6 va access) (.lv (Q79 m c.B5.a6 va access) λ(x4:Q1b)=> .br (x4.F0 !=0) (.lf (0,x4.F0,m)) (.an (Qta m x4.F2 access) (.lv (Qp2 m x4.F2 access) λ(x5:List Int)=> .lf (x4.Addr,0,x5))))))); .br (size !=1) (.br (size !=4) (.lf (0,5,m)) T1) T1)
def Q14(c:Q02)(m:(List Int))(va:Int)(size:Int)(access:Int):(Int×Int×(List Int)):=(Q88 c m va size access).m
abbrev Q93(c:Q02)(m:(List Int))(va:Int)(size:Int)(access:Int):Prop:=(Q88 c m va size access).p
def Zf:Q0d:=mkP 254 [false,true,false,false,false] true [.agg Q02.sig, .one (.row 0), .one (.int .u32), .one (.int .i64), .one (.int .i64)] [.arr 25 1 (.ints .u32)] (λargs rows=>Q93 (Q02.of (aC args 0)) (rowL .u32 rows 0) (argI args 2) (argI args 3) (argI args 4)) (λargs rows=>Q14 (Q02.of (aC args 0)) (rowL .u32 rows 0) (argI args 2) (argI args 3) (argI args 4)) (λX=> .tup [.int .u32 (X.1), .int .i64 (X.2.1)]) (λX=>[⟨false,25,1, .ints .u32 (X.2.2)⟩])
theorem Qto:Q05 Tryz.prog Zf:=Q0l drawn Q0j (.cons Qv1 (.cons Zcd (.cons Ql0 (.cons Qp1 (.cons Zdq (.cons Zee (.nil))))))) Tryz.func254 Tryz.call254 (λargs rows=>Q88 (Q02.of (aC args 0)) (rowL .u32 rows 0) (argI args 2) (argI args 3) (argI args 4)) [] [] 2
def Qlh(op:Int):Tree Bool:=
.br (decide (op>=57)) (.lf (decide (op<=64))) (.lf false)
def Q3e(op:Int):Bool:=(Qlh op).m
def Qwb:Q0d:=mkR 255 [] true [.one (.int .i64)] [] (λargs rows=>Q3e (argI args 0)) (λX=> .bool X) (λX=>[])
theorem Qtd:Q05 Tryz.prog Qwb:=Q0z drawn Q0j (.nil) Tryz.func255 Tryz.call255 (λargs rows=>Qlh (argI args 0)) [] [] 2
def Qee(c:Q02):Tree Q02:=
.lv (Qcl (iand u32 c.B5.a0 (8:Int) !=(0:Int))) λ(x0:Int)=> .lv (Qcl (iand u32 c.B5.a0 (16:Int) !=(0:Int))) λ(x1:Int)=> .lf ({X:=c.X,Pc:=c.B5.a2,B5:={a0:=ior u32 (ior u32 (Qhp u32 c.B5.a0 3) (wrap u32 (1*x0))) (wrap u32 (2*x1)),a1:=c.B5.a1,a2:=c.B5.a2,a3:=c.B5.a3,a4:=c.B5.a4,a5:=c.B5.a5,a6:=c.B5.a6,a7:=c.B5.a7}})
def Qj0(c:Q02):Q02:=(Qee c).m
def Zad:Q0d:=mkR 297 [] true [.agg Q02.sig] [] (λargs rows=>Qj0 (Q02.of (aC args 0))) (λX=> .agg (Q02.cells X)) (λX=>[])
theorem Z5r:Q05 Tryz.prog Zad:=Q0z drawn Q0j (.cons Qrw (.nil)) Tryz.func297 Tryz.call297 (λargs rows=>Qee (Q02.of (aC args 0))) [] [] 2
def Qfl(c:Q02)(r:Int)(v:Int):Tree Q02:=
.br (decide (r>0)) (.br (decide (r<16)) (.cn (Nat.blt 0 1&&decide (0<=r/\r<(↑16:Int))) (.lf ({X:=A16.of 0 (List.set (A16.l c.X) r.toNat v),Pc:=c.Pc,B5:=c.B5}))) (.lf c)) (.lf c)
def Q1y(c:Q02)(r:Int)(v:Int):Q02:=(Qfl c r v).m
abbrev Q34(c:Q02)(r:Int)(v:Int):Prop:=(Qfl c r v).p
def Zni:Q0d:=mkP 219 [] true [.agg Q02.sig, .one (.int .i64), .one (.int .u32)] [] (λargs rows=>Q34 (Q02.of (aC args 0)) (argI args 1) (argI args 2)) (λargs rows=>Q1y (Q02.of (aC args 0)) (argI args 1) (argI args 2)) (λX=> .agg (Q02.cells X)) (λX=>[])
theorem Qf3:Q05 Tryz.prog Zni:=Q0l drawn Q0j (.nil) Tryz.func219 Tryz.call219 (λargs rows=>Qfl (Q02.of (aC args 0)) (argI args 1) (argI args 2)) [] [] 2
def Qdg(c:Q02)(csr:Int)(v:Int):Tree Q02:=
let E4:=Nat.blt 0 1&&decide (0<=csr/\csr<(↑8:Int));let T2:Tree (Q02):= .cn E4 (.lf ({X:=c.X,Pc:=c.Pc,B5:=A8.of 0 (List.set (A8.l c.B5) csr.toNat (iand u32 v 31))})); .br (csr==0) T2 (.br (csr==7) T2 (.br (csr==6) (.cn E4 (.lf ({X:=c.X,Pc:=c.Pc,B5:=A8.of 0 (List.set (A8.l c.B5) csr.toNat (iand u32 v 255))}))) (let T3:Tree (Q02):= .cn E4 (.lf ({X:=c.X,Pc:=c.Pc,B5:=A8.of 0 (List.set (A8.l c.B5) csr.toNat (Qhp u32 v 3))})); .br (csr==1) T3 (.br (csr==2) T3 (let T1:Tree (Q02):= .cn E4 (.lf ({X:=c.X,Pc:=c.Pc,B5:=A8.of 0 (List.set (A8.l c.B5) csr.toNat v)})); .br (csr==3) T1 (.br (csr==4) T1 (.br (csr==5) T1 (.lf c))))))))
def Qi9(c:Q02)(csr:Int)(v:Int):Q02:=(Qdg c csr v).m
abbrev Qr0(c:Q02)(csr:Int)(v:Int):Prop:=(Qdg c csr v).p
def Zew:Q0d:=mkP 298 [] true [.agg Q02.sig, .one (.int .i64), .one (.int .u32)] [] (λargs rows=>Qr0 (Q02.of (aC args 0)) (argI args 1) (argI args 2)) (λargs rows=>Qi9 (Q02.of (aC args 0)) (argI args 1) (argI args 2)) (λX=> .agg (Q02.cells X)) (λX=>[])
theorem Z99:Q05 Tryz.prog Zew:=Q0l drawn Q0j (.nil) Tryz.func298 Tryz.call298 (λargs rows=>Qdg (Q02.of (aC args 0)) (argI args 1) (argI args 2)) [] [] 2
def Q8l(c:Q02)(i:Q0k):Tree (Q02×Q13):=
.br (i.Op==56) (.lv (Q2x c 7 0) λ(x0:Q02)=> .lf (x0,{B6:=0,D0:=0,D9:=0,Value:=0})) (.br (i.Op==57) (.lv (Qj0 c) λ(x1:Q02)=> .lf (x1,{B6:=0,D0:=0,D9:=0,Value:=0})) (.br (i.Op==58) (.cn (Nat.blt 0 1&&decide (0<=i.Imm/\i.Imm<(↑8:Int))) (let E3:=List.getD (A8.l c.B5) i.Imm.toNat 0; .an (Q34 c i.A E3) (.lv (Q1y c i.A E3) λ(x2:Q02)=> .lf ({X:=x2.X,Pc:=wrap u32 (x2.Pc+4),B5:=x2.B5},{B6:=0,D0:=0,D9:=0,Value:=0})))) (let E2:=Nat.blt 0 1&&decide (0<=i.A/\i.A<(↑16:Int)); .br (i.Op==59) (.cn E2 (let E4:=List.getD (A16.l c.X) i.A.toNat 0; .an (Qr0 c (wrap i64 i.Imm) E4) (.lv (Qi9 c (wrap i64 i.Imm) E4) λ(x3:Q02)=> .lf ({X:=x3.X,Pc:=wrap u32 (x3.Pc+4),B5:=x3.B5},{B6:=0,D0:=0,D9:=0,Value:=0})))) (let E1:=({X:=c.X,Pc:=wrap u32 (c.Pc+4),B5:=c.B5}:Q02); .br (i.Op==60) (.lf (E1,{B6:=1,D0:=wrap i64 i.Imm,D9:=i.A,Value:=0})) (.br (i.Op==61) (.cn E2 (.lf (E1,{B6:=2,D0:=wrap i64 i.Imm,D9:=0,Value:=List.getD (A16.l c.X) i.A.toNat 0}))) (.br (i.Op==62) (.lf (E1,{B6:=3,D0:=0,D9:=0,Value:=0})) (.br (i.Op==63) (.lf (E1,{B6:=5,D0:=0,D9:=0,Value:=0})) (.br (i.Op==64) (.lf (E1,{B6:=4,D0:=0,D9:=0,Value:=0})) (.lf (E1,{B6:=0,D0:=0,D9:=0,Value:=0}))))))))))
def Qjb(c:Q02)(i:Q0k):(Q02×Q13):=(Q8l c i).m
abbrev Qp3(c:Q02)(i:Q0k):Prop:=(Q8l c i).p
def Zb5:Q0d:=mkP 256 [] true [.agg Q02.sig, .agg Q0k.sig] [] (λargs rows=>Qp3 (Q02.of (aC args 0)) (Q0k.of (aC args 1))) (λargs rows=>Qjb (Q02.of (aC args 0)) (Q0k.of (aC args 1))) (λX=> .tup [.agg (Q02.cells (X.1)), .agg (Q13.cells (X.2))]) (λX=>[])
theorem Z5e:Q05 Tryz.prog Zb5:=Q0l drawn Q0j (.cons Qkh (.cons Z5r (.cons Qf3 (.cons Z99 (.nil))))) Tryz.func256 Tryz.call256 (λargs rows=>Q8l (Q02.of (aC args 0)) (Q0k.of (aC args 1))) [] [] 2
def Qym(op:Int)(a:Int)(b:Int):Tree Bool:=
.br (op==40) (.lf (a==b)) (.br (op==41) (.lf (a !=b)) (.br (op==42) (.lf (decide (wrap i32 a<wrap i32 b))) (.br (op==43) (.lf (decide (wrap i32 a>=wrap i32 b))) (.br (op==44) (.lf (decide (a<b))) (.lf (decide (a>=b)))))))
def Q2b(op:Int)(a:Int)(b:Int):Bool:=(Qym op a b).m
def Zg6:Q0d:=mkR 299 [] true [.one (.int .i64), .one (.int .u32), .one (.int .u32)] [] (λargs rows=>Q2b (argI args 0) (argI args 1) (argI args 2)) (λX=> .bool X) (λX=>[])
theorem Z9d:Q05 Tryz.prog Zg6:=Q0z drawn Q0j (.nil) Tryz.func299 Tryz.call299 (λargs rows=>Qym (argI args 0) (argI args 1) (argI args 2)) [] [] 2
def Qie(c:Q02)(i:Q0k):Tree Q02:=
.br (i.Op==48) (.an (Q34 c i.A (wrap u32 (c.Pc+4))) (.lv (Q1y c i.A (wrap u32 (c.Pc+4))) λ(x0:Q02)=> .lf ({X:=x0.X,Pc:=wrap u32 (c.Pc+wrap u32 (4*wrap u32 i.Imm)),B5:=x0.B5}))) (let E1:=Nat.blt 0 1&&decide (0<=i.B/\i.B<(↑16:Int)); .br (i.Op==49) (.cn E1 (.an (Q34 c i.A (wrap u32 (c.Pc+4))) (.lv (Q1y c i.A (wrap u32 (c.Pc+4))) λ(x1:Q02)=> .lf ({X:=x1.X,Pc:=wrap u32 (List.getD (A16.l c.X) i.B.toNat 0+wrap u32 i.Imm),B5:=x1.B5})))) (.cn (Nat.blt 0 1&&decide (0<=i.A/\i.A<(↑16:Int))) (.cn E1 (.lv (Q2b i.Op (List.getD (A16.l c.X) i.A.toNat 0) (List.getD (A16.l c.X) i.B.toNat 0)) λ(x2:Bool)=> .br x2 (.lf ({X:=c.X,Pc:=wrap u32 (c.Pc+wrap u32 (4*wrap u32 i.Imm)),B5:=c.B5})) (.lf ({X:=c.X,Pc:=wrap u32 (c.Pc+4),B5:=c.B5}))))))
def Z36(c:Q02)(i:Q0k):Q02:=(Qie c i).m
abbrev Quo(c:Q02)(i:Q0k):Prop:=(Qie c i).p
def Ziq:Q0d:=mkP 257 [] true [.agg Q02.sig, .agg Q0k.sig] [] (λargs rows=>Quo (Q02.of (aC args 0)) (Q0k.of (aC args 1))) (λargs rows=>Z36 (Q02.of (aC args 0)) (Q0k.of (aC args 1))) (λX=> .agg (Q02.cells X)) (λX=>[])
theorem Zct:Q05 Tryz.prog Ziq:=Q0l drawn Q0j (.cons Qf3 (.cons Z9d (.nil))) Tryz.func257 Tryz.call257 (λargs rows=>Qie (Q02.of (aC args 0)) (Q0k.of (aC args 1))) [] [] 2
def Q8(x:Int)(n:Int):Tree Int:=
.br (decide (n<1)) (.lf 0) (.br (decide (n>=32)) (.lf x) (.cn (decide (0<=wrap u64 n)) (.cn (decide (0<=wrap u64 (wrap i64 (n-1)))) (let E1:=iand u32 x (wrap u32 (ishl u32 1 (wrap u64 n)-1)); .br (ishr u32 E1 (wrap u64 (wrap i64 (n-1)))==1) (.cn (decide (0<=wrap u64 n)) (.lf (ior u32 E1 (ishl u32 4294967295 (wrap u64 n))))) (.lf E1)))))
def Q3d(x:Int)(n:Int):Int:=(Q8 x n).m
abbrev Qcy(x:Int)(n:Int):Prop:=(Q8 x n).p
def Qvd:Q0d:=mkP 301 [] true [.one (.int .u32), .one (.int .i64)] [] (λargs rows=>Qcy (argI args 0) (argI args 1)) (λargs rows=>Q3d (argI args 0) (argI args 1)) (λX=> .int .u32 X) (λX=>[])
theorem Qu8:Q05 Tryz.prog Qvd:=Q0l drawn Q0j (.nil) Tryz.func301 Tryz.call301 (λargs rows=>Q8 (argI args 0) (argI args 1)) [] [] 2
def Q9y(c:Q02)(m:(List Int))(i:Q0k):Tree (Q02×(List Int)):=
.cn (Nat.blt 0 1&&decide (0<=i.B/\i.B<(↑16:Int))) (let E4:=wrap u32 (List.getD (A16.l c.X) i.B.toNat 0+wrap u32 i.Imm);let E5:=List.getD (A16.l c.X) i.A.toNat 0;let E6:=Nat.blt 0 1&&decide (0<=i.A/\i.A<(↑16:Int));let E7:=({X:=c.X,Pc:=wrap u32 (c.Pc+4),B5:=c.B5}:Q02);let T1:Tree ((Q02×(List Int))):=let T3:Tree ((Q02×(List Int))):= .an (Q93 c m E4 4 3) (.lv (Q14 c m E4 4 3) λ(x0:Int×Int×List Int)=> .br (x0.2.1 !=0) (.lv (Q2x c x0.2.1 E4) λ(x1:Q02)=> .lf (x1,x0.2.2)) (.cn E6 (.an (Qgw x0.2.2 x0.1 4 E5) (.lv (Qaz x0.2.2 x0.1 4 E5) λ(x2:List Int)=> .lf (E7,x2))))); .br (i.Op==35) T3 (.br (i.Op==36) T3 (.an (Q93 c m E4 4 2) (.lv (Q14 c m E4 4 2) λ(x6:Int×Int×List Int)=> .br (x6.2.1 !=0) (.lv (Q2x c x6.2.1 E4) λ(x7:Q02)=> .lf (x7,x6.2.2)) (.an (Qer x6.2.2 x6.1 4) (.lv (Q1c x6.2.2 x6.1 4) λ(x8:Int×Bool)=> .br (i.Op==33) (.an (Qcy x8.1 8) (.lv (Q3d x8.1 8) λ(x9:Int)=> .an (Q34 c i.A x9) (.lv (Q1y c i.A x9) λ(x10:Q02)=> .lf ({X:=x10.X,Pc:=wrap u32 (x10.Pc+4),B5:=x10.B5},x6.2.2)))) (.an (Q34 c i.A x8.1) (.lv (Q1y c i.A x8.1) λ(x11:Q02)=> .lf ({X:=x11.X,Pc:=wrap u32 (x11.Pc+4),B5:=x11.B5},x6.2.2)))))))); .br (i.Op==32) T1 (.br (i.Op==35) T1 (let T2:Tree ((Q02×(List Int))):= .an (Q93 c m E4 1 3) (.lv (Q14 c m E4 1 3) λ(x24:Int×Int×List Int)=> .br (x24.2.1 !=0) (.lv (Q2x c x24.2.1 E4) λ(x25:Q02)=> .lf (x25,x24.2.2)) (.cn E6 (.an (Qgw x24.2.2 x24.1 1 E5) (.lv (Qaz x24.2.2 x24.1 1 E5) λ(x26:List Int)=> .lf (E7,x26))))); .br (i.Op==35) T2 (.br (i.Op==36) T2 (.an (Q93 c m E4 1 2) (.lv (Q14 c m E4 1 2) λ(x30:Int×Int×List Int)=> .br (x30.2.1 !=0) (.lv (Q2x c x30.2.1 E4) λ(x31:Q02)=> .lf (x31,x30.2.2)) (.an (Qer x30.2.2 x30.1 1) (.lv (Q1c x30.2.2 x30.1 1) λ(x32:Int×Bool)=> .br (i.Op==33) (.an (Qcy x32.1 8) (.lv (Q3d x32.1 8) λ(x33:Int)=> .an (Q34 c i.A x33) (.lv (Q1y c i.A x33) λ(x34:Q02)=> .lf ({X:=x34.X,Pc:=wrap u32 (x34.Pc+4),B5:=x34.B5},x30.2.2)))) (.an (Q34 c i.A x32.1) (.lv (Q1y c i.A x32.1) λ(x35:Q02)=> .lf ({X:=x35.X,Pc:=wrap u32 (x35.Pc+4),B5:=x35.B5},x30.2.2)))))))))))
def Q59(c:Q02)(m:(List Int))(i:Q0k):(Q02×(List Int)):=(Q9y c m i).m
abbrev Qm8(c:Q02)(m:(List Int))(i:Q0k):Prop:=(Q9y c m i).p
def Z2c:Q0d:=mkP 258 [false,true,false] true [.agg Q02.sig, .one (.row 0), .agg Q0k.sig] [.arr 25 1 (.ints .u32)] (λargs rows=>Qm8 (Q02.of (aC args 0)) (rowL .u32 rows 0) (Q0k.of (aC args 2))) (λargs rows=>Q59 (Q02.of (aC args 0)) (rowL .u32 rows 0) (Q0k.of (aC args 2))) (λX=> .agg (Q02.cells (X.1))) (λX=>[⟨false,25,1, .ints .u32 (X.2)⟩])
theorem Qza:Q05 Tryz.prog Z2c:=Q0l drawn Q0j (.cons Qto (.cons Qkh (.cons Z2r (.cons Qpc (.cons Qu8 (.cons Qf3 (.nil))))))) Tryz.func258 Tryz.call258 (λargs rows=>Q9y (Q02.of (aC args 0)) (rowL .u32 rows 0) (Q0k.of (aC args 2))) [] [] 2
def Qxx(op:Int):Tree Int:=
.br (op==16) (.lf 1) (.br (op==17) (.lf 3) (.br (op==18) (.lf 4) (.br (op==19) (.lf 5) (.br (op==20) (.lf 6) (.br (op==21) (.lf 7) (.br (op==22) (.lf 8) (.br (op==23) (.lf 12) (.lf op))))))))
def Z7j(op:Int):Int:=(Qxx op).m
def Zd0:Q0d:=mkR 302 [] true [.one (.int .i64)] [] (λargs rows=>Z7j (argI args 0)) (λX=> .int .i64 X) (λX=>[])
theorem Zc2:Q05 Tryz.prog Zd0:=Q0z drawn Q0j (.nil) Tryz.func302 Tryz.call302 (λargs rows=>Qxx (argI args 0)) [] [] 2
def Qb2(a:Int)(b:Int):Tree (Int×Int):=
.br (b==0) (.lf (4294967295,a)) (.cn (decide (wrap i64 (wrap i32 b)≠0)) (.cn (decide (wrap i64 (wrap i32 b)≠0)) (.lf (wrap u32 (wrap i64 (Int.tdiv (wrap i64 (wrap i32 a)) (wrap i64 (wrap i32 b)))),wrap u32 (Int.tmod (wrap i64 (wrap i32 a)) (wrap i64 (wrap i32 b)))))))
def Qd3(a:Int)(b:Int):(Int×Int):=(Qb2 a b).m
abbrev Qjy(a:Int)(b:Int):Prop:=(Qb2 a b).p
def Zb9:Q0d:=mkP 303 [] true [.one (.int .u32), .one (.int .u32)] [] (λargs rows=>Qjy (argI args 0) (argI args 1)) (λargs rows=>Qd3 (argI args 0) (argI args 1)) (λX=> .tup [.int .u32 (X.1), .int .u32 (X.2)]) (λX=>[])
theorem Z5:Q05 Tryz.prog Zb9:=Q0l drawn Q0j (.nil) Tryz.func303 Tryz.call303 (λargs rows=>Qb2 (argI args 0) (argI args 1)) [] [] 2
def Qld(op:Int)(a:Int)(b:Int):Tree (Int×Bool):=
.lv (Z7j op) λ(x0:Int)=> .br (x0==1) (.lf (wrap u32 (a+b),true)) (.br (x0==2) (.lf (wrap u32 (a-b),true)) (.br (x0==3) (.lf (iand u32 a b,true)) (.br (x0==4) (.lf (ior u32 a b,true)) (.br (x0==5) (.lf (ixor u32 a b,true)) (.br (x0==6) (.lf (ishl u32 a (iand u32 b 31),true)) (.br (x0==7) (.lf (ishr u32 a (iand u32 b 31),true)) (.br (x0==8) (.lf (wrap u32 (ishr i32 (wrap i32 a) (iand u32 b 31)),true)) (.br (x0==9) (.lf (wrap u32 (a*b),true)) (.br (x0==10) (.an (Qjy a b) (.lv (Qd3 a b) λ(x1:Int×Int)=> .lf (x1.1,true))) (.br (x0==11) (.an (Qjy a b) (.lv (Qd3 a b) λ(x2:Int×Int)=> .lf (x2.2,true))) (.br (x0==12) (.lv (Qcl (decide (wrap i32 a<wrap i32 b))) λ(x3:Int)=> .lf (x3,true)) (.br (x0==13) (.lv (Qcl (decide (a<b))) λ(x4:Int)=> .lf (x4,true)) (.lf (0,false))))))))))))))
def Qeh(op:Int)(a:Int)(b:Int):(Int×Bool):=(Qld op a b).m
abbrev Qo6(op:Int)(a:Int)(b:Int):Prop:=(Qld op a b).p
def Zmw:Q0d:=mkP 259 [] true [.one (.int .i64), .one (.int .u32), .one (.int .u32)] [] (λargs rows=>Qo6 (argI args 0) (argI args 1) (argI args 2)) (λargs rows=>Qeh (argI args 0) (argI args 1) (argI args 2)) (λX=> .tup [.int .u32 (X.1), .bool (X.2)]) (λX=>[])
theorem Zkb:Q05 Tryz.prog Zmw:=Q0l drawn Q0j (.cons Zc2 (.cons Z5 (.cons Qrw (.nil)))) Tryz.func259 Tryz.call259 (λargs rows=>Qld (argI args 0) (argI args 1) (argI args 2)) [] [] 2
def Qol(c:Q02)(m:(List Int)):Tree (Q02×Q13×(List Int)):=
.an (Q93 c m c.Pc 4 1) (.lv (Q14 c m c.Pc 4 1) λ(x0:Int×Int×List Int)=> .br (x0.2.1 !=0) (.lv (Q2x c x0.2.1 c.Pc) λ(x1:Q02)=> .lf (x1,{B6:=0,D0:=0,D9:=0,Value:=0},x0.2.2)) (.an (Qer x0.2.2 x0.1 4) (.lv (Q1c x0.2.2 x0.1 4) λ(x2:Int×Bool)=> .lv (Q20 x2.1) λ(x3:Q0k×Bool)=> .br (!x3.2) (.lv (Q2x c 1 x2.1) λ(x4:Q02)=> .lf (x4,{B6:=0,D0:=0,D9:=0,Value:=0},x0.2.2)) (.lv (Q3e x3.1.Op) λ(x5:Bool)=>let T1:Tree ((Q02×Q13×(List Int))):= .br (decide (x3.1.Op>=56)) (.an (Qp3 c x3.1) (.lv (Qjb c x3.1) λ(x7:Q02×Q13)=> .lf (x7.1,x7.2,x0.2.2))) (.br (decide (x3.1.Op>=40)) (.an (Quo c x3.1) (.lv (Z36 c x3.1) λ(x8:Q02)=> .lf (x8,{B6:=0,D0:=0,D9:=0,Value:=0},x0.2.2))) (.br (decide (x3.1.Op>=32)) (.an (Qm8 c x0.2.2 x3.1) (.lv (Q59 c x0.2.2 x3.1) λ(x9:Q02×List Int)=> .lf (x9.1,{B6:=0,D0:=0,D9:=0,Value:=0},x9.2))) (.br (x3.1.Op==24) (.an (Q34 c x3.1.A (ishl u32 (wrap u32 x3.1.Imm) 16)) (.lv (Q1y c x3.1.A (ishl u32 (wrap u32 x3.1.Imm) 16)) λ(x10:Q02)=> .lf ({X:=x10.X,Pc:=wrap u32 (x10.Pc+4),B5:=x10.B5},{B6:=0,D0:=0,D9:=0,Value:=0},x0.2.2))) (let E2:=List.getD (A16.l c.X) x3.1.B.toNat 0;let E3:=Nat.blt 0 1&&decide (0<=x3.1.B/\x3.1.B<(↑16:Int)); .br (decide (x3.1.Op<=13)) (.cn (Nat.blt 0 1&&decide (0<=x3.1.C/\x3.1.C<(↑16:Int))) (.cn E3 (let E4:=List.getD (A16.l c.X) x3.1.C.toNat 0; .an (Qo6 x3.1.Op E2 E4) (.lv (Qeh x3.1.Op E2 E4) λ(x11:Int×Bool)=> .an (Q34 c x3.1.A x11.1) (.lv (Q1y c x3.1.A x11.1) λ(x12:Q02)=> .lf ({X:=x12.X,Pc:=wrap u32 (x12.Pc+4),B5:=x12.B5},{B6:=0,D0:=0,D9:=0,Value:=0},x0.2.2)))))) (.cn E3 (.an (Qo6 x3.1.Op E2 (wrap u32 x3.1.Imm)) (.lv (Qeh x3.1.Op E2 (wrap u32 x3.1.Imm)) λ(x13:Int×Bool)=> .an (Q34 c x3.1.A x13.1) (.lv (Q1y c x3.1.A x13.1) λ(x14:Q02)=> .lf ({X:=x14.X,Pc:=wrap u32 (x14.Pc+4),B5:=x14.B5},{B6:=0,D0:=0,D9:=0,Value:=0},x0.2.2))))))))); .br x5 (.br (iand u32 c.B5.a0 (1:Int)==(0:Int)) (.lv (Q2x c 2 x2.1) λ(x6:Q02)=> .lf (x6,{B6:=0,D0:=0,D9:=0,Value:=0},x0.2.2)) T1) T1))))
def Q81(c:Q02)(m:(List Int)):(Q02×Q13×(List Int)):=(Qol c m).m
abbrev Qsd(c:Q02)(m:(List Int)):Prop:=(Qol c m).p
def zB:Q0d:=mkP 217 [false,true] true [.agg Q02.sig, .one (.row 0)] [.arr 25 1 (.ints .u32)] (λargs rows=>Qsd (Q02.of (aC args 0)) (rowL .u32 rows 0)) (λargs rows=>Q81 (Q02.of (aC args 0)) (rowL .u32 rows 0)) (λX=> .tup [.agg (Q02.cells (X.1)), .agg (Q13.cells (X.2.1))]) (λX=>[⟨false,25,1, .ints .u32 (X.2.2)⟩])
theorem Z7t:Q05 Tryz.prog zB:=Q0l drawn Q0j (.cons Qto (.cons Qkh (.cons Qpc (.cons Qra (.cons Qtd (.cons Z5e (.cons Zct (.cons Qza (.cons Qf3 (.cons Zkb (.nil))))))))))) Tryz.func217 Tryz.call217 (λargs rows=>Qol (Q02.of (aC args 0)) (rowL .u32 rows 0)) [] [] 2

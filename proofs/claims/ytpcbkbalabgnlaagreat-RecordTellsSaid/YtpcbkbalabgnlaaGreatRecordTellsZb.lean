/-
  Functions of the program: models, and that its calls come to them (by a program: gen3.py).
-/
import Derived.Test.YtpcbkbalabgnlaaGreatRecordTellsBase
import Derived.Test.YtpcbkbalabgnlaaGreatRecordTellsZa
import Derived.Test.YtpcbkbalabgnlaaGreatRecordTellsYe
set_option maxRecDepth 100000
set_option linter.unusedVariables false
set_option linter.unusedSimpArgs false
namespace Go.Proofs.YtpcbkbalabgnlaaGreat
open Go Go.GD Go.IntKind
noncomputable section
def Z63(b:Bool):Tree Int:=
.br b (.lf 1) (.lf 0)
def Qci(b:Bool):Int:=(Z63 b).m
def Zmq:Q0d:=mkR 198 [] true [.one (.bool)] [] (λargs rows=>Qci (argB args 0)) (λX=> .int .u32 X) (λX=>[])
theorem Qr0:Q05 Tryz.prog Zmq:=Q11 Q0j Q0i (.nil) Tryz.func198 Tryz.call198 (λargs rows=>Z63 (argB args 0)) [] [] 2 (λ_ _ _=>by kernel_rfl) (λ_ _=>rfl) (λ_ _=>Tree.free_ok (by kernel_rfl)) (λ_ X=>by kernel_rfl)
def Qid(c:Q02)(cause:Int)(bad:Int):Tree Q02:=
.lv (Qci (iand u32 c.B5.a0 (1:Int) !=(0:Int))) λ(x0:Int)=> .lv (Qci (iand u32 c.B5.a0 (2:Int) !=(0:Int))) λ(x1:Int)=> .lf ({X:=c.X,Pc:=c.B5.a1,B5:={a0:=ior u32 (Qhf u32 (ior u32 (ior u32 (Qhf u32 c.B5.a0 24) (wrap u32 (8*x0))) (wrap u32 (16*x1))) 2) 1,a1:=c.B5.a1,a2:=c.Pc,a3:=wrap u32 cause,a4:=bad,a5:=c.B5.a5,a6:=c.B5.a6,a7:=c.B5.a7}})
def Q38(c:Q02)(cause:Int)(bad:Int):Q02:=(Qid c cause bad).m
def Zf7:Q0d:=mkR 146 [] true [.agg Q02.sig, .one (.int .i64), .one (.int .u32)] [] (λargs rows=>Q38 (Q02.of (args.getD 0 .dead).cells) (argI args 1) (argI args 2)) (λX=> .agg (Q02.cells X)) (λX=>[])
theorem Qk6:Q05 Tryz.prog Zf7:=Q11 Q0j Q0i (.cons Qr0 (.nil)) Tryz.func146 Tryz.call146 (λargs rows=>Qid (Q02.of (args.getD 0 .dead).cells) (argI args 1) (argI args 2)) [] [] 2 (λ_ _ _=>by kernel_rfl) (λ_ _=>rfl) (λ_ _=>Tree.free_ok (by kernel_rfl)) (λ_ X=>by kernel_rfl)
def Q8x(m:(List Int))(addr:Int)(size:Int):Tree Bool:=
let T1:Tree (Bool):= .cn (decide (wrap u32 size≠0)) (.br (Int.tmod addr (wrap u32 size)==0) (.lv (Q4m m) λ(x0:Int)=> .lf (decide (addr<wrap u32 (wrap i64 (128*x0))))) (.lf false)); .br (size !=1) (.br (size !=4) (.lf false) T1) T1
def Q27(m:(List Int))(addr:Int)(size:Int):Bool:=(Q8x m addr size).m
abbrev Qe1(m:(List Int))(addr:Int)(size:Int):Prop:=(Q8x m addr size).p
def Z8i:Q0d:=mkP 170 [] true [.one (.ints .u32), .one (.int .u32), .one (.int .i64)] [] (λargs rows=>Qe1 (argL .u32 args 0) (argI args 1) (argI args 2)) (λargs rows=>Q27 (argL .u32 args 0) (argI args 1) (argI args 2)) (λX=> .bool X) (λX=>[])
theorem Qkj:Q05 Tryz.prog Z8i:=Q0k Q0j Q0i (.cons Qdj (.nil)) Tryz.func170 Tryz.call170 (λargs rows=>Q8x (argL .u32 args 0) (argI args 1) (argI args 2)) [] [] 2 (λ_ _ _=>by kernel_rfl) (λ_ _=>rfl) (λ_ _ h=>h) (λ_ X=>by kernel_rfl)
def Q4o(m:(List Int))(addr:Int)(size:Int):Tree (Int×Bool):=
.an (Qe1 m addr size) (.lv (Q27 m addr size) λ(x0:Bool)=> .br (!x0) (.lf (0,false)) (.cn (Nat.beq 1 1&&Nat.blt 0 1&&decide (0≤wrap u32 (Int.tdiv addr 4)∧wrap u32 (Int.tdiv addr 4)<(m.length:Int))) (.br (size==1) (.cn (decide (0≤wrap u32 (8*Int.tmod addr 4))) (.lf (iand u32 (ishr u32 (m.getD (Int.toNat (wrap u32 (Int.tdiv addr 4))) 0) (wrap u32 (8*Int.tmod addr 4))) 255,true))) (.lf (m.getD (Int.toNat (wrap u32 (Int.tdiv addr 4))) 0,true)))))
def Q1e(m:(List Int))(addr:Int)(size:Int):(Int×Bool):=(Q4o m addr size).m
abbrev Qdw(m:(List Int))(addr:Int)(size:Int):Prop:=(Q4o m addr size).p
def Zfb:Q0d:=mkP 116 [] true [.one (.ints .u32), .one (.int .u32), .one (.int .i64)] [] (λargs rows=>Qdw (argL .u32 args 0) (argI args 1) (argI args 2)) (λargs rows=>Q1e (argL .u32 args 0) (argI args 1) (argI args 2)) (λX=> .tup [.int .u32 (X.1), .bool (X.2)]) (λX=>[])
theorem Qog:Q05 Tryz.prog Zfb:=Q0k Q0j Q0i (.cons Qkj (.nil)) Tryz.func116 Tryz.call116 (λargs rows=>Q4o (argL .u32 args 0) (argI args 1) (argI args 2)) [] [] 2 (λ_ _ _=>by kernel_rfl) (λ_ _=>rfl) (λ_ _ h=>h) (λ_ X=>by kernel_rfl)
def Q7k(w:Int):Tree (Q0h×Bool):=
.lv (Q2u (wrap i64 (ishr u32 w 24))) λ(x0:Int)=>let E5:=({Op:=0,A:=0,B:=0,C:=0,Imm:=0}:Q0h); .br (x0==0) (.lf (E5,false)) (.br (x0==2) (let E3:=({Op:=wrap i64 (ishr u32 w 24),A:=wrap i64 (iand u32 (ishr u32 w 20) 15),B:=wrap i64 (iand u32 (ishr u32 w 16) 15),C:=wrap i64 (iand u32 w 65535),Imm:=0}:Q0h); .lv (Q8j E3) λ(x1:Bool)=> .br (!x1) (.lf (E5,false)) (.lf (E3,true))) (let T1:Tree ((Q0h×Bool)):=let E2:=({Op:=wrap i64 (ishr u32 w 24),A:=wrap i64 (iand u32 (ishr u32 w 20) 15),B:=wrap i64 (iand u32 (ishr u32 w 16) 15),C:=0,Imm:=wrap i32 (wrap i16 (iand u32 w 65535))}:Q0h); .lv (Q8j E2) λ(x2:Bool)=> .br (!x2) (.lf (E5,false)) (.lf (E2,true)); .br (x0==3) T1 (.br (x0==7) T1 (let E4:=({Op:=wrap i64 (ishr u32 w 24),A:=wrap i64 (iand u32 (ishr u32 w 20) 15),B:=wrap i64 (iand u32 (ishr u32 w 16) 15),C:=0,Imm:=wrap i32 (iand u32 w 65535)}:Q0h); .lv (Q8j E4) λ(x4:Bool)=> .br (!x4) (.lf (E5,false)) (.lf (E4,true))))))
def Q2(w:Int):(Q0h×Bool):=(Q7k w).m
def Z9d:Q0d:=mkR 117 [] true [.one (.int .u32)] [] (λargs rows=>Q2 (argI args 0)) (λX=> .tup [.agg (Q0h.cells (X.1)), .bool (X.2)]) (λX=>[])
theorem Qq0:Q05 Tryz.prog Z9d:=Q11 Q0j Q0i (.cons Qg8 (.cons Qsn (.nil))) Tryz.func117 Tryz.call117 (λargs rows=>Q7k (argI args 0)) [] [] 2 (λ_ _ _=>by kernel_rfl) (λ_ _=>rfl) (λ_ _=>Tree.free_ok (by kernel_rfl)) (λ_ X=>by kernel_rfl)
def Qwn(access:Int):Tree Bool:=
.br (decide (access≥1)) (.lf (decide (access≤3))) (.lf false)
def Qf3(access:Int):Bool:=(Qwn access).m
def Ze8:Q0d:=mkR 199 [] true [.one (.int .i64)] [] (λargs rows=>Qf3 (argI args 0)) (λX=> .bool X) (λX=>[])
theorem Qtn:Q05 Tryz.prog Ze8:=Q11 Q0j Q0i (.nil) Tryz.func199 Tryz.call199 (λargs rows=>Qwn (argI args 0)) [] [] 2 (λ_ _ _=>by kernel_rfl) (λ_ _=>rfl) (λ_ _=>Tree.free_ok (by kernel_rfl)) (λ_ X=>by kernel_rfl)
def Qx6(c:Q02):Tree Bool:=
.lf (iand u32 c.B5.a0 (5:Int)==(4:Int))
def Qlr(c:Q02):Bool:=(Qx6 c).m
def Zdv:Q0d:=mkR 200 [] true [.agg Q02.sig] [] (λargs rows=>Qlr (Q02.of (args.getD 0 .dead).cells)) (λX=> .bool X) (λX=>[])
theorem Z8x:Q05 Tryz.prog Zdv:=Q11 Q0j Q0i (.nil) Tryz.func200 Tryz.call200 (λargs rows=>Qx6 (Q02.of (args.getD 0 .dead).cells)) [] [] 2 (λ_ _ _=>by kernel_rfl) (λ_ _=>rfl) (λ_ _=>Tree.free_ok (by kernel_rfl)) (λ_ X=>by kernel_rfl)
def Q9r(access:Int):Tree Int:=
.br (access==1) (.lf 4) (.br (access==3) (.lf 6) (.lf 5))
def Q25(access:Int):Int:=(Q9r access).m
def Z49:Q0d:=mkR 201 [] true [.one (.int .i64)] [] (λargs rows=>Q25 (argI args 0)) (λX=> .int .i64 X) (λX=>[])
theorem Qoi:Q05 Tryz.prog Z49:=Q11 Q0j Q0i (.nil) Tryz.func201 Tryz.call201 (λargs rows=>Q9r (argI args 0)) [] [] 2 (λ_ _ _=>by kernel_rfl) (λ_ _=>rfl) (λ_ _=>Tree.free_ok (by kernel_rfl)) (λ_ X=>by kernel_rfl)
def Qat(m:(List Int))(root:Int)(va:Int)(access:Int):Tree Q18:=
.lv (Q25 access) λ(x0:Int)=> .lv (Q4m m) λ(x1:Int)=> .lv (Qf3 access) λ(x2:Bool)=>let E4:=({Addr:=0,F2:=0,F0:=x0}:Q18); .br (!x2) (.lf (E4)) (.br (decide (va≥4096)) (.lf (E4)) (.br (decide (root≥wrap u32 x1)) (.lf (E4)) (let E6:=wrap u32 (root*128)+wrap u32 (4*wrap u32 (Int.tdiv va 128));let E3:=Int.tdiv (wrap u32 E6) 4; .cn (Nat.beq 1 1&&Nat.blt 0 1&&decide (0≤wrap u32 E3∧wrap u32 E3<(m.length:Int))) (let E5:=m.getD (Int.toNat (wrap u32 E3)) 0; .br (iand u32 E5 (1:Int)==(0:Int)) (.lf (E4)) (let T1:Tree (Q18):= .br (decide (iand u32 (ishr u32 E5 8) 255≥wrap u32 x1)) (.lf (E4)) (.lf ({Addr:=wrap u32 (wrap u32 (iand u32 (ishr u32 E5 8) (255:Int)*(128:Int))+Int.tmod va 128),F2:=wrap u32 E6,F0:=0}));let T2:Tree (Q18):= .br (access==1) (.br (iand u32 E5 (4:Int)==(0:Int)) (.lf (E4)) T1) T1; .br (access==3) (.br (iand u32 E5 (2:Int)==(0:Int)) (.lf (E4)) T2) T2)))))
def Q7x(m:(List Int))(root:Int)(va:Int)(access:Int):Q18:=(Qat m root va access).m
abbrev Qu2(m:(List Int))(root:Int)(va:Int)(access:Int):Prop:=(Qat m root va access).p
def Zhb:Q0d:=mkP 202 [] true [.one (.ints .u32), .one (.int .u32), .one (.int .u32), .one (.int .i64)] [] (λargs rows=>Qu2 (argL .u32 args 0) (argI args 1) (argI args 2) (argI args 3)) (λargs rows=>Q7x (argL .u32 args 0) (argI args 1) (argI args 2) (argI args 3)) (λX=> .agg (Q18.cells X)) (λX=>[])
theorem Zcl:Q05 Tryz.prog Zhb:=Q0k Q0j Q0i (.cons Qoi (.cons Qdj (.cons Qtn (.nil)))) Tryz.func202 Tryz.call202 (λargs rows=>Qat (argL .u32 args 0) (argI args 1) (argI args 2) (argI args 3)) [] [] 2 (λ_ _ _=>by kernel_rfl) (λ_ _=>rfl) (λ_ _ h=>h) (λ_ X=>by kernel_rfl)
def Qf9(m:(List Int))(entry:Int)(access:Int):Tree (List Int):=
.an (Qe1 m entry 4) (.lv (Q27 m entry 4) λ(x0:Bool)=> .br (!x0) (.lf m) (let E3:=Nat.beq 1 1&&Nat.blt 0 1&&decide (0≤wrap u32 (Int.tdiv entry 4)∧wrap u32 (Int.tdiv entry 4)<(m.length:Int)); .cn E3 (.cn E3 (let E4:=Int.toNat (wrap u32 (Int.tdiv entry 4));let E1:=List.set m E4 (ior u32 (m.getD E4 0) 8); .br (access==3) (let E2:=Nat.beq 1 1&&Nat.blt 0 1&&decide (0≤wrap u32 (Int.tdiv entry 4)∧wrap u32 (Int.tdiv entry 4)<(↑(List.length E1):Int)); .cn E2 (.cn E2 (.lf (List.set E1 E4 (ior u32 (List.getD E1 E4 0) 16))))) (.lf E1)))))
def Qnh(m:(List Int))(entry:Int)(access:Int):(List Int):=(Qf9 m entry access).m
abbrev Qsx(m:(List Int))(entry:Int)(access:Int):Prop:=(Qf9 m entry access).p
def Zha:Q0d:=mkP 203 [true,false,false] true [.one (.row 0), .one (.int .u32), .one (.int .i64)] [.arr 23 1 (.ints .u32)] (λargs rows=>Qsx (rowL .u32 rows 0) (argI args 1) (argI args 2)) (λargs rows=>Qnh (rowL .u32 rows 0) (argI args 1) (argI args 2)) (λX=> .tup []) (λX=>[⟨false,23,1, .ints .u32 X⟩])
theorem Zaj:Q05 Tryz.prog Zha:=Q0k Q0j Q0i (.cons Qkj (.nil)) Tryz.func203 Tryz.call203 (λargs rows=>Qf9 (rowL .u32 rows 0) (argI args 1) (argI args 2)) [] [] 2 (λ_ _ _=>by kernel_rfl) (λ_ _=>rfl) (λ_ _ h=>h) (λ_ X=>by kernel_rfl)
def Q8t(c:Q02)(m:(List Int))(va:Int)(size:Int)(access:Int):Tree (Int×Int×(List Int)):=
.lv (Qf3 access) λ(x0:Bool)=> .br (!x0) (.lf (0,5,m)) (let T1:Tree ((Int×Int×(List Int))):= .cn (decide (wrap u32 size≠0)) (.br (Int.tmod va (wrap u32 size) !=0) (.lf (0,3,m)) (.lv (Qlr c) λ(x1:Bool)=> .br (!x1) (.an (Qe1 m va size) (.lv (Q27 m va size) λ(x2:Bool)=> .br (!x2) (.lv (Q25 access) λ(x3:Int)=> .lf (0,x3,m)) (.lf (va,0,m)))) (.an (Qu2 m c.B5.a6 va access) (.lv (Q7x m c.B5.a6 va access) λ(x4:Q18)=> .br (x4.F0 !=0) (.lf (0,x4.F0,m)) (.an (Qsx m x4.F2 access) (.lv (Qnh m x4.F2 access) λ(x5:List Int)=> .lf (x4.Addr,0,x5))))))); .br (size !=1) (.br (size !=4) (.lf (0,5,m)) T1) T1)
def Q15(c:Q02)(m:(List Int))(va:Int)(size:Int)(access:Int):(Int×Int×(List Int)):=(Q8t c m va size access).m
abbrev Q9s(c:Q02)(m:(List Int))(va:Int)(size:Int)(access:Int):Prop:=(Q8t c m va size access).p
def Zbe:Q0d:=mkP 147 [false,true,false,false,false] true [.agg Q02.sig, .one (.row 0), .one (.int .u32), .one (.int .i64), .one (.int .i64)] [.arr 23 1 (.ints .u32)] (λargs rows=>Q9s (Q02.of (args.getD 0 .dead).cells) (rowL .u32 rows 0) (argI args 2) (argI args 3) (argI args 4)) (λargs rows=>Q15 (Q02.of (args.getD 0 .dead).cells) (rowL .u32 rows 0) (argI args 2) (argI args 3) (argI args 4)) (λX=> .tup [.int .u32 (X.1), .int .i64 (X.2.1)]) (λX=>[⟨false,23,1, .ints .u32 (X.2.2)⟩])
theorem Qry:Q05 Tryz.prog Zbe:=Q0k Q0j Q0i (.cons Qtn (.cons Z8x (.cons Qkj (.cons Qoi (.cons Zcl (.cons Zaj (.nil))))))) Tryz.func147 Tryz.call147 (λargs rows=>Q8t (Q02.of (args.getD 0 .dead).cells) (rowL .u32 rows 0) (argI args 2) (argI args 3) (argI args 4)) [] [] 2 (λ_ _ _=>by kernel_rfl) (λ_ _=>rfl) (λ_ _ h=>h) (λ_ X=>by kernel_rfl)
def Qlj(op:Int):Tree Bool:=
.br (decide (op≥57)) (.lf (decide (op≤64))) (.lf false)
def Q46(op:Int):Bool:=(Qlj op).m
def Qut:Q0d:=mkR 148 [] true [.one (.int .i64)] [] (λargs rows=>Q46 (argI args 0)) (λX=> .bool X) (λX=>[])
theorem Qu0:Q05 Tryz.prog Qut:=Q11 Q0j Q0i (.nil) Tryz.func148 Tryz.call148 (λargs rows=>Qlj (argI args 0)) [] [] 2 (λ_ _ _=>by kernel_rfl) (λ_ _=>rfl) (λ_ _=>Tree.free_ok (by kernel_rfl)) (λ_ X=>by kernel_rfl)
def Qdx(c:Q02):Tree Q02:=
.lv (Qci (iand u32 c.B5.a0 (8:Int) !=(0:Int))) λ(x0:Int)=> .lv (Qci (iand u32 c.B5.a0 (16:Int) !=(0:Int))) λ(x1:Int)=> .lf ({X:=c.X,Pc:=c.B5.a2,B5:={a0:=ior u32 (ior u32 (Qhf u32 c.B5.a0 3) (wrap u32 (1*x0))) (wrap u32 (2*x1)),a1:=c.B5.a1,a2:=c.B5.a2,a3:=c.B5.a3,a4:=c.B5.a4,a5:=c.B5.a5,a6:=c.B5.a6,a7:=c.B5.a7}})
def Qif(c:Q02):Q02:=(Qdx c).m
def Z72:Q0d:=mkR 204 [] true [.agg Q02.sig] [] (λargs rows=>Qif (Q02.of (args.getD 0 .dead).cells)) (λX=> .agg (Q02.cells X)) (λX=>[])
theorem Z4p:Q05 Tryz.prog Z72:=Q11 Q0j Q0i (.cons Qr0 (.nil)) Tryz.func204 Tryz.call204 (λargs rows=>Qdx (Q02.of (args.getD 0 .dead).cells)) [] [] 2 (λ_ _ _=>by kernel_rfl) (λ_ _=>rfl) (λ_ _=>Tree.free_ok (by kernel_rfl)) (λ_ X=>by kernel_rfl)
def Qfb(c:Q02)(r:Int)(v:Int):Tree Q02:=
.br (decide (r>0)) (.br (decide (r<16)) (.cn (Nat.blt 0 1&&decide (0≤r∧r<(↑16:Int))) (.lf ({X:=A16.of 0 (List.set (A16.l c.X) r.toNat v),Pc:=c.Pc,B5:=c.B5}))) (.lf c)) (.lf c)
def Q1w(c:Q02)(r:Int)(v:Int):Q02:=(Qfb c r v).m
abbrev Q3p(c:Q02)(r:Int)(v:Int):Prop:=(Qfb c r v).p
def Zku:Q0d:=mkP 105 [] true [.agg Q02.sig, .one (.int .i64), .one (.int .u32)] [] (λargs rows=>Q3p (Q02.of (args.getD 0 .dead).cells) (argI args 1) (argI args 2)) (λargs rows=>Q1w (Q02.of (args.getD 0 .dead).cells) (argI args 1) (argI args 2)) (λX=> .agg (Q02.cells X)) (λX=>[])
theorem Qf4:Q05 Tryz.prog Zku:=Q0k Q0j Q0i (.nil) Tryz.func105 Tryz.call105 (λargs rows=>Qfb (Q02.of (args.getD 0 .dead).cells) (argI args 1) (argI args 2)) [] [] 2 (λ_ _ _=>by kernel_rfl) (λ_ _=>rfl) (λ_ _ h=>h) (λ_ X=>by kernel_rfl)
def Qd3(c:Q02)(csr:Int)(v:Int):Tree Q02:=
let E4:=Nat.blt 0 1&&decide (0≤csr∧csr<(↑8:Int));let T2:Tree (Q02):= .cn E4 (.lf ({X:=c.X,Pc:=c.Pc,B5:=A8.of 0 (List.set (A8.l c.B5) csr.toNat (iand u32 v 31))})); .br (csr==0) T2 (.br (csr==7) T2 (.br (csr==6) (.cn E4 (.lf ({X:=c.X,Pc:=c.Pc,B5:=A8.of 0 (List.set (A8.l c.B5) csr.toNat (iand u32 v 255))}))) (let T3:Tree (Q02):= .cn E4 (.lf ({X:=c.X,Pc:=c.Pc,B5:=A8.of 0 (List.set (A8.l c.B5) csr.toNat (Qhf u32 v 3))})); .br (csr==1) T3 (.br (csr==2) T3 (let T1:Tree (Q02):= .cn E4 (.lf ({X:=c.X,Pc:=c.Pc,B5:=A8.of 0 (List.set (A8.l c.B5) csr.toNat v)})); .br (csr==3) T1 (.br (csr==4) T1 (.br (csr==5) T1 (.lf c))))))))
def Qho(c:Q02)(csr:Int)(v:Int):Q02:=(Qd3 c csr v).m
abbrev Qqj(c:Q02)(csr:Int)(v:Int):Prop:=(Qd3 c csr v).p
def Zc5:Q0d:=mkP 205 [] true [.agg Q02.sig, .one (.int .i64), .one (.int .u32)] [] (λargs rows=>Qqj (Q02.of (args.getD 0 .dead).cells) (argI args 1) (argI args 2)) (λargs rows=>Qho (Q02.of (args.getD 0 .dead).cells) (argI args 1) (argI args 2)) (λX=> .agg (Q02.cells X)) (λX=>[])
theorem Z8z:Q05 Tryz.prog Zc5:=Q0k Q0j Q0i (.nil) Tryz.func205 Tryz.call205 (λargs rows=>Qd3 (Q02.of (args.getD 0 .dead).cells) (argI args 1) (argI args 2)) [] [] 2 (λ_ _ _=>by kernel_rfl) (λ_ _=>rfl) (λ_ _ h=>h) (λ_ X=>by kernel_rfl)
def Q91(c:Q02)(i:Q0h):Tree (Q02×Q14):=
.br (i.Op==56) (.lv (Q38 c 7 0) λ(x0:Q02)=> .lf (x0,{B8:=0,D0:=0,D9:=0,Value:=0})) (.br (i.Op==57) (.lv (Qif c) λ(x1:Q02)=> .lf (x1,{B8:=0,D0:=0,D9:=0,Value:=0})) (.br (i.Op==58) (.cn (Nat.blt 0 1&&decide (0≤i.Imm∧i.Imm<(↑8:Int))) (let E3:=List.getD (A8.l c.B5) i.Imm.toNat 0; .an (Q3p c i.A E3) (.lv (Q1w c i.A E3) λ(x2:Q02)=> .lf ({X:=x2.X,Pc:=wrap u32 (x2.Pc+4),B5:=x2.B5},{B8:=0,D0:=0,D9:=0,Value:=0})))) (let E2:=Nat.blt 0 1&&decide (0≤i.A∧i.A<(↑16:Int)); .br (i.Op==59) (.cn E2 (let E4:=List.getD (A16.l c.X) i.A.toNat 0; .an (Qqj c (wrap i64 i.Imm) E4) (.lv (Qho c (wrap i64 i.Imm) E4) λ(x3:Q02)=> .lf ({X:=x3.X,Pc:=wrap u32 (x3.Pc+4),B5:=x3.B5},{B8:=0,D0:=0,D9:=0,Value:=0})))) (let E1:=({X:=c.X,Pc:=wrap u32 (c.Pc+4),B5:=c.B5}:Q02); .br (i.Op==60) (.lf (E1,{B8:=1,D0:=wrap i64 i.Imm,D9:=i.A,Value:=0})) (.br (i.Op==61) (.cn E2 (.lf (E1,{B8:=2,D0:=wrap i64 i.Imm,D9:=0,Value:=List.getD (A16.l c.X) i.A.toNat 0}))) (.br (i.Op==62) (.lf (E1,{B8:=3,D0:=0,D9:=0,Value:=0})) (.br (i.Op==63) (.lf (E1,{B8:=5,D0:=0,D9:=0,Value:=0})) (.br (i.Op==64) (.lf (E1,{B8:=4,D0:=0,D9:=0,Value:=0})) (.lf (E1,{B8:=0,D0:=0,D9:=0,Value:=0}))))))))))
def Qi7(c:Q02)(i:Q0h):(Q02×Q14):=(Q91 c i).m
abbrev Qn8(c:Q02)(i:Q0h):Prop:=(Q91 c i).p
def Z7q:Q0d:=mkP 149 [] true [.agg Q02.sig, .agg Q0h.sig] [] (λargs rows=>Qn8 (Q02.of (args.getD 0 .dead).cells) (Q0h.of (args.getD 1 .dead).cells)) (λargs rows=>Qi7 (Q02.of (args.getD 0 .dead).cells) (Q0h.of (args.getD 1 .dead).cells)) (λX=> .tup [.agg (Q02.cells (X.1)), .agg (Q14.cells (X.2))]) (λX=>[])
theorem Z3u:Q05 Tryz.prog Z7q:=Q0k Q0j Q0i (.cons Qk6 (.cons Z4p (.cons Qf4 (.cons Z8z (.nil))))) Tryz.func149 Tryz.call149 (λargs rows=>Q91 (Q02.of (args.getD 0 .dead).cells) (Q0h.of (args.getD 1 .dead).cells)) [] [] 2 (λ_ _ _=>by kernel_rfl) (λ_ _=>rfl) (λ_ _ h=>h) (λ_ X=>by kernel_rfl)
def Qxa(op:Int)(a:Int)(b:Int):Tree Bool:=
.br (op==40) (.lf (a==b)) (.br (op==41) (.lf (a !=b)) (.br (op==42) (.lf (decide (wrap i32 a<wrap i32 b))) (.br (op==43) (.lf (decide (wrap i32 a≥wrap i32 b))) (.br (op==44) (.lf (decide (a<b))) (.lf (decide (a≥b)))))))
def Q2m(op:Int)(a:Int)(b:Int):Bool:=(Qxa op a b).m
def Zbo:Q0d:=mkR 206 [] true [.one (.int .i64), .one (.int .u32), .one (.int .u32)] [] (λargs rows=>Q2m (argI args 0) (argI args 1) (argI args 2)) (λX=> .bool X) (λX=>[])
theorem Za7:Q05 Tryz.prog Zbo:=Q11 Q0j Q0i (.nil) Tryz.func206 Tryz.call206 (λargs rows=>Qxa (argI args 0) (argI args 1) (argI args 2)) [] [] 2 (λ_ _ _=>by kernel_rfl) (λ_ _=>rfl) (λ_ _=>Tree.free_ok (by kernel_rfl)) (λ_ X=>by kernel_rfl)
def Qjf(c:Q02)(i:Q0h):Tree Q02:=
.br (i.Op==48) (.an (Q3p c i.A (wrap u32 (c.Pc+4))) (.lv (Q1w c i.A (wrap u32 (c.Pc+4))) λ(x0:Q02)=> .lf ({X:=x0.X,Pc:=wrap u32 (c.Pc+wrap u32 (4*wrap u32 i.Imm)),B5:=x0.B5}))) (let E1:=Nat.blt 0 1&&decide (0≤i.B∧i.B<(↑16:Int)); .br (i.Op==49) (.cn E1 (.an (Q3p c i.A (wrap u32 (c.Pc+4))) (.lv (Q1w c i.A (wrap u32 (c.Pc+4))) λ(x1:Q02)=> .lf ({X:=x1.X,Pc:=wrap u32 (List.getD (A16.l c.X) i.B.toNat 0+wrap u32 i.Imm),B5:=x1.B5})))) (.cn (Nat.blt 0 1&&decide (0≤i.A∧i.A<(↑16:Int))) (.cn E1 (.lv (Q2m i.Op (List.getD (A16.l c.X) i.A.toNat 0) (List.getD (A16.l c.X) i.B.toNat 0)) λ(x2:Bool)=> .br x2 (.lf ({X:=c.X,Pc:=wrap u32 (c.Pc+wrap u32 (4*wrap u32 i.Imm)),B5:=c.B5})) (.lf ({X:=c.X,Pc:=wrap u32 (c.Pc+4),B5:=c.B5}))))))
def Z1f(c:Q02)(i:Q0h):Q02:=(Qjf c i).m
abbrev Qu3(c:Q02)(i:Q0h):Prop:=(Qjf c i).p
def Zhd:Q0d:=mkP 150 [] true [.agg Q02.sig, .agg Q0h.sig] [] (λargs rows=>Qu3 (Q02.of (args.getD 0 .dead).cells) (Q0h.of (args.getD 1 .dead).cells)) (λargs rows=>Z1f (Q02.of (args.getD 0 .dead).cells) (Q0h.of (args.getD 1 .dead).cells)) (λX=> .agg (Q02.cells X)) (λX=>[])
theorem Ze3:Q05 Tryz.prog Zhd:=Q0k Q0j Q0i (.cons Qf4 (.cons Za7 (.nil))) Tryz.func150 Tryz.call150 (λargs rows=>Qjf (Q02.of (args.getD 0 .dead).cells) (Q0h.of (args.getD 1 .dead).cells)) [] [] 2 (λ_ _ _=>by kernel_rfl) (λ_ _=>rfl) (λ_ _ h=>h) (λ_ X=>by kernel_rfl)
def Q8m(x:Int)(n:Int):Tree Int:=
.br (decide (n<1)) (.lf 0) (.br (decide (n≥32)) (.lf x) (.cn (decide (0≤wrap u64 n)) (.cn (decide (0≤wrap u64 (wrap i64 (n-1)))) (let E1:=iand u32 x (wrap u32 (ishl u32 1 (wrap u64 n)-1)); .br (ishr u32 E1 (wrap u64 (wrap i64 (n-1)))==1) (.cn (decide (0≤wrap u64 n)) (.lf (ior u32 E1 (ishl u32 4294967295 (wrap u64 n))))) (.lf E1)))))
def Q43(x:Int)(n:Int):Int:=(Q8m x n).m
abbrev Qd1(x:Int)(n:Int):Prop:=(Q8m x n).p
def Qvv:Q0d:=mkP 208 [] true [.one (.int .u32), .one (.int .i64)] [] (λargs rows=>Qd1 (argI args 0) (argI args 1)) (λargs rows=>Q43 (argI args 0) (argI args 1)) (λX=> .int .u32 X) (λX=>[])
theorem Qt:Q05 Tryz.prog Qvv:=Q0k Q0j Q0i (.nil) Tryz.func208 Tryz.call208 (λargs rows=>Q8m (argI args 0) (argI args 1)) [] [] 2 (λ_ _ _=>by kernel_rfl) (λ_ _=>rfl) (λ_ _ h=>h) (λ_ X=>by kernel_rfl)
def Qal(c:Q02)(m:(List Int))(i:Q0h):Tree (Q02×(List Int)):=
.cn (Nat.blt 0 1&&decide (0≤i.B∧i.B<(↑16:Int))) (let E4:=wrap u32 (List.getD (A16.l c.X) i.B.toNat 0+wrap u32 i.Imm);let E5:=List.getD (A16.l c.X) i.A.toNat 0;let E6:=Nat.blt 0 1&&decide (0≤i.A∧i.A<(↑16:Int));let E7:=({X:=c.X,Pc:=wrap u32 (c.Pc+4),B5:=c.B5}:Q02);let T1:Tree ((Q02×(List Int))):=let T3:Tree ((Q02×(List Int))):= .an (Q9s c m E4 4 3) (.lv (Q15 c m E4 4 3) λ(x0:Int×Int×List Int)=> .br (x0.2.1 !=0) (.lv (Q38 c x0.2.1 E4) λ(x1:Q02)=> .lf (x1,x0.2.2)) (.cn E6 (.an (Qfv x0.2.2 x0.1 4 E5) (.lv (Qbl x0.2.2 x0.1 4 E5) λ(x2:List Int)=> .lf (E7,x2))))); .br (i.Op==35) T3 (.br (i.Op==36) T3 (.an (Q9s c m E4 4 2) (.lv (Q15 c m E4 4 2) λ(x6:Int×Int×List Int)=> .br (x6.2.1 !=0) (.lv (Q38 c x6.2.1 E4) λ(x7:Q02)=> .lf (x7,x6.2.2)) (.an (Qdw x6.2.2 x6.1 4) (.lv (Q1e x6.2.2 x6.1 4) λ(x8:Int×Bool)=> .br (i.Op==33) (.an (Qd1 x8.1 8) (.lv (Q43 x8.1 8) λ(x9:Int)=> .an (Q3p c i.A x9) (.lv (Q1w c i.A x9) λ(x10:Q02)=> .lf ({X:=x10.X,Pc:=wrap u32 (x10.Pc+4),B5:=x10.B5},x6.2.2)))) (.an (Q3p c i.A x8.1) (.lv (Q1w c i.A x8.1) λ(x11:Q02)=> .lf ({X:=x11.X,Pc:=wrap u32 (x11.Pc+4),B5:=x11.B5},x6.2.2)))))))); .br (i.Op==32) T1 (.br (i.Op==35) T1 (let T2:Tree ((Q02×(List Int))):= .an (Q9s c m E4 1 3) (.lv (Q15 c m E4 1 3) λ(x24:Int×Int×List Int)=> .br (x24.2.1 !=0) (.lv (Q38 c x24.2.1 E4) λ(x25:Q02)=> .lf (x25,x24.2.2)) (.cn E6 (.an (Qfv x24.2.2 x24.1 1 E5) (.lv (Qbl x24.2.2 x24.1 1 E5) λ(x26:List Int)=> .lf (E7,x26))))); .br (i.Op==35) T2 (.br (i.Op==36) T2 (.an (Q9s c m E4 1 2) (.lv (Q15 c m E4 1 2) λ(x30:Int×Int×List Int)=> .br (x30.2.1 !=0) (.lv (Q38 c x30.2.1 E4) λ(x31:Q02)=> .lf (x31,x30.2.2)) (.an (Qdw x30.2.2 x30.1 1) (.lv (Q1e x30.2.2 x30.1 1) λ(x32:Int×Bool)=> .br (i.Op==33) (.an (Qd1 x32.1 8) (.lv (Q43 x32.1 8) λ(x33:Int)=> .an (Q3p c i.A x33) (.lv (Q1w c i.A x33) λ(x34:Q02)=> .lf ({X:=x34.X,Pc:=wrap u32 (x34.Pc+4),B5:=x34.B5},x30.2.2)))) (.an (Q3p c i.A x32.1) (.lv (Q1w c i.A x32.1) λ(x35:Q02)=> .lf ({X:=x35.X,Pc:=wrap u32 (x35.Pc+4),B5:=x35.B5},x30.2.2)))))))))))
def Q6(c:Q02)(m:(List Int))(i:Q0h):(Q02×(List Int)):=(Qal c m i).m
abbrev Ql9(c:Q02)(m:(List Int))(i:Q0h):Prop:=(Qal c m i).p
def Z18:Q0d:=mkP 151 [false,true,false] true [.agg Q02.sig, .one (.row 0), .agg Q0h.sig] [.arr 23 1 (.ints .u32)] (λargs rows=>Ql9 (Q02.of (args.getD 0 .dead).cells) (rowL .u32 rows 0) (Q0h.of (args.getD 2 .dead).cells)) (λargs rows=>Q6 (Q02.of (args.getD 0 .dead).cells) (rowL .u32 rows 0) (Q0h.of (args.getD 2 .dead).cells)) (λX=> .agg (Q02.cells (X.1))) (λX=>[⟨false,23,1, .ints .u32 (X.2)⟩])
theorem Qy2:Q05 Tryz.prog Z18:=Q0k Q0j Q0i (.cons Qry (.cons Qk6 (.cons Z1h (.cons Qog (.cons Qt (.cons Qf4 (.nil))))))) Tryz.func151 Tryz.call151 (λargs rows=>Qal (Q02.of (args.getD 0 .dead).cells) (rowL .u32 rows 0) (Q0h.of (args.getD 2 .dead).cells)) [] [] 2 (λ_ _ _=>by kernel_rfl) (λ_ _=>rfl) (λ_ _ h=>h) (λ_ X=>by kernel_rfl)
def Qx(op:Int):Tree Int:=
.br (op==16) (.lf 1) (.br (op==17) (.lf 3) (.br (op==18) (.lf 4) (.br (op==19) (.lf 5) (.br (op==20) (.lf 6) (.br (op==21) (.lf 7) (.br (op==22) (.lf 8) (.br (op==23) (.lf 12) (.lf op))))))))
def Z6a(op:Int):Int:=(Qx op).m
def Zc7:Q0d:=mkR 209 [] true [.one (.int .i64)] [] (λargs rows=>Z6a (argI args 0)) (λX=> .int .i64 X) (λX=>[])
theorem Z9y:Q05 Tryz.prog Zc7:=Q11 Q0j Q0i (.nil) Tryz.func209 Tryz.call209 (λargs rows=>Qx (argI args 0)) [] [] 2 (λ_ _ _=>by kernel_rfl) (λ_ _=>rfl) (λ_ _=>Tree.free_ok (by kernel_rfl)) (λ_ X=>by kernel_rfl)
def Qb2(a:Int)(b:Int):Tree (Int×Int):=
.br (b==0) (.lf (4294967295,a)) (.cn (decide (wrap i64 (wrap i32 b)≠0)) (.cn (decide (wrap i64 (wrap i32 b)≠0)) (.lf (wrap u32 (wrap i64 (Int.tdiv (wrap i64 (wrap i32 a)) (wrap i64 (wrap i32 b)))),wrap u32 (Int.tmod (wrap i64 (wrap i32 a)) (wrap i64 (wrap i32 b)))))))
def Qcm(a:Int)(b:Int):(Int×Int):=(Qb2 a b).m
abbrev Qio(a:Int)(b:Int):Prop:=(Qb2 a b).p
def Z9q:Q0d:=mkP 210 [] true [.one (.int .u32), .one (.int .u32)] [] (λargs rows=>Qio (argI args 0) (argI args 1)) (λargs rows=>Qcm (argI args 0) (argI args 1)) (λX=> .tup [.int .u32 (X.1), .int .u32 (X.2)]) (λX=>[])
theorem Z44:Q05 Tryz.prog Z9q:=Q0k Q0j Q0i (.nil) Tryz.func210 Tryz.call210 (λargs rows=>Qb2 (argI args 0) (argI args 1)) [] [] 2 (λ_ _ _=>by kernel_rfl) (λ_ _=>rfl) (λ_ _ h=>h) (λ_ X=>by kernel_rfl)
def Qle(op:Int)(a:Int)(b:Int):Tree (Int×Bool):=
.lv (Z6a op) λ(x0:Int)=> .br (x0==1) (.lf (wrap u32 (a+b),true)) (.br (x0==2) (.lf (wrap u32 (a-b),true)) (.br (x0==3) (.lf (iand u32 a b,true)) (.br (x0==4) (.lf (ior u32 a b,true)) (.br (x0==5) (.lf (ixor u32 a b,true)) (.br (x0==6) (.lf (ishl u32 a (iand u32 b 31),true)) (.br (x0==7) (.lf (ishr u32 a (iand u32 b 31),true)) (.br (x0==8) (.lf (wrap u32 (ishr i32 (wrap i32 a) (iand u32 b 31)),true)) (.br (x0==9) (.lf (wrap u32 (a*b),true)) (.br (x0==10) (.an (Qio a b) (.lv (Qcm a b) λ(x1:Int×Int)=> .lf (x1.1,true))) (.br (x0==11) (.an (Qio a b) (.lv (Qcm a b) λ(x2:Int×Int)=> .lf (x2.2,true))) (.br (x0==12) (.lv (Qci (decide (wrap i32 a<wrap i32 b))) λ(x3:Int)=> .lf (x3,true)) (.br (x0==13) (.lv (Qci (decide (a<b))) λ(x4:Int)=> .lf (x4,true)) (.lf (0,false))))))))))))))
def Qe5(op:Int)(a:Int)(b:Int):(Int×Bool):=(Qle op a b).m
abbrev Qnk(op:Int)(a:Int)(b:Int):Prop:=(Qle op a b).p
def Zl1:Q0d:=mkP 152 [] true [.one (.int .i64), .one (.int .u32), .one (.int .u32)] [] (λargs rows=>Qnk (argI args 0) (argI args 1) (argI args 2)) (λargs rows=>Qe5 (argI args 0) (argI args 1) (argI args 2)) (λX=> .tup [.int .u32 (X.1), .bool (X.2)]) (λX=>[])
theorem Zhe:Q05 Tryz.prog Zl1:=Q0k Q0j Q0i (.cons Z9y (.cons Z44 (.cons Qr0 (.nil)))) Tryz.func152 Tryz.call152 (λargs rows=>Qle (argI args 0) (argI args 1) (argI args 2)) [] [] 2 (λ_ _ _=>by kernel_rfl) (λ_ _=>rfl) (λ_ _ h=>h) (λ_ X=>by kernel_rfl)
def Qo7(c:Q02)(m:(List Int)):Tree (Q02×Q14×(List Int)):=
.an (Q9s c m c.Pc 4 1) (.lv (Q15 c m c.Pc 4 1) λ(x0:Int×Int×List Int)=> .br (x0.2.1 !=0) (.lv (Q38 c x0.2.1 c.Pc) λ(x1:Q02)=> .lf (x1,{B8:=0,D0:=0,D9:=0,Value:=0},x0.2.2)) (.an (Qdw x0.2.2 x0.1 4) (.lv (Q1e x0.2.2 x0.1 4) λ(x2:Int×Bool)=> .lv (Q2 x2.1) λ(x3:Q0h×Bool)=> .br (!x3.2) (.lv (Q38 c 1 x2.1) λ(x4:Q02)=> .lf (x4,{B8:=0,D0:=0,D9:=0,Value:=0},x0.2.2)) (.lv (Q46 x3.1.Op) λ(x5:Bool)=>let T1:Tree ((Q02×Q14×(List Int))):= .br (decide (x3.1.Op≥56)) (.an (Qn8 c x3.1) (.lv (Qi7 c x3.1) λ(x7:Q02×Q14)=> .lf (x7.1,x7.2,x0.2.2))) (.br (decide (x3.1.Op≥40)) (.an (Qu3 c x3.1) (.lv (Z1f c x3.1) λ(x8:Q02)=> .lf (x8,{B8:=0,D0:=0,D9:=0,Value:=0},x0.2.2))) (.br (decide (x3.1.Op≥32)) (.an (Ql9 c x0.2.2 x3.1) (.lv (Q6 c x0.2.2 x3.1) λ(x9:Q02×List Int)=> .lf (x9.1,{B8:=0,D0:=0,D9:=0,Value:=0},x9.2))) (.br (x3.1.Op==24) (.an (Q3p c x3.1.A (ishl u32 (wrap u32 x3.1.Imm) 16)) (.lv (Q1w c x3.1.A (ishl u32 (wrap u32 x3.1.Imm) 16)) λ(x10:Q02)=> .lf ({X:=x10.X,Pc:=wrap u32 (x10.Pc+4),B5:=x10.B5},{B8:=0,D0:=0,D9:=0,Value:=0},x0.2.2))) (let E2:=List.getD (A16.l c.X) x3.1.B.toNat 0;let E3:=Nat.blt 0 1&&decide (0≤x3.1.B∧x3.1.B<(↑16:Int)); .br (decide (x3.1.Op≤13)) (.cn (Nat.blt 0 1&&decide (0≤x3.1.C∧x3.1.C<(↑16:Int))) (.cn E3 (let E4:=List.getD (A16.l c.X) x3.1.C.toNat 0; .an (Qnk x3.1.Op E2 E4) (.lv (Qe5 x3.1.Op E2 E4) λ(x11:Int×Bool)=> .an (Q3p c x3.1.A x11.1) (.lv (Q1w c x3.1.A x11.1) λ(x12:Q02)=> .lf ({X:=x12.X,Pc:=wrap u32 (x12.Pc+4),B5:=x12.B5},{B8:=0,D0:=0,D9:=0,Value:=0},x0.2.2)))))) (.cn E3 (.an (Qnk x3.1.Op E2 (wrap u32 x3.1.Imm)) (.lv (Qe5 x3.1.Op E2 (wrap u32 x3.1.Imm)) λ(x13:Int×Bool)=> .an (Q3p c x3.1.A x13.1) (.lv (Q1w c x3.1.A x13.1) λ(x14:Q02)=> .lf ({X:=x14.X,Pc:=wrap u32 (x14.Pc+4),B5:=x14.B5},{B8:=0,D0:=0,D9:=0,Value:=0},x0.2.2))))))))); .br x5 (.br (iand u32 c.B5.a0 (1:Int)==(0:Int)) (.lv (Q38 c 2 x2.1) λ(x6:Q02)=> .lf (x6,{B8:=0,D0:=0,D9:=0,Value:=0},x0.2.2)) T1) T1))))
def Q9b(c:Q02)(m:(List Int)):(Q02×Q14×(List Int)):=(Qo7 c m).m
abbrev Qr8(c:Q02)(m:(List Int)):Prop:=(Qo7 c m).p
def ref1_Do_m:Q0d:=mkP 103 [false,true] true [.agg Q02.sig, .one (.row 0)] [.arr 23 1 (.ints .u32)] (λargs rows=>Qr8 (Q02.of (args.getD 0 .dead).cells) (rowL .u32 rows 0)) (λargs rows=>Q9b (Q02.of (args.getD 0 .dead).cells) (rowL .u32 rows 0)) (λX=> .tup [.agg (Q02.cells (X.1)), .agg (Q14.cells (X.2.1))]) (λX=>[⟨false,23,1, .ints .u32 (X.2.2)⟩])
theorem Z6:Q05 Tryz.prog ref1_Do_m:=Q0k Q0j Q0i (.cons Qry (.cons Qk6 (.cons Qog (.cons Qq0 (.cons Qu0 (.cons Z3u (.cons Ze3 (.cons Qy2 (.cons Qf4 (.cons Zhe (.nil))))))))))) Tryz.func103 Tryz.call103 (λargs rows=>Qo7 (Q02.of (args.getD 0 .dead).cells) (rowL .u32 rows 0)) [] [] 2 (λ_ _ _=>by kernel_rfl) (λ_ _=>rfl) (λ_ _ h=>h) (λ_ X=>by kernel_rfl)
end
end Go.Proofs.YtpcbkbalabgnlaaGreat

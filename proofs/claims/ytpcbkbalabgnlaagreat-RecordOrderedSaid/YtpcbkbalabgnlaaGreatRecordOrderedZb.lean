/-
  Functions of the program: models, and that its calls come to them (by a program: gen3.py).
-/
import Derived.Test.YtpcbkbalabgnlaaGreatRecordOrderedBase
import Derived.Test.YtpcbkbalabgnlaaGreatRecordOrderedZa
import Derived.Test.YtpcbkbalabgnlaaGreatRecordOrderedYe
set_option linter.unusedVariables false
set_option linter.unusedSimpArgs false
namespace Go.Proofs.YtpcbkbalabgnlaaGreat
open Go Go.GD Go.IntKind
set_option maxRecDepth 100000
noncomputable section
def Z3q(b:Bool):Tree Int:=
.br b (.lf 1) (.lf 0)
def Qbm(b:Bool):Int:=(Z3q b).m
def Zka:Q0d:=mkR 198 [] true [.one (.bool)] [] (λargs rows=>Qbm (argB args 0)) (λX=> .int .u32 X) (λX=>[])
theorem Qq0:Q05 Tryz.prog Zka:=Q0z Q0i Q0j (.nil) Tryz.func198 Tryz.call198 (λargs rows=>Z3q (argB args 0)) [] [] 2 (λ_ _ _=>by kernel_rfl) (λ_ _=>rfl) (λ_ _=>Tree.free_ok (by kernel_rfl)) (λ_ X=>by kernel_rfl)
def Qi5(c:Q03)(cause:Int)(bad:Int):Tree Q03:=
.lv (Qbm (iand u32 c.B6.a0 (1:Int) !=(0:Int))) λ(x0:Int)=> .lv (Qbm (iand u32 c.B6.a0 (2:Int) !=(0:Int))) λ(x1:Int)=> .lf ({X:=c.X,Pc:=c.B6.a1,B6:={a0:=ior u32 (Qg u32 (ior u32 (ior u32 (Qg u32 c.B6.a0 24) (wrap u32 (8*x0))) (wrap u32 (16*x1))) 2) 1,a1:=c.B6.a1,a2:=c.Pc,a3:=wrap u32 cause,a4:=bad,a5:=c.B6.a5,a6:=c.B6.a6,a7:=c.B6.a7}})
def Q33(c:Q03)(cause:Int)(bad:Int):Q03:=(Qi5 c cause bad).m
def Zd:Q0d:=mkR 146 [] true [.agg Q03.sig, .one (.int .i64), .one (.int .u32)] [] (λargs rows=>Q33 (Q03.of (args.getD 0 .dead).cells) (argI args 1) (argI args 2)) (λX=> .agg (Q03.cells X)) (λX=>[])
theorem Qir:Q05 Tryz.prog Zd:=Q0z Q0i Q0j (.cons Qq0 (.nil)) Tryz.func146 Tryz.call146 (λargs rows=>Qi5 (Q03.of (args.getD 0 .dead).cells) (argI args 1) (argI args 2)) [] [] 2 (λ_ _ _=>by kernel_rfl) (λ_ _=>rfl) (λ_ _=>Tree.free_ok (by kernel_rfl)) (λ_ X=>by kernel_rfl)
def Q81(m:(List Int))(addr:Int)(size:Int):Tree Bool:=
let T1:Tree (Bool):= .cn (decide (wrap u32 size≠0)) (.br (Int.tmod addr (wrap u32 size)==0) (.lv (Q44 m) λ(x0:Int)=> .lf (decide (addr<wrap u32 (wrap i64 (128*x0))))) (.lf false)); .br (size !=1) (.br (size !=4) (.lf false) T1) T1
def Q23(m:(List Int))(addr:Int)(size:Int):Bool:=(Q81 m addr size).m
abbrev Qcn(m:(List Int))(addr:Int)(size:Int):Prop:=(Q81 m addr size).p
def Z4y:Q0d:=mkP 170 [] true [.one (.ints .u32), .one (.int .u32), .one (.int .i64)] [] (λargs rows=>Qcn (argL .u32 args 0) (argI args 1) (argI args 2)) (λargs rows=>Q23 (argL .u32 args 0) (argI args 1) (argI args 2)) (λX=> .bool X) (λX=>[])
theorem Qj9:Q05 Tryz.prog Z4y:=Q0n Q0i Q0j (.cons Qcr (.nil)) Tryz.func170 Tryz.call170 (λargs rows=>Q81 (argL .u32 args 0) (argI args 1) (argI args 2)) [] [] 2 (λ_ _ _=>by kernel_rfl) (λ_ _=>rfl) (λ_ _ h=>h) (λ_ X=>by kernel_rfl)
def Q49(m:(List Int))(addr:Int)(size:Int):Tree (Int×Bool):=
.an (Qcn m addr size) (.lv (Q23 m addr size) λ(x0:Bool)=> .br (!x0) (.lf (0,false)) (.cn (Nat.beq 1 1&&Nat.blt 0 1&&decide (0≤wrap u32 (Int.tdiv addr 4)∧wrap u32 (Int.tdiv addr 4)<(m.length:Int))) (.br (size==1) (.cn (decide (0≤wrap u32 (8*Int.tmod addr 4))) (.lf (iand u32 (ishr u32 (m.getD (Int.toNat (wrap u32 (Int.tdiv addr 4))) 0) (wrap u32 (8*Int.tmod addr 4))) 255,true))) (.lf (m.getD (Int.toNat (wrap u32 (Int.tdiv addr 4))) 0,true)))))
def Q1b(m:(List Int))(addr:Int)(size:Int):(Int×Bool):=(Q49 m addr size).m
abbrev Qd7(m:(List Int))(addr:Int)(size:Int):Prop:=(Q49 m addr size).p
def Zf4:Q0d:=mkP 116 [] true [.one (.ints .u32), .one (.int .u32), .one (.int .i64)] [] (λargs rows=>Qd7 (argL .u32 args 0) (argI args 1) (argI args 2)) (λargs rows=>Q1b (argL .u32 args 0) (argI args 1) (argI args 2)) (λX=> .tup [.int .u32 (X.1), .bool (X.2)]) (λX=>[])
theorem Qmg:Q05 Tryz.prog Zf4:=Q0n Q0i Q0j (.cons Qj9 (.nil)) Tryz.func116 Tryz.call116 (λargs rows=>Q49 (argL .u32 args 0) (argI args 1) (argI args 2)) [] [] 2 (λ_ _ _=>by kernel_rfl) (λ_ _=>rfl) (λ_ _ h=>h) (λ_ X=>by kernel_rfl)
def Q6u(w:Int):Tree (Q0g×Bool):=
.lv (Q2i (wrap i64 (ishr u32 w 24))) λ(x0:Int)=>let E5:=({Op:=0,A:=0,B:=0,C:=0,Imm:=0}:Q0g); .br (x0==0) (.lf (E5,false)) (.br (x0==2) (let E3:=({Op:=wrap i64 (ishr u32 w 24),A:=wrap i64 (iand u32 (ishr u32 w 20) 15),B:=wrap i64 (iand u32 (ishr u32 w 16) 15),C:=wrap i64 (iand u32 w 65535),Imm:=0}:Q0g); .lv (Q7j E3) λ(x1:Bool)=> .br (!x1) (.lf (E5,false)) (.lf (E3,true))) (let T1:Tree ((Q0g×Bool)):=let E2:=({Op:=wrap i64 (ishr u32 w 24),A:=wrap i64 (iand u32 (ishr u32 w 20) 15),B:=wrap i64 (iand u32 (ishr u32 w 16) 15),C:=0,Imm:=wrap i32 (wrap i16 (iand u32 w 65535))}:Q0g); .lv (Q7j E2) λ(x2:Bool)=> .br (!x2) (.lf (E5,false)) (.lf (E2,true)); .br (x0==3) T1 (.br (x0==7) T1 (let E4:=({Op:=wrap i64 (ishr u32 w 24),A:=wrap i64 (iand u32 (ishr u32 w 20) 15),B:=wrap i64 (iand u32 (ishr u32 w 16) 15),C:=0,Imm:=wrap i32 (iand u32 w 65535)}:Q0g); .lv (Q7j E4) λ(x4:Bool)=> .br (!x4) (.lf (E5,false)) (.lf (E4,true))))))
def Q1z(w:Int):(Q0g×Bool):=(Q6u w).m
def Z63:Q0d:=mkR 117 [] true [.one (.int .u32)] [] (λargs rows=>Q1z (argI args 0)) (λX=> .tup [.agg (Q0g.cells (X.1)), .bool (X.2)]) (λX=>[])
theorem Qos:Q05 Tryz.prog Z63:=Q0z Q0i Q0j (.cons Qfa (.cons Qr (.nil))) Tryz.func117 Tryz.call117 (λargs rows=>Q6u (argI args 0)) [] [] 2 (λ_ _ _=>by kernel_rfl) (λ_ _=>rfl) (λ_ _=>Tree.free_ok (by kernel_rfl)) (λ_ X=>by kernel_rfl)
def Qvc(access:Int):Tree Bool:=
.br (decide (access≥1)) (.lf (decide (access≤3))) (.lf false)
def Qdx(access:Int):Bool:=(Qvc access).m
def Zam:Q0d:=mkR 199 [] true [.one (.int .i64)] [] (λargs rows=>Qdx (argI args 0)) (λX=> .bool X) (λX=>[])
theorem Qq5:Q05 Tryz.prog Zam:=Q0z Q0i Q0j (.nil) Tryz.func199 Tryz.call199 (λargs rows=>Qvc (argI args 0)) [] [] 2 (λ_ _ _=>by kernel_rfl) (λ_ _=>rfl) (λ_ _=>Tree.free_ok (by kernel_rfl)) (λ_ X=>by kernel_rfl)
def Quf(c:Q03):Tree Bool:=
.lf (iand u32 c.B6.a0 (5:Int)==(4:Int))
def Qjt(c:Q03):Bool:=(Quf c).m
def Z9b:Q0d:=mkR 200 [] true [.agg Q03.sig] [] (λargs rows=>Qjt (Q03.of (args.getD 0 .dead).cells)) (λX=> .bool X) (λX=>[])
theorem Z7c:Q05 Tryz.prog Z9b:=Q0z Q0i Q0j (.nil) Tryz.func200 Tryz.call200 (λargs rows=>Quf (Q03.of (args.getD 0 .dead).cells)) [] [] 2 (λ_ _ _=>by kernel_rfl) (λ_ _=>rfl) (λ_ _=>Tree.free_ok (by kernel_rfl)) (λ_ X=>by kernel_rfl)
def Q8s(access:Int):Tree Int:=
.br (access==1) (.lf 4) (.br (access==3) (.lf 6) (.lf 5))
def Q20(access:Int):Int:=(Q8s access).m
def Z0n:Q0d:=mkR 201 [] true [.one (.int .i64)] [] (λargs rows=>Q20 (argI args 0)) (λX=> .int .i64 X) (λX=>[])
theorem Qm1:Q05 Tryz.prog Z0n:=Q0z Q0i Q0j (.nil) Tryz.func201 Tryz.call201 (λargs rows=>Q8s (argI args 0)) [] [] 2 (λ_ _ _=>by kernel_rfl) (λ_ _=>rfl) (λ_ _=>Tree.free_ok (by kernel_rfl)) (λ_ X=>by kernel_rfl)
def Q9y(m:(List Int))(root:Int)(va:Int)(access:Int):Tree Q18:=
.lv (Q20 access) λ(x0:Int)=> .lv (Q44 m) λ(x1:Int)=> .lv (Qdx access) λ(x2:Bool)=>let E4:=({Addr:=0,F1:=0,E0:=x0}:Q18); .br (!x2) (.lf (E4)) (.br (decide (va≥4096)) (.lf (E4)) (.br (decide (root≥wrap u32 x1)) (.lf (E4)) (let E6:=wrap u32 (root*128)+wrap u32 (4*wrap u32 (Int.tdiv va 128));let E3:=Int.tdiv (wrap u32 E6) 4; .cn (Nat.beq 1 1&&Nat.blt 0 1&&decide (0≤wrap u32 E3∧wrap u32 E3<(m.length:Int))) (let E5:=m.getD (Int.toNat (wrap u32 E3)) 0; .br (iand u32 E5 (1:Int)==(0:Int)) (.lf (E4)) (let T1:Tree (Q18):= .br (decide (iand u32 (ishr u32 E5 8) 255≥wrap u32 x1)) (.lf (E4)) (.lf ({Addr:=wrap u32 (wrap u32 (iand u32 (ishr u32 E5 8) (255:Int)*(128:Int))+Int.tmod va 128),F1:=wrap u32 E6,E0:=0}));let T2:Tree (Q18):= .br (access==1) (.br (iand u32 E5 (4:Int)==(0:Int)) (.lf (E4)) T1) T1; .br (access==3) (.br (iand u32 E5 (2:Int)==(0:Int)) (.lf (E4)) T2) T2)))))
def Q6y(m:(List Int))(root:Int)(va:Int)(access:Int):Q18:=(Q9y m root va access).m
abbrev Qqz(m:(List Int))(root:Int)(va:Int)(access:Int):Prop:=(Q9y m root va access).p
def Zeb:Q0d:=mkP 202 [] true [.one (.ints .u32), .one (.int .u32), .one (.int .u32), .one (.int .i64)] [] (λargs rows=>Qqz (argL .u32 args 0) (argI args 1) (argI args 2) (argI args 3)) (λargs rows=>Q6y (argL .u32 args 0) (argI args 1) (argI args 2) (argI args 3)) (λX=> .agg (Q18.cells X)) (λX=>[])
theorem Zad:Q05 Tryz.prog Zeb:=Q0n Q0i Q0j (.cons Qm1 (.cons Qcr (.cons Qq5 (.nil)))) Tryz.func202 Tryz.call202 (λargs rows=>Q9y (argL .u32 args 0) (argI args 1) (argI args 2) (argI args 3)) [] [] 2 (λ_ _ _=>by kernel_rfl) (λ_ _=>rfl) (λ_ _ h=>h) (λ_ X=>by kernel_rfl)
def Qds(m:(List Int))(entry:Int)(access:Int):Tree (List Int):=
.an (Qcn m entry 4) (.lv (Q23 m entry 4) λ(x0:Bool)=> .br (!x0) (.lf m) (let E3:=Nat.beq 1 1&&Nat.blt 0 1&&decide (0≤wrap u32 (Int.tdiv entry 4)∧wrap u32 (Int.tdiv entry 4)<(m.length:Int)); .cn E3 (.cn E3 (let E4:=Int.toNat (wrap u32 (Int.tdiv entry 4));let E1:=List.set m E4 (ior u32 (m.getD E4 0) 8); .br (access==3) (let E2:=Nat.beq 1 1&&Nat.blt 0 1&&decide (0≤wrap u32 (Int.tdiv entry 4)∧wrap u32 (Int.tdiv entry 4)<(↑(List.length E1):Int)); .cn E2 (.cn E2 (.lf (List.set E1 E4 (ior u32 (List.getD E1 E4 0) 16))))) (.lf E1)))))
def Qm8(m:(List Int))(entry:Int)(access:Int):(List Int):=(Qds m entry access).m
abbrev Qr6(m:(List Int))(entry:Int)(access:Int):Prop:=(Qds m entry access).p
def Zfb:Q0d:=mkP 203 [true,false,false] true [.one (.row 0), .one (.int .u32), .one (.int .i64)] [.arr 23 1 (.ints .u32)] (λargs rows=>Qr6 (rowL .u32 rows 0) (argI args 1) (argI args 2)) (λargs rows=>Qm8 (rowL .u32 rows 0) (argI args 1) (argI args 2)) (λX=> .tup []) (λX=>[⟨false,23,1, .ints .u32 X⟩])
theorem Zb4:Q05 Tryz.prog Zfb:=Q0n Q0i Q0j (.cons Qj9 (.nil)) Tryz.func203 Tryz.call203 (λargs rows=>Qds (rowL .u32 rows 0) (argI args 1) (argI args 2)) [] [] 2 (λ_ _ _=>by kernel_rfl) (λ_ _=>rfl) (λ_ _ h=>h) (λ_ X=>by kernel_rfl)
def Q7y(c:Q03)(m:(List Int))(va:Int)(size:Int)(access:Int):Tree (Int×Int×(List Int)):=
.lv (Qdx access) λ(x0:Bool)=> .br (!x0) (.lf (0,5,m)) (let T1:Tree ((Int×Int×(List Int))):= .cn (decide (wrap u32 size≠0)) (.br (Int.tmod va (wrap u32 size) !=0) (.lf (0,3,m)) (.lv (Qjt c) λ(x1:Bool)=> .br (!x1) (.an (Qcn m va size) (.lv (Q23 m va size) λ(x2:Bool)=> .br (!x2) (.lv (Q20 access) λ(x3:Int)=> .lf (0,x3,m)) (.lf (va,0,m)))) (.an (Qqz m c.B6.a6 va access) (.lv (Q6y m c.B6.a6 va access) λ(x4:Q18)=> .br (x4.E0 !=0) (.lf (0,x4.E0,m)) (.an (Qr6 m x4.F1 access) (.lv (Qm8 m x4.F1 access) λ(x5:List Int)=> .lf (x4.Addr,0,x5))))))); .br (size !=1) (.br (size !=4) (.lf (0,5,m)) T1) T1)
def Q12(c:Q03)(m:(List Int))(va:Int)(size:Int)(access:Int):(Int×Int×(List Int)):=(Q7y c m va size access).m
abbrev Q8t(c:Q03)(m:(List Int))(va:Int)(size:Int)(access:Int):Prop:=(Q7y c m va size access).p
def Z8c:Q0d:=mkP 147 [false,true,false,false,false] true [.agg Q03.sig, .one (.row 0), .one (.int .u32), .one (.int .i64), .one (.int .i64)] [.arr 23 1 (.ints .u32)] (λargs rows=>Q8t (Q03.of (args.getD 0 .dead).cells) (rowL .u32 rows 0) (argI args 2) (argI args 3) (argI args 4)) (λargs rows=>Q12 (Q03.of (args.getD 0 .dead).cells) (rowL .u32 rows 0) (argI args 2) (argI args 3) (argI args 4)) (λX=> .tup [.int .u32 (X.1), .int .i64 (X.2.1)]) (λX=>[⟨false,23,1, .ints .u32 (X.2.2)⟩])
theorem Qrw:Q05 Tryz.prog Z8c:=Q0n Q0i Q0j (.cons Qq5 (.cons Z7c (.cons Qj9 (.cons Qm1 (.cons Zad (.cons Zb4 (.nil))))))) Tryz.func147 Tryz.call147 (λargs rows=>Q7y (Q03.of (args.getD 0 .dead).cells) (rowL .u32 rows 0) (argI args 2) (argI args 3) (argI args 4)) [] [] 2 (λ_ _ _=>by kernel_rfl) (λ_ _=>rfl) (λ_ _ h=>h) (λ_ X=>by kernel_rfl)
def Qji(op:Int):Tree Bool:=
.br (decide (op≥57)) (.lf (decide (op≤64))) (.lf false)
def Q3o(op:Int):Bool:=(Qji op).m
def Qse:Q0d:=mkR 148 [] true [.one (.int .i64)] [] (λargs rows=>Q3o (argI args 0)) (λX=> .bool X) (λX=>[])
theorem Qqp:Q05 Tryz.prog Qse:=Q0z Q0i Q0j (.nil) Tryz.func148 Tryz.call148 (λargs rows=>Qji (argI args 0)) [] [] 2 (λ_ _ _=>by kernel_rfl) (λ_ _=>rfl) (λ_ _=>Tree.free_ok (by kernel_rfl)) (λ_ X=>by kernel_rfl)
def Qci(c:Q03):Tree Q03:=
.lv (Qbm (iand u32 c.B6.a0 (8:Int) !=(0:Int))) λ(x0:Int)=> .lv (Qbm (iand u32 c.B6.a0 (16:Int) !=(0:Int))) λ(x1:Int)=> .lf ({X:=c.X,Pc:=c.B6.a2,B6:={a0:=ior u32 (ior u32 (Qg u32 c.B6.a0 3) (wrap u32 (1*x0))) (wrap u32 (2*x1)),a1:=c.B6.a1,a2:=c.B6.a2,a3:=c.B6.a3,a4:=c.B6.a4,a5:=c.B6.a5,a6:=c.B6.a6,a7:=c.B6.a7}})
def Qgo(c:Q03):Q03:=(Qci c).m
def Z5a:Q0d:=mkR 204 [] true [.agg Q03.sig] [] (λargs rows=>Qgo (Q03.of (args.getD 0 .dead).cells)) (λX=> .agg (Q03.cells X)) (λX=>[])
theorem Z27:Q05 Tryz.prog Z5a:=Q0z Q0i Q0j (.cons Qq0 (.nil)) Tryz.func204 Tryz.call204 (λargs rows=>Qci (Q03.of (args.getD 0 .dead).cells)) [] [] 2 (λ_ _ _=>by kernel_rfl) (λ_ _=>rfl) (λ_ _=>Tree.free_ok (by kernel_rfl)) (λ_ X=>by kernel_rfl)
def Qdr(c:Q03)(r:Int)(v:Int):Tree Q03:=
.br (decide (r>0)) (.br (decide (r<16)) (.cn (Nat.blt 0 1&&decide (0≤r∧r<(↑16:Int))) (.lf ({X:=A16.of 0 (List.set (A16.l c.X) r.toNat v),Pc:=c.Pc,B6:=c.B6}))) (.lf c)) (.lf c)
def Q1r(c:Q03)(r:Int)(v:Int):Q03:=(Qdr c r v).m
abbrev Q3c(c:Q03)(r:Int)(v:Int):Prop:=(Qdr c r v).p
def Zjh:Q0d:=mkP 105 [] true [.agg Q03.sig, .one (.int .i64), .one (.int .u32)] [] (λargs rows=>Q3c (Q03.of (args.getD 0 .dead).cells) (argI args 1) (argI args 2)) (λargs rows=>Q1r (Q03.of (args.getD 0 .dead).cells) (argI args 1) (argI args 2)) (λX=> .agg (Q03.cells X)) (λX=>[])
theorem Qho:Q05 Tryz.prog Zjh:=Q0n Q0i Q0j (.nil) Tryz.func105 Tryz.call105 (λargs rows=>Qdr (Q03.of (args.getD 0 .dead).cells) (argI args 1) (argI args 2)) [] [] 2 (λ_ _ _=>by kernel_rfl) (λ_ _=>rfl) (λ_ _ h=>h) (λ_ X=>by kernel_rfl)
def Qc8(c:Q03)(csr:Int)(v:Int):Tree Q03:=
let E4:=Nat.blt 0 1&&decide (0≤csr∧csr<(↑8:Int));let T2:Tree (Q03):= .cn E4 (.lf ({X:=c.X,Pc:=c.Pc,B6:=A8.of 0 (List.set (A8.l c.B6) csr.toNat (iand u32 v 31))})); .br (csr==0) T2 (.br (csr==7) T2 (.br (csr==6) (.cn E4 (.lf ({X:=c.X,Pc:=c.Pc,B6:=A8.of 0 (List.set (A8.l c.B6) csr.toNat (iand u32 v 255))}))) (let T3:Tree (Q03):= .cn E4 (.lf ({X:=c.X,Pc:=c.Pc,B6:=A8.of 0 (List.set (A8.l c.B6) csr.toNat (Qg u32 v 3))})); .br (csr==1) T3 (.br (csr==2) T3 (let T1:Tree (Q03):= .cn E4 (.lf ({X:=c.X,Pc:=c.Pc,B6:=A8.of 0 (List.set (A8.l c.B6) csr.toNat v)})); .br (csr==3) T1 (.br (csr==4) T1 (.br (csr==5) T1 (.lf c))))))))
def Qgf(c:Q03)(csr:Int)(v:Int):Q03:=(Qc8 c csr v).m
abbrev Qor(c:Q03)(csr:Int)(v:Int):Prop:=(Qc8 c csr v).p
def Z9x:Q0d:=mkP 205 [] true [.agg Q03.sig, .one (.int .i64), .one (.int .u32)] [] (λargs rows=>Qor (Q03.of (args.getD 0 .dead).cells) (argI args 1) (argI args 2)) (λargs rows=>Qgf (Q03.of (args.getD 0 .dead).cells) (argI args 1) (argI args 2)) (λX=> .agg (Q03.cells X)) (λX=>[])
theorem Z4s:Q05 Tryz.prog Z9x:=Q0n Q0i Q0j (.nil) Tryz.func205 Tryz.call205 (λargs rows=>Qc8 (Q03.of (args.getD 0 .dead).cells) (argI args 1) (argI args 2)) [] [] 2 (λ_ _ _=>by kernel_rfl) (λ_ _=>rfl) (λ_ _ h=>h) (λ_ X=>by kernel_rfl)
def Q8h(c:Q03)(i:Q0g):Tree (Q03×Q11):=
.br (i.Op==56) (.lv (Q33 c 7 0) λ(x0:Q03)=> .lf (x0,{B5:=0,D0:=0,D9:=0,Value:=0})) (.br (i.Op==57) (.lv (Qgo c) λ(x1:Q03)=> .lf (x1,{B5:=0,D0:=0,D9:=0,Value:=0})) (.br (i.Op==58) (.cn (Nat.blt 0 1&&decide (0≤i.Imm∧i.Imm<(↑8:Int))) (let E3:=List.getD (A8.l c.B6) i.Imm.toNat 0; .an (Q3c c i.A E3) (.lv (Q1r c i.A E3) λ(x2:Q03)=> .lf ({X:=x2.X,Pc:=wrap u32 (x2.Pc+4),B6:=x2.B6},{B5:=0,D0:=0,D9:=0,Value:=0})))) (let E2:=Nat.blt 0 1&&decide (0≤i.A∧i.A<(↑16:Int)); .br (i.Op==59) (.cn E2 (let E4:=List.getD (A16.l c.X) i.A.toNat 0; .an (Qor c (wrap i64 i.Imm) E4) (.lv (Qgf c (wrap i64 i.Imm) E4) λ(x3:Q03)=> .lf ({X:=x3.X,Pc:=wrap u32 (x3.Pc+4),B6:=x3.B6},{B5:=0,D0:=0,D9:=0,Value:=0})))) (let E1:=({X:=c.X,Pc:=wrap u32 (c.Pc+4),B6:=c.B6}:Q03); .br (i.Op==60) (.lf (E1,{B5:=1,D0:=wrap i64 i.Imm,D9:=i.A,Value:=0})) (.br (i.Op==61) (.cn E2 (.lf (E1,{B5:=2,D0:=wrap i64 i.Imm,D9:=0,Value:=List.getD (A16.l c.X) i.A.toNat 0}))) (.br (i.Op==62) (.lf (E1,{B5:=3,D0:=0,D9:=0,Value:=0})) (.br (i.Op==63) (.lf (E1,{B5:=5,D0:=0,D9:=0,Value:=0})) (.br (i.Op==64) (.lf (E1,{B5:=4,D0:=0,D9:=0,Value:=0})) (.lf (E1,{B5:=0,D0:=0,D9:=0,Value:=0}))))))))))
def Qh1(c:Q03)(i:Q0g):(Q03×Q11):=(Q8h c i).m
abbrev Qn(c:Q03)(i:Q0g):Prop:=(Q8h c i).p
def Z50:Q0d:=mkP 149 [] true [.agg Q03.sig, .agg Q0g.sig] [] (λargs rows=>Qn (Q03.of (args.getD 0 .dead).cells) (Q0g.of (args.getD 1 .dead).cells)) (λargs rows=>Qh1 (Q03.of (args.getD 0 .dead).cells) (Q0g.of (args.getD 1 .dead).cells)) (λX=> .tup [.agg (Q03.cells (X.1)), .agg (Q11.cells (X.2))]) (λX=>[])
theorem Z2g:Q05 Tryz.prog Z50:=Q0n Q0i Q0j (.cons Qir (.cons Z27 (.cons Qho (.cons Z4s (.nil))))) Tryz.func149 Tryz.call149 (λargs rows=>Q8h (Q03.of (args.getD 0 .dead).cells) (Q0g.of (args.getD 1 .dead).cells)) [] [] 2 (λ_ _ _=>by kernel_rfl) (λ_ _=>rfl) (λ_ _ h=>h) (λ_ X=>by kernel_rfl)
def Quy(op:Int)(a:Int)(b:Int):Tree Bool:=
.br (op==40) (.lf (a==b)) (.br (op==41) (.lf (a !=b)) (.br (op==42) (.lf (decide (wrap i32 a<wrap i32 b))) (.br (op==43) (.lf (decide (wrap i32 a≥wrap i32 b))) (.br (op==44) (.lf (decide (a<b))) (.lf (decide (a≥b)))))))
def Q2c(op:Int)(a:Int)(b:Int):Bool:=(Quy op a b).m
def Z94:Q0d:=mkR 206 [] true [.one (.int .i64), .one (.int .u32), .one (.int .u32)] [] (λargs rows=>Q2c (argI args 0) (argI args 1) (argI args 2)) (λX=> .bool X) (λX=>[])
theorem Z4t:Q05 Tryz.prog Z94:=Q0z Q0i Q0j (.nil) Tryz.func206 Tryz.call206 (λargs rows=>Quy (argI args 0) (argI args 1) (argI args 2)) [] [] 2 (λ_ _ _=>by kernel_rfl) (λ_ _=>rfl) (λ_ _=>Tree.free_ok (by kernel_rfl)) (λ_ X=>by kernel_rfl)
def Qhr(c:Q03)(i:Q0g):Tree Q03:=
.br (i.Op==48) (.an (Q3c c i.A (wrap u32 (c.Pc+4))) (.lv (Q1r c i.A (wrap u32 (c.Pc+4))) λ(x0:Q03)=> .lf ({X:=x0.X,Pc:=wrap u32 (c.Pc+wrap u32 (4*wrap u32 i.Imm)),B6:=x0.B6}))) (let E1:=Nat.blt 0 1&&decide (0≤i.B∧i.B<(↑16:Int)); .br (i.Op==49) (.cn E1 (.an (Q3c c i.A (wrap u32 (c.Pc+4))) (.lv (Q1r c i.A (wrap u32 (c.Pc+4))) λ(x1:Q03)=> .lf ({X:=x1.X,Pc:=wrap u32 (List.getD (A16.l c.X) i.B.toNat 0+wrap u32 i.Imm),B6:=x1.B6})))) (.cn (Nat.blt 0 1&&decide (0≤i.A∧i.A<(↑16:Int))) (.cn E1 (.lv (Q2c i.Op (List.getD (A16.l c.X) i.A.toNat 0) (List.getD (A16.l c.X) i.B.toNat 0)) λ(x2:Bool)=> .br x2 (.lf ({X:=c.X,Pc:=wrap u32 (c.Pc+wrap u32 (4*wrap u32 i.Imm)),B6:=c.B6})) (.lf ({X:=c.X,Pc:=wrap u32 (c.Pc+4),B6:=c.B6}))))))
def Qxq(c:Q03)(i:Q0g):Q03:=(Qhr c i).m
abbrev Qqh(c:Q03)(i:Q0g):Prop:=(Qhr c i).p
def Zdy:Q0d:=mkP 150 [] true [.agg Q03.sig, .agg Q0g.sig] [] (λargs rows=>Qqh (Q03.of (args.getD 0 .dead).cells) (Q0g.of (args.getD 1 .dead).cells)) (λargs rows=>Qxq (Q03.of (args.getD 0 .dead).cells) (Q0g.of (args.getD 1 .dead).cells)) (λX=> .agg (Q03.cells X)) (λX=>[])
theorem Z93:Q05 Tryz.prog Zdy:=Q0n Q0i Q0j (.cons Qho (.cons Z4t (.nil))) Tryz.func150 Tryz.call150 (λargs rows=>Qhr (Q03.of (args.getD 0 .dead).cells) (Q0g.of (args.getD 1 .dead).cells)) [] [] 2 (λ_ _ _=>by kernel_rfl) (λ_ _=>rfl) (λ_ _ h=>h) (λ_ X=>by kernel_rfl)
def Q7m(x:Int)(n:Int):Tree Int:=
.br (decide (n<1)) (.lf 0) (.br (decide (n≥32)) (.lf x) (.cn (decide (0≤wrap u64 n)) (.cn (decide (0≤wrap u64 (wrap i64 (n-1)))) (let E1:=iand u32 x (wrap u32 (ishl u32 1 (wrap u64 n)-1)); .br (ishr u32 E1 (wrap u64 (wrap i64 (n-1)))==1) (.cn (decide (0≤wrap u64 n)) (.lf (ior u32 E1 (ishl u32 4294967295 (wrap u64 n))))) (.lf E1)))))
def Q3q(x:Int)(n:Int):Int:=(Q7m x n).m
abbrev Qbw(x:Int)(n:Int):Prop:=(Q7m x n).p
def Qtu:Q0d:=mkP 208 [] true [.one (.int .u32), .one (.int .i64)] [] (λargs rows=>Qbw (argI args 0) (argI args 1)) (λargs rows=>Q3q (argI args 0) (argI args 1)) (λX=> .int .u32 X) (λX=>[])
theorem Qs0:Q05 Tryz.prog Qtu:=Q0n Q0i Q0j (.nil) Tryz.func208 Tryz.call208 (λargs rows=>Q7m (argI args 0) (argI args 1)) [] [] 2 (λ_ _ _=>by kernel_rfl) (λ_ _=>rfl) (λ_ _ h=>h) (λ_ X=>by kernel_rfl)
def Q9j(c:Q03)(m:(List Int))(i:Q0g):Tree (Q03×(List Int)):=
.cn (Nat.blt 0 1&&decide (0≤i.B∧i.B<(↑16:Int))) (let E4:=wrap u32 (List.getD (A16.l c.X) i.B.toNat 0+wrap u32 i.Imm);let E5:=List.getD (A16.l c.X) i.A.toNat 0;let E6:=Nat.blt 0 1&&decide (0≤i.A∧i.A<(↑16:Int));let E7:=({X:=c.X,Pc:=wrap u32 (c.Pc+4),B6:=c.B6}:Q03);let T1:Tree ((Q03×(List Int))):=let T3:Tree ((Q03×(List Int))):= .an (Q8t c m E4 4 3) (.lv (Q12 c m E4 4 3) λ(x0:Int×Int×List Int)=> .br (x0.2.1 !=0) (.lv (Q33 c x0.2.1 E4) λ(x1:Q03)=> .lf (x1,x0.2.2)) (.cn E6 (.an (Qes x0.2.2 x0.1 4 E5) (.lv (Qa5 x0.2.2 x0.1 4 E5) λ(x2:List Int)=> .lf (E7,x2))))); .br (i.Op==35) T3 (.br (i.Op==36) T3 (.an (Q8t c m E4 4 2) (.lv (Q12 c m E4 4 2) λ(x6:Int×Int×List Int)=> .br (x6.2.1 !=0) (.lv (Q33 c x6.2.1 E4) λ(x7:Q03)=> .lf (x7,x6.2.2)) (.an (Qd7 x6.2.2 x6.1 4) (.lv (Q1b x6.2.2 x6.1 4) λ(x8:Int×Bool)=> .br (i.Op==33) (.an (Qbw x8.1 8) (.lv (Q3q x8.1 8) λ(x9:Int)=> .an (Q3c c i.A x9) (.lv (Q1r c i.A x9) λ(x10:Q03)=> .lf ({X:=x10.X,Pc:=wrap u32 (x10.Pc+4),B6:=x10.B6},x6.2.2)))) (.an (Q3c c i.A x8.1) (.lv (Q1r c i.A x8.1) λ(x11:Q03)=> .lf ({X:=x11.X,Pc:=wrap u32 (x11.Pc+4),B6:=x11.B6},x6.2.2)))))))); .br (i.Op==32) T1 (.br (i.Op==35) T1 (let T2:Tree ((Q03×(List Int))):= .an (Q8t c m E4 1 3) (.lv (Q12 c m E4 1 3) λ(x24:Int×Int×List Int)=> .br (x24.2.1 !=0) (.lv (Q33 c x24.2.1 E4) λ(x25:Q03)=> .lf (x25,x24.2.2)) (.cn E6 (.an (Qes x24.2.2 x24.1 1 E5) (.lv (Qa5 x24.2.2 x24.1 1 E5) λ(x26:List Int)=> .lf (E7,x26))))); .br (i.Op==35) T2 (.br (i.Op==36) T2 (.an (Q8t c m E4 1 2) (.lv (Q12 c m E4 1 2) λ(x30:Int×Int×List Int)=> .br (x30.2.1 !=0) (.lv (Q33 c x30.2.1 E4) λ(x31:Q03)=> .lf (x31,x30.2.2)) (.an (Qd7 x30.2.2 x30.1 1) (.lv (Q1b x30.2.2 x30.1 1) λ(x32:Int×Bool)=> .br (i.Op==33) (.an (Qbw x32.1 8) (.lv (Q3q x32.1 8) λ(x33:Int)=> .an (Q3c c i.A x33) (.lv (Q1r c i.A x33) λ(x34:Q03)=> .lf ({X:=x34.X,Pc:=wrap u32 (x34.Pc+4),B6:=x34.B6},x30.2.2)))) (.an (Q3c c i.A x32.1) (.lv (Q1r c i.A x32.1) λ(x35:Q03)=> .lf ({X:=x35.X,Pc:=wrap u32 (x35.Pc+4),B6:=x35.B6},x30.2.2)))))))))))
def Q5e(c:Q03)(m:(List Int))(i:Q0g):(Q03×(List Int)):=(Q9j c m i).m
abbrev Qjq(c:Q03)(m:(List Int))(i:Q0g):Prop:=(Q9j c m i).p
def Qxk:Q0d:=mkP 151 [false,true,false] true [.agg Q03.sig, .one (.row 0), .agg Q0g.sig] [.arr 23 1 (.ints .u32)] (λargs rows=>Qjq (Q03.of (args.getD 0 .dead).cells) (rowL .u32 rows 0) (Q0g.of (args.getD 2 .dead).cells)) (λargs rows=>Q5e (Q03.of (args.getD 0 .dead).cells) (rowL .u32 rows 0) (Q0g.of (args.getD 2 .dead).cells)) (λX=> .agg (Q03.cells (X.1))) (λX=>[⟨false,23,1, .ints .u32 (X.2)⟩])
theorem Qw7:Q05 Tryz.prog Qxk:=Q0n Q0i Q0j (.cons Qrw (.cons Qir (.cons Qxl (.cons Qmg (.cons Qs0 (.cons Qho (.nil))))))) Tryz.func151 Tryz.call151 (λargs rows=>Q9j (Q03.of (args.getD 0 .dead).cells) (rowL .u32 rows 0) (Q0g.of (args.getD 2 .dead).cells)) [] [] 2 (λ_ _ _=>by kernel_rfl) (λ_ _=>rfl) (λ_ _ h=>h) (λ_ X=>by kernel_rfl)
def Qve(op:Int):Tree Int:=
.br (op==16) (.lf 1) (.br (op==17) (.lf 3) (.br (op==18) (.lf 4) (.br (op==19) (.lf 5) (.br (op==20) (.lf 6) (.br (op==21) (.lf 7) (.br (op==22) (.lf 8) (.br (op==23) (.lf 12) (.lf op))))))))
def Z4k(op:Int):Int:=(Qve op).m
def Z9c:Q0d:=mkR 209 [] true [.one (.int .i64)] [] (λargs rows=>Z4k (argI args 0)) (λX=> .int .i64 X) (λX=>[])
theorem Z5:Q05 Tryz.prog Z9c:=Q0z Q0i Q0j (.nil) Tryz.func209 Tryz.call209 (λargs rows=>Qve (argI args 0)) [] [] 2 (λ_ _ _=>by kernel_rfl) (λ_ _=>rfl) (λ_ _=>Tree.free_ok (by kernel_rfl)) (λ_ X=>by kernel_rfl)
def Qa8(a:Int)(b:Int):Tree (Int×Int):=
.br (b==0) (.lf (4294967295,a)) (.cn (decide (wrap i64 (wrap i32 b)≠0)) (.cn (decide (wrap i64 (wrap i32 b)≠0)) (.lf (wrap u32 (wrap i64 (Int.tdiv (wrap i64 (wrap i32 a)) (wrap i64 (wrap i32 b)))),wrap u32 (Int.tmod (wrap i64 (wrap i32 a)) (wrap i64 (wrap i32 b)))))))
def Qbn(a:Int)(b:Int):(Int×Int):=(Qa8 a b).m
abbrev Qgp(a:Int)(b:Int):Prop:=(Qa8 a b).p
def Z7j:Q0d:=mkP 210 [] true [.one (.int .u32), .one (.int .u32)] [] (λargs rows=>Qgp (argI args 0) (argI args 1)) (λargs rows=>Qbn (argI args 0) (argI args 1)) (λX=> .tup [.int .u32 (X.1), .int .u32 (X.2)]) (λX=>[])
theorem Z1l:Q05 Tryz.prog Z7j:=Q0n Q0i Q0j (.nil) Tryz.func210 Tryz.call210 (λargs rows=>Qa8 (argI args 0) (argI args 1)) [] [] 2 (λ_ _ _=>by kernel_rfl) (λ_ _=>rfl) (λ_ _ h=>h) (λ_ X=>by kernel_rfl)
def Qkb(op:Int)(a:Int)(b:Int):Tree (Int×Bool):=
.lv (Z4k op) λ(x0:Int)=> .br (x0==1) (.lf (wrap u32 (a+b),true)) (.br (x0==2) (.lf (wrap u32 (a-b),true)) (.br (x0==3) (.lf (iand u32 a b,true)) (.br (x0==4) (.lf (ior u32 a b,true)) (.br (x0==5) (.lf (ixor u32 a b,true)) (.br (x0==6) (.lf (ishl u32 a (iand u32 b 31),true)) (.br (x0==7) (.lf (ishr u32 a (iand u32 b 31),true)) (.br (x0==8) (.lf (wrap u32 (ishr i32 (wrap i32 a) (iand u32 b 31)),true)) (.br (x0==9) (.lf (wrap u32 (a*b),true)) (.br (x0==10) (.an (Qgp a b) (.lv (Qbn a b) λ(x1:Int×Int)=> .lf (x1.1,true))) (.br (x0==11) (.an (Qgp a b) (.lv (Qbn a b) λ(x2:Int×Int)=> .lf (x2.2,true))) (.br (x0==12) (.lv (Qbm (decide (wrap i32 a<wrap i32 b))) λ(x3:Int)=> .lf (x3,true)) (.br (x0==13) (.lv (Qbm (decide (a<b))) λ(x4:Int)=> .lf (x4,true)) (.lf (0,false))))))))))))))
def Qcg(op:Int)(a:Int)(b:Int):(Int×Bool):=(Qkb op a b).m
abbrev Qne(op:Int)(a:Int)(b:Int):Prop:=(Qkb op a b).p
def Zk0:Q0d:=mkP 152 [] true [.one (.int .i64), .one (.int .u32), .one (.int .u32)] [] (λargs rows=>Qne (argI args 0) (argI args 1) (argI args 2)) (λargs rows=>Qcg (argI args 0) (argI args 1) (argI args 2)) (λX=> .tup [.int .u32 (X.1), .bool (X.2)]) (λX=>[])
theorem Zek:Q05 Tryz.prog Zk0:=Q0n Q0i Q0j (.cons Z5 (.cons Z1l (.cons Qq0 (.nil)))) Tryz.func152 Tryz.call152 (λargs rows=>Qkb (argI args 0) (argI args 1) (argI args 2)) [] [] 2 (λ_ _ _=>by kernel_rfl) (λ_ _=>rfl) (λ_ _ h=>h) (λ_ X=>by kernel_rfl)
def Qmp(c:Q03)(m:(List Int)):Tree (Q03×Q11×(List Int)):=
.an (Q8t c m c.Pc 4 1) (.lv (Q12 c m c.Pc 4 1) λ(x0:Int×Int×List Int)=> .br (x0.2.1 !=0) (.lv (Q33 c x0.2.1 c.Pc) λ(x1:Q03)=> .lf (x1,{B5:=0,D0:=0,D9:=0,Value:=0},x0.2.2)) (.an (Qd7 x0.2.2 x0.1 4) (.lv (Q1b x0.2.2 x0.1 4) λ(x2:Int×Bool)=> .lv (Q1z x2.1) λ(x3:Q0g×Bool)=> .br (!x3.2) (.lv (Q33 c 1 x2.1) λ(x4:Q03)=> .lf (x4,{B5:=0,D0:=0,D9:=0,Value:=0},x0.2.2)) (.lv (Q3o x3.1.Op) λ(x5:Bool)=>let T1:Tree ((Q03×Q11×(List Int))):= .br (decide (x3.1.Op≥56)) (.an (Qn c x3.1) (.lv (Qh1 c x3.1) λ(x7:Q03×Q11)=> .lf (x7.1,x7.2,x0.2.2))) (.br (decide (x3.1.Op≥40)) (.an (Qqh c x3.1) (.lv (Qxq c x3.1) λ(x8:Q03)=> .lf (x8,{B5:=0,D0:=0,D9:=0,Value:=0},x0.2.2))) (.br (decide (x3.1.Op≥32)) (.an (Qjq c x0.2.2 x3.1) (.lv (Q5e c x0.2.2 x3.1) λ(x9:Q03×List Int)=> .lf (x9.1,{B5:=0,D0:=0,D9:=0,Value:=0},x9.2))) (.br (x3.1.Op==24) (.an (Q3c c x3.1.A (ishl u32 (wrap u32 x3.1.Imm) 16)) (.lv (Q1r c x3.1.A (ishl u32 (wrap u32 x3.1.Imm) 16)) λ(x10:Q03)=> .lf ({X:=x10.X,Pc:=wrap u32 (x10.Pc+4),B6:=x10.B6},{B5:=0,D0:=0,D9:=0,Value:=0},x0.2.2))) (let E2:=List.getD (A16.l c.X) x3.1.B.toNat 0;let E3:=Nat.blt 0 1&&decide (0≤x3.1.B∧x3.1.B<(↑16:Int)); .br (decide (x3.1.Op≤13)) (.cn (Nat.blt 0 1&&decide (0≤x3.1.C∧x3.1.C<(↑16:Int))) (.cn E3 (let E4:=List.getD (A16.l c.X) x3.1.C.toNat 0; .an (Qne x3.1.Op E2 E4) (.lv (Qcg x3.1.Op E2 E4) λ(x11:Int×Bool)=> .an (Q3c c x3.1.A x11.1) (.lv (Q1r c x3.1.A x11.1) λ(x12:Q03)=> .lf ({X:=x12.X,Pc:=wrap u32 (x12.Pc+4),B6:=x12.B6},{B5:=0,D0:=0,D9:=0,Value:=0},x0.2.2)))))) (.cn E3 (.an (Qne x3.1.Op E2 (wrap u32 x3.1.Imm)) (.lv (Qcg x3.1.Op E2 (wrap u32 x3.1.Imm)) λ(x13:Int×Bool)=> .an (Q3c c x3.1.A x13.1) (.lv (Q1r c x3.1.A x13.1) λ(x14:Q03)=> .lf ({X:=x14.X,Pc:=wrap u32 (x14.Pc+4),B6:=x14.B6},{B5:=0,D0:=0,D9:=0,Value:=0},x0.2.2))))))))); .br x5 (.br (iand u32 c.B6.a0 (1:Int)==(0:Int)) (.lv (Q33 c 2 x2.1) λ(x6:Q03)=> .lf (x6,{B5:=0,D0:=0,D9:=0,Value:=0},x0.2.2)) T1) T1))))
def Q8e(c:Q03)(m:(List Int)):(Q03×Q11×(List Int)):=(Qmp c m).m
abbrev Qpy(c:Q03)(m:(List Int)):Prop:=(Qmp c m).p
def ref1_Do_m:Q0d:=mkP 103 [false,true] true [.agg Q03.sig, .one (.row 0)] [.arr 23 1 (.ints .u32)] (λargs rows=>Qpy (Q03.of (args.getD 0 .dead).cells) (rowL .u32 rows 0)) (λargs rows=>Q8e (Q03.of (args.getD 0 .dead).cells) (rowL .u32 rows 0)) (λX=> .tup [.agg (Q03.cells (X.1)), .agg (Q11.cells (X.2.1))]) (λX=>[⟨false,23,1, .ints .u32 (X.2.2)⟩])
theorem Zjf:Q05 Tryz.prog ref1_Do_m:=Q0n Q0i Q0j (.cons Qrw (.cons Qir (.cons Qmg (.cons Qos (.cons Qqp (.cons Z2g (.cons Z93 (.cons Qw7 (.cons Qho (.cons Zek (.nil))))))))))) Tryz.func103 Tryz.call103 (λargs rows=>Qmp (Q03.of (args.getD 0 .dead).cells) (rowL .u32 rows 0)) [] [] 2 (λ_ _ _=>by kernel_rfl) (λ_ _=>rfl) (λ_ _ h=>h) (λ_ X=>by kernel_rfl)
end
end Go.Proofs.YtpcbkbalabgnlaaGreat

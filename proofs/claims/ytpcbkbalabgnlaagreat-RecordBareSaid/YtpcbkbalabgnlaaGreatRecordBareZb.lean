/-
  Functions of the program: models, and that its calls come to them (by a program: gen3.py).
-/
import Derived.Test.YtpcbkbalabgnlaaGreatRecordBareBase
import Derived.Test.YtpcbkbalabgnlaaGreatRecordBareZa
import Derived.Test.YtpcbkbalabgnlaaGreatRecordBareYe
set_option maxRecDepth 100000
set_option linter.unusedVariables false
set_option linter.unusedSimpArgs false
namespace Go.Proofs.YtpcbkbalabgnlaaGreat
open Go Go.GD Go.IntKind
noncomputable section
def Z52(b:Bool):Tree Int:=
.br b (.lf 1) (.lf 0)
def Qc0(b:Bool):Int:=(Z52 b).m
def Zjl:Q0d:=mkR 198 [] true [.one (.bool)] [] (λargs rows=>Qc0 (argB args 0)) (λX=> .int .u32 X) (λX=>[])
theorem Qqq:Q07 Tryz.prog Zjl:=Q10 Q0j Q0k (.nil) Tryz.func198 Tryz.call198 (λargs rows=>Z52 (argB args 0)) [] [] 2 (λ_ _ _=>by kernel_rfl) (λ_ _=>rfl) (λ_ _=>Tree.free_ok (by kernel_rfl)) (λ_ X=>by kernel_rfl)
def Qhe(c:Q04)(cause:Int)(bad:Int):Tree Q04:=
.lv (Qc0 (iand u32 c.B6.a0 (1:Int) !=(0:Int))) λ(x0:Int)=> .lv (Qc0 (iand u32 c.B6.a0 (2:Int) !=(0:Int))) λ(x1:Int)=> .lf ({X:=c.X,Pc:=c.B6.a1,B6:={a0:=ior u32 (Qgm u32 (ior u32 (ior u32 (Qgm u32 c.B6.a0 24) (wrap u32 (8*x0))) (wrap u32 (16*x1))) 2) 1,a1:=c.B6.a1,a2:=c.Pc,a3:=wrap u32 cause,a4:=bad,a5:=c.B6.a5,a6:=c.B6.a6,a7:=c.B6.a7}})
def Q3c(c:Q04)(cause:Int)(bad:Int):Q04:=(Qhe c cause bad).m
def Zer:Q0d:=mkR 146 [] true [.agg Q04.sig, .one (.int .i64), .one (.int .u32)] [] (λargs rows=>Q3c (Q04.of (args.getD 0 .dead).cells) (argI args 1) (argI args 2)) (λX=> .agg (Q04.cells X)) (λX=>[])
theorem Qjc:Q07 Tryz.prog Zer:=Q10 Q0j Q0k (.cons Qqq (.nil)) Tryz.func146 Tryz.call146 (λargs rows=>Qhe (Q04.of (args.getD 0 .dead).cells) (argI args 1) (argI args 2)) [] [] 2 (λ_ _ _=>by kernel_rfl) (λ_ _=>rfl) (λ_ _=>Tree.free_ok (by kernel_rfl)) (λ_ X=>by kernel_rfl)
def Q8f(m:(List Int))(addr:Int)(size:Int):Tree Bool:=
let T1:Tree (Bool):= .cn (decide (wrap u32 size≠0)) (.br (Int.tmod addr (wrap u32 size)==0) (.lv (Q4e m) λ(x0:Int)=> .lf (decide (addr<wrap u32 (wrap i64 (128*x0))))) (.lf false)); .br (size !=1) (.br (size !=4) (.lf false) T1) T1
def Q2b(m:(List Int))(addr:Int)(size:Int):Bool:=(Q8f m addr size).m
abbrev Qdk(m:(List Int))(addr:Int)(size:Int):Prop:=(Q8f m addr size).p
def Z69:Q0d:=mkP 170 [] true [.one (.ints .u32), .one (.int .u32), .one (.int .i64)] [] (λargs rows=>Qdk (argL .u32 args 0) (argI args 1) (argI args 2)) (λargs rows=>Q2b (argL .u32 args 0) (argI args 1) (argI args 2)) (λX=> .bool X) (λX=>[])
theorem Qk2:Q07 Tryz.prog Z69:=Q0p Q0j Q0k (.cons Qd (.nil)) Tryz.func170 Tryz.call170 (λargs rows=>Q8f (argL .u32 args 0) (argI args 1) (argI args 2)) [] [] 2 (λ_ _ _=>by kernel_rfl) (λ_ _=>rfl) (λ_ _ h=>h) (λ_ X=>by kernel_rfl)
def Q4f(m:(List Int))(addr:Int)(size:Int):Tree (Int×Bool):=
.an (Qdk m addr size) (.lv (Q2b m addr size) λ(x0:Bool)=> .br (!x0) (.lf (0,false)) (.cn (Nat.beq 1 1&&Nat.blt 0 1&&decide (0≤wrap u32 (Int.tdiv addr 4)∧wrap u32 (Int.tdiv addr 4)<(m.length:Int))) (.br (size==1) (.cn (decide (0≤wrap u32 (8*Int.tmod addr 4))) (.lf (iand u32 (ishr u32 (m.getD (Int.toNat (wrap u32 (Int.tdiv addr 4))) 0) (wrap u32 (8*Int.tmod addr 4))) 255,true))) (.lf (m.getD (Int.toNat (wrap u32 (Int.tdiv addr 4))) 0,true)))))
def Q1d(m:(List Int))(addr:Int)(size:Int):(Int×Bool):=(Q4f m addr size).m
abbrev Qdn(m:(List Int))(addr:Int)(size:Int):Prop:=(Q4f m addr size).p
def Zea:Q0d:=mkP 116 [] true [.one (.ints .u32), .one (.int .u32), .one (.int .i64)] [] (λargs rows=>Qdn (argL .u32 args 0) (argI args 1) (argI args 2)) (λargs rows=>Q1d (argL .u32 args 0) (argI args 1) (argI args 2)) (λX=> .tup [.int .u32 (X.1), .bool (X.2)]) (λX=>[])
theorem Qo:Q07 Tryz.prog Zea:=Q0p Q0j Q0k (.cons Qk2 (.nil)) Tryz.func116 Tryz.call116 (λargs rows=>Q4f (argL .u32 args 0) (argI args 1) (argI args 2)) [] [] 2 (λ_ _ _=>by kernel_rfl) (λ_ _=>rfl) (λ_ _ h=>h) (λ_ X=>by kernel_rfl)
def Q74(w:Int):Tree (Q0i×Bool):=
.lv (Q2s (wrap i64 (ishr u32 w 24))) λ(x0:Int)=>let E5:=({Op:=0,A:=0,B:=0,C:=0,Imm:=0}:Q0i); .br (x0==0) (.lf (E5,false)) (.br (x0==2) (let E3:=({Op:=wrap i64 (ishr u32 w 24),A:=wrap i64 (iand u32 (ishr u32 w 20) 15),B:=wrap i64 (iand u32 (ishr u32 w 16) 15),C:=wrap i64 (iand u32 w 65535),Imm:=0}:Q0i); .lv (Q7v E3) λ(x1:Bool)=> .br (!x1) (.lf (E5,false)) (.lf (E3,true))) (let T1:Tree ((Q0i×Bool)):=let E2:=({Op:=wrap i64 (ishr u32 w 24),A:=wrap i64 (iand u32 (ishr u32 w 20) 15),B:=wrap i64 (iand u32 (ishr u32 w 16) 15),C:=0,Imm:=wrap i32 (wrap i16 (iand u32 w 65535))}:Q0i); .lv (Q7v E2) λ(x2:Bool)=> .br (!x2) (.lf (E5,false)) (.lf (E2,true)); .br (x0==3) T1 (.br (x0==7) T1 (let E4:=({Op:=wrap i64 (ishr u32 w 24),A:=wrap i64 (iand u32 (ishr u32 w 20) 15),B:=wrap i64 (iand u32 (ishr u32 w 16) 15),C:=0,Imm:=wrap i32 (iand u32 w 65535)}:Q0i); .lv (Q7v E4) λ(x4:Bool)=> .br (!x4) (.lf (E5,false)) (.lf (E4,true))))))
def Q22(w:Int):(Q0i×Bool):=(Q74 w).m
def Z9f:Q0d:=mkR 117 [] true [.one (.int .u32)] [] (λargs rows=>Q22 (argI args 0)) (λX=> .tup [.agg (Q0i.cells (X.1)), .bool (X.2)]) (λX=>[])
theorem Qpe:Q07 Tryz.prog Z9f:=Q10 Q0j Q0k (.cons Qfa (.cons Qsf (.nil))) Tryz.func117 Tryz.call117 (λargs rows=>Q74 (argI args 0)) [] [] 2 (λ_ _ _=>by kernel_rfl) (λ_ _=>rfl) (λ_ _=>Tree.free_ok (by kernel_rfl)) (λ_ X=>by kernel_rfl)
def Qw0(access:Int):Tree Bool:=
.br (decide (access≥1)) (.lf (decide (access≤3))) (.lf false)
def Qem(access:Int):Bool:=(Qw0 access).m
def Zbo:Q0d:=mkR 199 [] true [.one (.int .i64)] [] (λargs rows=>Qem (argI args 0)) (λX=> .bool X) (λX=>[])
theorem Qs3:Q07 Tryz.prog Zbo:=Q10 Q0j Q0k (.nil) Tryz.func199 Tryz.call199 (λargs rows=>Qw0 (argI args 0)) [] [] 2 (λ_ _ _=>by kernel_rfl) (λ_ _=>rfl) (λ_ _=>Tree.free_ok (by kernel_rfl)) (λ_ X=>by kernel_rfl)
def Qw4(c:Q04):Tree Bool:=
.lf (iand u32 c.B6.a0 (5:Int)==(4:Int))
def Qkl(c:Q04):Bool:=(Qw4 c).m
def Zd1:Q0d:=mkR 200 [] true [.agg Q04.sig] [] (λargs rows=>Qkl (Q04.of (args.getD 0 .dead).cells)) (λX=> .bool X) (λX=>[])
theorem Z91:Q07 Tryz.prog Zd1:=Q10 Q0j Q0k (.nil) Tryz.func200 Tryz.call200 (λargs rows=>Qw4 (Q04.of (args.getD 0 .dead).cells)) [] [] 2 (λ_ _ _=>by kernel_rfl) (λ_ _=>rfl) (λ_ _=>Tree.free_ok (by kernel_rfl)) (λ_ X=>by kernel_rfl)
def Q97(access:Int):Tree Int:=
.br (access==1) (.lf 4) (.br (access==3) (.lf 6) (.lf 5))
def Q28(access:Int):Int:=(Q97 access).m
def Z37:Q0d:=mkR 201 [] true [.one (.int .i64)] [] (λargs rows=>Q28 (argI args 0)) (λX=> .int .i64 X) (λX=>[])
theorem Qnl:Q07 Tryz.prog Z37:=Q10 Q0j Q0k (.nil) Tryz.func201 Tryz.call201 (λargs rows=>Q97 (argI args 0)) [] [] 2 (λ_ _ _=>by kernel_rfl) (λ_ _=>rfl) (λ_ _=>Tree.free_ok (by kernel_rfl)) (λ_ X=>by kernel_rfl)
def Q9u(m:(List Int))(root:Int)(va:Int)(access:Int):Tree Q1a:=
.lv (Q28 access) λ(x0:Int)=> .lv (Q4e m) λ(x1:Int)=> .lv (Qem access) λ(x2:Bool)=>let E4:=({Addr:=0,F2:=0,F0:=x0}:Q1a); .br (!x2) (.lf (E4)) (.br (decide (va≥4096)) (.lf (E4)) (.br (decide (root≥wrap u32 x1)) (.lf (E4)) (let E6:=wrap u32 (root*128)+wrap u32 (4*wrap u32 (Int.tdiv va 128));let E3:=Int.tdiv (wrap u32 E6) 4; .cn (Nat.beq 1 1&&Nat.blt 0 1&&decide (0≤wrap u32 E3∧wrap u32 E3<(m.length:Int))) (let E5:=m.getD (Int.toNat (wrap u32 E3)) 0; .br (iand u32 E5 (1:Int)==(0:Int)) (.lf (E4)) (let T1:Tree (Q1a):= .br (decide (iand u32 (ishr u32 E5 8) 255≥wrap u32 x1)) (.lf (E4)) (.lf ({Addr:=wrap u32 (wrap u32 (iand u32 (ishr u32 E5 8) (255:Int)*(128:Int))+Int.tmod va 128),F2:=wrap u32 E6,F0:=0}));let T2:Tree (Q1a):= .br (access==1) (.br (iand u32 E5 (4:Int)==(0:Int)) (.lf (E4)) T1) T1; .br (access==3) (.br (iand u32 E5 (2:Int)==(0:Int)) (.lf (E4)) T2) T2)))))
def Q75(m:(List Int))(root:Int)(va:Int)(access:Int):Q1a:=(Q9u m root va access).m
abbrev Qsl(m:(List Int))(root:Int)(va:Int)(access:Int):Prop:=(Q9u m root va access).p
def Zfp:Q0d:=mkP 202 [] true [.one (.ints .u32), .one (.int .u32), .one (.int .u32), .one (.int .i64)] [] (λargs rows=>Qsl (argL .u32 args 0) (argI args 1) (argI args 2) (argI args 3)) (λargs rows=>Q75 (argL .u32 args 0) (argI args 1) (argI args 2) (argI args 3)) (λX=> .agg (Q1a.cells X)) (λX=>[])
theorem Zck:Q07 Tryz.prog Zfp:=Q0p Q0j Q0k (.cons Qnl (.cons Qd (.cons Qs3 (.nil)))) Tryz.func202 Tryz.call202 (λargs rows=>Q9u (argL .u32 args 0) (argI args 1) (argI args 2) (argI args 3)) [] [] 2 (λ_ _ _=>by kernel_rfl) (λ_ _=>rfl) (λ_ _ h=>h) (λ_ X=>by kernel_rfl)
def Qe9(m:(List Int))(entry:Int)(access:Int):Tree (List Int):=
.an (Qdk m entry 4) (.lv (Q2b m entry 4) λ(x0:Bool)=> .br (!x0) (.lf m) (let E3:=Nat.beq 1 1&&Nat.blt 0 1&&decide (0≤wrap u32 (Int.tdiv entry 4)∧wrap u32 (Int.tdiv entry 4)<(m.length:Int)); .cn E3 (.cn E3 (let E4:=Int.toNat (wrap u32 (Int.tdiv entry 4));let E1:=List.set m E4 (ior u32 (m.getD E4 0) 8); .br (access==3) (let E2:=Nat.beq 1 1&&Nat.blt 0 1&&decide (0≤wrap u32 (Int.tdiv entry 4)∧wrap u32 (Int.tdiv entry 4)<(↑(List.length E1):Int)); .cn E2 (.cn E2 (.lf (List.set E1 E4 (ior u32 (List.getD E1 E4 0) 16))))) (.lf E1)))))
def Qnj(m:(List Int))(entry:Int)(access:Int):(List Int):=(Qe9 m entry access).m
abbrev Qr7(m:(List Int))(entry:Int)(access:Int):Prop:=(Qe9 m entry access).p
def Zfh:Q0d:=mkP 203 [true,false,false] true [.one (.row 0), .one (.int .u32), .one (.int .i64)] [.arr 23 1 (.ints .u32)] (λargs rows=>Qr7 (rowL .u32 rows 0) (argI args 1) (argI args 2)) (λargs rows=>Qnj (rowL .u32 rows 0) (argI args 1) (argI args 2)) (λX=> .tup []) (λX=>[⟨false,23,1, .ints .u32 X⟩])
theorem Za4:Q07 Tryz.prog Zfh:=Q0p Q0j Q0k (.cons Qk2 (.nil)) Tryz.func203 Tryz.call203 (λargs rows=>Qe9 (rowL .u32 rows 0) (argI args 1) (argI args 2)) [] [] 2 (λ_ _ _=>by kernel_rfl) (λ_ _=>rfl) (λ_ _ h=>h) (λ_ X=>by kernel_rfl)
def Q8c(c:Q04)(m:(List Int))(va:Int)(size:Int)(access:Int):Tree (Int×Int×(List Int)):=
.lv (Qem access) λ(x0:Bool)=> .br (!x0) (.lf (0,5,m)) (let T1:Tree ((Int×Int×(List Int))):= .cn (decide (wrap u32 size≠0)) (.br (Int.tmod va (wrap u32 size) !=0) (.lf (0,3,m)) (.lv (Qkl c) λ(x1:Bool)=> .br (!x1) (.an (Qdk m va size) (.lv (Q2b m va size) λ(x2:Bool)=> .br (!x2) (.lv (Q28 access) λ(x3:Int)=> .lf (0,x3,m)) (.lf (va,0,m)))) (.an (Qsl m c.B6.a6 va access) (.lv (Q75 m c.B6.a6 va access) λ(x4:Q1a)=> .br (x4.F0 !=0) (.lf (0,x4.F0,m)) (.an (Qr7 m x4.F2 access) (.lv (Qnj m x4.F2 access) λ(x5:List Int)=> .lf (x4.Addr,0,x5))))))); .br (size !=1) (.br (size !=4) (.lf (0,5,m)) T1) T1)
def Q14(c:Q04)(m:(List Int))(va:Int)(size:Int)(access:Int):(Int×Int×(List Int)):=(Q8c c m va size access).m
abbrev Q99(c:Q04)(m:(List Int))(va:Int)(size:Int)(access:Int):Prop:=(Q8c c m va size access).p
def Zbn:Q0d:=mkP 147 [false,true,false,false,false] true [.agg Q04.sig, .one (.row 0), .one (.int .u32), .one (.int .i64), .one (.int .i64)] [.arr 23 1 (.ints .u32)] (λargs rows=>Q99 (Q04.of (args.getD 0 .dead).cells) (rowL .u32 rows 0) (argI args 2) (argI args 3) (argI args 4)) (λargs rows=>Q14 (Q04.of (args.getD 0 .dead).cells) (rowL .u32 rows 0) (argI args 2) (argI args 3) (argI args 4)) (λX=> .tup [.int .u32 (X.1), .int .i64 (X.2.1)]) (λX=>[⟨false,23,1, .ints .u32 (X.2.2)⟩])
theorem Qt0:Q07 Tryz.prog Zbn:=Q0p Q0j Q0k (.cons Qs3 (.cons Z91 (.cons Qk2 (.cons Qnl (.cons Zck (.cons Za4 (.nil))))))) Tryz.func147 Tryz.call147 (λargs rows=>Q8c (Q04.of (args.getD 0 .dead).cells) (rowL .u32 rows 0) (argI args 2) (argI args 3) (argI args 4)) [] [] 2 (λ_ _ _=>by kernel_rfl) (λ_ _=>rfl) (λ_ _ h=>h) (λ_ X=>by kernel_rfl)
def Ql1(op:Int):Tree Bool:=
.br (decide (op≥57)) (.lf (decide (op≤64))) (.lf false)
def Q3t(op:Int):Bool:=(Ql1 op).m
def Qtz:Q0d:=mkR 148 [] true [.one (.int .i64)] [] (λargs rows=>Q3t (argI args 0)) (λX=> .bool X) (λX=>[])
theorem Qt2:Q07 Tryz.prog Qtz:=Q10 Q0j Q0k (.nil) Tryz.func148 Tryz.call148 (λargs rows=>Ql1 (argI args 0)) [] [] 2 (λ_ _ _=>by kernel_rfl) (λ_ _=>rfl) (λ_ _=>Tree.free_ok (by kernel_rfl)) (λ_ X=>by kernel_rfl)
def Qd2(c:Q04):Tree Q04:=
.lv (Qc0 (iand u32 c.B6.a0 (8:Int) !=(0:Int))) λ(x0:Int)=> .lv (Qc0 (iand u32 c.B6.a0 (16:Int) !=(0:Int))) λ(x1:Int)=> .lf ({X:=c.X,Pc:=c.B6.a2,B6:={a0:=ior u32 (ior u32 (Qgm u32 c.B6.a0 3) (wrap u32 (1*x0))) (wrap u32 (2*x1)),a1:=c.B6.a1,a2:=c.B6.a2,a3:=c.B6.a3,a4:=c.B6.a4,a5:=c.B6.a5,a6:=c.B6.a6,a7:=c.B6.a7}})
def Qiz(c:Q04):Q04:=(Qd2 c).m
def Z7n:Q0d:=mkR 204 [] true [.agg Q04.sig] [] (λargs rows=>Qiz (Q04.of (args.getD 0 .dead).cells)) (λX=> .agg (Q04.cells X)) (λX=>[])
theorem Z22:Q07 Tryz.prog Z7n:=Q10 Q0j Q0k (.cons Qqq (.nil)) Tryz.func204 Tryz.call204 (λargs rows=>Qd2 (Q04.of (args.getD 0 .dead).cells)) [] [] 2 (λ_ _ _=>by kernel_rfl) (λ_ _=>rfl) (λ_ _=>Tree.free_ok (by kernel_rfl)) (λ_ X=>by kernel_rfl)
def Qed(c:Q04)(r:Int)(v:Int):Tree Q04:=
.br (decide (r>0)) (.br (decide (r<16)) (.cn (Nat.blt 0 1&&decide (0≤r∧r<(↑16:Int))) (.lf ({X:=A16.of 0 (List.set (A16.l c.X) r.toNat v),Pc:=c.Pc,B6:=c.B6}))) (.lf c)) (.lf c)
def Q1x(c:Q04)(r:Int)(v:Int):Q04:=(Qed c r v).m
abbrev Q3l(c:Q04)(r:Int)(v:Int):Prop:=(Qed c r v).p
def Zlb:Q0d:=mkP 105 [] true [.agg Q04.sig, .one (.int .i64), .one (.int .u32)] [] (λargs rows=>Q3l (Q04.of (args.getD 0 .dead).cells) (argI args 1) (argI args 2)) (λargs rows=>Q1x (Q04.of (args.getD 0 .dead).cells) (argI args 1) (argI args 2)) (λX=> .agg (Q04.cells X)) (λX=>[])
theorem Qi:Q07 Tryz.prog Zlb:=Q0p Q0j Q0k (.nil) Tryz.func105 Tryz.call105 (λargs rows=>Qed (Q04.of (args.getD 0 .dead).cells) (argI args 1) (argI args 2)) [] [] 2 (λ_ _ _=>by kernel_rfl) (λ_ _=>rfl) (λ_ _ h=>h) (λ_ X=>by kernel_rfl)
def Qci(c:Q04)(csr:Int)(v:Int):Tree Q04:=
let E4:=Nat.blt 0 1&&decide (0≤csr∧csr<(↑8:Int));let T2:Tree (Q04):= .cn E4 (.lf ({X:=c.X,Pc:=c.Pc,B6:=A8.of 0 (List.set (A8.l c.B6) csr.toNat (iand u32 v 31))})); .br (csr==0) T2 (.br (csr==7) T2 (.br (csr==6) (.cn E4 (.lf ({X:=c.X,Pc:=c.Pc,B6:=A8.of 0 (List.set (A8.l c.B6) csr.toNat (iand u32 v 255))}))) (let T3:Tree (Q04):= .cn E4 (.lf ({X:=c.X,Pc:=c.Pc,B6:=A8.of 0 (List.set (A8.l c.B6) csr.toNat (Qgm u32 v 3))})); .br (csr==1) T3 (.br (csr==2) T3 (let T1:Tree (Q04):= .cn E4 (.lf ({X:=c.X,Pc:=c.Pc,B6:=A8.of 0 (List.set (A8.l c.B6) csr.toNat v)})); .br (csr==3) T1 (.br (csr==4) T1 (.br (csr==5) T1 (.lf c))))))))
def Qh4(c:Q04)(csr:Int)(v:Int):Q04:=(Qci c csr v).m
abbrev Qpx(c:Q04)(csr:Int)(v:Int):Prop:=(Qci c csr v).p
def Zbm:Q0d:=mkP 205 [] true [.agg Q04.sig, .one (.int .i64), .one (.int .u32)] [] (λargs rows=>Qpx (Q04.of (args.getD 0 .dead).cells) (argI args 1) (argI args 2)) (λargs rows=>Qh4 (Q04.of (args.getD 0 .dead).cells) (argI args 1) (argI args 2)) (λX=> .agg (Q04.cells X)) (λX=>[])
theorem Z7r:Q07 Tryz.prog Zbm:=Q0p Q0j Q0k (.nil) Tryz.func205 Tryz.call205 (λargs rows=>Qci (Q04.of (args.getD 0 .dead).cells) (argI args 1) (argI args 2)) [] [] 2 (λ_ _ _=>by kernel_rfl) (λ_ _=>rfl) (λ_ _ h=>h) (λ_ X=>by kernel_rfl)
def Q8o(c:Q04)(i:Q0i):Tree (Q04×Q13):=
.br (i.Op==56) (.lv (Q3c c 7 0) λ(x0:Q04)=> .lf (x0,{B5:=0,D1:=0,D9:=0,Value:=0})) (.br (i.Op==57) (.lv (Qiz c) λ(x1:Q04)=> .lf (x1,{B5:=0,D1:=0,D9:=0,Value:=0})) (.br (i.Op==58) (.cn (Nat.blt 0 1&&decide (0≤i.Imm∧i.Imm<(↑8:Int))) (let E3:=List.getD (A8.l c.B6) i.Imm.toNat 0; .an (Q3l c i.A E3) (.lv (Q1x c i.A E3) λ(x2:Q04)=> .lf ({X:=x2.X,Pc:=wrap u32 (x2.Pc+4),B6:=x2.B6},{B5:=0,D1:=0,D9:=0,Value:=0})))) (let E2:=Nat.blt 0 1&&decide (0≤i.A∧i.A<(↑16:Int)); .br (i.Op==59) (.cn E2 (let E4:=List.getD (A16.l c.X) i.A.toNat 0; .an (Qpx c (wrap i64 i.Imm) E4) (.lv (Qh4 c (wrap i64 i.Imm) E4) λ(x3:Q04)=> .lf ({X:=x3.X,Pc:=wrap u32 (x3.Pc+4),B6:=x3.B6},{B5:=0,D1:=0,D9:=0,Value:=0})))) (let E1:=({X:=c.X,Pc:=wrap u32 (c.Pc+4),B6:=c.B6}:Q04); .br (i.Op==60) (.lf (E1,{B5:=1,D1:=wrap i64 i.Imm,D9:=i.A,Value:=0})) (.br (i.Op==61) (.cn E2 (.lf (E1,{B5:=2,D1:=wrap i64 i.Imm,D9:=0,Value:=List.getD (A16.l c.X) i.A.toNat 0}))) (.br (i.Op==62) (.lf (E1,{B5:=3,D1:=0,D9:=0,Value:=0})) (.br (i.Op==63) (.lf (E1,{B5:=5,D1:=0,D9:=0,Value:=0})) (.br (i.Op==64) (.lf (E1,{B5:=4,D1:=0,D9:=0,Value:=0})) (.lf (E1,{B5:=0,D1:=0,D9:=0,Value:=0}))))))))))
def Qit(c:Q04)(i:Q0i):(Q04×Q13):=(Q8o c i).m
abbrev Qmw(c:Q04)(i:Q0i):Prop:=(Q8o c i).p
def Z9c:Q0d:=mkP 149 [] true [.agg Q04.sig, .agg Q0i.sig] [] (λargs rows=>Qmw (Q04.of (args.getD 0 .dead).cells) (Q0i.of (args.getD 1 .dead).cells)) (λargs rows=>Qit (Q04.of (args.getD 0 .dead).cells) (Q0i.of (args.getD 1 .dead).cells)) (λX=> .tup [.agg (Q04.cells (X.1)), .agg (Q13.cells (X.2))]) (λX=>[])
theorem Z3g:Q07 Tryz.prog Z9c:=Q0p Q0j Q0k (.cons Qjc (.cons Z22 (.cons Qi (.cons Z7r (.nil))))) Tryz.func149 Tryz.call149 (λargs rows=>Q8o (Q04.of (args.getD 0 .dead).cells) (Q0i.of (args.getD 1 .dead).cells)) [] [] 2 (λ_ _ _=>by kernel_rfl) (λ_ _=>rfl) (λ_ _ h=>h) (λ_ X=>by kernel_rfl)
def Qwn(op:Int)(a:Int)(b:Int):Tree Bool:=
.br (op==40) (.lf (a==b)) (.br (op==41) (.lf (a !=b)) (.br (op==42) (.lf (decide (wrap i32 a<wrap i32 b))) (.br (op==43) (.lf (decide (wrap i32 a≥wrap i32 b))) (.br (op==44) (.lf (decide (a<b))) (.lf (decide (a≥b)))))))
def Q2l(op:Int)(a:Int)(b:Int):Bool:=(Qwn op a b).m
def Za3:Q0d:=mkR 206 [] true [.one (.int .i64), .one (.int .u32), .one (.int .u32)] [] (λargs rows=>Q2l (argI args 0) (argI args 1) (argI args 2)) (λX=> .bool X) (λX=>[])
theorem Z6s:Q07 Tryz.prog Za3:=Q10 Q0j Q0k (.nil) Tryz.func206 Tryz.call206 (λargs rows=>Qwn (argI args 0) (argI args 1) (argI args 2)) [] [] 2 (λ_ _ _=>by kernel_rfl) (λ_ _=>rfl) (λ_ _=>Tree.free_ok (by kernel_rfl)) (λ_ X=>by kernel_rfl)
def Qik(c:Q04)(i:Q0i):Tree Q04:=
.br (i.Op==48) (.an (Q3l c i.A (wrap u32 (c.Pc+4))) (.lv (Q1x c i.A (wrap u32 (c.Pc+4))) λ(x0:Q04)=> .lf ({X:=x0.X,Pc:=wrap u32 (c.Pc+wrap u32 (4*wrap u32 i.Imm)),B6:=x0.B6}))) (let E1:=Nat.blt 0 1&&decide (0≤i.B∧i.B<(↑16:Int)); .br (i.Op==49) (.cn E1 (.an (Q3l c i.A (wrap u32 (c.Pc+4))) (.lv (Q1x c i.A (wrap u32 (c.Pc+4))) λ(x1:Q04)=> .lf ({X:=x1.X,Pc:=wrap u32 (List.getD (A16.l c.X) i.B.toNat 0+wrap u32 i.Imm),B6:=x1.B6})))) (.cn (Nat.blt 0 1&&decide (0≤i.A∧i.A<(↑16:Int))) (.cn E1 (.lv (Q2l i.Op (List.getD (A16.l c.X) i.A.toNat 0) (List.getD (A16.l c.X) i.B.toNat 0)) λ(x2:Bool)=> .br x2 (.lf ({X:=c.X,Pc:=wrap u32 (c.Pc+wrap u32 (4*wrap u32 i.Imm)),B6:=c.B6})) (.lf ({X:=c.X,Pc:=wrap u32 (c.Pc+4),B6:=c.B6}))))))
def Z0p(c:Q04)(i:Q0i):Q04:=(Qik c i).m
abbrev Qri(c:Q04)(i:Q0i):Prop:=(Qik c i).p
def Zfj:Q0d:=mkP 150 [] true [.agg Q04.sig, .agg Q0i.sig] [] (λargs rows=>Qri (Q04.of (args.getD 0 .dead).cells) (Q0i.of (args.getD 1 .dead).cells)) (λargs rows=>Z0p (Q04.of (args.getD 0 .dead).cells) (Q0i.of (args.getD 1 .dead).cells)) (λX=> .agg (Q04.cells X)) (λX=>[])
theorem Zbh:Q07 Tryz.prog Zfj:=Q0p Q0j Q0k (.cons Qi (.cons Z6s (.nil))) Tryz.func150 Tryz.call150 (λargs rows=>Qik (Q04.of (args.getD 0 .dead).cells) (Q0i.of (args.getD 1 .dead).cells)) [] [] 2 (λ_ _ _=>by kernel_rfl) (λ_ _=>rfl) (λ_ _ h=>h) (λ_ X=>by kernel_rfl)
def Q80(x:Int)(n:Int):Tree Int:=
.br (decide (n<1)) (.lf 0) (.br (decide (n≥32)) (.lf x) (.cn (decide (0≤wrap u64 n)) (.cn (decide (0≤wrap u64 (wrap i64 (n-1)))) (let E1:=iand u32 x (wrap u32 (ishl u32 1 (wrap u64 n)-1)); .br (ishr u32 E1 (wrap u64 (wrap i64 (n-1)))==1) (.cn (decide (0≤wrap u64 n)) (.lf (ior u32 E1 (ishl u32 4294967295 (wrap u64 n))))) (.lf E1)))))
def Q3u(x:Int)(n:Int):Int:=(Q80 x n).m
abbrev Qc5(x:Int)(n:Int):Prop:=(Q80 x n).p
def Qua:Q0d:=mkP 208 [] true [.one (.int .u32), .one (.int .i64)] [] (λargs rows=>Qc5 (argI args 0) (argI args 1)) (λargs rows=>Q3u (argI args 0) (argI args 1)) (λX=> .int .u32 X) (λX=>[])
theorem Qre:Q07 Tryz.prog Qua:=Q0p Q0j Q0k (.nil) Tryz.func208 Tryz.call208 (λargs rows=>Q80 (argI args 0) (argI args 1)) [] [] 2 (λ_ _ _=>by kernel_rfl) (λ_ _=>rfl) (λ_ _ h=>h) (λ_ X=>by kernel_rfl)
def Qa5(c:Q04)(m:(List Int))(i:Q0i):Tree (Q04×(List Int)):=
.cn (Nat.blt 0 1&&decide (0≤i.B∧i.B<(↑16:Int))) (let E4:=wrap u32 (List.getD (A16.l c.X) i.B.toNat 0+wrap u32 i.Imm);let E5:=List.getD (A16.l c.X) i.A.toNat 0;let E6:=Nat.blt 0 1&&decide (0≤i.A∧i.A<(↑16:Int));let E7:=({X:=c.X,Pc:=wrap u32 (c.Pc+4),B6:=c.B6}:Q04);let T1:Tree ((Q04×(List Int))):=let T3:Tree ((Q04×(List Int))):= .an (Q99 c m E4 4 3) (.lv (Q14 c m E4 4 3) λ(x0:Int×Int×List Int)=> .br (x0.2.1 !=0) (.lv (Q3c c x0.2.1 E4) λ(x1:Q04)=> .lf (x1,x0.2.2)) (.cn E6 (.an (Qey x0.2.2 x0.1 4 E5) (.lv (Qb2 x0.2.2 x0.1 4 E5) λ(x2:List Int)=> .lf (E7,x2))))); .br (i.Op==35) T3 (.br (i.Op==36) T3 (.an (Q99 c m E4 4 2) (.lv (Q14 c m E4 4 2) λ(x6:Int×Int×List Int)=> .br (x6.2.1 !=0) (.lv (Q3c c x6.2.1 E4) λ(x7:Q04)=> .lf (x7,x6.2.2)) (.an (Qdn x6.2.2 x6.1 4) (.lv (Q1d x6.2.2 x6.1 4) λ(x8:Int×Bool)=> .br (i.Op==33) (.an (Qc5 x8.1 8) (.lv (Q3u x8.1 8) λ(x9:Int)=> .an (Q3l c i.A x9) (.lv (Q1x c i.A x9) λ(x10:Q04)=> .lf ({X:=x10.X,Pc:=wrap u32 (x10.Pc+4),B6:=x10.B6},x6.2.2)))) (.an (Q3l c i.A x8.1) (.lv (Q1x c i.A x8.1) λ(x11:Q04)=> .lf ({X:=x11.X,Pc:=wrap u32 (x11.Pc+4),B6:=x11.B6},x6.2.2)))))))); .br (i.Op==32) T1 (.br (i.Op==35) T1 (let T2:Tree ((Q04×(List Int))):= .an (Q99 c m E4 1 3) (.lv (Q14 c m E4 1 3) λ(x24:Int×Int×List Int)=> .br (x24.2.1 !=0) (.lv (Q3c c x24.2.1 E4) λ(x25:Q04)=> .lf (x25,x24.2.2)) (.cn E6 (.an (Qey x24.2.2 x24.1 1 E5) (.lv (Qb2 x24.2.2 x24.1 1 E5) λ(x26:List Int)=> .lf (E7,x26))))); .br (i.Op==35) T2 (.br (i.Op==36) T2 (.an (Q99 c m E4 1 2) (.lv (Q14 c m E4 1 2) λ(x30:Int×Int×List Int)=> .br (x30.2.1 !=0) (.lv (Q3c c x30.2.1 E4) λ(x31:Q04)=> .lf (x31,x30.2.2)) (.an (Qdn x30.2.2 x30.1 1) (.lv (Q1d x30.2.2 x30.1 1) λ(x32:Int×Bool)=> .br (i.Op==33) (.an (Qc5 x32.1 8) (.lv (Q3u x32.1 8) λ(x33:Int)=> .an (Q3l c i.A x33) (.lv (Q1x c i.A x33) λ(x34:Q04)=> .lf ({X:=x34.X,Pc:=wrap u32 (x34.Pc+4),B6:=x34.B6},x30.2.2)))) (.an (Q3l c i.A x32.1) (.lv (Q1x c i.A x32.1) λ(x35:Q04)=> .lf ({X:=x35.X,Pc:=wrap u32 (x35.Pc+4),B6:=x35.B6},x30.2.2)))))))))))
def Q5i(c:Q04)(m:(List Int))(i:Q0i):(Q04×(List Int)):=(Qa5 c m i).m
abbrev Qk9(c:Q04)(m:(List Int))(i:Q0i):Prop:=(Qa5 c m i).p
def Z16:Q0d:=mkP 151 [false,true,false] true [.agg Q04.sig, .one (.row 0), .agg Q0i.sig] [.arr 23 1 (.ints .u32)] (λargs rows=>Qk9 (Q04.of (args.getD 0 .dead).cells) (rowL .u32 rows 0) (Q0i.of (args.getD 2 .dead).cells)) (λargs rows=>Q5i (Q04.of (args.getD 0 .dead).cells) (rowL .u32 rows 0) (Q0i.of (args.getD 2 .dead).cells)) (λX=> .agg (Q04.cells (X.1))) (λX=>[⟨false,23,1, .ints .u32 (X.2)⟩])
theorem Qwv:Q07 Tryz.prog Z16:=Q0p Q0j Q0k (.cons Qt0 (.cons Qjc (.cons Z0n (.cons Qo (.cons Qre (.cons Qi (.nil))))))) Tryz.func151 Tryz.call151 (λargs rows=>Qa5 (Q04.of (args.getD 0 .dead).cells) (rowL .u32 rows 0) (Q0i.of (args.getD 2 .dead).cells)) [] [] 2 (λ_ _ _=>by kernel_rfl) (λ_ _=>rfl) (λ_ _ h=>h) (λ_ X=>by kernel_rfl)
def Qwf(op:Int):Tree Int:=
.br (op==16) (.lf 1) (.br (op==17) (.lf 3) (.br (op==18) (.lf 4) (.br (op==19) (.lf 5) (.br (op==20) (.lf 6) (.br (op==21) (.lf 7) (.br (op==22) (.lf 8) (.br (op==23) (.lf 12) (.lf op))))))))
def Z5e(op:Int):Int:=(Qwf op).m
def Zdr:Q0d:=mkR 209 [] true [.one (.int .i64)] [] (λargs rows=>Z5e (argI args 0)) (λX=> .int .i64 X) (λX=>[])
theorem Z6t:Q07 Tryz.prog Zdr:=Q10 Q0j Q0k (.nil) Tryz.func209 Tryz.call209 (λargs rows=>Qwf (argI args 0)) [] [] 2 (λ_ _ _=>by kernel_rfl) (λ_ _=>rfl) (λ_ _=>Tree.free_ok (by kernel_rfl)) (λ_ X=>by kernel_rfl)
def Qaq(a:Int)(b:Int):Tree (Int×Int):=
.br (b==0) (.lf (4294967295,a)) (.cn (decide (wrap i64 (wrap i32 b)≠0)) (.cn (decide (wrap i64 (wrap i32 b)≠0)) (.lf (wrap u32 (wrap i64 (Int.tdiv (wrap i64 (wrap i32 a)) (wrap i64 (wrap i32 b)))),wrap u32 (Int.tmod (wrap i64 (wrap i32 a)) (wrap i64 (wrap i32 b)))))))
def Qcc(a:Int)(b:Int):(Int×Int):=(Qaq a b).m
abbrev Qhk(a:Int)(b:Int):Prop:=(Qaq a b).p
def Z7q:Q0d:=mkP 210 [] true [.one (.int .u32), .one (.int .u32)] [] (λargs rows=>Qhk (argI args 0) (argI args 1)) (λargs rows=>Qcc (argI args 0) (argI args 1)) (λX=> .tup [.int .u32 (X.1), .int .u32 (X.2)]) (λX=>[])
theorem Z1y:Q07 Tryz.prog Z7q:=Q0p Q0j Q0k (.nil) Tryz.func210 Tryz.call210 (λargs rows=>Qaq (argI args 0) (argI args 1)) [] [] 2 (λ_ _ _=>by kernel_rfl) (λ_ _=>rfl) (λ_ _ h=>h) (λ_ X=>by kernel_rfl)
def Ql3(op:Int)(a:Int)(b:Int):Tree (Int×Bool):=
.lv (Z5e op) λ(x0:Int)=> .br (x0==1) (.lf (wrap u32 (a+b),true)) (.br (x0==2) (.lf (wrap u32 (a-b),true)) (.br (x0==3) (.lf (iand u32 a b,true)) (.br (x0==4) (.lf (ior u32 a b,true)) (.br (x0==5) (.lf (ixor u32 a b,true)) (.br (x0==6) (.lf (ishl u32 a (iand u32 b 31),true)) (.br (x0==7) (.lf (ishr u32 a (iand u32 b 31),true)) (.br (x0==8) (.lf (wrap u32 (ishr i32 (wrap i32 a) (iand u32 b 31)),true)) (.br (x0==9) (.lf (wrap u32 (a*b),true)) (.br (x0==10) (.an (Qhk a b) (.lv (Qcc a b) λ(x1:Int×Int)=> .lf (x1.1,true))) (.br (x0==11) (.an (Qhk a b) (.lv (Qcc a b) λ(x2:Int×Int)=> .lf (x2.2,true))) (.br (x0==12) (.lv (Qc0 (decide (wrap i32 a<wrap i32 b))) λ(x3:Int)=> .lf (x3,true)) (.br (x0==13) (.lv (Qc0 (decide (a<b))) λ(x4:Int)=> .lf (x4,true)) (.lf (0,false))))))))))))))
def Qcz(op:Int)(a:Int)(b:Int):(Int×Bool):=(Ql3 op a b).m
abbrev Qnn(op:Int)(a:Int)(b:Int):Prop:=(Ql3 op a b).p
def Zk9:Q0d:=mkP 152 [] true [.one (.int .i64), .one (.int .u32), .one (.int .u32)] [] (λargs rows=>Qnn (argI args 0) (argI args 1) (argI args 2)) (λargs rows=>Qcz (argI args 0) (argI args 1) (argI args 2)) (λX=> .tup [.int .u32 (X.1), .bool (X.2)]) (λX=>[])
theorem Zek:Q07 Tryz.prog Zk9:=Q0p Q0j Q0k (.cons Z6t (.cons Z1y (.cons Qqq (.nil)))) Tryz.func152 Tryz.call152 (λargs rows=>Ql3 (argI args 0) (argI args 1) (argI args 2)) [] [] 2 (λ_ _ _=>by kernel_rfl) (λ_ _=>rfl) (λ_ _ h=>h) (λ_ X=>by kernel_rfl)
def Qng(c:Q04)(m:(List Int)):Tree (Q04×Q13×(List Int)):=
.an (Q99 c m c.Pc 4 1) (.lv (Q14 c m c.Pc 4 1) λ(x0:Int×Int×List Int)=> .br (x0.2.1 !=0) (.lv (Q3c c x0.2.1 c.Pc) λ(x1:Q04)=> .lf (x1,{B5:=0,D1:=0,D9:=0,Value:=0},x0.2.2)) (.an (Qdn x0.2.2 x0.1 4) (.lv (Q1d x0.2.2 x0.1 4) λ(x2:Int×Bool)=> .lv (Q22 x2.1) λ(x3:Q0i×Bool)=> .br (!x3.2) (.lv (Q3c c 1 x2.1) λ(x4:Q04)=> .lf (x4,{B5:=0,D1:=0,D9:=0,Value:=0},x0.2.2)) (.lv (Q3t x3.1.Op) λ(x5:Bool)=>let T1:Tree ((Q04×Q13×(List Int))):= .br (decide (x3.1.Op≥56)) (.an (Qmw c x3.1) (.lv (Qit c x3.1) λ(x7:Q04×Q13)=> .lf (x7.1,x7.2,x0.2.2))) (.br (decide (x3.1.Op≥40)) (.an (Qri c x3.1) (.lv (Z0p c x3.1) λ(x8:Q04)=> .lf (x8,{B5:=0,D1:=0,D9:=0,Value:=0},x0.2.2))) (.br (decide (x3.1.Op≥32)) (.an (Qk9 c x0.2.2 x3.1) (.lv (Q5i c x0.2.2 x3.1) λ(x9:Q04×List Int)=> .lf (x9.1,{B5:=0,D1:=0,D9:=0,Value:=0},x9.2))) (.br (x3.1.Op==24) (.an (Q3l c x3.1.A (ishl u32 (wrap u32 x3.1.Imm) 16)) (.lv (Q1x c x3.1.A (ishl u32 (wrap u32 x3.1.Imm) 16)) λ(x10:Q04)=> .lf ({X:=x10.X,Pc:=wrap u32 (x10.Pc+4),B6:=x10.B6},{B5:=0,D1:=0,D9:=0,Value:=0},x0.2.2))) (let E2:=List.getD (A16.l c.X) x3.1.B.toNat 0;let E3:=Nat.blt 0 1&&decide (0≤x3.1.B∧x3.1.B<(↑16:Int)); .br (decide (x3.1.Op≤13)) (.cn (Nat.blt 0 1&&decide (0≤x3.1.C∧x3.1.C<(↑16:Int))) (.cn E3 (let E4:=List.getD (A16.l c.X) x3.1.C.toNat 0; .an (Qnn x3.1.Op E2 E4) (.lv (Qcz x3.1.Op E2 E4) λ(x11:Int×Bool)=> .an (Q3l c x3.1.A x11.1) (.lv (Q1x c x3.1.A x11.1) λ(x12:Q04)=> .lf ({X:=x12.X,Pc:=wrap u32 (x12.Pc+4),B6:=x12.B6},{B5:=0,D1:=0,D9:=0,Value:=0},x0.2.2)))))) (.cn E3 (.an (Qnn x3.1.Op E2 (wrap u32 x3.1.Imm)) (.lv (Qcz x3.1.Op E2 (wrap u32 x3.1.Imm)) λ(x13:Int×Bool)=> .an (Q3l c x3.1.A x13.1) (.lv (Q1x c x3.1.A x13.1) λ(x14:Q04)=> .lf ({X:=x14.X,Pc:=wrap u32 (x14.Pc+4),B6:=x14.B6},{B5:=0,D1:=0,D9:=0,Value:=0},x0.2.2))))))))); .br x5 (.br (iand u32 c.B6.a0 (1:Int)==(0:Int)) (.lv (Q3c c 2 x2.1) λ(x6:Q04)=> .lf (x6,{B5:=0,D1:=0,D9:=0,Value:=0},x0.2.2)) T1) T1))))
def Q7u(c:Q04)(m:(List Int)):(Q04×Q13×(List Int)):=(Qng c m).m
abbrev Qqg(c:Q04)(m:(List Int)):Prop:=(Qng c m).p
def ref1_Do_m:Q0d:=mkP 103 [false,true] true [.agg Q04.sig, .one (.row 0)] [.arr 23 1 (.ints .u32)] (λargs rows=>Qqg (Q04.of (args.getD 0 .dead).cells) (rowL .u32 rows 0)) (λargs rows=>Q7u (Q04.of (args.getD 0 .dead).cells) (rowL .u32 rows 0)) (λX=> .tup [.agg (Q04.cells (X.1)), .agg (Q13.cells (X.2.1))]) (λX=>[⟨false,23,1, .ints .u32 (X.2.2)⟩])
theorem Zke:Q07 Tryz.prog ref1_Do_m:=Q0p Q0j Q0k (.cons Qt0 (.cons Qjc (.cons Qo (.cons Qpe (.cons Qt2 (.cons Z3g (.cons Zbh (.cons Qwv (.cons Qi (.cons Zek (.nil))))))))))) Tryz.func103 Tryz.call103 (λargs rows=>Qng (Q04.of (args.getD 0 .dead).cells) (rowL .u32 rows 0)) [] [] 2 (λ_ _ _=>by kernel_rfl) (λ_ _=>rfl) (λ_ _ h=>h) (λ_ X=>by kernel_rfl)
end
end Go.Proofs.YtpcbkbalabgnlaaGreat

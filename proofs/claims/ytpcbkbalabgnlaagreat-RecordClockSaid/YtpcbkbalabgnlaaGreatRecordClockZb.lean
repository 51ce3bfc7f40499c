/-
  Functions of the program: models, and that its calls come to them (by a program: gen3.py).
-/
import Derived.Test.YtpcbkbalabgnlaaGreatRecordClockBase
import Derived.Test.YtpcbkbalabgnlaaGreatRecordClockZa
import Derived.Test.YtpcbkbalabgnlaaGreatRecordClockYe
set_option linter.unusedVariables false
set_option linter.unusedSimpArgs false
namespace Go.Proofs.YtpcbkbalabgnlaaGreat
open Go Go.GD Go.IntKind
set_option maxRecDepth 100000
noncomputable section
def Z3w(b:Bool):Tree Int:=
.br b (.lf 1) (.lf 0)
def Qbh(b:Bool):Int:=(Z3w b).m
def Zjn:Q0d:=mkR 198 [] true [.one (.bool)] [] (λargs rows=>Qbh (argB args 0)) (λX=> .int .u32 X) (λX=>[])
theorem Qp0:Q05 Tryz.prog Zjn:=Q0y Q0j Q0i (.nil) Tryz.func198 Tryz.call198 (λargs rows=>Z3w (argB args 0)) [] [] 2 (λ_ _ _=>by kernel_rfl) (λ_ _=>rfl) (λ_ _=>Tree.free_ok (by kernel_rfl)) (λ_ X=>by kernel_rfl)
def Qhp(c:Q03)(cause:Int)(bad:Int):Tree Q03:=
.lv (Qbh (iand u32 c.B6.a0 (1:Int) !=(0:Int))) λ(x0:Int)=> .lv (Qbh (iand u32 c.B6.a0 (2:Int) !=(0:Int))) λ(x1:Int)=> .lf ({X:=c.X,Pc:=c.B6.a1,B6:={a0:=ior u32 (Qft u32 (ior u32 (ior u32 (Qft u32 c.B6.a0 24) (wrap u32 (8*x0))) (wrap u32 (16*x1))) 2) 1,a1:=c.B6.a1,a2:=c.Pc,a3:=wrap u32 cause,a4:=bad,a5:=c.B6.a5,a6:=c.B6.a6,a7:=c.B6.a7}})
def Q3(c:Q03)(cause:Int)(bad:Int):Q03:=(Qhp c cause bad).m
def Zcg:Q0d:=mkR 146 [] true [.agg Q03.sig, .one (.int .i64), .one (.int .u32)] [] (λargs rows=>Q3 (Q03.of (args.getD 0 .dead).cells) (argI args 1) (argI args 2)) (λX=> .agg (Q03.cells X)) (λX=>[])
theorem Qil:Q05 Tryz.prog Zcg:=Q0y Q0j Q0i (.cons Qp0 (.nil)) Tryz.func146 Tryz.call146 (λargs rows=>Qhp (Q03.of (args.getD 0 .dead).cells) (argI args 1) (argI args 2)) [] [] 2 (λ_ _ _=>by kernel_rfl) (λ_ _=>rfl) (λ_ _=>Tree.free_ok (by kernel_rfl)) (λ_ X=>by kernel_rfl)
def Q8h(m:(List Int))(addr:Int)(size:Int):Tree Bool:=
let T1:Tree (Bool):= .cn (decide (wrap u32 size≠0)) (.br (Int.tmod addr (wrap u32 size)==0) (.lv (Q44 m) λ(x0:Int)=> .lf (decide (addr<wrap u32 (wrap i64 (128*x0))))) (.lf false)); .br (size !=1) (.br (size !=4) (.lf false) T1) T1
def Q23(m:(List Int))(addr:Int)(size:Int):Bool:=(Q8h m addr size).m
abbrev Qd1(m:(List Int))(addr:Int)(size:Int):Prop:=(Q8h m addr size).p
def Z50:Q0d:=mkP 170 [] true [.one (.ints .u32), .one (.int .u32), .one (.int .i64)] [] (λargs rows=>Qd1 (argL .u32 args 0) (argI args 1) (argI args 2)) (λargs rows=>Q23 (argL .u32 args 0) (argI args 1) (argI args 2)) (λX=> .bool X) (λX=>[])
theorem Qj6:Q05 Tryz.prog Z50:=Q0o Q0j Q0i (.cons Qcn (.nil)) Tryz.func170 Tryz.call170 (λargs rows=>Q8h (argL .u32 args 0) (argI args 1) (argI args 2)) [] [] 2 (λ_ _ _=>by kernel_rfl) (λ_ _=>rfl) (λ_ _ h=>h) (λ_ X=>by kernel_rfl)
def Q41(m:(List Int))(addr:Int)(size:Int):Tree (Int×Bool):=
.an (Qd1 m addr size) (.lv (Q23 m addr size) λ(x0:Bool)=> .br (!x0) (.lf (0,false)) (.cn (Nat.beq 1 1&&Nat.blt 0 1&&decide (0≤wrap u32 (Int.tdiv addr 4)∧wrap u32 (Int.tdiv addr 4)<(m.length:Int))) (.br (size==1) (.cn (decide (0≤wrap u32 (8*Int.tmod addr 4))) (.lf (iand u32 (ishr u32 (m.getD (Int.toNat (wrap u32 (Int.tdiv addr 4))) 0) (wrap u32 (8*Int.tmod addr 4))) 255,true))) (.lf (m.getD (Int.toNat (wrap u32 (Int.tdiv addr 4))) 0,true)))))
def Q1b(m:(List Int))(addr:Int)(size:Int):(Int×Bool):=(Q41 m addr size).m
abbrev Qd(m:(List Int))(addr:Int)(size:Int):Prop:=(Q41 m addr size).p
def Zcj:Q0d:=mkP 116 [] true [.one (.ints .u32), .one (.int .u32), .one (.int .i64)] [] (λargs rows=>Qd (argL .u32 args 0) (argI args 1) (argI args 2)) (λargs rows=>Q1b (argL .u32 args 0) (argI args 1) (argI args 2)) (λX=> .tup [.int .u32 (X.1), .bool (X.2)]) (λX=>[])
theorem Qml:Q05 Tryz.prog Zcj:=Q0o Q0j Q0i (.cons Qj6 (.nil)) Tryz.func116 Tryz.call116 (λargs rows=>Q41 (argL .u32 args 0) (argI args 1) (argI args 2)) [] [] 2 (λ_ _ _=>by kernel_rfl) (λ_ _=>rfl) (λ_ _ h=>h) (λ_ X=>by kernel_rfl)
def Q6u(w:Int):Tree (Q0g×Bool):=
.lv (Q2j (wrap i64 (ishr u32 w 24))) λ(x0:Int)=>let E5:=({Op:=0,A:=0,B:=0,C:=0,Imm:=0}:Q0g); .br (x0==0) (.lf (E5,false)) (.br (x0==2) (let E3:=({Op:=wrap i64 (ishr u32 w 24),A:=wrap i64 (iand u32 (ishr u32 w 20) 15),B:=wrap i64 (iand u32 (ishr u32 w 16) 15),C:=wrap i64 (iand u32 w 65535),Imm:=0}:Q0g); .lv (Q7e E3) λ(x1:Bool)=> .br (!x1) (.lf (E5,false)) (.lf (E3,true))) (let T1:Tree ((Q0g×Bool)):=let E2:=({Op:=wrap i64 (ishr u32 w 24),A:=wrap i64 (iand u32 (ishr u32 w 20) 15),B:=wrap i64 (iand u32 (ishr u32 w 16) 15),C:=0,Imm:=wrap i32 (wrap i16 (iand u32 w 65535))}:Q0g); .lv (Q7e E2) λ(x2:Bool)=> .br (!x2) (.lf (E5,false)) (.lf (E2,true)); .br (x0==3) T1 (.br (x0==7) T1 (let E4:=({Op:=wrap i64 (ishr u32 w 24),A:=wrap i64 (iand u32 (ishr u32 w 20) 15),B:=wrap i64 (iand u32 (ishr u32 w 16) 15),C:=0,Imm:=wrap i32 (iand u32 w 65535)}:Q0g); .lv (Q7e E4) λ(x4:Bool)=> .br (!x4) (.lf (E5,false)) (.lf (E4,true))))))
def Q1y(w:Int):(Q0g×Bool):=(Q6u w).m
def Z5z:Q0d:=mkR 117 [] true [.one (.int .u32)] [] (λargs rows=>Q1y (argI args 0)) (λX=> .tup [.agg (Q0g.cells (X.1)), .bool (X.2)]) (λX=>[])
theorem Qos:Q05 Tryz.prog Z5z:=Q0y Q0j Q0i (.cons Qf (.cons Qrt (.nil))) Tryz.func117 Tryz.call117 (λargs rows=>Q6u (argI args 0)) [] [] 2 (λ_ _ _=>by kernel_rfl) (λ_ _=>rfl) (λ_ _=>Tree.free_ok (by kernel_rfl)) (λ_ X=>by kernel_rfl)
def Qui(access:Int):Tree Bool:=
.br (decide (access≥1)) (.lf (decide (access≤3))) (.lf false)
def Qdy(access:Int):Bool:=(Qui access).m
def Z9d:Q0d:=mkR 199 [] true [.one (.int .i64)] [] (λargs rows=>Qdy (argI args 0)) (λX=> .bool X) (λX=>[])
theorem Qq1:Q05 Tryz.prog Z9d:=Q0y Q0j Q0i (.nil) Tryz.func199 Tryz.call199 (λargs rows=>Qui (argI args 0)) [] [] 2 (λ_ _ _=>by kernel_rfl) (λ_ _=>rfl) (λ_ _=>Tree.free_ok (by kernel_rfl)) (λ_ X=>by kernel_rfl)
def Qua(c:Q03):Tree Bool:=
.lf (iand u32 c.B6.a0 (5:Int)==(4:Int))
def Qjx(c:Q03):Bool:=(Qua c).m
def Za9:Q0d:=mkR 200 [] true [.agg Q03.sig] [] (λargs rows=>Qjx (Q03.of (args.getD 0 .dead).cells)) (λX=> .bool X) (λX=>[])
theorem Z5u:Q05 Tryz.prog Za9:=Q0y Q0j Q0i (.nil) Tryz.func200 Tryz.call200 (λargs rows=>Qua (Q03.of (args.getD 0 .dead).cells)) [] [] 2 (λ_ _ _=>by kernel_rfl) (λ_ _=>rfl) (λ_ _=>Tree.free_ok (by kernel_rfl)) (λ_ X=>by kernel_rfl)
def Q8s(access:Int):Tree Int:=
.br (access==1) (.lf 4) (.br (access==3) (.lf 6) (.lf 5))
def Q2(access:Int):Int:=(Q8s access).m
def Z20:Q0d:=mkR 201 [] true [.one (.int .i64)] [] (λargs rows=>Q2 (argI args 0)) (λX=> .int .i64 X) (λX=>[])
theorem Qm:Q05 Tryz.prog Z20:=Q0y Q0j Q0i (.nil) Tryz.func201 Tryz.call201 (λargs rows=>Q8s (argI args 0)) [] [] 2 (λ_ _ _=>by kernel_rfl) (λ_ _=>rfl) (λ_ _=>Tree.free_ok (by kernel_rfl)) (λ_ X=>by kernel_rfl)
def Q9t(m:(List Int))(root:Int)(va:Int)(access:Int):Tree Q16:=
.lv (Q2 access) λ(x0:Int)=> .lv (Q44 m) λ(x1:Int)=> .lv (Qdy access) λ(x2:Bool)=>let E4:=({Addr:=0,F2:=0,E0:=x0}:Q16); .br (!x2) (.lf (E4)) (.br (decide (va≥4096)) (.lf (E4)) (.br (decide (root≥wrap u32 x1)) (.lf (E4)) (let E6:=wrap u32 (root*128)+wrap u32 (4*wrap u32 (Int.tdiv va 128));let E3:=Int.tdiv (wrap u32 E6) 4; .cn (Nat.beq 1 1&&Nat.blt 0 1&&decide (0≤wrap u32 E3∧wrap u32 E3<(m.length:Int))) (let E5:=m.getD (Int.toNat (wrap u32 E3)) 0; .br (iand u32 E5 (1:Int)==(0:Int)) (.lf (E4)) (let T1:Tree (Q16):= .br (decide (iand u32 (ishr u32 E5 8) 255≥wrap u32 x1)) (.lf (E4)) (.lf ({Addr:=wrap u32 (wrap u32 (iand u32 (ishr u32 E5 8) (255:Int)*(128:Int))+Int.tmod va 128),F2:=wrap u32 E6,E0:=0}));let T2:Tree (Q16):= .br (access==1) (.br (iand u32 E5 (4:Int)==(0:Int)) (.lf (E4)) T1) T1; .br (access==3) (.br (iand u32 E5 (2:Int)==(0:Int)) (.lf (E4)) T2) T2)))))
def Q6l(m:(List Int))(root:Int)(va:Int)(access:Int):Q16:=(Q9t m root va access).m
abbrev Qqh(m:(List Int))(root:Int)(va:Int)(access:Int):Prop:=(Q9t m root va access).p
def Zcp:Q0d:=mkP 202 [] true [.one (.ints .u32), .one (.int .u32), .one (.int .u32), .one (.int .i64)] [] (λargs rows=>Qqh (argL .u32 args 0) (argI args 1) (argI args 2) (argI args 3)) (λargs rows=>Q6l (argL .u32 args 0) (argI args 1) (argI args 2) (argI args 3)) (λX=> .agg (Q16.cells X)) (λX=>[])
theorem Z9k:Q05 Tryz.prog Zcp:=Q0o Q0j Q0i (.cons Qm (.cons Qcn (.cons Qq1 (.nil)))) Tryz.func202 Tryz.call202 (λargs rows=>Q9t (argL .u32 args 0) (argI args 1) (argI args 2) (argI args 3)) [] [] 2 (λ_ _ _=>by kernel_rfl) (λ_ _=>rfl) (λ_ _ h=>h) (λ_ X=>by kernel_rfl)
def Qde(m:(List Int))(entry:Int)(access:Int):Tree (List Int):=
.an (Qd1 m entry 4) (.lv (Q23 m entry 4) λ(x0:Bool)=> .br (!x0) (.lf m) (let E3:=Nat.beq 1 1&&Nat.blt 0 1&&decide (0≤wrap u32 (Int.tdiv entry 4)∧wrap u32 (Int.tdiv entry 4)<(m.length:Int)); .cn E3 (.cn E3 (let E4:=Int.toNat (wrap u32 (Int.tdiv entry 4));let E1:=List.set m E4 (ior u32 (m.getD E4 0) 8); .br (access==3) (let E2:=Nat.beq 1 1&&Nat.blt 0 1&&decide (0≤wrap u32 (Int.tdiv entry 4)∧wrap u32 (Int.tdiv entry 4)<(↑(List.length E1):Int)); .cn E2 (.cn E2 (.lf (List.set E1 E4 (ior u32 (List.getD E1 E4 0) 16))))) (.lf E1)))))
def Qmo(m:(List Int))(entry:Int)(access:Int):(List Int):=(Qde m entry access).m
abbrev Qra(m:(List Int))(entry:Int)(access:Int):Prop:=(Qde m entry access).p
def Ze0:Q0d:=mkP 203 [true,false,false] true [.one (.row 0), .one (.int .u32), .one (.int .i64)] [.arr 23 1 (.ints .u32)] (λargs rows=>Qra (rowL .u32 rows 0) (argI args 1) (argI args 2)) (λargs rows=>Qmo (rowL .u32 rows 0) (argI args 1) (argI args 2)) (λX=> .tup []) (λX=>[⟨false,23,1, .ints .u32 X⟩])
theorem Z7t:Q05 Tryz.prog Ze0:=Q0o Q0j Q0i (.cons Qj6 (.nil)) Tryz.func203 Tryz.call203 (λargs rows=>Qde (rowL .u32 rows 0) (argI args 1) (argI args 2)) [] [] 2 (λ_ _ _=>by kernel_rfl) (λ_ _=>rfl) (λ_ _ h=>h) (λ_ X=>by kernel_rfl)
def Q7u(c:Q03)(m:(List Int))(va:Int)(size:Int)(access:Int):Tree (Int×Int×(List Int)):=
.lv (Qdy access) λ(x0:Bool)=> .br (!x0) (.lf (0,5,m)) (let T1:Tree ((Int×Int×(List Int))):= .cn (decide (wrap u32 size≠0)) (.br (Int.tmod va (wrap u32 size) !=0) (.lf (0,3,m)) (.lv (Qjx c) λ(x1:Bool)=> .br (!x1) (.an (Qd1 m va size) (.lv (Q23 m va size) λ(x2:Bool)=> .br (!x2) (.lv (Q2 access) λ(x3:Int)=> .lf (0,x3,m)) (.lf (va,0,m)))) (.an (Qqh m c.B6.a6 va access) (.lv (Q6l m c.B6.a6 va access) λ(x4:Q16)=> .br (x4.E0 !=0) (.lf (0,x4.E0,m)) (.an (Qra m x4.F2 access) (.lv (Qmo m x4.F2 access) λ(x5:List Int)=> .lf (x4.Addr,0,x5))))))); .br (size !=1) (.br (size !=4) (.lf (0,5,m)) T1) T1)
def Q10(c:Q03)(m:(List Int))(va:Int)(size:Int)(access:Int):(Int×Int×(List Int)):=(Q7u c m va size access).m
abbrev Q8t(c:Q03)(m:(List Int))(va:Int)(size:Int)(access:Int):Prop:=(Q7u c m va size access).p
def Za2:Q0d:=mkP 147 [false,true,false,false,false] true [.agg Q03.sig, .one (.row 0), .one (.int .u32), .one (.int .i64), .one (.int .i64)] [.arr 23 1 (.ints .u32)] (λargs rows=>Q8t (Q03.of (args.getD 0 .dead).cells) (rowL .u32 rows 0) (argI args 2) (argI args 3) (argI args 4)) (λargs rows=>Q10 (Q03.of (args.getD 0 .dead).cells) (rowL .u32 rows 0) (argI args 2) (argI args 3) (argI args 4)) (λX=> .tup [.int .u32 (X.1), .int .i64 (X.2.1)]) (λX=>[⟨false,23,1, .ints .u32 (X.2.2)⟩])
theorem Qrb:Q05 Tryz.prog Za2:=Q0o Q0j Q0i (.cons Qq1 (.cons Z5u (.cons Qj6 (.cons Qm (.cons Z9k (.cons Z7t (.nil))))))) Tryz.func147 Tryz.call147 (λargs rows=>Q7u (Q03.of (args.getD 0 .dead).cells) (rowL .u32 rows 0) (argI args 2) (argI args 3) (argI args 4)) [] [] 2 (λ_ _ _=>by kernel_rfl) (λ_ _=>rfl) (λ_ _ h=>h) (λ_ X=>by kernel_rfl)
def Qk(op:Int):Tree Bool:=
.br (decide (op≥57)) (.lf (decide (op≤64))) (.lf false)
def Q3u(op:Int):Bool:=(Qk op).m
def Qtr:Q0d:=mkR 148 [] true [.one (.int .i64)] [] (λargs rows=>Q3u (argI args 0)) (λX=> .bool X) (λX=>[])
theorem Qr6:Q05 Tryz.prog Qtr:=Q0y Q0j Q0i (.nil) Tryz.func148 Tryz.call148 (λargs rows=>Qk (argI args 0)) [] [] 2 (λ_ _ _=>by kernel_rfl) (λ_ _=>rfl) (λ_ _=>Tree.free_ok (by kernel_rfl)) (λ_ X=>by kernel_rfl)
def Qch(c:Q03):Tree Q03:=
.lv (Qbh (iand u32 c.B6.a0 (8:Int) !=(0:Int))) λ(x0:Int)=> .lv (Qbh (iand u32 c.B6.a0 (16:Int) !=(0:Int))) λ(x1:Int)=> .lf ({X:=c.X,Pc:=c.B6.a2,B6:={a0:=ior u32 (ior u32 (Qft u32 c.B6.a0 3) (wrap u32 (1*x0))) (wrap u32 (2*x1)),a1:=c.B6.a1,a2:=c.B6.a2,a3:=c.B6.a3,a4:=c.B6.a4,a5:=c.B6.a5,a6:=c.B6.a6,a7:=c.B6.a7}})
def Qh5(c:Q03):Q03:=(Qch c).m
def Z5y:Q0d:=mkR 204 [] true [.agg Q03.sig] [] (λargs rows=>Qh5 (Q03.of (args.getD 0 .dead).cells)) (λX=> .agg (Q03.cells X)) (λX=>[])
theorem Z1l:Q05 Tryz.prog Z5y:=Q0y Q0j Q0i (.cons Qp0 (.nil)) Tryz.func204 Tryz.call204 (λargs rows=>Qch (Q03.of (args.getD 0 .dead).cells)) [] [] 2 (λ_ _ _=>by kernel_rfl) (λ_ _=>rfl) (λ_ _=>Tree.free_ok (by kernel_rfl)) (λ_ X=>by kernel_rfl)
def Qdn(c:Q03)(r:Int)(v:Int):Tree Q03:=
.br (decide (r>0)) (.br (decide (r<16)) (.cn (Nat.blt 0 1&&decide (0≤r∧r<(↑16:Int))) (.lf ({X:=A16.of 0 (List.set (A16.l c.X) r.toNat v),Pc:=c.Pc,B6:=c.B6}))) (.lf c)) (.lf c)
def Q1r(c:Q03)(r:Int)(v:Int):Q03:=(Qdn c r v).m
abbrev Q3d(c:Q03)(r:Int)(v:Int):Prop:=(Qdn c r v).p
def Zjg:Q0d:=mkP 105 [] true [.agg Q03.sig, .one (.int .i64), .one (.int .u32)] [] (λargs rows=>Q3d (Q03.of (args.getD 0 .dead).cells) (argI args 1) (argI args 2)) (λargs rows=>Q1r (Q03.of (args.getD 0 .dead).cells) (argI args 1) (argI args 2)) (λX=> .agg (Q03.cells X)) (λX=>[])
theorem Qgj:Q05 Tryz.prog Zjg:=Q0o Q0j Q0i (.nil) Tryz.func105 Tryz.call105 (λargs rows=>Qdn (Q03.of (args.getD 0 .dead).cells) (argI args 1) (argI args 2)) [] [] 2 (λ_ _ _=>by kernel_rfl) (λ_ _=>rfl) (λ_ _ h=>h) (λ_ X=>by kernel_rfl)
def Qc0(c:Q03)(csr:Int)(v:Int):Tree Q03:=
let E4:=Nat.blt 0 1&&decide (0≤csr∧csr<(↑8:Int));let T2:Tree (Q03):= .cn E4 (.lf ({X:=c.X,Pc:=c.Pc,B6:=A8.of 0 (List.set (A8.l c.B6) csr.toNat (iand u32 v 31))})); .br (csr==0) T2 (.br (csr==7) T2 (.br (csr==6) (.cn E4 (.lf ({X:=c.X,Pc:=c.Pc,B6:=A8.of 0 (List.set (A8.l c.B6) csr.toNat (iand u32 v 255))}))) (let T3:Tree (Q03):= .cn E4 (.lf ({X:=c.X,Pc:=c.Pc,B6:=A8.of 0 (List.set (A8.l c.B6) csr.toNat (Qft u32 v 3))})); .br (csr==1) T3 (.br (csr==2) T3 (let T1:Tree (Q03):= .cn E4 (.lf ({X:=c.X,Pc:=c.Pc,B6:=A8.of 0 (List.set (A8.l c.B6) csr.toNat v)})); .br (csr==3) T1 (.br (csr==4) T1 (.br (csr==5) T1 (.lf c))))))))
def Qg9(c:Q03)(csr:Int)(v:Int):Q03:=(Qc0 c csr v).m
abbrev Qop(c:Q03)(csr:Int)(v:Int):Prop:=(Qc0 c csr v).p
def Zbq:Q0d:=mkP 205 [] true [.agg Q03.sig, .one (.int .i64), .one (.int .u32)] [] (λargs rows=>Qop (Q03.of (args.getD 0 .dead).cells) (argI args 1) (argI args 2)) (λargs rows=>Qg9 (Q03.of (args.getD 0 .dead).cells) (argI args 1) (argI args 2)) (λX=> .agg (Q03.cells X)) (λX=>[])
theorem Z5m:Q05 Tryz.prog Zbq:=Q0o Q0j Q0i (.nil) Tryz.func205 Tryz.call205 (λargs rows=>Qc0 (Q03.of (args.getD 0 .dead).cells) (argI args 1) (argI args 2)) [] [] 2 (λ_ _ _=>by kernel_rfl) (λ_ _=>rfl) (λ_ _ h=>h) (λ_ X=>by kernel_rfl)
def Q8(c:Q03)(i:Q0g):Tree (Q03×Q1):=
.br (i.Op==56) (.lv (Q3 c 7 0) λ(x0:Q03)=> .lf (x0,{B5:=0,D0:=0,D9:=0,Value:=0})) (.br (i.Op==57) (.lv (Qh5 c) λ(x1:Q03)=> .lf (x1,{B5:=0,D0:=0,D9:=0,Value:=0})) (.br (i.Op==58) (.cn (Nat.blt 0 1&&decide (0≤i.Imm∧i.Imm<(↑8:Int))) (let E3:=List.getD (A8.l c.B6) i.Imm.toNat 0; .an (Q3d c i.A E3) (.lv (Q1r c i.A E3) λ(x2:Q03)=> .lf ({X:=x2.X,Pc:=wrap u32 (x2.Pc+4),B6:=x2.B6},{B5:=0,D0:=0,D9:=0,Value:=0})))) (let E2:=Nat.blt 0 1&&decide (0≤i.A∧i.A<(↑16:Int)); .br (i.Op==59) (.cn E2 (let E4:=List.getD (A16.l c.X) i.A.toNat 0; .an (Qop c (wrap i64 i.Imm) E4) (.lv (Qg9 c (wrap i64 i.Imm) E4) λ(x3:Q03)=> .lf ({X:=x3.X,Pc:=wrap u32 (x3.Pc+4),B6:=x3.B6},{B5:=0,D0:=0,D9:=0,Value:=0})))) (let E1:=({X:=c.X,Pc:=wrap u32 (c.Pc+4),B6:=c.B6}:Q03); .br (i.Op==60) (.lf (E1,{B5:=1,D0:=wrap i64 i.Imm,D9:=i.A,Value:=0})) (.br (i.Op==61) (.cn E2 (.lf (E1,{B5:=2,D0:=wrap i64 i.Imm,D9:=0,Value:=List.getD (A16.l c.X) i.A.toNat 0}))) (.br (i.Op==62) (.lf (E1,{B5:=3,D0:=0,D9:=0,Value:=0})) (.br (i.Op==63) (.lf (E1,{B5:=5,D0:=0,D9:=0,Value:=0})) (.br (i.Op==64) (.lf (E1,{B5:=4,D0:=0,D9:=0,Value:=0})) (.lf (E1,{B5:=0,D0:=0,D9:=0,Value:=0}))))))))))
def Qh9(c:Q03)(i:Q0g):(Q03×Q1):=(Q8 c i).m
abbrev Qmr(c:Q03)(i:Q0g):Prop:=(Q8 c i).p
def Z5b:Q0d:=mkP 149 [] true [.agg Q03.sig, .agg Q0g.sig] [] (λargs rows=>Qmr (Q03.of (args.getD 0 .dead).cells) (Q0g.of (args.getD 1 .dead).cells)) (λargs rows=>Qh9 (Q03.of (args.getD 0 .dead).cells) (Q0g.of (args.getD 1 .dead).cells)) (λX=> .tup [.agg (Q03.cells (X.1)), .agg (Q1.cells (X.2))]) (λX=>[])
theorem Z0q:Q05 Tryz.prog Z5b:=Q0o Q0j Q0i (.cons Qil (.cons Z1l (.cons Qgj (.cons Z5m (.nil))))) Tryz.func149 Tryz.call149 (λargs rows=>Q8 (Q03.of (args.getD 0 .dead).cells) (Q0g.of (args.getD 1 .dead).cells)) [] [] 2 (λ_ _ _=>by kernel_rfl) (λ_ _=>rfl) (λ_ _ h=>h) (λ_ X=>by kernel_rfl)
def Qv5(op:Int)(a:Int)(b:Int):Tree Bool:=
.br (op==40) (.lf (a==b)) (.br (op==41) (.lf (a !=b)) (.br (op==42) (.lf (decide (wrap i32 a<wrap i32 b))) (.br (op==43) (.lf (decide (wrap i32 a≥wrap i32 b))) (.br (op==44) (.lf (decide (a<b))) (.lf (decide (a≥b)))))))
def Q2c(op:Int)(a:Int)(b:Int):Bool:=(Qv5 op a b).m
def Zbn:Q0d:=mkR 206 [] true [.one (.int .i64), .one (.int .u32), .one (.int .u32)] [] (λargs rows=>Q2c (argI args 0) (argI args 1) (argI args 2)) (λX=> .bool X) (λX=>[])
theorem Z6s:Q05 Tryz.prog Zbn:=Q0y Q0j Q0i (.nil) Tryz.func206 Tryz.call206 (λargs rows=>Qv5 (argI args 0) (argI args 1) (argI args 2)) [] [] 2 (λ_ _ _=>by kernel_rfl) (λ_ _=>rfl) (λ_ _=>Tree.free_ok (by kernel_rfl)) (λ_ X=>by kernel_rfl)
def Qgk(c:Q03)(i:Q0g):Tree Q03:=
.br (i.Op==48) (.an (Q3d c i.A (wrap u32 (c.Pc+4))) (.lv (Q1r c i.A (wrap u32 (c.Pc+4))) λ(x0:Q03)=> .lf ({X:=x0.X,Pc:=wrap u32 (c.Pc+wrap u32 (4*wrap u32 i.Imm)),B6:=x0.B6}))) (let E1:=Nat.blt 0 1&&decide (0≤i.B∧i.B<(↑16:Int)); .br (i.Op==49) (.cn E1 (.an (Q3d c i.A (wrap u32 (c.Pc+4))) (.lv (Q1r c i.A (wrap u32 (c.Pc+4))) λ(x1:Q03)=> .lf ({X:=x1.X,Pc:=wrap u32 (List.getD (A16.l c.X) i.B.toNat 0+wrap u32 i.Imm),B6:=x1.B6})))) (.cn (Nat.blt 0 1&&decide (0≤i.A∧i.A<(↑16:Int))) (.cn E1 (.lv (Q2c i.Op (List.getD (A16.l c.X) i.A.toNat 0) (List.getD (A16.l c.X) i.B.toNat 0)) λ(x2:Bool)=> .br x2 (.lf ({X:=c.X,Pc:=wrap u32 (c.Pc+wrap u32 (4*wrap u32 i.Imm)),B6:=c.B6})) (.lf ({X:=c.X,Pc:=wrap u32 (c.Pc+4),B6:=c.B6}))))))
def Qx5(c:Q03)(i:Q0g):Q03:=(Qgk c i).m
abbrev Qqy(c:Q03)(i:Q0g):Prop:=(Qgk c i).p
def Zcw:Q0d:=mkP 150 [] true [.agg Q03.sig, .agg Q0g.sig] [] (λargs rows=>Qqy (Q03.of (args.getD 0 .dead).cells) (Q0g.of (args.getD 1 .dead).cells)) (λargs rows=>Qx5 (Q03.of (args.getD 0 .dead).cells) (Q0g.of (args.getD 1 .dead).cells)) (λX=> .agg (Q03.cells X)) (λX=>[])
theorem Z8f:Q05 Tryz.prog Zcw:=Q0o Q0j Q0i (.cons Qgj (.cons Z6s (.nil))) Tryz.func150 Tryz.call150 (λargs rows=>Qgk (Q03.of (args.getD 0 .dead).cells) (Q0g.of (args.getD 1 .dead).cells)) [] [] 2 (λ_ _ _=>by kernel_rfl) (λ_ _=>rfl) (λ_ _ h=>h) (λ_ X=>by kernel_rfl)
def Q7j(x:Int)(n:Int):Tree Int:=
.br (decide (n<1)) (.lf 0) (.br (decide (n≥32)) (.lf x) (.cn (decide (0≤wrap u64 n)) (.cn (decide (0≤wrap u64 (wrap i64 (n-1)))) (let E1:=iand u32 x (wrap u32 (ishl u32 1 (wrap u64 n)-1)); .br (ishr u32 E1 (wrap u64 (wrap i64 (n-1)))==1) (.cn (decide (0≤wrap u64 n)) (.lf (ior u32 E1 (ishl u32 4294967295 (wrap u64 n))))) (.lf E1)))))
def Q3s(x:Int)(n:Int):Int:=(Q7j x n).m
abbrev Qbv(x:Int)(n:Int):Prop:=(Q7j x n).p
def Qth:Q0d:=mkP 208 [] true [.one (.int .u32), .one (.int .i64)] [] (λargs rows=>Qbv (argI args 0) (argI args 1)) (λargs rows=>Q3s (argI args 0) (argI args 1)) (λX=> .int .u32 X) (λX=>[])
theorem Qqa:Q05 Tryz.prog Qth:=Q0o Q0j Q0i (.nil) Tryz.func208 Tryz.call208 (λargs rows=>Q7j (argI args 0) (argI args 1)) [] [] 2 (λ_ _ _=>by kernel_rfl) (λ_ _=>rfl) (λ_ _ h=>h) (λ_ X=>by kernel_rfl)
def Q97(c:Q03)(m:(List Int))(i:Q0g):Tree (Q03×(List Int)):=
.cn (Nat.blt 0 1&&decide (0≤i.B∧i.B<(↑16:Int))) (let E4:=wrap u32 (List.getD (A16.l c.X) i.B.toNat 0+wrap u32 i.Imm);let E5:=List.getD (A16.l c.X) i.A.toNat 0;let E6:=Nat.blt 0 1&&decide (0≤i.A∧i.A<(↑16:Int));let E7:=({X:=c.X,Pc:=wrap u32 (c.Pc+4),B6:=c.B6}:Q03);let T1:Tree ((Q03×(List Int))):=let T3:Tree ((Q03×(List Int))):= .an (Q8t c m E4 4 3) (.lv (Q10 c m E4 4 3) λ(x0:Int×Int×List Int)=> .br (x0.2.1 !=0) (.lv (Q3 c x0.2.1 E4) λ(x1:Q03)=> .lf (x1,x0.2.2)) (.cn E6 (.an (Qf9 x0.2.2 x0.1 4 E5) (.lv (Qa7 x0.2.2 x0.1 4 E5) λ(x2:List Int)=> .lf (E7,x2))))); .br (i.Op==35) T3 (.br (i.Op==36) T3 (.an (Q8t c m E4 4 2) (.lv (Q10 c m E4 4 2) λ(x6:Int×Int×List Int)=> .br (x6.2.1 !=0) (.lv (Q3 c x6.2.1 E4) λ(x7:Q03)=> .lf (x7,x6.2.2)) (.an (Qd x6.2.2 x6.1 4) (.lv (Q1b x6.2.2 x6.1 4) λ(x8:Int×Bool)=> .br (i.Op==33) (.an (Qbv x8.1 8) (.lv (Q3s x8.1 8) λ(x9:Int)=> .an (Q3d c i.A x9) (.lv (Q1r c i.A x9) λ(x10:Q03)=> .lf ({X:=x10.X,Pc:=wrap u32 (x10.Pc+4),B6:=x10.B6},x6.2.2)))) (.an (Q3d c i.A x8.1) (.lv (Q1r c i.A x8.1) λ(x11:Q03)=> .lf ({X:=x11.X,Pc:=wrap u32 (x11.Pc+4),B6:=x11.B6},x6.2.2)))))))); .br (i.Op==32) T1 (.br (i.Op==35) T1 (let T2:Tree ((Q03×(List Int))):= .an (Q8t c m E4 1 3) (.lv (Q10 c m E4 1 3) λ(x24:Int×Int×List Int)=> .br (x24.2.1 !=0) (.lv (Q3 c x24.2.1 E4) λ(x25:Q03)=> .lf (x25,x24.2.2)) (.cn E6 (.an (Qf9 x24.2.2 x24.1 1 E5) (.lv (Qa7 x24.2.2 x24.1 1 E5) λ(x26:List Int)=> .lf (E7,x26))))); .br (i.Op==35) T2 (.br (i.Op==36) T2 (.an (Q8t c m E4 1 2) (.lv (Q10 c m E4 1 2) λ(x30:Int×Int×List Int)=> .br (x30.2.1 !=0) (.lv (Q3 c x30.2.1 E4) λ(x31:Q03)=> .lf (x31,x30.2.2)) (.an (Qd x30.2.2 x30.1 1) (.lv (Q1b x30.2.2 x30.1 1) λ(x32:Int×Bool)=> .br (i.Op==33) (.an (Qbv x32.1 8) (.lv (Q3s x32.1 8) λ(x33:Int)=> .an (Q3d c i.A x33) (.lv (Q1r c i.A x33) λ(x34:Q03)=> .lf ({X:=x34.X,Pc:=wrap u32 (x34.Pc+4),B6:=x34.B6},x30.2.2)))) (.an (Q3d c i.A x32.1) (.lv (Q1r c i.A x32.1) λ(x35:Q03)=> .lf ({X:=x35.X,Pc:=wrap u32 (x35.Pc+4),B6:=x35.B6},x30.2.2)))))))))))
def Q5e(c:Q03)(m:(List Int))(i:Q0g):(Q03×(List Int)):=(Q97 c m i).m
abbrev Qjg(c:Q03)(m:(List Int))(i:Q0g):Prop:=(Q97 c m i).p
def Qyd:Q0d:=mkP 151 [false,true,false] true [.agg Q03.sig, .one (.row 0), .agg Q0g.sig] [.arr 23 1 (.ints .u32)] (λargs rows=>Qjg (Q03.of (args.getD 0 .dead).cells) (rowL .u32 rows 0) (Q0g.of (args.getD 2 .dead).cells)) (λargs rows=>Q5e (Q03.of (args.getD 0 .dead).cells) (rowL .u32 rows 0) (Q0g.of (args.getD 2 .dead).cells)) (λX=> .agg (Q03.cells (X.1))) (λX=>[⟨false,23,1, .ints .u32 (X.2)⟩])
theorem Qvb:Q05 Tryz.prog Qyd:=Q0o Q0j Q0i (.cons Qrb (.cons Qil (.cons Qzo (.cons Qml (.cons Qqa (.cons Qgj (.nil))))))) Tryz.func151 Tryz.call151 (λargs rows=>Q97 (Q03.of (args.getD 0 .dead).cells) (rowL .u32 rows 0) (Q0g.of (args.getD 2 .dead).cells)) [] [] 2 (λ_ _ _=>by kernel_rfl) (λ_ _=>rfl) (λ_ _ h=>h) (λ_ X=>by kernel_rfl)
def Quo(op:Int):Tree Int:=
.br (op==16) (.lf 1) (.br (op==17) (.lf 3) (.br (op==18) (.lf 4) (.br (op==19) (.lf 5) (.br (op==20) (.lf 6) (.br (op==21) (.lf 7) (.br (op==22) (.lf 8) (.br (op==23) (.lf 12) (.lf op))))))))
def Z38(op:Int):Int:=(Quo op).m
def Z9x:Q0d:=mkR 209 [] true [.one (.int .i64)] [] (λargs rows=>Z38 (argI args 0)) (λX=> .int .i64 X) (λX=>[])
theorem Z7d:Q05 Tryz.prog Z9x:=Q0y Q0j Q0i (.nil) Tryz.func209 Tryz.call209 (λargs rows=>Quo (argI args 0)) [] [] 2 (λ_ _ _=>by kernel_rfl) (λ_ _=>rfl) (λ_ _=>Tree.free_ok (by kernel_rfl)) (λ_ X=>by kernel_rfl)
def Qag(a:Int)(b:Int):Tree (Int×Int):=
.br (b==0) (.lf (4294967295,a)) (.cn (decide (wrap i64 (wrap i32 b)≠0)) (.cn (decide (wrap i64 (wrap i32 b)≠0)) (.lf (wrap u32 (wrap i64 (Int.tdiv (wrap i64 (wrap i32 a)) (wrap i64 (wrap i32 b)))),wrap u32 (Int.tmod (wrap i64 (wrap i32 a)) (wrap i64 (wrap i32 b)))))))
def Qbo(a:Int)(b:Int):(Int×Int):=(Qag a b).m
abbrev Qi5(a:Int)(b:Int):Prop:=(Qag a b).p
def Z4j:Q0d:=mkP 210 [] true [.one (.int .u32), .one (.int .u32)] [] (λargs rows=>Qi5 (argI args 0) (argI args 1)) (λargs rows=>Qbo (argI args 0) (argI args 1)) (λX=> .tup [.int .u32 (X.1), .int .u32 (X.2)]) (λX=>[])
theorem Z0e:Q05 Tryz.prog Z4j:=Q0o Q0j Q0i (.nil) Tryz.func210 Tryz.call210 (λargs rows=>Qag (argI args 0) (argI args 1)) [] [] 2 (λ_ _ _=>by kernel_rfl) (λ_ _=>rfl) (λ_ _ h=>h) (λ_ X=>by kernel_rfl)
def Qjj(op:Int)(a:Int)(b:Int):Tree (Int×Bool):=
.lv (Z38 op) λ(x0:Int)=> .br (x0==1) (.lf (wrap u32 (a+b),true)) (.br (x0==2) (.lf (wrap u32 (a-b),true)) (.br (x0==3) (.lf (iand u32 a b,true)) (.br (x0==4) (.lf (ior u32 a b,true)) (.br (x0==5) (.lf (ixor u32 a b,true)) (.br (x0==6) (.lf (ishl u32 a (iand u32 b 31),true)) (.br (x0==7) (.lf (ishr u32 a (iand u32 b 31),true)) (.br (x0==8) (.lf (wrap u32 (ishr i32 (wrap i32 a) (iand u32 b 31)),true)) (.br (x0==9) (.lf (wrap u32 (a*b),true)) (.br (x0==10) (.an (Qi5 a b) (.lv (Qbo a b) λ(x1:Int×Int)=> .lf (x1.1,true))) (.br (x0==11) (.an (Qi5 a b) (.lv (Qbo a b) λ(x2:Int×Int)=> .lf (x2.2,true))) (.br (x0==12) (.lv (Qbh (decide (wrap i32 a<wrap i32 b))) λ(x3:Int)=> .lf (x3,true)) (.br (x0==13) (.lv (Qbh (decide (a<b))) λ(x4:Int)=> .lf (x4,true)) (.lf (0,false))))))))))))))
def Qck(op:Int)(a:Int)(b:Int):(Int×Bool):=(Qjj op a b).m
abbrev Qmg(op:Int)(a:Int)(b:Int):Prop:=(Qjj op a b).p
def Zhw:Q0d:=mkP 152 [] true [.one (.int .i64), .one (.int .u32), .one (.int .u32)] [] (λargs rows=>Qmg (argI args 0) (argI args 1) (argI args 2)) (λargs rows=>Qck (argI args 0) (argI args 1) (argI args 2)) (λX=> .tup [.int .u32 (X.1), .bool (X.2)]) (λX=>[])
theorem Zcz:Q05 Tryz.prog Zhw:=Q0o Q0j Q0i (.cons Z7d (.cons Z0e (.cons Qp0 (.nil)))) Tryz.func152 Tryz.call152 (λargs rows=>Qjj (argI args 0) (argI args 1) (argI args 2)) [] [] 2 (λ_ _ _=>by kernel_rfl) (λ_ _=>rfl) (λ_ _ h=>h) (λ_ X=>by kernel_rfl)
def Qlz(c:Q03)(m:(List Int)):Tree (Q03×Q1×(List Int)):=
.an (Q8t c m c.Pc 4 1) (.lv (Q10 c m c.Pc 4 1) λ(x0:Int×Int×List Int)=> .br (x0.2.1 !=0) (.lv (Q3 c x0.2.1 c.Pc) λ(x1:Q03)=> .lf (x1,{B5:=0,D0:=0,D9:=0,Value:=0},x0.2.2)) (.an (Qd x0.2.2 x0.1 4) (.lv (Q1b x0.2.2 x0.1 4) λ(x2:Int×Bool)=> .lv (Q1y x2.1) λ(x3:Q0g×Bool)=> .br (!x3.2) (.lv (Q3 c 1 x2.1) λ(x4:Q03)=> .lf (x4,{B5:=0,D0:=0,D9:=0,Value:=0},x0.2.2)) (.lv (Q3u x3.1.Op) λ(x5:Bool)=>let T1:Tree ((Q03×Q1×(List Int))):= .br (decide (x3.1.Op≥56)) (.an (Qmr c x3.1) (.lv (Qh9 c x3.1) λ(x7:Q03×Q1)=> .lf (x7.1,x7.2,x0.2.2))) (.br (decide (x3.1.Op≥40)) (.an (Qqy c x3.1) (.lv (Qx5 c x3.1) λ(x8:Q03)=> .lf (x8,{B5:=0,D0:=0,D9:=0,Value:=0},x0.2.2))) (.br (decide (x3.1.Op≥32)) (.an (Qjg c x0.2.2 x3.1) (.lv (Q5e c x0.2.2 x3.1) λ(x9:Q03×List Int)=> .lf (x9.1,{B5:=0,D0:=0,D9:=0,Value:=0},x9.2))) (.br (x3.1.Op==24) (.an (Q3d c x3.1.A (ishl u32 (wrap u32 x3.1.Imm) 16)) (.lv (Q1r c x3.1.A (ishl u32 (wrap u32 x3.1.Imm) 16)) λ(x10:Q03)=> .lf ({X:=x10.X,Pc:=wrap u32 (x10.Pc+4),B6:=x10.B6},{B5:=0,D0:=0,D9:=0,Value:=0},x0.2.2))) (let E2:=List.getD (A16.l c.X) x3.1.B.toNat 0;let E3:=Nat.blt 0 1&&decide (0≤x3.1.B∧x3.1.B<(↑16:Int)); .br (decide (x3.1.Op≤13)) (.cn (Nat.blt 0 1&&decide (0≤x3.1.C∧x3.1.C<(↑16:Int))) (.cn E3 (let E4:=List.getD (A16.l c.X) x3.1.C.toNat 0; .an (Qmg x3.1.Op E2 E4) (.lv (Qck x3.1.Op E2 E4) λ(x11:Int×Bool)=> .an (Q3d c x3.1.A x11.1) (.lv (Q1r c x3.1.A x11.1) λ(x12:Q03)=> .lf ({X:=x12.X,Pc:=wrap u32 (x12.Pc+4),B6:=x12.B6},{B5:=0,D0:=0,D9:=0,Value:=0},x0.2.2)))))) (.cn E3 (.an (Qmg x3.1.Op E2 (wrap u32 x3.1.Imm)) (.lv (Qck x3.1.Op E2 (wrap u32 x3.1.Imm)) λ(x13:Int×Bool)=> .an (Q3d c x3.1.A x13.1) (.lv (Q1r c x3.1.A x13.1) λ(x14:Q03)=> .lf ({X:=x14.X,Pc:=wrap u32 (x14.Pc+4),B6:=x14.B6},{B5:=0,D0:=0,D9:=0,Value:=0},x0.2.2))))))))); .br x5 (.br (iand u32 c.B6.a0 (1:Int)==(0:Int)) (.lv (Q3 c 2 x2.1) λ(x6:Q03)=> .lf (x6,{B5:=0,D0:=0,D9:=0,Value:=0},x0.2.2)) T1) T1))))
def Q81(c:Q03)(m:(List Int)):(Q03×Q1×(List Int)):=(Qlz c m).m
abbrev Qpb(c:Q03)(m:(List Int)):Prop:=(Qlz c m).p
def ref1_Do_m:Q0d:=mkP 103 [false,true] true [.agg Q03.sig, .one (.row 0)] [.arr 23 1 (.ints .u32)] (λargs rows=>Qpb (Q03.of (args.getD 0 .dead).cells) (rowL .u32 rows 0)) (λargs rows=>Q81 (Q03.of (args.getD 0 .dead).cells) (rowL .u32 rows 0)) (λX=> .tup [.agg (Q03.cells (X.1)), .agg (Q1.cells (X.2.1))]) (λX=>[⟨false,23,1, .ints .u32 (X.2.2)⟩])
theorem Zi0:Q05 Tryz.prog ref1_Do_m:=Q0o Q0j Q0i (.cons Qrb (.cons Qil (.cons Qml (.cons Qos (.cons Qr6 (.cons Z0q (.cons Z8f (.cons Qvb (.cons Qgj (.cons Zcz (.nil))))))))))) Tryz.func103 Tryz.call103 (λargs rows=>Qlz (Q03.of (args.getD 0 .dead).cells) (rowL .u32 rows 0)) [] [] 2 (λ_ _ _=>by kernel_rfl) (λ_ _=>rfl) (λ_ _ h=>h) (λ_ X=>by kernel_rfl)
end
end Go.Proofs.YtpcbkbalabgnlaaGreat

/-
  Functions of the program: models, and that its calls come to them (by a program: gen3.py).
-/
import Derived.Test.YtpcbkbalabgnlaaGreatRecordTimerBase
import Derived.Test.YtpcbkbalabgnlaaGreatRecordTimerYa
set_option linter.unusedVariables false
set_option linter.unusedSimpArgs false
namespace Go.Proofs.YtpcbkbalabgnlaaGreat
open Go Go.GD Go.IntKind
set_option maxRecDepth 100000
noncomputable section
def Qk6(status:Int)(from0:Int)(to:Int):Tree Int:=
.br (iand u32 status from0 !=0) (.lf (ior u32 status to)) (.lf (Qdr u32 status to))
def Q8(status:Int)(from0:Int)(to:Int):Int:=(Qk6 status from0 to).m
def Za2:Q0f:=mkR 180 [] true [.one (.int .u32), .one (.int .u32), .one (.int .u32)] [] (λargs rows=>Q8 (argI args 0) (argI args 1) (argI args 2)) (λX=> .int .u32 X) (λX=>[])
theorem Qti:Q08 Tryz.prog Za2:=Q2c Q0s Q0t (.nil) Tryz.func180 Tryz.call180 (λargs rows=>Qk6 (argI args 0) (argI args 1) (argI args 2)) [] [] 2 (λ_ _ _=>by kernel_rfl) (λ_ _=>rfl) (λ_ _=>Tree.free_ok (by kernel_rfl)) (λ_ X=>by kernel_rfl)
def Qgz(c:Q03)(cause:Int)(bad:Int):Tree Q03:=
.lv (Q8 c.B5.a0 1 8) λ(x0:Int)=> .lv (Q8 x0 2 16) λ(x1:Int)=> .lf ({X:=c.X,Pc:=c.B5.a1,B5:={a0:=Qdr u32 (ior u32 x1 1) 2,a1:=c.B5.a1,a2:=c.Pc,a3:=wrap u32 cause,a4:=bad,a5:=c.B5.a5,a6:=c.B5.a6,a7:=c.B5.a7}})
def Q4h(c:Q03)(cause:Int)(bad:Int):Q03:=(Qgz c cause bad).m
def Zb8:Q0f:=mkR 129 [] true [.agg Q03.sig, .one (.int .i64), .one (.int .u32)] [] (λargs rows=>Q4h (Q03.of (args.getD 0 .dead).cells) (argI args 1) (argI args 2)) (λX=> .agg (Q03.cells X)) (λX=>[])
theorem Qfe:Q08 Tryz.prog Zb8:=Q2c Q0s Q0t (.cons Qti (.nil)) Tryz.func129 Tryz.call129 (λargs rows=>Qgz (Q03.of (args.getD 0 .dead).cells) (argI args 1) (argI args 2)) [] [] 2 (λ_ _ _=>by kernel_rfl) (λ_ _=>rfl) (λ_ _=>Tree.free_ok (by kernel_rfl)) (λ_ X=>by kernel_rfl)
def Qmu(access:Int):Tree (Int×Bool):=
.br (access==1) (.lf (4,true)) (.br (access==2) (.lf (5,true)) (.br (access==3) (.lf (6,true)) (.lf (5,false))))
def Qlk(access:Int):(Int×Bool):=(Qmu access).m
def Z0u:Q0f:=mkR 225 [] true [.one (.int .i64)] [] (λargs rows=>Qlk (argI args 0)) (λX=> .tup [.int .i64 (X.1), .bool (X.2)]) (λX=>[])
theorem Qw6:Q08 Tryz.prog Z0u:=Q2c Q0s Q0t (.nil) Tryz.func225 Tryz.call225 (λargs rows=>Qmu (argI args 0)) [] [] 2 (λ_ _ _=>by kernel_rfl) (λ_ _=>rfl) (λ_ _=>Tree.free_ok (by kernel_rfl)) (λ_ X=>by kernel_rfl)
def Qqk(c:Q03):Tree Bool:=
.lf (iand u32 c.B5.a0 (1:Int) !=(0:Int))
def Q8y(c:Q03):Bool:=(Qqk c).m
def Z1o:Q0f:=mkR 133 [] true [.agg Q03.sig] [] (λargs rows=>Q8y (Q03.of (args.getD 0 .dead).cells)) (λX=> .bool X) (λX=>[])
theorem Qne:Q08 Tryz.prog Z1o:=Q2c Q0s Q0t (.nil) Tryz.func133 Tryz.call133 (λargs rows=>Qqk (Q03.of (args.getD 0 .dead).cells)) [] [] 2 (λ_ _ _=>by kernel_rfl) (λ_ _=>rfl) (λ_ _=>Tree.free_ok (by kernel_rfl)) (λ_ X=>by kernel_rfl)
def Qid(access:Int):Tree (Int×Bool):=
.br (access==1) (.lf (4,true)) (.br (access==2) (.lf (5,true)) (.br (access==3) (.lf (6,true)) (.lf (5,false))))
def Qgc(access:Int):(Int×Bool):=(Qid access).m
def Qqq:Q0f:=mkR 244 [] true [.one (.int .i64)] [] (λargs rows=>Qgc (argI args 0)) (λX=> .tup [.int .i64 (X.1), .bool (X.2)]) (λX=>[])
theorem Qpc:Q08 Tryz.prog Qqq:=Q2c Q0s Q0t (.nil) Tryz.func244 Tryz.call244 (λargs rows=>Qid (argI args 0)) [] [] 2 (λ_ _ _=>by kernel_rfl) (λ_ _=>rfl) (λ_ _=>Tree.free_ok (by kernel_rfl)) (λ_ X=>by kernel_rfl)
def Qfh(m:(List Int))(frame:Int):Tree Bool:=
.lv (Q0o m) λ(x0:Int)=> .lf (decide (wrap u64 frame<wrap u64 x0))
def Q9(m:(List Int))(frame:Int):Bool:=(Qfh m frame).m
def Qv7:Q0f:=mkR 245 [] true [.one (.ints .u32), .one (.int .u32)] [] (λargs rows=>Q9 (argL .u32 args 0) (argI args 1)) (λX=> .bool X) (λX=>[])
theorem Qre:Q08 Tryz.prog Qv7:=Q2c Q0s Q0t (.cons Q48 (.nil)) Tryz.func245 Tryz.call245 (λargs rows=>Qfh (argL .u32 args 0) (argI args 1)) [] [] 2 (λ_ _ _=>by kernel_rfl) (λ_ _=>rfl) (λ_ _=>Tree.free_ok (by kernel_rfl)) (λ_ X=>by kernel_rfl)
def Q4z(m:(List Int))(addr:Int)(size:Int):Tree (Int×Bool):=
.an (Q58 m addr size) (.lv (Qdw m addr size) λ(x0:Bool)=> .br (!x0) (.lf (0,false)) (.cn (Nat.beq 1 1&&Nat.blt 0 1&&decide (0≤wrap u32 (Int.tdiv addr 4)∧wrap u32 (Int.tdiv addr 4)<(m.length:Int))) (let E1:=Int.toNat (wrap u32 (Int.tdiv addr 4)); .br (size==1) (let E2:=wrap i64 (wrap i64 (Int.tmod addr 4)*8); .an (Q3a (m.getD E1 0) E2 8) (.lv (Q34 (m.getD E1 0) E2 8) λ(x1:Int)=> .lf (x1,true))) (.lf (m.getD E1 0,true)))))
def Q4n(m:(List Int))(addr:Int)(size:Int):(Int×Bool):=(Q4z m addr size).m
abbrev Q28(m:(List Int))(addr:Int)(size:Int):Prop:=(Q4z m addr size).p
def Z05:Q0f:=mkP 182 [] true [.one (.ints .u32), .one (.int .u32), .one (.int .i64)] [] (λargs rows=>Q28 (argL .u32 args 0) (argI args 1) (argI args 2)) (λargs rows=>Q4n (argL .u32 args 0) (argI args 1) (argI args 2)) (λX=> .tup [.int .u32 (X.1), .bool (X.2)]) (λX=>[])
theorem Q9n:Q08 Tryz.prog Z05:=Q0z Q0s Q0t (.cons Qie (.cons Qi (.nil))) Tryz.func182 Tryz.call182 (λargs rows=>Q4z (argL .u32 args 0) (argI args 1) (argI args 2)) [] [] 2 (λ_ _ _=>by kernel_rfl) (λ_ _=>rfl) (λ_ _ h=>h) (λ_ X=>by kernel_rfl)
def Qih(pte:Int)(access:Int):Tree Bool:=
.br (iand u32 pte (1:Int)==(0:Int)) (.lf false) (.br (access==3) (.lf (iand u32 pte (2:Int) !=(0:Int))) (.br (access==1) (.lf (iand u32 pte (4:Int) !=(0:Int))) (.lf true)))
def Qa3(pte:Int)(access:Int):Bool:=(Qih pte access).m
def Qrd:Q0f:=mkR 246 [] true [.one (.int .u32), .one (.int .i64)] [] (λargs rows=>Qa3 (argI args 0) (argI args 1)) (λX=> .bool X) (λX=>[])
theorem Qo3:Q08 Tryz.prog Qrd:=Q2c Q0s Q0t (.nil) Tryz.func246 Tryz.call246 (λargs rows=>Qih (argI args 0) (argI args 1)) [] [] 2 (λ_ _ _=>by kernel_rfl) (λ_ _=>rfl) (λ_ _=>Tree.free_ok (by kernel_rfl)) (λ_ X=>by kernel_rfl)
def Q3m(pte:Int):Tree Int:=
.an (Q3a pte 8 8) (.lv (Q34 pte 8 8) λ(x0:Int)=> .lf x0)
def Qcj(pte:Int):Int:=(Q3m pte).m
abbrev Q4e(pte:Int):Prop:=(Q3m pte).p
def Qr0:Q0f:=mkP 247 [] true [.one (.int .u32)] [] (λargs rows=>Q4e (argI args 0)) (λargs rows=>Qcj (argI args 0)) (λX=> .int .u32 X) (λX=>[])
theorem Qpe:Q08 Tryz.prog Qr0:=Q0z Q0s Q0t (.cons Qi (.nil)) Tryz.func247 Tryz.call247 (λargs rows=>Q3m (argI args 0)) [] [] 2 (λ_ _ _=>by kernel_rfl) (λ_ _=>rfl) (λ_ _ h=>h) (λ_ X=>by kernel_rfl)
def Q4y(m:(List Int))(root:Int)(va:Int)(access:Int):Tree Q16:=
.lv (Qgc access) λ(x0:Int×Bool)=>let E1:=({Addr:=0,F2:=0,F0:=x0.1}:Q16); .br (!x0.2) (.lf (E1)) (.br (decide (va≥4096)) (.lf (E1)) (.lv (Q9 m root) λ(x1:Bool)=> .br (!x1) (.lf (E1)) (let E2:=wrap u32 (root*128)+wrap u32 (4*wrap u32 (Int.tdiv va 128)); .an (Q28 m (wrap u32 E2) 4) (.lv (Q4n m (wrap u32 E2) 4) λ(x2:Int×Bool)=> .br (!x2.2) (.lf (E1)) (.lv (Qa3 x2.1 access) λ(x3:Bool)=> .br (!x3) (.lf (E1)) (.an (Q4e x2.1) (.lv (Qcj x2.1) λ(x4:Int)=> .lv (Q9 m x4) λ(x5:Bool)=> .br (!x5) (.lf (E1)) (.an (Q4e x2.1) (.lv (Qcj x2.1) λ(x6:Int)=> .lf ({Addr:=wrap u32 (wrap u32 (x6*128)+Int.tmod va 128),F2:=wrap u32 E2,F0:=0}))))))))))
def Qfc(m:(List Int))(root:Int)(va:Int)(access:Int):Q16:=(Q4y m root va access).m
abbrev Q6x(m:(List Int))(root:Int)(va:Int)(access:Int):Prop:=(Q4y m root va access).p
def Qyn:Q0f:=mkP 226 [] true [.one (.ints .u32), .one (.int .u32), .one (.int .u32), .one (.int .i64)] [] (λargs rows=>Q6x (argL .u32 args 0) (argI args 1) (argI args 2) (argI args 3)) (λargs rows=>Qfc (argL .u32 args 0) (argI args 1) (argI args 2) (argI args 3)) (λX=> .agg (Q16.cells X)) (λX=>[])
theorem Qw5:Q08 Tryz.prog Qyn:=Q0z Q0s Q0t (.cons Qpc (.cons Qre (.cons Q9n (.cons Qo3 (.cons Qpe (.nil)))))) Tryz.func226 Tryz.call226 (λargs rows=>Q4y (argL .u32 args 0) (argI args 1) (argI args 2) (argI args 3)) [] [] 2 (λ_ _ _=>by kernel_rfl) (λ_ _=>rfl) (λ_ _ h=>h) (λ_ X=>by kernel_rfl)
def Q3w(m:(List Int))(entry:Int)(access:Int):Tree (List Int):=
.an (Q28 m entry 4) (.lv (Q4n m entry 4) λ(x0:Int×Bool)=> .br (!x0.2) (.an (Q04 m) (.lv (Q02 m) λ(x1:List Int)=> .lf x1)) (.br (access==3) (.an (Q4m m entry 4 (ior u32 (ior u32 x0.1 8) 16)) (.lv (Q8d m entry 4 (ior u32 (ior u32 x0.1 8) 16)) λ(x2:List Int×Bool)=> .lf x2.1)) (.an (Q4m m entry 4 (ior u32 x0.1 8)) (.lv (Q8d m entry 4 (ior u32 x0.1 8)) λ(x3:List Int×Bool)=> .lf x3.1))))
def Qas(m:(List Int))(entry:Int)(access:Int):(List Int):=(Q3w m entry access).m
abbrev Q5v(m:(List Int))(entry:Int)(access:Int):Prop:=(Q3w m entry access).p
def Qw0:Q0f:=mkP 227 [] true [.one (.ints .u32), .one (.int .u32), .one (.int .i64)] [] (λargs rows=>Q5v (argL .u32 args 0) (argI args 1) (argI args 2)) (λargs rows=>Qas (argL .u32 args 0) (argI args 1) (argI args 2)) (λX=> .all 0) (λX=>[⟨false,23,1, .ints .u32 X⟩])
theorem Qsb:Q08 Tryz.prog Qw0:=Q0z Q0s Q0t (.cons Q9n (.cons Q0n (.cons Qiu (.nil)))) Tryz.func227 Tryz.call227 (λargs rows=>Q3w (argL .u32 args 0) (argI args 1) (argI args 2)) [.row 23 1 (.ints .u32)] [] 2 (λ_ _ _=>by kernel_rfl) (λ_ _=>rfl) (λ_ _ h=>h) (λ_ X=>by kernel_rfl)
def Q50(c:Q03)(m:(List Int))(va:Int)(size:Int)(access:Int):Tree (Int×(List Int)×Int):=
.lv (Qlk access) λ(x0:Int×Bool)=>let T3:Tree ((Int×(List Int)×Int)):= .an (Q04 m) (.lv (Q02 m) λ(x1:List Int)=> .lf (0,x1,5)); .br (!x0.2) T3 (let T1:Tree ((Int×(List Int)×Int)):= .cn (decide (wrap u32 size≠0)) (.br (Int.tmod va (wrap u32 size) !=0) (.an (Q04 m) (.lv (Q02 m) λ(x3:List Int)=> .lf (0,x3,3))) (.lv (Q8y c) λ(x4:Bool)=>let T2:Tree ((Int×(List Int)×Int)):= .an (Q28 m va size) (.lv (Q4n m va size) λ(x8:Int×Bool)=> .br (!x8.2) (.an (Q04 m) (.lv (Q02 m) λ(x9:List Int)=> .lf (0,x9,x0.1))) (.an (Q04 m) (.lv (Q02 m) λ(x10:List Int)=> .lf (va,x10,0)))); .br (!x4) (.br (iand u32 c.B5.a0 (4:Int) !=(0:Int)) (.an (Q6x m c.B5.a6 va access) (.lv (Qfc m c.B5.a6 va access) λ(x5:Q16)=> .br (x5.F0 !=0) (.an (Q04 m) (.lv (Q02 m) λ(x6:List Int)=> .lf (0,x6,x5.F0))) (.an (Q5v m x5.F2 access) (.lv (Qas m x5.F2 access) λ(x7:List Int)=> .lf (x5.Addr,x7,0))))) T2) T2)); .br (size !=1) (.br (size !=4) T3 T1) T1)
def Q1x(c:Q03)(m:(List Int))(va:Int)(size:Int)(access:Int):(Int×(List Int)×Int):=(Q50 c m va size access).m
abbrev Q5d(c:Q03)(m:(List Int))(va:Int)(size:Int)(access:Int):Prop:=(Q50 c m va size access).p
def Z0n:Q0f:=mkP 181 [] true [.agg Q03.sig, .one (.ints .u32), .one (.int .u32), .one (.int .i64), .one (.int .i64)] [] (λargs rows=>Q5d (Q03.of (args.getD 0 .dead).cells) (argL .u32 args 1) (argI args 2) (argI args 3) (argI args 4)) (λargs rows=>Q1x (Q03.of (args.getD 0 .dead).cells) (argL .u32 args 1) (argI args 2) (argI args 3) (argI args 4)) (λX=> .tup [.int .u32 (X.1), .all 0, .int .i64 (X.2.2)]) (λX=>[⟨false,23,1, .ints .u32 (X.2.1)⟩])
theorem Qga:Q08 Tryz.prog Z0n:=Q0z Q0s Q0t (.cons Qw6 (.cons Q0n (.cons Qne (.cons Qw5 (.cons Qsb (.cons Q9n (.nil))))))) Tryz.func181 Tryz.call181 (λargs rows=>Q50 (Q03.of (args.getD 0 .dead).cells) (argL .u32 args 1) (argI args 2) (argI args 3) (argI args 4)) [.row 23 1 (.ints .u32)] [] 2 (λ_ _ _=>by kernel_rfl) (λ_ _=>rfl) (λ_ _ h=>h) (λ_ X=>by kernel_rfl)
def Q8q(c:Q03)(m:(List Int)):Tree (Int×(List Int)×Int):=
.an (Q5d c m c.Pc 4 1) (.lv (Q1x c m c.Pc 4 1) λ(x0:Int×List Int×Int)=> .br (x0.2.2 !=0) (.lf (0,x0.2.1,x0.2.2)) (.an (Q28 x0.2.1 x0.1 4) (.lv (Q4n x0.2.1 x0.1 4) λ(x1:Int×Bool)=> .lf (x1.1,x0.2.1,0))))
def Qj4(c:Q03)(m:(List Int)):(Int×(List Int)×Int):=(Q8q c m).m
abbrev Qb1(c:Q03)(m:(List Int)):Prop:=(Q8q c m).p
def Z6v:Q0f:=mkP 130 [] true [.agg Q03.sig, .one (.ints .u32)] [] (λargs rows=>Qb1 (Q03.of (args.getD 0 .dead).cells) (argL .u32 args 1)) (λargs rows=>Qj4 (Q03.of (args.getD 0 .dead).cells) (argL .u32 args 1)) (λX=> .tup [.int .u32 (X.1), .all 0, .int .i64 (X.2.2)]) (λX=>[⟨false,23,1, .ints .u32 (X.2.1)⟩])
theorem Z3v:Q08 Tryz.prog Z6v:=Q0z Q0s Q0t (.cons Qga (.cons Q9n (.nil))) Tryz.func130 Tryz.call130 (λargs rows=>Q8q (Q03.of (args.getD 0 .dead).cells) (argL .u32 args 1)) [.row 23 1 (.ints .u32)] [] 2 (λ_ _ _=>by kernel_rfl) (λ_ _=>rfl) (λ_ _ h=>h) (λ_ X=>by kernel_rfl)
def Qib(op:Int):Tree Bool:=
.br (op==57) (.lf true) (.br (op==58) (.lf true) (.br (op==59) (.lf true) (.br (op==60) (.lf true) (.br (op==61) (.lf true) (.br (op==62) (.lf true) (.br (op==63) (.lf true) (.br (op==64) (.lf true) (.lf false))))))))
def Q7u(op:Int):Bool:=(Qib op).m
def Qrm:Q0f:=mkR 132 [] true [.one (.int .i64)] [] (λargs rows=>Q7u (argI args 0)) (λX=> .bool X) (λX=>[])
theorem Qpp:Q08 Tryz.prog Qrm:=Q2c Q0s Q0t (.nil) Tryz.func132 Tryz.call132 (λargs rows=>Qib (argI args 0)) [] [] 2 (λ_ _ _=>by kernel_rfl) (λ_ _=>rfl) (λ_ _=>Tree.free_ok (by kernel_rfl)) (λ_ X=>by kernel_rfl)
def Qly(op:Int):Tree Int:=
.br (op==32) (.lf 4) (.br (op==35) (.lf 4) (.lf 1))
def Qd9(op:Int):Int:=(Qly op).m
def Z71:Q0f:=mkR 187 [] true [.one (.int .i64)] [] (λargs rows=>Qd9 (argI args 0)) (λX=> .int .i64 X) (λX=>[])
theorem Qpu:Q08 Tryz.prog Z71:=Q2c Q0s Q0t (.nil) Tryz.func187 Tryz.call187 (λargs rows=>Qly (argI args 0)) [] [] 2 (λ_ _ _=>by kernel_rfl) (λ_ _=>rfl) (λ_ _=>Tree.free_ok (by kernel_rfl)) (λ_ X=>by kernel_rfl)
def Q7q(c:Q03)(register:Int)(v:Int):Tree Q03:=
.br (register !=0) (.cn (Nat.blt 0 1&&decide (0≤register∧register<(↑16:Int))) (.lf ({X:=A16.of 0 (List.set (A16.l c.X) register.toNat v),Pc:=c.Pc,B5:=c.B5}))) (.lf c)
def Q9h(c:Q03)(register:Int)(v:Int):Q03:=(Q7q c register v).m
abbrev Q4o(c:Q03)(register:Int)(v:Int):Prop:=(Q7q c register v).p
def cpu_set_m:Q0f:=mkP 188 [] true [.agg Q03.sig, .one (.int .i64), .one (.int .u32)] [] (λargs rows=>Q4o (Q03.of (args.getD 0 .dead).cells) (argI args 1) (argI args 2)) (λargs rows=>Q9h (Q03.of (args.getD 0 .dead).cells) (argI args 1) (argI args 2)) (λX=> .agg (Q03.cells X)) (λX=>[])
theorem Qye:Q08 Tryz.prog cpu_set_m:=Q0z Q0s Q0t (.nil) Tryz.func188 Tryz.call188 (λargs rows=>Q7q (Q03.of (args.getD 0 .dead).cells) (argI args 1) (argI args 2)) [] [] 2 (λ_ _ _=>by kernel_rfl) (λ_ _=>rfl) (λ_ _ h=>h) (λ_ X=>by kernel_rfl)
def Q7s(c:Q03)(m:(List Int))(i:Q0h):Tree (Q03×(List Int)):=
.cn (Nat.blt 0 1&&decide (0≤i.B∧i.B<(↑16:Int))) (.lv (Qd9 i.Op) λ(x0:Int)=>let E1:=wrap u32 (List.getD (A16.l c.X) i.B.toNat 0+wrap u32 i.Imm); .an (Q5d c m E1 x0 2) (.lv (Q1x c m E1 x0 2) λ(x1:Int×List Int×Int)=> .br (x1.2.2 !=0) (.lv (Q4h c x1.2.2 E1) λ(x2:Q03)=> .lf (x2,x1.2.1)) (.lv (Qd9 i.Op) λ(x3:Int)=> .an (Q28 x1.2.1 x1.1 x3) (.lv (Q4n x1.2.1 x1.1 x3) λ(x4:Int×Bool)=> .br (i.Op==33) (.an (Q3p x4.1 8) (.lv (Q29 x4.1 8) λ(x5:Int)=> .an (Q4o c i.A x5) (.lv (Q9h c i.A x5) λ(x6:Q03)=> .lf ({X:=x6.X,Pc:=wrap u32 (x6.Pc+4),B5:=x6.B5},x1.2.1)))) (.an (Q4o c i.A x4.1) (.lv (Q9h c i.A x4.1) λ(x7:Q03)=> .lf ({X:=x7.X,Pc:=wrap u32 (x7.Pc+4),B5:=x7.B5},x1.2.1)))))))
def Q6d(c:Q03)(m:(List Int))(i:Q0h):(Q03×(List Int)):=(Q7s c m i).m
abbrev Qcy(c:Q03)(m:(List Int))(i:Q0h):Prop:=(Q7s c m i).p
def Z9x:Q0f:=mkP 134 [] true [.agg Q03.sig, .one (.ints .u32), .agg Q0h.sig] [] (λargs rows=>Qcy (Q03.of (args.getD 0 .dead).cells) (argL .u32 args 1) (Q0h.of (args.getD 2 .dead).cells)) (λargs rows=>Q6d (Q03.of (args.getD 0 .dead).cells) (argL .u32 args 1) (Q0h.of (args.getD 2 .dead).cells)) (λX=> .tup [.agg (Q03.cells (X.1)), .all 0]) (λX=>[⟨false,23,1, .ints .u32 (X.2)⟩])
theorem Z5f:Q08 Tryz.prog Z9x:=Q0z Q0s Q0t (.cons Qga (.cons Qpu (.cons Qfe (.cons Q9n (.cons Qfu (.cons Qye (.nil))))))) Tryz.func134 Tryz.call134 (λargs rows=>Q7s (Q03.of (args.getD 0 .dead).cells) (argL .u32 args 1) (Q0h.of (args.getD 2 .dead).cells)) [.row 23 1 (.ints .u32)] [] 2 (λ_ _ _=>by kernel_rfl) (λ_ _=>rfl) (λ_ _ h=>h) (λ_ X=>by kernel_rfl)
def Q6g(c:Q03)(m:(List Int))(i:Q0h):Tree (Q03×(List Int)):=
.cn (Nat.blt 0 1&&decide (0≤i.B∧i.B<(↑16:Int))) (.lv (Qd9 i.Op) λ(x0:Int)=>let E1:=wrap u32 (List.getD (A16.l c.X) i.B.toNat 0+wrap u32 i.Imm); .an (Q5d c m E1 x0 3) (.lv (Q1x c m E1 x0 3) λ(x1:Int×List Int×Int)=> .br (x1.2.2 !=0) (.lv (Q4h c x1.2.2 E1) λ(x2:Q03)=> .lf (x2,x1.2.1)) (.lv (Qd9 i.Op) λ(x3:Int)=> .cn (Nat.blt 0 1&&decide (0≤i.A∧i.A<(↑16:Int))) (let E2:=List.getD (A16.l c.X) i.A.toNat 0; .an (Q4m x1.2.1 x1.1 x3 E2) (.lv (Q8d x1.2.1 x1.1 x3 E2) λ(x4:List Int×Bool)=> .lf ({X:=c.X,Pc:=wrap u32 (c.Pc+4),B5:=c.B5},x4.1))))))
def Q7m(c:Q03)(m:(List Int))(i:Q0h):(Q03×(List Int)):=(Q6g c m i).m
abbrev Qbe(c:Q03)(m:(List Int))(i:Q0h):Prop:=(Q6g c m i).p
def Z69:Q0f:=mkP 135 [] true [.agg Q03.sig, .one (.ints .u32), .agg Q0h.sig] [] (λargs rows=>Qbe (Q03.of (args.getD 0 .dead).cells) (argL .u32 args 1) (Q0h.of (args.getD 2 .dead).cells)) (λargs rows=>Q7m (Q03.of (args.getD 0 .dead).cells) (argL .u32 args 1) (Q0h.of (args.getD 2 .dead).cells)) (λX=> .tup [.agg (Q03.cells (X.1)), .all 0]) (λX=>[⟨false,23,1, .ints .u32 (X.2)⟩])
theorem Z2i:Q08 Tryz.prog Z69:=Q0z Q0s Q0t (.cons Qga (.cons Qpu (.cons Qfe (.cons Qiu (.nil))))) Tryz.func135 Tryz.call135 (λargs rows=>Q6g (Q03.of (args.getD 0 .dead).cells) (argL .u32 args 1) (Q0h.of (args.getD 2 .dead).cells)) [.row 23 1 (.ints .u32)] [] 2 (λ_ _ _=>by kernel_rfl) (λ_ _=>rfl) (λ_ _ h=>h) (λ_ X=>by kernel_rfl)
def Que(op:Int)(a:Int)(b:Int):Tree Bool:=
.br (op==40) (.lf (a==b)) (.br (op==41) (.lf (a !=b)) (.br (op==42) (.lf (decide (wrap i32 a<wrap i32 b))) (.br (op==43) (.lf (decide (wrap i32 a≥wrap i32 b))) (.br (op==44) (.lf (decide (a<b))) (.lf (decide (a≥b)))))))
def Z2x(op:Int)(a:Int)(b:Int):Bool:=(Que op a b).m
def Z4w:Q0f:=mkR 190 [] true [.one (.int .i64), .one (.int .u32), .one (.int .u32)] [] (λargs rows=>Z2x (argI args 0) (argI args 1) (argI args 2)) (λX=> .bool X) (λX=>[])
theorem Z4a:Q08 Tryz.prog Z4w:=Q2c Q0s Q0t (.nil) Tryz.func190 Tryz.call190 (λargs rows=>Que (argI args 0) (argI args 1) (argI args 2)) [] [] 2 (λ_ _ _=>by kernel_rfl) (λ_ _=>rfl) (λ_ _=>Tree.free_ok (by kernel_rfl)) (λ_ X=>by kernel_rfl)
def Qd(c:Q03):Tree Q03:=
.lv (Q8 c.B5.a0 8 1) λ(x0:Int)=> .lv (Q8 x0 16 2) λ(x1:Int)=> .lf ({X:=c.X,Pc:=c.B5.a2,B5:={a0:=x1,a1:=c.B5.a1,a2:=c.B5.a2,a3:=c.B5.a3,a4:=c.B5.a4,a5:=c.B5.a5,a6:=c.B5.a6,a7:=c.B5.a7}})
def Qc9(c:Q03):Q03:=(Qd c).m
def Z48:Q0f:=mkR 191 [] true [.agg Q03.sig] [] (λargs rows=>Qc9 (Q03.of (args.getD 0 .dead).cells)) (λX=> .agg (Q03.cells X)) (λX=>[])
theorem Z0f:Q08 Tryz.prog Z48:=Q2c Q0s Q0t (.cons Qti (.nil)) Tryz.func191 Tryz.call191 (λargs rows=>Qd (Q03.of (args.getD 0 .dead).cells)) [] [] 2 (λ_ _ _=>by kernel_rfl) (λ_ _=>rfl) (λ_ _=>Tree.free_ok (by kernel_rfl)) (λ_ X=>by kernel_rfl)
def Q6h(c:Q03)(csr:Int)(v:Int):Tree Q03:=
let E4:=Nat.blt 0 1&&decide (0≤csr∧csr<(↑8:Int));let T2:Tree (Q03):= .cn E4 (.lf ({X:=c.X,Pc:=c.Pc,B5:=A8.of 0 (List.set (A8.l c.B5) csr.toNat (iand u32 v 31))})); .br (csr==0) T2 (.br (csr==7) T2 (.br (csr==6) (.cn E4 (.lf ({X:=c.X,Pc:=c.Pc,B5:=A8.of 0 (List.set (A8.l c.B5) csr.toNat (iand u32 v 255))}))) (let T3:Tree (Q03):= .cn E4 (.lf ({X:=c.X,Pc:=c.Pc,B5:=A8.of 0 (List.set (A8.l c.B5) csr.toNat (Qdr u32 v 3))})); .br (csr==1) T3 (.br (csr==2) T3 (let T1:Tree (Q03):= .cn E4 (.lf ({X:=c.X,Pc:=c.Pc,B5:=A8.of 0 (List.set (A8.l c.B5) csr.toNat v)})); .br (csr==3) T1 (.br (csr==4) T1 (.br (csr==5) T1 (.lf c))))))))
def Z3x(c:Q03)(csr:Int)(v:Int):Q03:=(Q6h c csr v).m
abbrev Qbc(c:Q03)(csr:Int)(v:Int):Prop:=(Q6h c csr v).p
def Z6l:Q0f:=mkP 192 [] true [.agg Q03.sig, .one (.int .i64), .one (.int .u32)] [] (λargs rows=>Qbc (Q03.of (args.getD 0 .dead).cells) (argI args 1) (argI args 2)) (λargs rows=>Z3x (Q03.of (args.getD 0 .dead).cells) (argI args 1) (argI args 2)) (λX=> .agg (Q03.cells X)) (λX=>[])
theorem Z2d:Q08 Tryz.prog Z6l:=Q0z Q0s Q0t (.nil) Tryz.func192 Tryz.call192 (λargs rows=>Q6h (Q03.of (args.getD 0 .dead).cells) (argI args 1) (argI args 2)) [] [] 2 (λ_ _ _=>by kernel_rfl) (λ_ _=>rfl) (λ_ _ h=>h) (λ_ X=>by kernel_rfl)
def Q2z(c:Q03)(i:Q0h):Tree (Q03×Q13):=
.cn (Nat.blt 0 1&&decide (0≤i.A∧i.A<(↑16:Int))) (.cn (Nat.blt 0 1&&decide (0≤i.B∧i.B<(↑16:Int))) (.br (i.Op==24) (.an (Q4o c i.A (ishl u32 (wrap u32 i.Imm) 16)) (.lv (Q9h c i.A (ishl u32 (wrap u32 i.Imm) 16)) λ(x0:Q03)=> .lf ({X:=x0.X,Pc:=wrap u32 (c.Pc+4),B5:=x0.B5},{C3:=0,C9:=0,E0:=0,Value:=0}))) (let E2:=({X:=c.X,Pc:=wrap u32 (c.Pc+4),B5:=c.B5}:Q03);let E3:=List.getD (A16.l c.X) i.B.toNat 0;let E4:=List.getD (A16.l c.X) i.A.toNat 0;let T1:Tree ((Q03×Q13)):= .lv (Z2x i.Op E4 E3) λ(x1:Bool)=> .br x1 (.lf ({X:=c.X,Pc:=wrap u32 (c.Pc+wrap u32 (4*wrap u32 i.Imm)),B5:=c.B5},{C3:=0,C9:=0,E0:=0,Value:=0})) (.lf (E2,{C3:=0,C9:=0,E0:=0,Value:=0})); .br (i.Op==40) T1 (.br (i.Op==41) T1 (.br (i.Op==42) T1 (.br (i.Op==43) T1 (.br (i.Op==44) T1 (.br (i.Op==45) T1 (.br (i.Op==48) (.an (Q4o c i.A (wrap u32 (c.Pc+4))) (.lv (Q9h c i.A (wrap u32 (c.Pc+4))) λ(x7:Q03)=> .lf ({X:=x7.X,Pc:=wrap u32 (x7.Pc+wrap u32 (4*wrap u32 i.Imm)),B5:=x7.B5},{C3:=0,C9:=0,E0:=0,Value:=0}))) (.br (i.Op==49) (.an (Q4o c i.A (wrap u32 (c.Pc+4))) (.lv (Q9h c i.A (wrap u32 (c.Pc+4))) λ(x8:Q03)=> .lf ({X:=x8.X,Pc:=wrap u32 (List.getD (A16.l c.X) i.B.toNat 0+wrap u32 i.Imm),B5:=x8.B5},{C3:=0,C9:=0,E0:=0,Value:=0}))) (.br (i.Op==56) (.lv (Q4h c 7 0) λ(x9:Q03)=> .lf (x9,{C3:=0,C9:=0,E0:=0,Value:=0})) (.br (i.Op==57) (.lv (Qc9 c) λ(x10:Q03)=> .lf (x10,{C3:=0,C9:=0,E0:=0,Value:=0})) (.br (i.Op==58) (.cn (Nat.blt 0 1&&decide (0≤i.Imm∧i.Imm<(↑8:Int))) (let E5:=List.getD (A8.l c.B5) i.Imm.toNat 0; .an (Q4o c i.A E5) (.lv (Q9h c i.A E5) λ(x11:Q03)=> .lf ({X:=x11.X,Pc:=wrap u32 (c.Pc+4),B5:=x11.B5},{C3:=0,C9:=0,E0:=0,Value:=0})))) (.br (i.Op==59) (.an (Qbc c (wrap i64 i.Imm) E4) (.lv (Z3x c (wrap i64 i.Imm) E4) λ(x12:Q03)=> .lf ({X:=x12.X,Pc:=wrap u32 (c.Pc+4),B5:=x12.B5},{C3:=0,C9:=0,E0:=0,Value:=0}))) (.br (i.Op==60) (.lf (E2,{C3:=1,C9:=wrap i64 i.Imm,E0:=i.A,Value:=0})) (.br (i.Op==61) (.lf (E2,{C3:=2,C9:=wrap i64 i.Imm,E0:=0,Value:=List.getD (A16.l c.X) i.A.toNat 0})) (.br (i.Op==62) (.lf (E2,{C3:=3,C9:=0,E0:=0,Value:=0})) (.br (i.Op==63) (.lf (E2,{C3:=5,C9:=0,E0:=0,Value:=0})) (.br (i.Op==64) (.lf (E2,{C3:=4,C9:=0,E0:=0,Value:=0})) (.cn (Nat.blt 0 1&&decide (0≤i.C∧i.C<(↑16:Int))) (.br (decide (i.Op≥16)) (.an (Qbw i.Op E3 (wrap u32 i.Imm)) (.lv (Q45 i.Op E3 (wrap u32 i.Imm)) λ(x13:Int×Bool)=> .an (Q4o c i.A x13.1) (.lv (Q9h c i.A x13.1) λ(x14:Q03)=> .lf ({X:=x14.X,Pc:=wrap u32 (c.Pc+4),B5:=x14.B5},{C3:=0,C9:=0,E0:=0,Value:=0})))) (let E6:=List.getD (A16.l c.X) i.C.toNat 0; .an (Qbw i.Op E3 E6) (.lv (Q45 i.Op E3 E6) λ(x15:Int×Bool)=> .an (Q4o c i.A x15.1) (.lv (Q9h c i.A x15.1) λ(x16:Q03)=> .lf ({X:=x16.X,Pc:=wrap u32 (c.Pc+4),B5:=x16.B5},{C3:=0,C9:=0,E0:=0,Value:=0})))))))))))))))))))))))))
def Qhz(c:Q03)(i:Q0h):(Q03×Q13):=(Q2z c i).m
abbrev Q8o(c:Q03)(i:Q0h):Prop:=(Q2z c i).p
def Z0q:Q0f:=mkP 136 [] true [.agg Q03.sig, .agg Q0h.sig] [] (λargs rows=>Q8o (Q03.of (args.getD 0 .dead).cells) (Q0h.of (args.getD 1 .dead).cells)) (λargs rows=>Qhz (Q03.of (args.getD 0 .dead).cells) (Q0h.of (args.getD 1 .dead).cells)) (λX=> .tup [.agg (Q03.cells (X.1)), .agg (Q13.cells (X.2))]) (λX=>[])
theorem Qvu:Q08 Tryz.prog Z0q:=Q0z Q0s Q0t (.cons Qye (.cons Z4a (.cons Qfe (.cons Z0f (.cons Z2d (.cons Z9d (.nil))))))) Tryz.func136 Tryz.call136 (λargs rows=>Q2z (Q03.of (args.getD 0 .dead).cells) (Q0h.of (args.getD 1 .dead).cells)) [] [] 2 (λ_ _ _=>by kernel_rfl) (λ_ _=>rfl) (λ_ _ h=>h) (λ_ X=>by kernel_rfl)
def Q5z(c:Q03)(m:(List Int)):Tree (Q03×(List Int)×Q13):=
.an (Qb1 c m) (.lv (Qj4 c m) λ(x0:Int×List Int×Int)=> .br (x0.2.2 !=0) (.lv (Q4h c x0.2.2 c.Pc) λ(x1:Q03)=> .lf (x1,x0.2.1,{C3:=0,C9:=0,E0:=0,Value:=0})) (.an (Q9v x0.1) (.lv (Qed x0.1) λ(x2:Q0h×Bool)=> .br (!x2.2) (.lv (Q4h c 1 x0.1) λ(x3:Q03)=> .lf (x3,x0.2.1,{C3:=0,C9:=0,E0:=0,Value:=0})) (.lv (Q7u x2.1.Op) λ(x4:Bool)=>let T1:Tree ((Q03×(List Int)×Q13)):=let T2:Tree ((Q03×(List Int)×Q13)):= .an (Qcy c x0.2.1 x2.1) (.lv (Q6d c x0.2.1 x2.1) λ(x7:Q03×List Int)=> .lf (x7.1,x7.2,{C3:=0,C9:=0,E0:=0,Value:=0})); .br (x2.1.Op==32) T2 (.br (x2.1.Op==33) T2 (.br (x2.1.Op==34) T2 (let T3:Tree ((Q03×(List Int)×Q13)):= .an (Qbe c x0.2.1 x2.1) (.lv (Q7m c x0.2.1 x2.1) λ(x10:Q03×List Int)=> .lf (x10.1,x10.2,{C3:=0,C9:=0,E0:=0,Value:=0})); .br (x2.1.Op==35) T3 (.br (x2.1.Op==36) T3 (.an (Q8o c x2.1) (.lv (Qhz c x2.1) λ(x12:Q03×Q13)=> .lf (x12.1,x0.2.1,x12.2))))))); .br x4 (.lv (Q8y c) λ(x5:Bool)=> .br (!x5) (.lv (Q4h c 2 x0.1) λ(x6:Q03)=> .lf (x6,x0.2.1,{C3:=0,C9:=0,E0:=0,Value:=0})) T1) T1))))
def Q74(c:Q03)(m:(List Int)):(Q03×(List Int)×Q13):=(Q5z c m).m
abbrev Qap(c:Q03)(m:(List Int)):Prop:=(Q5z c m).p
def Zbc:Q0f:=mkP 98 [] true [.agg Q03.sig, .one (.ints .u32)] [] (λargs rows=>Qap (Q03.of (args.getD 0 .dead).cells) (argL .u32 args 1)) (λargs rows=>Q74 (Q03.of (args.getD 0 .dead).cells) (argL .u32 args 1)) (λX=> .tup [.agg (Q03.cells (X.1)), .all 0, .agg (Q13.cells (X.2.2))]) (λX=>[⟨false,23,1, .ints .u32 (X.2.1)⟩])
theorem Qtl:Q08 Tryz.prog Zbc:=Q0z Q0s Q0t (.cons Z3v (.cons Qfe (.cons Qz8 (.cons Qpp (.cons Qne (.cons Z5f (.cons Z2i (.cons Qvu (.nil))))))))) Tryz.func98 Tryz.call98 (λargs rows=>Q5z (Q03.of (args.getD 0 .dead).cells) (argL .u32 args 1)) [.row 23 1 (.ints .u32)] [] 2 (λ_ _ _=>by kernel_rfl) (λ_ _=>rfl) (λ_ _ h=>h) (λ_ X=>by kernel_rfl)
end
end Go.Proofs.YtpcbkbalabgnlaaGreat

/-
  Functions of the program: models, and that its calls come to them (by a program: gen3.py).
-/
import Derived.Test.YtpcbkbalabgnlaaGreatRecordClockBase
import Derived.Test.YtpcbkbalabgnlaaGreatRecordClockYa
set_option linter.unusedVariables false
set_option linter.unusedSimpArgs false
namespace Go.Proofs.YtpcbkbalabgnlaaGreat
open Go Go.GD Go.IntKind
set_option maxRecDepth 100000
noncomputable section
def Qnl(status:Int)(from0:Int)(to:Int):Tree Int:=
.br (iand u32 status from0 !=0) (.lf (ior u32 status to)) (.lf (Qft u32 status to))
def Q95(status:Int)(from0:Int)(to:Int):Int:=(Qnl status from0 to).m
def Zhx:Q0d:=mkR 180 [] true [.one (.int .u32), .one (.int .u32), .one (.int .u32)] [] (λargs rows=>Q95 (argI args 0) (argI args 1) (argI args 2)) (λX=> .int .u32 X) (λX=>[])
theorem Qzw:Q05 Tryz.prog Zhx:=Q0y Q0j Q0i (.nil) Tryz.func180 Tryz.call180 (λargs rows=>Qnl (argI args 0) (argI args 1) (argI args 2)) [] [] 2 (λ_ _ _=>by kernel_rfl) (λ_ _=>rfl) (λ_ _=>Tree.free_ok (by kernel_rfl)) (λ_ X=>by kernel_rfl)
def Qjk(c:Q03)(cause:Int)(bad:Int):Tree Q03:=
.lv (Q95 c.B6.a0 1 8) λ(x0:Int)=> .lv (Q95 x0 2 16) λ(x1:Int)=> .lf ({X:=c.X,Pc:=c.B6.a1,B6:={a0:=Qft u32 (ior u32 x1 1) 2,a1:=c.B6.a1,a2:=c.Pc,a3:=wrap u32 cause,a4:=bad,a5:=c.B6.a5,a6:=c.B6.a6,a7:=c.B6.a7}})
def Q4v(c:Q03)(cause:Int)(bad:Int):Q03:=(Qjk c cause bad).m
def Zir:Q0d:=mkR 129 [] true [.agg Q03.sig, .one (.int .i64), .one (.int .u32)] [] (λargs rows=>Q4v (Q03.of (args.getD 0 .dead).cells) (argI args 1) (argI args 2)) (λX=> .agg (Q03.cells X)) (λX=>[])
theorem Qhn:Q05 Tryz.prog Zir:=Q0y Q0j Q0i (.cons Qzw (.nil)) Tryz.func129 Tryz.call129 (λargs rows=>Qjk (Q03.of (args.getD 0 .dead).cells) (argI args 1) (argI args 2)) [] [] 2 (λ_ _ _=>by kernel_rfl) (λ_ _=>rfl) (λ_ _=>Tree.free_ok (by kernel_rfl)) (λ_ X=>by kernel_rfl)
def Qq6(access:Int):Tree (Int×Bool):=
.br (access==1) (.lf (4,true)) (.br (access==2) (.lf (5,true)) (.br (access==3) (.lf (6,true)) (.lf (5,false))))
def Qpf(access:Int):(Int×Bool):=(Qq6 access).m
def Z7h:Q0d:=mkR 225 [] true [.one (.int .i64)] [] (λargs rows=>Qpf (argI args 0)) (λX=> .tup [.int .i64 (X.1), .bool (X.2)]) (λX=>[])
theorem Z0c:Q05 Tryz.prog Z7h:=Q0y Q0j Q0i (.nil) Tryz.func225 Tryz.call225 (λargs rows=>Qq6 (argI args 0)) [] [] 2 (λ_ _ _=>by kernel_rfl) (λ_ _=>rfl) (λ_ _=>Tree.free_ok (by kernel_rfl)) (λ_ X=>by kernel_rfl)
def Qu7(c:Q03):Tree Bool:=
.lf (iand u32 c.B6.a0 (1:Int) !=(0:Int))
def Qaa(c:Q03):Bool:=(Qu7 c).m
def Zaf:Q0d:=mkR 133 [] true [.agg Q03.sig] [] (λargs rows=>Qaa (Q03.of (args.getD 0 .dead).cells)) (λX=> .bool X) (λX=>[])
theorem Qri:Q05 Tryz.prog Zaf:=Q0y Q0j Q0i (.nil) Tryz.func133 Tryz.call133 (λargs rows=>Qu7 (Q03.of (args.getD 0 .dead).cells)) [] [] 2 (λ_ _ _=>by kernel_rfl) (λ_ _=>rfl) (λ_ _=>Tree.free_ok (by kernel_rfl)) (λ_ X=>by kernel_rfl)
def Qlg(access:Int):Tree (Int×Bool):=
.br (access==1) (.lf (4,true)) (.br (access==2) (.lf (5,true)) (.br (access==3) (.lf (6,true)) (.lf (5,false))))
def Qj3(access:Int):(Int×Bool):=(Qlg access).m
def Qvg:Q0d:=mkR 244 [] true [.one (.int .i64)] [] (λargs rows=>Qj3 (argI args 0)) (λX=> .tup [.int .i64 (X.1), .bool (X.2)]) (λX=>[])
theorem Qu:Q05 Tryz.prog Qvg:=Q0y Q0j Q0i (.nil) Tryz.func244 Tryz.call244 (λargs rows=>Qlg (argI args 0)) [] [] 2 (λ_ _ _=>by kernel_rfl) (λ_ _=>rfl) (λ_ _=>Tree.free_ok (by kernel_rfl)) (λ_ X=>by kernel_rfl)
def Qgt(m:(List Int))(frame:Int):Tree Bool:=
.lv (Q0q m) λ(x0:Int)=> .lf (decide (wrap u64 frame<wrap u64 x0))
def Qa6(m:(List Int))(frame:Int):Bool:=(Qgt m frame).m
def Qyv:Q0d:=mkR 245 [] true [.one (.ints .u32), .one (.int .u32)] [] (λargs rows=>Qa6 (argL .u32 args 0) (argI args 1)) (λX=> .bool X) (λX=>[])
theorem Qw0:Q05 Tryz.prog Qyv:=Q0y Q0j Q0i (.cons Q4n (.nil)) Tryz.func245 Tryz.call245 (λargs rows=>Qgt (argL .u32 args 0) (argI args 1)) [] [] 2 (λ_ _ _=>by kernel_rfl) (λ_ _=>rfl) (λ_ _=>Tree.free_ok (by kernel_rfl)) (λ_ X=>by kernel_rfl)
def Q57(m:(List Int))(addr:Int)(size:Int):Tree (Int×Bool):=
.an (Q5o m addr size) (.lv (Qg6 m addr size) λ(x0:Bool)=> .br (!x0) (.lf (0,false)) (.cn (Nat.beq 1 1&&Nat.blt 0 1&&decide (0≤wrap u32 (Int.tdiv addr 4)∧wrap u32 (Int.tdiv addr 4)<(m.length:Int))) (let E1:=Int.toNat (wrap u32 (Int.tdiv addr 4)); .br (size==1) (let E2:=wrap i64 (wrap i64 (Int.tmod addr 4)*8); .an (Q3g (m.getD E1 0) E2 8) (.lv (Q3a (m.getD E1 0) E2 8) λ(x1:Int)=> .lf (x1,true))) (.lf (m.getD E1 0,true)))))
def Q4x(m:(List Int))(addr:Int)(size:Int):(Int×Bool):=(Q57 m addr size).m
abbrev Q2f(m:(List Int))(addr:Int)(size:Int):Prop:=(Q57 m addr size).p
def Z5o:Q0d:=mkP 182 [] true [.one (.ints .u32), .one (.int .u32), .one (.int .i64)] [] (λargs rows=>Q2f (argL .u32 args 0) (argI args 1) (argI args 2)) (λargs rows=>Q4x (argL .u32 args 0) (argI args 1) (argI args 2)) (λX=> .tup [.int .u32 (X.1), .bool (X.2)]) (λX=>[])
theorem Qb4:Q05 Tryz.prog Z5o:=Q0o Q0j Q0i (.cons Qle (.cons Qkn (.nil))) Tryz.func182 Tryz.call182 (λargs rows=>Q57 (argL .u32 args 0) (argI args 1) (argI args 2)) [] [] 2 (λ_ _ _=>by kernel_rfl) (λ_ _=>rfl) (λ_ _ h=>h) (λ_ X=>by kernel_rfl)
def Qli(pte:Int)(access:Int):Tree Bool:=
.br (iand u32 pte (1:Int)==(0:Int)) (.lf false) (.br (access==3) (.lf (iand u32 pte (2:Int) !=(0:Int))) (.br (access==1) (.lf (iand u32 pte (4:Int) !=(0:Int))) (.lf true)))
def Qbg(pte:Int)(access:Int):Bool:=(Qli pte access).m
def Qw8:Q0d:=mkR 246 [] true [.one (.int .u32), .one (.int .i64)] [] (λargs rows=>Qbg (argI args 0) (argI args 1)) (λX=> .bool X) (λX=>[])
theorem Qsa:Q05 Tryz.prog Qw8:=Q0y Q0j Q0i (.nil) Tryz.func246 Tryz.call246 (λargs rows=>Qli (argI args 0) (argI args 1)) [] [] 2 (λ_ _ _=>by kernel_rfl) (λ_ _=>rfl) (λ_ _=>Tree.free_ok (by kernel_rfl)) (λ_ X=>by kernel_rfl)
def Q3w(pte:Int):Tree Int:=
.an (Q3g pte 8 8) (.lv (Q3a pte 8 8) λ(x0:Int)=> .lf x0)
def Qea(pte:Int):Int:=(Q3w pte).m
abbrev Q4u(pte:Int):Prop:=(Q3w pte).p
def Qvd:Q0d:=mkP 247 [] true [.one (.int .u32)] [] (λargs rows=>Q4u (argI args 0)) (λargs rows=>Qea (argI args 0)) (λX=> .int .u32 X) (λX=>[])
theorem Qtn:Q05 Tryz.prog Qvd:=Q0o Q0j Q0i (.cons Qkn (.nil)) Tryz.func247 Tryz.call247 (λargs rows=>Q3w (argI args 0)) [] [] 2 (λ_ _ _=>by kernel_rfl) (λ_ _=>rfl) (λ_ _ h=>h) (λ_ X=>by kernel_rfl)
def Q56(m:(List Int))(root:Int)(va:Int)(access:Int):Tree Q16:=
.lv (Qj3 access) λ(x0:Int×Bool)=>let E1:=({Addr:=0,F2:=0,E0:=x0.1}:Q16); .br (!x0.2) (.lf (E1)) (.br (decide (va≥4096)) (.lf (E1)) (.lv (Qa6 m root) λ(x1:Bool)=> .br (!x1) (.lf (E1)) (let E2:=wrap u32 (root*128)+wrap u32 (4*wrap u32 (Int.tdiv va 128)); .an (Q2f m (wrap u32 E2) 4) (.lv (Q4x m (wrap u32 E2) 4) λ(x2:Int×Bool)=> .br (!x2.2) (.lf (E1)) (.lv (Qbg x2.1 access) λ(x3:Bool)=> .br (!x3) (.lf (E1)) (.an (Q4u x2.1) (.lv (Qea x2.1) λ(x4:Int)=> .lv (Qa6 m x4) λ(x5:Bool)=> .br (!x5) (.lf (E1)) (.an (Q4u x2.1) (.lv (Qea x2.1) λ(x6:Int)=> .lf ({Addr:=wrap u32 (wrap u32 (x6*128)+Int.tmod va 128),F2:=wrap u32 E2,E0:=0}))))))))))
def Qi0(m:(List Int))(root:Int)(va:Int)(access:Int):Q16:=(Q56 m root va access).m
abbrev Q7o(m:(List Int))(root:Int)(va:Int)(access:Int):Prop:=(Q56 m root va access).p
def Z4i:Q0d:=mkP 226 [] true [.one (.ints .u32), .one (.int .u32), .one (.int .u32), .one (.int .i64)] [] (λargs rows=>Q7o (argL .u32 args 0) (argI args 1) (argI args 2) (argI args 3)) (λargs rows=>Qi0 (argL .u32 args 0) (argI args 1) (argI args 2) (argI args 3)) (λX=> .agg (Q16.cells X)) (λX=>[])
theorem Z0g:Q05 Tryz.prog Z4i:=Q0o Q0j Q0i (.cons Qu (.cons Qw0 (.cons Qb4 (.cons Qsa (.cons Qtn (.nil)))))) Tryz.func226 Tryz.call226 (λargs rows=>Q56 (argL .u32 args 0) (argI args 1) (argI args 2) (argI args 3)) [] [] 2 (λ_ _ _=>by kernel_rfl) (λ_ _=>rfl) (λ_ _ h=>h) (λ_ X=>by kernel_rfl)
def Q4c(m:(List Int))(entry:Int)(access:Int):Tree (List Int):=
.an (Q2f m entry 4) (.lv (Q4x m entry 4) λ(x0:Int×Bool)=> .br (!x0.2) (.an (Q04 m) (.lv (Q02 m) λ(x1:List Int)=> .lf x1)) (.br (access==3) (.an (Q50 m entry 4 (ior u32 (ior u32 x0.1 8) 16)) (.lv (Q9z m entry 4 (ior u32 (ior u32 x0.1 8) 16)) λ(x2:List Int×Bool)=> .lf x2.1)) (.an (Q50 m entry 4 (ior u32 x0.1 8)) (.lv (Q9z m entry 4 (ior u32 x0.1 8)) λ(x3:List Int×Bool)=> .lf x3.1))))
def Qbz(m:(List Int))(entry:Int)(access:Int):(List Int):=(Q4c m entry access).m
abbrev Q6c(m:(List Int))(entry:Int)(access:Int):Prop:=(Q4c m entry access).p
def Z28:Q0d:=mkP 227 [] true [.one (.ints .u32), .one (.int .u32), .one (.int .i64)] [] (λargs rows=>Q6c (argL .u32 args 0) (argI args 1) (argI args 2)) (λargs rows=>Qbz (argL .u32 args 0) (argI args 1) (argI args 2)) (λX=> .all 0) (λX=>[⟨false,23,1, .ints .u32 X⟩])
theorem Qz3:Q05 Tryz.prog Z28:=Q0o Q0j Q0i (.cons Qb4 (.cons Q0s (.cons Qn7 (.nil)))) Tryz.func227 Tryz.call227 (λargs rows=>Q4c (argL .u32 args 0) (argI args 1) (argI args 2)) [.row 23 1 (.ints .u32)] [] 2 (λ_ _ _=>by kernel_rfl) (λ_ _=>rfl) (λ_ _ h=>h) (λ_ X=>by kernel_rfl)
def Q5d(c:Q03)(m:(List Int))(va:Int)(size:Int)(access:Int):Tree (Int×(List Int)×Int):=
.lv (Qpf access) λ(x0:Int×Bool)=>let T3:Tree ((Int×(List Int)×Int)):= .an (Q04 m) (.lv (Q02 m) λ(x1:List Int)=> .lf (0,x1,5)); .br (!x0.2) T3 (let T1:Tree ((Int×(List Int)×Int)):= .cn (decide (wrap u32 size≠0)) (.br (Int.tmod va (wrap u32 size) !=0) (.an (Q04 m) (.lv (Q02 m) λ(x3:List Int)=> .lf (0,x3,3))) (.lv (Qaa c) λ(x4:Bool)=>let T2:Tree ((Int×(List Int)×Int)):= .an (Q2f m va size) (.lv (Q4x m va size) λ(x8:Int×Bool)=> .br (!x8.2) (.an (Q04 m) (.lv (Q02 m) λ(x9:List Int)=> .lf (0,x9,x0.1))) (.an (Q04 m) (.lv (Q02 m) λ(x10:List Int)=> .lf (va,x10,0)))); .br (!x4) (.br (iand u32 c.B6.a0 (4:Int) !=(0:Int)) (.an (Q7o m c.B6.a6 va access) (.lv (Qi0 m c.B6.a6 va access) λ(x5:Q16)=> .br (x5.E0 !=0) (.an (Q04 m) (.lv (Q02 m) λ(x6:List Int)=> .lf (0,x6,x5.E0))) (.an (Q6c m x5.F2 access) (.lv (Qbz m x5.F2 access) λ(x7:List Int)=> .lf (x5.Addr,x7,0))))) T2) T2)); .br (size !=1) (.br (size !=4) T3 T1) T1)
def Q21(c:Q03)(m:(List Int))(va:Int)(size:Int)(access:Int):(Int×(List Int)×Int):=(Q5d c m va size access).m
abbrev Q5y(c:Q03)(m:(List Int))(va:Int)(size:Int)(access:Int):Prop:=(Q5d c m va size access).p
def Z4g:Q0d:=mkP 181 [] true [.agg Q03.sig, .one (.ints .u32), .one (.int .u32), .one (.int .i64), .one (.int .i64)] [] (λargs rows=>Q5y (Q03.of (args.getD 0 .dead).cells) (argL .u32 args 1) (argI args 2) (argI args 3) (argI args 4)) (λargs rows=>Q21 (Q03.of (args.getD 0 .dead).cells) (argL .u32 args 1) (argI args 2) (argI args 3) (argI args 4)) (λX=> .tup [.int .u32 (X.1), .all 0, .int .i64 (X.2.2)]) (λX=>[⟨false,23,1, .ints .u32 (X.2.1)⟩])
theorem Qj8:Q05 Tryz.prog Z4g:=Q0o Q0j Q0i (.cons Z0c (.cons Q0s (.cons Qri (.cons Z0g (.cons Qz3 (.cons Qb4 (.nil))))))) Tryz.func181 Tryz.call181 (λargs rows=>Q5d (Q03.of (args.getD 0 .dead).cells) (argL .u32 args 1) (argI args 2) (argI args 3) (argI args 4)) [.row 23 1 (.ints .u32)] [] 2 (λ_ _ _=>by kernel_rfl) (λ_ _=>rfl) (λ_ _ h=>h) (λ_ X=>by kernel_rfl)
def Q9g(c:Q03)(m:(List Int)):Tree (Int×(List Int)×Int):=
.an (Q5y c m c.Pc 4 1) (.lv (Q21 c m c.Pc 4 1) λ(x0:Int×List Int×Int)=> .br (x0.2.2 !=0) (.lf (0,x0.2.1,x0.2.2)) (.an (Q2f x0.2.1 x0.1 4) (.lv (Q4x x0.2.1 x0.1 4) λ(x1:Int×Bool)=> .lf (x1.1,x0.2.1,0))))
def Qmh(c:Q03)(m:(List Int)):(Int×(List Int)×Int):=(Q9g c m).m
abbrev Qcr(c:Q03)(m:(List Int)):Prop:=(Q9g c m).p
def Zdr:Q0d:=mkP 130 [] true [.agg Q03.sig, .one (.ints .u32)] [] (λargs rows=>Qcr (Q03.of (args.getD 0 .dead).cells) (argL .u32 args 1)) (λargs rows=>Qmh (Q03.of (args.getD 0 .dead).cells) (argL .u32 args 1)) (λX=> .tup [.int .u32 (X.1), .all 0, .int .i64 (X.2.2)]) (λX=>[⟨false,23,1, .ints .u32 (X.2.1)⟩])
theorem Z85:Q05 Tryz.prog Zdr:=Q0o Q0j Q0i (.cons Qj8 (.cons Qb4 (.nil))) Tryz.func130 Tryz.call130 (λargs rows=>Q9g (Q03.of (args.getD 0 .dead).cells) (argL .u32 args 1)) [.row 23 1 (.ints .u32)] [] 2 (λ_ _ _=>by kernel_rfl) (λ_ _=>rfl) (λ_ _ h=>h) (λ_ X=>by kernel_rfl)
def Qlo(op:Int):Tree Bool:=
.br (op==57) (.lf true) (.br (op==58) (.lf true) (.br (op==59) (.lf true) (.br (op==60) (.lf true) (.br (op==61) (.lf true) (.br (op==62) (.lf true) (.br (op==63) (.lf true) (.br (op==64) (.lf true) (.lf false))))))))
def Q8q(op:Int):Bool:=(Qlo op).m
def Qva:Q0d:=mkR 132 [] true [.one (.int .i64)] [] (λargs rows=>Q8q (argI args 0)) (λX=> .bool X) (λX=>[])
theorem Qsz:Q05 Tryz.prog Qva:=Q0y Q0j Q0i (.nil) Tryz.func132 Tryz.call132 (λargs rows=>Qlo (argI args 0)) [] [] 2 (λ_ _ _=>by kernel_rfl) (λ_ _=>rfl) (λ_ _=>Tree.free_ok (by kernel_rfl)) (λ_ X=>by kernel_rfl)
def Qpn(op:Int):Tree Int:=
.br (op==32) (.lf 4) (.br (op==35) (.lf 4) (.lf 1))
def Qf7(op:Int):Int:=(Qpn op).m
def Zdi:Q0d:=mkR 187 [] true [.one (.int .i64)] [] (λargs rows=>Qf7 (argI args 0)) (λX=> .int .i64 X) (λX=>[])
theorem Qun:Q05 Tryz.prog Zdi:=Q0y Q0j Q0i (.nil) Tryz.func187 Tryz.call187 (λargs rows=>Qpn (argI args 0)) [] [] 2 (λ_ _ _=>by kernel_rfl) (λ_ _=>rfl) (λ_ _=>Tree.free_ok (by kernel_rfl)) (λ_ X=>by kernel_rfl)
def Q8l(c:Q03)(register:Int)(v:Int):Tree Q03:=
.br (register !=0) (.cn (Nat.blt 0 1&&decide (0≤register∧register<(↑16:Int))) (.lf ({X:=A16.of 0 (List.set (A16.l c.X) register.toNat v),Pc:=c.Pc,B6:=c.B6}))) (.lf c)
def Qav(c:Q03)(register:Int)(v:Int):Q03:=(Q8l c register v).m
abbrev Q4w(c:Q03)(register:Int)(v:Int):Prop:=(Q8l c register v).p
def cpu_set_m:Q0d:=mkP 188 [] true [.agg Q03.sig, .one (.int .i64), .one (.int .u32)] [] (λargs rows=>Q4w (Q03.of (args.getD 0 .dead).cells) (argI args 1) (argI args 2)) (λargs rows=>Qav (Q03.of (args.getD 0 .dead).cells) (argI args 1) (argI args 2)) (λX=> .agg (Q03.cells X)) (λX=>[])
theorem Z2v:Q05 Tryz.prog cpu_set_m:=Q0o Q0j Q0i (.nil) Tryz.func188 Tryz.call188 (λargs rows=>Q8l (Q03.of (args.getD 0 .dead).cells) (argI args 1) (argI args 2)) [] [] 2 (λ_ _ _=>by kernel_rfl) (λ_ _=>rfl) (λ_ _ h=>h) (λ_ X=>by kernel_rfl)
def Q8u(c:Q03)(m:(List Int))(i:Q0g):Tree (Q03×(List Int)):=
.cn (Nat.blt 0 1&&decide (0≤i.B∧i.B<(↑16:Int))) (.lv (Qf7 i.Op) λ(x0:Int)=>let E1:=wrap u32 (List.getD (A16.l c.X) i.B.toNat 0+wrap u32 i.Imm); .an (Q5y c m E1 x0 2) (.lv (Q21 c m E1 x0 2) λ(x1:Int×List Int×Int)=> .br (x1.2.2 !=0) (.lv (Q4v c x1.2.2 E1) λ(x2:Q03)=> .lf (x2,x1.2.1)) (.lv (Qf7 i.Op) λ(x3:Int)=> .an (Q2f x1.2.1 x1.1 x3) (.lv (Q4x x1.2.1 x1.1 x3) λ(x4:Int×Bool)=> .br (i.Op==33) (.an (Q46 x4.1 8) (.lv (Q2g x4.1 8) λ(x5:Int)=> .an (Q4w c i.A x5) (.lv (Qav c i.A x5) λ(x6:Q03)=> .lf ({X:=x6.X,Pc:=wrap u32 (x6.Pc+4),B6:=x6.B6},x1.2.1)))) (.an (Q4w c i.A x4.1) (.lv (Qav c i.A x4.1) λ(x7:Q03)=> .lf ({X:=x7.X,Pc:=wrap u32 (x7.Pc+4),B6:=x7.B6},x1.2.1)))))))
def Q6z(c:Q03)(m:(List Int))(i:Q0g):(Q03×(List Int)):=(Q8u c m i).m
abbrev Qex(c:Q03)(m:(List Int))(i:Q0g):Prop:=(Q8u c m i).p
def Zio:Q0d:=mkP 134 [] true [.agg Q03.sig, .one (.ints .u32), .agg Q0g.sig] [] (λargs rows=>Qex (Q03.of (args.getD 0 .dead).cells) (argL .u32 args 1) (Q0g.of (args.getD 2 .dead).cells)) (λargs rows=>Q6z (Q03.of (args.getD 0 .dead).cells) (argL .u32 args 1) (Q0g.of (args.getD 2 .dead).cells)) (λX=> .tup [.agg (Q03.cells (X.1)), .all 0]) (λX=>[⟨false,23,1, .ints .u32 (X.2)⟩])
theorem Ze3:Q05 Tryz.prog Zio:=Q0o Q0j Q0i (.cons Qj8 (.cons Qun (.cons Qhn (.cons Qb4 (.cons Qih (.cons Z2v (.nil))))))) Tryz.func134 Tryz.call134 (λargs rows=>Q8u (Q03.of (args.getD 0 .dead).cells) (argL .u32 args 1) (Q0g.of (args.getD 2 .dead).cells)) [.row 23 1 (.ints .u32)] [] 2 (λ_ _ _=>by kernel_rfl) (λ_ _=>rfl) (λ_ _ h=>h) (λ_ X=>by kernel_rfl)
def Q74(c:Q03)(m:(List Int))(i:Q0g):Tree (Q03×(List Int)):=
.cn (Nat.blt 0 1&&decide (0≤i.B∧i.B<(↑16:Int))) (.lv (Qf7 i.Op) λ(x0:Int)=>let E1:=wrap u32 (List.getD (A16.l c.X) i.B.toNat 0+wrap u32 i.Imm); .an (Q5y c m E1 x0 3) (.lv (Q21 c m E1 x0 3) λ(x1:Int×List Int×Int)=> .br (x1.2.2 !=0) (.lv (Q4v c x1.2.2 E1) λ(x2:Q03)=> .lf (x2,x1.2.1)) (.lv (Qf7 i.Op) λ(x3:Int)=> .cn (Nat.blt 0 1&&decide (0≤i.A∧i.A<(↑16:Int))) (let E2:=List.getD (A16.l c.X) i.A.toNat 0; .an (Q50 x1.2.1 x1.1 x3 E2) (.lv (Q9z x1.2.1 x1.1 x3 E2) λ(x4:List Int×Bool)=> .lf ({X:=c.X,Pc:=wrap u32 (c.Pc+4),B6:=c.B6},x4.1))))))
def Q8m(c:Q03)(m:(List Int))(i:Q0g):(Q03×(List Int)):=(Q74 c m i).m
abbrev Qd4(c:Q03)(m:(List Int))(i:Q0g):Prop:=(Q74 c m i).p
def Zdf:Q0d:=mkP 135 [] true [.agg Q03.sig, .one (.ints .u32), .agg Q0g.sig] [] (λargs rows=>Qd4 (Q03.of (args.getD 0 .dead).cells) (argL .u32 args 1) (Q0g.of (args.getD 2 .dead).cells)) (λargs rows=>Q8m (Q03.of (args.getD 0 .dead).cells) (argL .u32 args 1) (Q0g.of (args.getD 2 .dead).cells)) (λX=> .tup [.agg (Q03.cells (X.1)), .all 0]) (λX=>[⟨false,23,1, .ints .u32 (X.2)⟩])
theorem Zc2:Q05 Tryz.prog Zdf:=Q0o Q0j Q0i (.cons Qj8 (.cons Qun (.cons Qhn (.cons Qn7 (.nil))))) Tryz.func135 Tryz.call135 (λargs rows=>Q74 (Q03.of (args.getD 0 .dead).cells) (argL .u32 args 1) (Q0g.of (args.getD 2 .dead).cells)) [.row 23 1 (.ints .u32)] [] 2 (λ_ _ _=>by kernel_rfl) (λ_ _=>rfl) (λ_ _ h=>h) (λ_ X=>by kernel_rfl)
def Qxg(op:Int)(a:Int)(b:Int):Tree Bool:=
.br (op==40) (.lf (a==b)) (.br (op==41) (.lf (a !=b)) (.br (op==42) (.lf (decide (wrap i32 a<wrap i32 b))) (.br (op==43) (.lf (decide (wrap i32 a≥wrap i32 b))) (.br (op==44) (.lf (decide (a<b))) (.lf (decide (a≥b)))))))
def Zb1(op:Int)(a:Int)(b:Int):Bool:=(Qxg op a b).m
def Zda:Q0d:=mkR 190 [] true [.one (.int .i64), .one (.int .u32), .one (.int .u32)] [] (λargs rows=>Zb1 (argI args 0) (argI args 1) (argI args 2)) (λX=> .bool X) (λX=>[])
theorem Z9i:Q05 Tryz.prog Zda:=Q0y Q0j Q0i (.nil) Tryz.func190 Tryz.call190 (λargs rows=>Qxg (argI args 0) (argI args 1) (argI args 2)) [] [] 2 (λ_ _ _=>by kernel_rfl) (λ_ _=>rfl) (λ_ _=>Tree.free_ok (by kernel_rfl)) (λ_ X=>by kernel_rfl)
def Qev(c:Q03):Tree Q03:=
.lv (Q95 c.B6.a0 8 1) λ(x0:Int)=> .lv (Q95 x0 16 2) λ(x1:Int)=> .lf ({X:=c.X,Pc:=c.B6.a2,B6:={a0:=x1,a1:=c.B6.a1,a2:=c.B6.a2,a3:=c.B6.a3,a4:=c.B6.a4,a5:=c.B6.a5,a6:=c.B6.a6,a7:=c.B6.a7}})
def Qdw(c:Q03):Q03:=(Qev c).m
def Z8m:Q0d:=mkR 191 [] true [.agg Q03.sig] [] (λargs rows=>Qdw (Q03.of (args.getD 0 .dead).cells)) (λX=> .agg (Q03.cells X)) (λX=>[])
theorem Z7i:Q05 Tryz.prog Z8m:=Q0y Q0j Q0i (.cons Qzw (.nil)) Tryz.func191 Tryz.call191 (λargs rows=>Qev (Q03.of (args.getD 0 .dead).cells)) [] [] 2 (λ_ _ _=>by kernel_rfl) (λ_ _=>rfl) (λ_ _=>Tree.free_ok (by kernel_rfl)) (λ_ X=>by kernel_rfl)
def Q73(c:Q03)(csr:Int)(v:Int):Tree Q03:=
let E4:=Nat.blt 0 1&&decide (0≤csr∧csr<(↑8:Int));let T2:Tree (Q03):= .cn E4 (.lf ({X:=c.X,Pc:=c.Pc,B6:=A8.of 0 (List.set (A8.l c.B6) csr.toNat (iand u32 v 31))})); .br (csr==0) T2 (.br (csr==7) T2 (.br (csr==6) (.cn E4 (.lf ({X:=c.X,Pc:=c.Pc,B6:=A8.of 0 (List.set (A8.l c.B6) csr.toNat (iand u32 v 255))}))) (let T3:Tree (Q03):= .cn E4 (.lf ({X:=c.X,Pc:=c.Pc,B6:=A8.of 0 (List.set (A8.l c.B6) csr.toNat (Qft u32 v 3))})); .br (csr==1) T3 (.br (csr==2) T3 (let T1:Tree (Q03):= .cn E4 (.lf ({X:=c.X,Pc:=c.Pc,B6:=A8.of 0 (List.set (A8.l c.B6) csr.toNat v)})); .br (csr==3) T1 (.br (csr==4) T1 (.br (csr==5) T1 (.lf c))))))))
def Z9c(c:Q03)(csr:Int)(v:Int):Q03:=(Q73 c csr v).m
abbrev Qcf(c:Q03)(csr:Int)(v:Int):Prop:=(Q73 c csr v).p
def Zdp:Q0d:=mkP 192 [] true [.agg Q03.sig, .one (.int .i64), .one (.int .u32)] [] (λargs rows=>Qcf (Q03.of (args.getD 0 .dead).cells) (argI args 1) (argI args 2)) (λargs rows=>Z9c (Q03.of (args.getD 0 .dead).cells) (argI args 1) (argI args 2)) (λX=> .agg (Q03.cells X)) (λX=>[])
theorem Z9f:Q05 Tryz.prog Zdp:=Q0o Q0j Q0i (.nil) Tryz.func192 Tryz.call192 (λargs rows=>Q73 (Q03.of (args.getD 0 .dead).cells) (argI args 1) (argI args 2)) [] [] 2 (λ_ _ _=>by kernel_rfl) (λ_ _=>rfl) (λ_ _ h=>h) (λ_ X=>by kernel_rfl)
def Q35(c:Q03)(i:Q0g):Tree (Q03×Q1):=
.cn (Nat.blt 0 1&&decide (0≤i.A∧i.A<(↑16:Int))) (.cn (Nat.blt 0 1&&decide (0≤i.B∧i.B<(↑16:Int))) (.br (i.Op==24) (.an (Q4w c i.A (ishl u32 (wrap u32 i.Imm) 16)) (.lv (Qav c i.A (ishl u32 (wrap u32 i.Imm) 16)) λ(x0:Q03)=> .lf ({X:=x0.X,Pc:=wrap u32 (c.Pc+4),B6:=x0.B6},{B5:=0,D0:=0,D9:=0,Value:=0}))) (let E2:=({X:=c.X,Pc:=wrap u32 (c.Pc+4),B6:=c.B6}:Q03);let E3:=List.getD (A16.l c.X) i.B.toNat 0;let E4:=List.getD (A16.l c.X) i.A.toNat 0;let T1:Tree ((Q03×Q1)):= .lv (Zb1 i.Op E4 E3) λ(x1:Bool)=> .br x1 (.lf ({X:=c.X,Pc:=wrap u32 (c.Pc+wrap u32 (4*wrap u32 i.Imm)),B6:=c.B6},{B5:=0,D0:=0,D9:=0,Value:=0})) (.lf (E2,{B5:=0,D0:=0,D9:=0,Value:=0})); .br (i.Op==40) T1 (.br (i.Op==41) T1 (.br (i.Op==42) T1 (.br (i.Op==43) T1 (.br (i.Op==44) T1 (.br (i.Op==45) T1 (.br (i.Op==48) (.an (Q4w c i.A (wrap u32 (c.Pc+4))) (.lv (Qav c i.A (wrap u32 (c.Pc+4))) λ(x7:Q03)=> .lf ({X:=x7.X,Pc:=wrap u32 (x7.Pc+wrap u32 (4*wrap u32 i.Imm)),B6:=x7.B6},{B5:=0,D0:=0,D9:=0,Value:=0}))) (.br (i.Op==49) (.an (Q4w c i.A (wrap u32 (c.Pc+4))) (.lv (Qav c i.A (wrap u32 (c.Pc+4))) λ(x8:Q03)=> .lf ({X:=x8.X,Pc:=wrap u32 (List.getD (A16.l c.X) i.B.toNat 0+wrap u32 i.Imm),B6:=x8.B6},{B5:=0,D0:=0,D9:=0,Value:=0}))) (.br (i.Op==56) (.lv (Q4v c 7 0) λ(x9:Q03)=> .lf (x9,{B5:=0,D0:=0,D9:=0,Value:=0})) (.br (i.Op==57) (.lv (Qdw c) λ(x10:Q03)=> .lf (x10,{B5:=0,D0:=0,D9:=0,Value:=0})) (.br (i.Op==58) (.cn (Nat.blt 0 1&&decide (0≤i.Imm∧i.Imm<(↑8:Int))) (let E5:=List.getD (A8.l c.B6) i.Imm.toNat 0; .an (Q4w c i.A E5) (.lv (Qav c i.A E5) λ(x11:Q03)=> .lf ({X:=x11.X,Pc:=wrap u32 (c.Pc+4),B6:=x11.B6},{B5:=0,D0:=0,D9:=0,Value:=0})))) (.br (i.Op==59) (.an (Qcf c (wrap i64 i.Imm) E4) (.lv (Z9c c (wrap i64 i.Imm) E4) λ(x12:Q03)=> .lf ({X:=x12.X,Pc:=wrap u32 (c.Pc+4),B6:=x12.B6},{B5:=0,D0:=0,D9:=0,Value:=0}))) (.br (i.Op==60) (.lf (E2,{B5:=1,D0:=wrap i64 i.Imm,D9:=i.A,Value:=0})) (.br (i.Op==61) (.lf (E2,{B5:=2,D0:=wrap i64 i.Imm,D9:=0,Value:=List.getD (A16.l c.X) i.A.toNat 0})) (.br (i.Op==62) (.lf (E2,{B5:=3,D0:=0,D9:=0,Value:=0})) (.br (i.Op==63) (.lf (E2,{B5:=5,D0:=0,D9:=0,Value:=0})) (.br (i.Op==64) (.lf (E2,{B5:=4,D0:=0,D9:=0,Value:=0})) (.cn (Nat.blt 0 1&&decide (0≤i.C∧i.C<(↑16:Int))) (.br (decide (i.Op≥16)) (.an (Qe1 i.Op E3 (wrap u32 i.Imm)) (.lv (Q4p i.Op E3 (wrap u32 i.Imm)) λ(x13:Int×Bool)=> .an (Q4w c i.A x13.1) (.lv (Qav c i.A x13.1) λ(x14:Q03)=> .lf ({X:=x14.X,Pc:=wrap u32 (c.Pc+4),B6:=x14.B6},{B5:=0,D0:=0,D9:=0,Value:=0})))) (let E6:=List.getD (A16.l c.X) i.C.toNat 0; .an (Qe1 i.Op E3 E6) (.lv (Q4p i.Op E3 E6) λ(x15:Int×Bool)=> .an (Q4w c i.A x15.1) (.lv (Qav c i.A x15.1) λ(x16:Q03)=> .lf ({X:=x16.X,Pc:=wrap u32 (c.Pc+4),B6:=x16.B6},{B5:=0,D0:=0,D9:=0,Value:=0})))))))))))))))))))))))))
def Qko(c:Q03)(i:Q0g):(Q03×Q1):=(Q35 c i).m
abbrev Q9b(c:Q03)(i:Q0g):Prop:=(Q35 c i).p
def Z4q:Q0d:=mkP 136 [] true [.agg Q03.sig, .agg Q0g.sig] [] (λargs rows=>Q9b (Q03.of (args.getD 0 .dead).cells) (Q0g.of (args.getD 1 .dead).cells)) (λargs rows=>Qko (Q03.of (args.getD 0 .dead).cells) (Q0g.of (args.getD 1 .dead).cells)) (λX=> .tup [.agg (Q03.cells (X.1)), .agg (Q1.cells (X.2))]) (λX=>[])
theorem Z16:Q05 Tryz.prog Z4q:=Q0o Q0j Q0i (.cons Z2v (.cons Z9i (.cons Qhn (.cons Z7i (.cons Z9f (.cons Zj (.nil))))))) Tryz.func136 Tryz.call136 (λargs rows=>Q35 (Q03.of (args.getD 0 .dead).cells) (Q0g.of (args.getD 1 .dead).cells)) [] [] 2 (λ_ _ _=>by kernel_rfl) (λ_ _=>rfl) (λ_ _ h=>h) (λ_ X=>by kernel_rfl)
def Q6g(c:Q03)(m:(List Int)):Tree (Q03×(List Int)×Q1):=
.an (Qcr c m) (.lv (Qmh c m) λ(x0:Int×List Int×Int)=> .br (x0.2.2 !=0) (.lv (Q4v c x0.2.2 c.Pc) λ(x1:Q03)=> .lf (x1,x0.2.1,{B5:=0,D0:=0,D9:=0,Value:=0})) (.an (Qb8 x0.1) (.lv (Qgc x0.1) λ(x2:Q0g×Bool)=> .br (!x2.2) (.lv (Q4v c 1 x0.1) λ(x3:Q03)=> .lf (x3,x0.2.1,{B5:=0,D0:=0,D9:=0,Value:=0})) (.lv (Q8q x2.1.Op) λ(x4:Bool)=>let T1:Tree ((Q03×(List Int)×Q1)):=let T2:Tree ((Q03×(List Int)×Q1)):= .an (Qex c x0.2.1 x2.1) (.lv (Q6z c x0.2.1 x2.1) λ(x7:Q03×List Int)=> .lf (x7.1,x7.2,{B5:=0,D0:=0,D9:=0,Value:=0})); .br (x2.1.Op==32) T2 (.br (x2.1.Op==33) T2 (.br (x2.1.Op==34) T2 (let T3:Tree ((Q03×(List Int)×Q1)):= .an (Qd4 c x0.2.1 x2.1) (.lv (Q8m c x0.2.1 x2.1) λ(x10:Q03×List Int)=> .lf (x10.1,x10.2,{B5:=0,D0:=0,D9:=0,Value:=0})); .br (x2.1.Op==35) T3 (.br (x2.1.Op==36) T3 (.an (Q9b c x2.1) (.lv (Qko c x2.1) λ(x12:Q03×Q1)=> .lf (x12.1,x0.2.1,x12.2))))))); .br x4 (.lv (Qaa c) λ(x5:Bool)=> .br (!x5) (.lv (Q4v c 2 x0.1) λ(x6:Q03)=> .lf (x6,x0.2.1,{B5:=0,D0:=0,D9:=0,Value:=0})) T1) T1))))
def Q85(c:Q03)(m:(List Int)):(Q03×(List Int)×Q1):=(Q6g c m).m
abbrev Qc5(c:Q03)(m:(List Int)):Prop:=(Q6g c m).p
def Zj0:Q0d:=mkP 98 [] true [.agg Q03.sig, .one (.ints .u32)] [] (λargs rows=>Qc5 (Q03.of (args.getD 0 .dead).cells) (argL .u32 args 1)) (λargs rows=>Q85 (Q03.of (args.getD 0 .dead).cells) (argL .u32 args 1)) (λX=> .tup [.agg (Q03.cells (X.1)), .all 0, .agg (Q1.cells (X.2.2))]) (λX=>[⟨false,23,1, .ints .u32 (X.2.1)⟩])
theorem Qyt:Q05 Tryz.prog Zj0:=Q0o Q0j Q0i (.cons Z85 (.cons Qhn (.cons Z54 (.cons Qsz (.cons Qri (.cons Ze3 (.cons Zc2 (.cons Z16 (.nil))))))))) Tryz.func98 Tryz.call98 (λargs rows=>Q6g (Q03.of (args.getD 0 .dead).cells) (argL .u32 args 1)) [.row 23 1 (.ints .u32)] [] 2 (λ_ _ _=>by kernel_rfl) (λ_ _=>rfl) (λ_ _ h=>h) (λ_ X=>by kernel_rfl)
end
end Go.Proofs.YtpcbkbalabgnlaaGreat

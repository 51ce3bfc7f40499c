/-
  Functions of the program: models, and that its calls come to them (by a program: gen3.py).
-/
import Derived.Test.YtpcbkbalabgnlaaGreatRecordBareBase
import Derived.Test.YtpcbkbalabgnlaaGreatRecordBareYa
set_option maxRecDepth 100000
set_option linter.unusedVariables false
set_option linter.unusedSimpArgs false
namespace Go.Proofs.YtpcbkbalabgnlaaGreat
open Go Go.GD Go.IntKind
noncomputable section
def Qoz(status:Int)(from0:Int)(to:Int):Tree Int:=
.br (iand u32 status from0 !=0) (.lf (ior u32 status to)) (.lf (Qgm u32 status to))
def Q9f(status:Int)(from0:Int)(to:Int):Int:=(Qoz status from0 to).m
def Zlu:Q0d:=mkR 180 [] true [.one (.int .u32), .one (.int .u32), .one (.int .u32)] [] (λargs rows=>Q9f (argI args 0) (argI args 1) (argI args 2)) (λX=> .int .u32 X) (λX=>[])
theorem Qyx:Q07 Tryz.prog Zlu:=Q10 Q0j Q0k (.nil) Tryz.func180 Tryz.call180 (λargs rows=>Qoz (argI args 0) (argI args 1) (argI args 2)) [] [] 2 (λ_ _ _=>by kernel_rfl) (λ_ _=>rfl) (λ_ _=>Tree.free_ok (by kernel_rfl)) (λ_ X=>by kernel_rfl)
def Qkk(c:Q04)(cause:Int)(bad:Int):Tree Q04:=
.lv (Q9f c.B6.a0 1 8) λ(x0:Int)=> .lv (Q9f x0 2 16) λ(x1:Int)=> .lf ({X:=c.X,Pc:=c.B6.a1,B6:={a0:=Qgm u32 (ior u32 x1 1) 2,a1:=c.B6.a1,a2:=c.Pc,a3:=wrap u32 cause,a4:=bad,a5:=c.B6.a5,a6:=c.B6.a6,a7:=c.B6.a7}})
def Q5(c:Q04)(cause:Int)(bad:Int):Q04:=(Qkk c cause bad).m
def Zlt:Q0d:=mkR 129 [] true [.agg Q04.sig, .one (.int .i64), .one (.int .u32)] [] (λargs rows=>Q5 (Q04.of (args.getD 0 .dead).cells) (argI args 1) (argI args 2)) (λX=> .agg (Q04.cells X)) (λX=>[])
theorem Qhs:Q07 Tryz.prog Zlt:=Q10 Q0j Q0k (.cons Qyx (.nil)) Tryz.func129 Tryz.call129 (λargs rows=>Qkk (Q04.of (args.getD 0 .dead).cells) (argI args 1) (argI args 2)) [] [] 2 (λ_ _ _=>by kernel_rfl) (λ_ _=>rfl) (λ_ _=>Tree.free_ok (by kernel_rfl)) (λ_ X=>by kernel_rfl)
def Qs7(access:Int):Tree (Int×Bool):=
.br (access==1) (.lf (4,true)) (.br (access==2) (.lf (5,true)) (.br (access==3) (.lf (6,true)) (.lf (5,false))))
def Qqb(access:Int):(Int×Bool):=(Qs7 access).m
def Z70:Q0d:=mkR 225 [] true [.one (.int .i64)] [] (λargs rows=>Qqb (argI args 0)) (λX=> .tup [.int .i64 (X.1), .bool (X.2)]) (λX=>[])
theorem Z3a:Q07 Tryz.prog Z70:=Q10 Q0j Q0k (.nil) Tryz.func225 Tryz.call225 (λargs rows=>Qs7 (argI args 0)) [] [] 2 (λ_ _ _=>by kernel_rfl) (λ_ _=>rfl) (λ_ _=>Tree.free_ok (by kernel_rfl)) (λ_ X=>by kernel_rfl)
def Qwe(c:Q04):Tree Bool:=
.lf (iand u32 c.B6.a0 (1:Int) !=(0:Int))
def Qaw(c:Q04):Bool:=(Qwe c).m
def Ze0:Q0d:=mkR 133 [] true [.agg Q04.sig] [] (λargs rows=>Qaw (Q04.of (args.getD 0 .dead).cells)) (λX=> .bool X) (λX=>[])
theorem Qt4:Q07 Tryz.prog Ze0:=Q10 Q0j Q0k (.nil) Tryz.func133 Tryz.call133 (λargs rows=>Qwe (Q04.of (args.getD 0 .dead).cells)) [] [] 2 (λ_ _ _=>by kernel_rfl) (λ_ _=>rfl) (λ_ _=>Tree.free_ok (by kernel_rfl)) (λ_ X=>by kernel_rfl)
def Qmg(access:Int):Tree (Int×Bool):=
.br (access==1) (.lf (4,true)) (.br (access==2) (.lf (5,true)) (.br (access==3) (.lf (6,true)) (.lf (5,false))))
def Qjo(access:Int):(Int×Bool):=(Qmg access).m
def Qxw:Q0d:=mkR 244 [] true [.one (.int .i64)] [] (λargs rows=>Qjo (argI args 0)) (λX=> .tup [.int .i64 (X.1), .bool (X.2)]) (λX=>[])
theorem Qvp:Q07 Tryz.prog Qxw:=Q10 Q0j Q0k (.nil) Tryz.func244 Tryz.call244 (λargs rows=>Qmg (argI args 0)) [] [] 2 (λ_ _ _=>by kernel_rfl) (λ_ _=>rfl) (λ_ _=>Tree.free_ok (by kernel_rfl)) (λ_ X=>by kernel_rfl)
def Qha(m:(List Int))(frame:Int):Tree Bool:=
.lv (Q0w m) λ(x0:Int)=> .lf (decide (wrap u64 frame<wrap u64 x0))
def Qal(m:(List Int))(frame:Int):Bool:=(Qha m frame).m
def Qyj:Q0d:=mkR 245 [] true [.one (.ints .u32), .one (.int .u32)] [] (λargs rows=>Qal (argL .u32 args 0) (argI args 1)) (λX=> .bool X) (λX=>[])
theorem Qww:Q07 Tryz.prog Qyj:=Q10 Q0j Q0k (.cons Q4r (.nil)) Tryz.func245 Tryz.call245 (λargs rows=>Qha (argL .u32 args 0) (argI args 1)) [] [] 2 (λ_ _ _=>by kernel_rfl) (λ_ _=>rfl) (λ_ _=>Tree.free_ok (by kernel_rfl)) (λ_ X=>by kernel_rfl)
def Q5r(m:(List Int))(addr:Int)(size:Int):Tree (Int×Bool):=
.an (Q5z m addr size) (.lv (Qgo m addr size) λ(x0:Bool)=> .br (!x0) (.lf (0,false)) (.cn (Nat.beq 1 1&&Nat.blt 0 1&&decide (0≤wrap u32 (Int.tdiv addr 4)∧wrap u32 (Int.tdiv addr 4)<(m.length:Int))) (let E1:=Int.toNat (wrap u32 (Int.tdiv addr 4)); .br (size==1) (let E2:=wrap i64 (wrap i64 (Int.tmod addr 4)*8); .an (Q3r (m.getD E1 0) E2 8) (.lv (Q3j (m.getD E1 0) E2 8) λ(x1:Int)=> .lf (x1,true))) (.lf (m.getD E1 0,true)))))
def Q54(m:(List Int))(addr:Int)(size:Int):(Int×Bool):=(Q5r m addr size).m
abbrev Q2o(m:(List Int))(addr:Int)(size:Int):Prop:=(Q5r m addr size).p
def Z9g:Q0d:=mkP 182 [] true [.one (.ints .u32), .one (.int .u32), .one (.int .i64)] [] (λargs rows=>Q2o (argL .u32 args 0) (argI args 1) (argI args 2)) (λargs rows=>Q54 (argL .u32 args 0) (argI args 1) (argI args 2)) (λX=> .tup [.int .u32 (X.1), .bool (X.2)]) (λX=>[])
theorem Qby:Q07 Tryz.prog Z9g:=Q0p Q0j Q0k (.cons Qma (.cons Qlg (.nil))) Tryz.func182 Tryz.call182 (λargs rows=>Q5r (argL .u32 args 0) (argI args 1) (argI args 2)) [] [] 2 (λ_ _ _=>by kernel_rfl) (λ_ _=>rfl) (λ_ _ h=>h) (λ_ X=>by kernel_rfl)
def Qme(pte:Int)(access:Int):Tree Bool:=
.br (iand u32 pte (1:Int)==(0:Int)) (.lf false) (.br (access==3) (.lf (iand u32 pte (2:Int) !=(0:Int))) (.br (access==1) (.lf (iand u32 pte (4:Int) !=(0:Int))) (.lf true)))
def Qbn(pte:Int)(access:Int):Bool:=(Qme pte access).m
def Qx4:Q0d:=mkR 246 [] true [.one (.int .u32), .one (.int .i64)] [] (λargs rows=>Qbn (argI args 0) (argI args 1)) (λX=> .bool X) (λX=>[])
theorem Qvm:Q07 Tryz.prog Qx4:=Q10 Q0j Q0k (.nil) Tryz.func246 Tryz.call246 (λargs rows=>Qme (argI args 0) (argI args 1)) [] [] 2 (λ_ _ _=>by kernel_rfl) (λ_ _=>rfl) (λ_ _=>Tree.free_ok (by kernel_rfl)) (λ_ X=>by kernel_rfl)
def Q43(pte:Int):Tree Int:=
.an (Q3r pte 8 8) (.lv (Q3j pte 8 8) λ(x0:Int)=> .lf x0)
def Qeo(pte:Int):Int:=(Q43 pte).m
abbrev Q52(pte:Int):Prop:=(Q43 pte).p
def Qx:Q0d:=mkP 247 [] true [.one (.int .u32)] [] (λargs rows=>Q52 (argI args 0)) (λargs rows=>Qeo (argI args 0)) (λX=> .int .u32 X) (λX=>[])
theorem Quy:Q07 Tryz.prog Qx:=Q0p Q0j Q0k (.cons Qlg (.nil)) Tryz.func247 Tryz.call247 (λargs rows=>Q43 (argI args 0)) [] [] 2 (λ_ _ _=>by kernel_rfl) (λ_ _=>rfl) (λ_ _ h=>h) (λ_ X=>by kernel_rfl)
def Q5q(m:(List Int))(root:Int)(va:Int)(access:Int):Tree Q1a:=
.lv (Qjo access) λ(x0:Int×Bool)=>let E1:=({Addr:=0,F2:=0,F0:=x0.1}:Q1a); .br (!x0.2) (.lf (E1)) (.br (decide (va≥4096)) (.lf (E1)) (.lv (Qal m root) λ(x1:Bool)=> .br (!x1) (.lf (E1)) (let E2:=wrap u32 (root*128)+wrap u32 (4*wrap u32 (Int.tdiv va 128)); .an (Q2o m (wrap u32 E2) 4) (.lv (Q54 m (wrap u32 E2) 4) λ(x2:Int×Bool)=> .br (!x2.2) (.lf (E1)) (.lv (Qbn x2.1 access) λ(x3:Bool)=> .br (!x3) (.lf (E1)) (.an (Q52 x2.1) (.lv (Qeo x2.1) λ(x4:Int)=> .lv (Qal m x4) λ(x5:Bool)=> .br (!x5) (.lf (E1)) (.an (Q52 x2.1) (.lv (Qeo x2.1) λ(x6:Int)=> .lf ({Addr:=wrap u32 (wrap u32 (x6*128)+Int.tmod va 128),F2:=wrap u32 E2,F0:=0}))))))))))
def Qhh(m:(List Int))(root:Int)(va:Int)(access:Int):Q1a:=(Q5q m root va access).m
abbrev Q7x(m:(List Int))(root:Int)(va:Int)(access:Int):Prop:=(Q5q m root va access).p
def Z7s:Q0d:=mkP 226 [] true [.one (.ints .u32), .one (.int .u32), .one (.int .u32), .one (.int .i64)] [] (λargs rows=>Q7x (argL .u32 args 0) (argI args 1) (argI args 2) (argI args 3)) (λargs rows=>Qhh (argL .u32 args 0) (argI args 1) (argI args 2) (argI args 3)) (λX=> .agg (Q1a.cells X)) (λX=>[])
theorem Z3q:Q07 Tryz.prog Z7s:=Q0p Q0j Q0k (.cons Qvp (.cons Qww (.cons Qby (.cons Qvm (.cons Quy (.nil)))))) Tryz.func226 Tryz.call226 (λargs rows=>Q5q (argL .u32 args 0) (argI args 1) (argI args 2) (argI args 3)) [] [] 2 (λ_ _ _=>by kernel_rfl) (λ_ _=>rfl) (λ_ _ h=>h) (λ_ X=>by kernel_rfl)
def Q4m(m:(List Int))(entry:Int)(access:Int):Tree (List Int):=
.an (Q2o m entry 4) (.lv (Q54 m entry 4) λ(x0:Int×Bool)=> .br (!x0.2) (.an (Q05 m) (.lv (Q02 m) λ(x1:List Int)=> .lf x1)) (.br (access==3) (.an (Q59 m entry 4 (ior u32 (ior u32 x0.1 8) 16)) (.lv (Q9o m entry 4 (ior u32 (ior u32 x0.1 8) 16)) λ(x2:List Int×Bool)=> .lf x2.1)) (.an (Q59 m entry 4 (ior u32 x0.1 8)) (.lv (Q9o m entry 4 (ior u32 x0.1 8)) λ(x3:List Int×Bool)=> .lf x3.1))))
def Qcl(m:(List Int))(entry:Int)(access:Int):(List Int):=(Q4m m entry access).m
abbrev Q6p(m:(List Int))(entry:Int)(access:Int):Prop:=(Q4m m entry access).p
def Z3l:Q0d:=mkP 227 [] true [.one (.ints .u32), .one (.int .u32), .one (.int .i64)] [] (λargs rows=>Q6p (argL .u32 args 0) (argI args 1) (argI args 2)) (λargs rows=>Qcl (argL .u32 args 0) (argI args 1) (argI args 2)) (λX=> .all 0) (λX=>[⟨false,23,1, .ints .u32 X⟩])
theorem Z0h:Q07 Tryz.prog Z3l:=Q0p Q0j Q0k (.cons Qby (.cons Q0t (.cons Qnt (.nil)))) Tryz.func227 Tryz.call227 (λargs rows=>Q4m (argL .u32 args 0) (argI args 1) (argI args 2)) [.row 23 1 (.ints .u32)] [] 2 (λ_ _ _=>by kernel_rfl) (λ_ _=>rfl) (λ_ _ h=>h) (λ_ X=>by kernel_rfl)
def Q5o(c:Q04)(m:(List Int))(va:Int)(size:Int)(access:Int):Tree (Int×(List Int)×Int):=
.lv (Qqb access) λ(x0:Int×Bool)=>let T3:Tree ((Int×(List Int)×Int)):= .an (Q05 m) (.lv (Q02 m) λ(x1:List Int)=> .lf (0,x1,5)); .br (!x0.2) T3 (let T1:Tree ((Int×(List Int)×Int)):= .cn (decide (wrap u32 size≠0)) (.br (Int.tmod va (wrap u32 size) !=0) (.an (Q05 m) (.lv (Q02 m) λ(x3:List Int)=> .lf (0,x3,3))) (.lv (Qaw c) λ(x4:Bool)=>let T2:Tree ((Int×(List Int)×Int)):= .an (Q2o m va size) (.lv (Q54 m va size) λ(x8:Int×Bool)=> .br (!x8.2) (.an (Q05 m) (.lv (Q02 m) λ(x9:List Int)=> .lf (0,x9,x0.1))) (.an (Q05 m) (.lv (Q02 m) λ(x10:List Int)=> .lf (va,x10,0)))); .br (!x4) (.br (iand u32 c.B6.a0 (4:Int) !=(0:Int)) (.an (Q7x m c.B6.a6 va access) (.lv (Qhh m c.B6.a6 va access) λ(x5:Q1a)=> .br (x5.F0 !=0) (.an (Q05 m) (.lv (Q02 m) λ(x6:List Int)=> .lf (0,x6,x5.F0))) (.an (Q6p m x5.F2 access) (.lv (Qcl m x5.F2 access) λ(x7:List Int)=> .lf (x5.Addr,x7,0))))) T2) T2)); .br (size !=1) (.br (size !=4) T3 T1) T1)
def Q29(c:Q04)(m:(List Int))(va:Int)(size:Int)(access:Int):(Int×(List Int)×Int):=(Q5o c m va size access).m
abbrev Q63(c:Q04)(m:(List Int))(va:Int)(size:Int)(access:Int):Prop:=(Q5o c m va size access).p
def Z8q:Q0d:=mkP 181 [] true [.agg Q04.sig, .one (.ints .u32), .one (.int .u32), .one (.int .i64), .one (.int .i64)] [] (λargs rows=>Q63 (Q04.of (args.getD 0 .dead).cells) (argL .u32 args 1) (argI args 2) (argI args 3) (argI args 4)) (λargs rows=>Q29 (Q04.of (args.getD 0 .dead).cells) (argL .u32 args 1) (argI args 2) (argI args 3) (argI args 4)) (λX=> .tup [.int .u32 (X.1), .all 0, .int .i64 (X.2.2)]) (λX=>[⟨false,23,1, .ints .u32 (X.2.1)⟩])
theorem Qjn:Q07 Tryz.prog Z8q:=Q0p Q0j Q0k (.cons Z3a (.cons Q0t (.cons Qt4 (.cons Z3q (.cons Z0h (.cons Qby (.nil))))))) Tryz.func181 Tryz.call181 (λargs rows=>Q5o (Q04.of (args.getD 0 .dead).cells) (argL .u32 args 1) (argI args 2) (argI args 3) (argI args 4)) [.row 23 1 (.ints .u32)] [] 2 (λ_ _ _=>by kernel_rfl) (λ_ _=>rfl) (λ_ _ h=>h) (λ_ X=>by kernel_rfl)
def Q9w(c:Q04)(m:(List Int)):Tree (Int×(List Int)×Int):=
.an (Q63 c m c.Pc 4 1) (.lv (Q29 c m c.Pc 4 1) λ(x0:Int×List Int×Int)=> .br (x0.2.2 !=0) (.lf (0,x0.2.1,x0.2.2)) (.an (Q2o x0.2.1 x0.1 4) (.lv (Q54 x0.2.1 x0.1 4) λ(x1:Int×Bool)=> .lf (x1.1,x0.2.1,0))))
def Qn2(c:Q04)(m:(List Int)):(Int×(List Int)×Int):=(Q9w c m).m
abbrev Qcs(c:Q04)(m:(List Int)):Prop:=(Q9w c m).p
def Zej:Q0d:=mkP 130 [] true [.agg Q04.sig, .one (.ints .u32)] [] (λargs rows=>Qcs (Q04.of (args.getD 0 .dead).cells) (argL .u32 args 1)) (λargs rows=>Qn2 (Q04.of (args.getD 0 .dead).cells) (argL .u32 args 1)) (λX=> .tup [.int .u32 (X.1), .all 0, .int .i64 (X.2.2)]) (λX=>[⟨false,23,1, .ints .u32 (X.2.1)⟩])
theorem Za9:Q07 Tryz.prog Zej:=Q0p Q0j Q0k (.cons Qjn (.cons Qby (.nil))) Tryz.func130 Tryz.call130 (λargs rows=>Q9w (Q04.of (args.getD 0 .dead).cells) (argL .u32 args 1)) [.row 23 1 (.ints .u32)] [] 2 (λ_ _ _=>by kernel_rfl) (λ_ _=>rfl) (λ_ _ h=>h) (λ_ X=>by kernel_rfl)
def Qm6(op:Int):Tree Bool:=
.br (op==57) (.lf true) (.br (op==58) (.lf true) (.br (op==59) (.lf true) (.br (op==60) (.lf true) (.br (op==61) (.lf true) (.br (op==62) (.lf true) (.br (op==63) (.lf true) (.br (op==64) (.lf true) (.lf false))))))))
def Q96(op:Int):Bool:=(Qm6 op).m
def Qxj:Q0d:=mkR 132 [] true [.one (.int .i64)] [] (λargs rows=>Q96 (argI args 0)) (λX=> .bool X) (λX=>[])
theorem Qtj:Q07 Tryz.prog Qxj:=Q10 Q0j Q0k (.nil) Tryz.func132 Tryz.call132 (λargs rows=>Qm6 (argI args 0)) [] [] 2 (λ_ _ _=>by kernel_rfl) (λ_ _=>rfl) (λ_ _=>Tree.free_ok (by kernel_rfl)) (λ_ X=>by kernel_rfl)
def Qq8(op:Int):Tree Int:=
.br (op==32) (.lf 4) (.br (op==35) (.lf 4) (.lf 1))
def Qfi(op:Int):Int:=(Qq8 op).m
def Zgt:Q0d:=mkR 187 [] true [.one (.int .i64)] [] (λargs rows=>Qfi (argI args 0)) (λX=> .int .i64 X) (λX=>[])
theorem Qwb:Q07 Tryz.prog Zgt:=Q10 Q0j Q0k (.nil) Tryz.func187 Tryz.call187 (λargs rows=>Qq8 (argI args 0)) [] [] 2 (λ_ _ _=>by kernel_rfl) (λ_ _=>rfl) (λ_ _=>Tree.free_ok (by kernel_rfl)) (λ_ X=>by kernel_rfl)
def Q8z(c:Q04)(register:Int)(v:Int):Tree Q04:=
.br (register !=0) (.cn (Nat.blt 0 1&&decide (0≤register∧register<(↑16:Int))) (.lf ({X:=A16.of 0 (List.set (A16.l c.X) register.toNat v),Pc:=c.Pc,B6:=c.B6}))) (.lf c)
def Qb7(c:Q04)(register:Int)(v:Int):Q04:=(Q8z c register v).m
abbrev Q5b(c:Q04)(register:Int)(v:Int):Prop:=(Q8z c register v).p
def cpu_set_m:Q0d:=mkP 188 [] true [.agg Q04.sig, .one (.int .i64), .one (.int .u32)] [] (λargs rows=>Q5b (Q04.of (args.getD 0 .dead).cells) (argI args 1) (argI args 2)) (λargs rows=>Qb7 (Q04.of (args.getD 0 .dead).cells) (argI args 1) (argI args 2)) (λX=> .agg (Q04.cells X)) (λX=>[])
theorem Z4a:Q07 Tryz.prog cpu_set_m:=Q0p Q0j Q0k (.nil) Tryz.func188 Tryz.call188 (λargs rows=>Q8z (Q04.of (args.getD 0 .dead).cells) (argI args 1) (argI args 2)) [] [] 2 (λ_ _ _=>by kernel_rfl) (λ_ _=>rfl) (λ_ _ h=>h) (λ_ X=>by kernel_rfl)
def Q93(c:Q04)(m:(List Int))(i:Q0i):Tree (Q04×(List Int)):=
.cn (Nat.blt 0 1&&decide (0≤i.B∧i.B<(↑16:Int))) (.lv (Qfi i.Op) λ(x0:Int)=>let E1:=wrap u32 (List.getD (A16.l c.X) i.B.toNat 0+wrap u32 i.Imm); .an (Q63 c m E1 x0 2) (.lv (Q29 c m E1 x0 2) λ(x1:Int×List Int×Int)=> .br (x1.2.2 !=0) (.lv (Q5 c x1.2.2 E1) λ(x2:Q04)=> .lf (x2,x1.2.1)) (.lv (Qfi i.Op) λ(x3:Int)=> .an (Q2o x1.2.1 x1.1 x3) (.lv (Q54 x1.2.1 x1.1 x3) λ(x4:Int×Bool)=> .br (i.Op==33) (.an (Q4b x4.1 8) (.lv (Q2n x4.1 8) λ(x5:Int)=> .an (Q5b c i.A x5) (.lv (Qb7 c i.A x5) λ(x6:Q04)=> .lf ({X:=x6.X,Pc:=wrap u32 (x6.Pc+4),B6:=x6.B6},x1.2.1)))) (.an (Q5b c i.A x4.1) (.lv (Qb7 c i.A x4.1) λ(x7:Q04)=> .lf ({X:=x7.X,Pc:=wrap u32 (x7.Pc+4),B6:=x7.B6},x1.2.1)))))))
def Q6v(c:Q04)(m:(List Int))(i:Q0i):(Q04×(List Int)):=(Q93 c m i).m
abbrev Qf(c:Q04)(m:(List Int))(i:Q0i):Prop:=(Q93 c m i).p
def Zln:Q0d:=mkP 134 [] true [.agg Q04.sig, .one (.ints .u32), .agg Q0i.sig] [] (λargs rows=>Qf (Q04.of (args.getD 0 .dead).cells) (argL .u32 args 1) (Q0i.of (args.getD 2 .dead).cells)) (λargs rows=>Q6v (Q04.of (args.getD 0 .dead).cells) (argL .u32 args 1) (Q0i.of (args.getD 2 .dead).cells)) (λX=> .tup [.agg (Q04.cells (X.1)), .all 0]) (λX=>[⟨false,23,1, .ints .u32 (X.2)⟩])
theorem Zgy:Q07 Tryz.prog Zln:=Q0p Q0j Q0k (.cons Qjn (.cons Qwb (.cons Qhs (.cons Qby (.cons Qjl (.cons Z4a (.nil))))))) Tryz.func134 Tryz.call134 (λargs rows=>Q93 (Q04.of (args.getD 0 .dead).cells) (argL .u32 args 1) (Q0i.of (args.getD 2 .dead).cells)) [.row 23 1 (.ints .u32)] [] 2 (λ_ _ _=>by kernel_rfl) (λ_ _=>rfl) (λ_ _ h=>h) (λ_ X=>by kernel_rfl)
def Q7e(c:Q04)(m:(List Int))(i:Q0i):Tree (Q04×(List Int)):=
.cn (Nat.blt 0 1&&decide (0≤i.B∧i.B<(↑16:Int))) (.lv (Qfi i.Op) λ(x0:Int)=>let E1:=wrap u32 (List.getD (A16.l c.X) i.B.toNat 0+wrap u32 i.Imm); .an (Q63 c m E1 x0 3) (.lv (Q29 c m E1 x0 3) λ(x1:Int×List Int×Int)=> .br (x1.2.2 !=0) (.lv (Q5 c x1.2.2 E1) λ(x2:Q04)=> .lf (x2,x1.2.1)) (.lv (Qfi i.Op) λ(x3:Int)=> .cn (Nat.blt 0 1&&decide (0≤i.A∧i.A<(↑16:Int))) (let E2:=List.getD (A16.l c.X) i.A.toNat 0; .an (Q59 x1.2.1 x1.1 x3 E2) (.lv (Q9o x1.2.1 x1.1 x3 E2) λ(x4:List Int×Bool)=> .lf ({X:=c.X,Pc:=wrap u32 (c.Pc+4),B6:=c.B6},x4.1))))))
def Q8y(c:Q04)(m:(List Int))(i:Q0i):(Q04×(List Int)):=(Q7e c m i).m
abbrev Qct(c:Q04)(m:(List Int))(i:Q0i):Prop:=(Q7e c m i).p
def Zfa:Q0d:=mkP 135 [] true [.agg Q04.sig, .one (.ints .u32), .agg Q0i.sig] [] (λargs rows=>Qct (Q04.of (args.getD 0 .dead).cells) (argL .u32 args 1) (Q0i.of (args.getD 2 .dead).cells)) (λargs rows=>Q8y (Q04.of (args.getD 0 .dead).cells) (argL .u32 args 1) (Q0i.of (args.getD 2 .dead).cells)) (λX=> .tup [.agg (Q04.cells (X.1)), .all 0]) (λX=>[⟨false,23,1, .ints .u32 (X.2)⟩])
theorem Za8:Q07 Tryz.prog Zfa:=Q0p Q0j Q0k (.cons Qjn (.cons Qwb (.cons Qhs (.cons Qnt (.nil))))) Tryz.func135 Tryz.call135 (λargs rows=>Q7e (Q04.of (args.getD 0 .dead).cells) (argL .u32 args 1) (Q0i.of (args.getD 2 .dead).cells)) [.row 23 1 (.ints .u32)] [] 2 (λ_ _ _=>by kernel_rfl) (λ_ _=>rfl) (λ_ _ h=>h) (λ_ X=>by kernel_rfl)
def Z0(op:Int)(a:Int)(b:Int):Tree Bool:=
.br (op==40) (.lf (a==b)) (.br (op==41) (.lf (a !=b)) (.br (op==42) (.lf (decide (wrap i32 a<wrap i32 b))) (.br (op==43) (.lf (decide (wrap i32 a≥wrap i32 b))) (.br (op==44) (.lf (decide (a<b))) (.lf (decide (a≥b)))))))
def Ze2(op:Int)(a:Int)(b:Int):Bool:=(Z0 op a b).m
def Zg6:Q0d:=mkR 190 [] true [.one (.int .i64), .one (.int .u32), .one (.int .u32)] [] (λargs rows=>Ze2 (argI args 0) (argI args 1) (argI args 2)) (λX=> .bool X) (λX=>[])
theorem Zaf:Q07 Tryz.prog Zg6:=Q10 Q0j Q0k (.nil) Tryz.func190 Tryz.call190 (λargs rows=>Z0 (argI args 0) (argI args 1) (argI args 2)) [] [] 2 (λ_ _ _=>by kernel_rfl) (λ_ _=>rfl) (λ_ _=>Tree.free_ok (by kernel_rfl)) (λ_ X=>by kernel_rfl)
def Qf1(c:Q04):Tree Q04:=
.lv (Q9f c.B6.a0 8 1) λ(x0:Int)=> .lv (Q9f x0 16 2) λ(x1:Int)=> .lf ({X:=c.X,Pc:=c.B6.a2,B6:={a0:=x1,a1:=c.B6.a1,a2:=c.B6.a2,a3:=c.B6.a3,a4:=c.B6.a4,a5:=c.B6.a5,a6:=c.B6.a6,a7:=c.B6.a7}})
def Qei(c:Q04):Q04:=(Qf1 c).m
def Z9y:Q0d:=mkR 191 [] true [.agg Q04.sig] [] (λargs rows=>Qei (Q04.of (args.getD 0 .dead).cells)) (λX=> .agg (Q04.cells X)) (λX=>[])
theorem Z80:Q07 Tryz.prog Z9y:=Q10 Q0j Q0k (.cons Qyx (.nil)) Tryz.func191 Tryz.call191 (λargs rows=>Qf1 (Q04.of (args.getD 0 .dead).cells)) [] [] 2 (λ_ _ _=>by kernel_rfl) (λ_ _=>rfl) (λ_ _=>Tree.free_ok (by kernel_rfl)) (λ_ X=>by kernel_rfl)
def Q7f(c:Q04)(csr:Int)(v:Int):Tree Q04:=
let E4:=Nat.blt 0 1&&decide (0≤csr∧csr<(↑8:Int));let T2:Tree (Q04):= .cn E4 (.lf ({X:=c.X,Pc:=c.Pc,B6:=A8.of 0 (List.set (A8.l c.B6) csr.toNat (iand u32 v 31))})); .br (csr==0) T2 (.br (csr==7) T2 (.br (csr==6) (.cn E4 (.lf ({X:=c.X,Pc:=c.Pc,B6:=A8.of 0 (List.set (A8.l c.B6) csr.toNat (iand u32 v 255))}))) (let T3:Tree (Q04):= .cn E4 (.lf ({X:=c.X,Pc:=c.Pc,B6:=A8.of 0 (List.set (A8.l c.B6) csr.toNat (Qgm u32 v 3))})); .br (csr==1) T3 (.br (csr==2) T3 (let T1:Tree (Q04):= .cn E4 (.lf ({X:=c.X,Pc:=c.Pc,B6:=A8.of 0 (List.set (A8.l c.B6) csr.toNat v)})); .br (csr==3) T1 (.br (csr==4) T1 (.br (csr==5) T1 (.lf c))))))))
def Zca(c:Q04)(csr:Int)(v:Int):Q04:=(Q7f c csr v).m
abbrev Qd8(c:Q04)(csr:Int)(v:Int):Prop:=(Q7f c csr v).p
def Zf7:Q0d:=mkP 192 [] true [.agg Q04.sig, .one (.int .i64), .one (.int .u32)] [] (λargs rows=>Qd8 (Q04.of (args.getD 0 .dead).cells) (argI args 1) (argI args 2)) (λargs rows=>Zca (Q04.of (args.getD 0 .dead).cells) (argI args 1) (argI args 2)) (λX=> .agg (Q04.cells X)) (λX=>[])
theorem Zah:Q07 Tryz.prog Zf7:=Q0p Q0j Q0k (.nil) Tryz.func192 Tryz.call192 (λargs rows=>Q7f (Q04.of (args.getD 0 .dead).cells) (argI args 1) (argI args 2)) [] [] 2 (λ_ _ _=>by kernel_rfl) (λ_ _=>rfl) (λ_ _ h=>h) (λ_ X=>by kernel_rfl)
def Q3d(c:Q04)(i:Q0i):Tree (Q04×Q13):=
.cn (Nat.blt 0 1&&decide (0≤i.A∧i.A<(↑16:Int))) (.cn (Nat.blt 0 1&&decide (0≤i.B∧i.B<(↑16:Int))) (.br (i.Op==24) (.an (Q5b c i.A (ishl u32 (wrap u32 i.Imm) 16)) (.lv (Qb7 c i.A (ishl u32 (wrap u32 i.Imm) 16)) λ(x0:Q04)=> .lf ({X:=x0.X,Pc:=wrap u32 (c.Pc+4),B6:=x0.B6},{B5:=0,D1:=0,D9:=0,Value:=0}))) (let E2:=({X:=c.X,Pc:=wrap u32 (c.Pc+4),B6:=c.B6}:Q04);let E3:=List.getD (A16.l c.X) i.B.toNat 0;let E4:=List.getD (A16.l c.X) i.A.toNat 0;let T1:Tree ((Q04×Q13)):= .lv (Ze2 i.Op E4 E3) λ(x1:Bool)=> .br x1 (.lf ({X:=c.X,Pc:=wrap u32 (c.Pc+wrap u32 (4*wrap u32 i.Imm)),B6:=c.B6},{B5:=0,D1:=0,D9:=0,Value:=0})) (.lf (E2,{B5:=0,D1:=0,D9:=0,Value:=0})); .br (i.Op==40) T1 (.br (i.Op==41) T1 (.br (i.Op==42) T1 (.br (i.Op==43) T1 (.br (i.Op==44) T1 (.br (i.Op==45) T1 (.br (i.Op==48) (.an (Q5b c i.A (wrap u32 (c.Pc+4))) (.lv (Qb7 c i.A (wrap u32 (c.Pc+4))) λ(x7:Q04)=> .lf ({X:=x7.X,Pc:=wrap u32 (x7.Pc+wrap u32 (4*wrap u32 i.Imm)),B6:=x7.B6},{B5:=0,D1:=0,D9:=0,Value:=0}))) (.br (i.Op==49) (.an (Q5b c i.A (wrap u32 (c.Pc+4))) (.lv (Qb7 c i.A (wrap u32 (c.Pc+4))) λ(x8:Q04)=> .lf ({X:=x8.X,Pc:=wrap u32 (List.getD (A16.l c.X) i.B.toNat 0+wrap u32 i.Imm),B6:=x8.B6},{B5:=0,D1:=0,D9:=0,Value:=0}))) (.br (i.Op==56) (.lv (Q5 c 7 0) λ(x9:Q04)=> .lf (x9,{B5:=0,D1:=0,D9:=0,Value:=0})) (.br (i.Op==57) (.lv (Qei c) λ(x10:Q04)=> .lf (x10,{B5:=0,D1:=0,D9:=0,Value:=0})) (.br (i.Op==58) (.cn (Nat.blt 0 1&&decide (0≤i.Imm∧i.Imm<(↑8:Int))) (let E5:=List.getD (A8.l c.B6) i.Imm.toNat 0; .an (Q5b c i.A E5) (.lv (Qb7 c i.A E5) λ(x11:Q04)=> .lf ({X:=x11.X,Pc:=wrap u32 (c.Pc+4),B6:=x11.B6},{B5:=0,D1:=0,D9:=0,Value:=0})))) (.br (i.Op==59) (.an (Qd8 c (wrap i64 i.Imm) E4) (.lv (Zca c (wrap i64 i.Imm) E4) λ(x12:Q04)=> .lf ({X:=x12.X,Pc:=wrap u32 (c.Pc+4),B6:=x12.B6},{B5:=0,D1:=0,D9:=0,Value:=0}))) (.br (i.Op==60) (.lf (E2,{B5:=1,D1:=wrap i64 i.Imm,D9:=i.A,Value:=0})) (.br (i.Op==61) (.lf (E2,{B5:=2,D1:=wrap i64 i.Imm,D9:=0,Value:=List.getD (A16.l c.X) i.A.toNat 0})) (.br (i.Op==62) (.lf (E2,{B5:=3,D1:=0,D9:=0,Value:=0})) (.br (i.Op==63) (.lf (E2,{B5:=5,D1:=0,D9:=0,Value:=0})) (.br (i.Op==64) (.lf (E2,{B5:=4,D1:=0,D9:=0,Value:=0})) (.cn (Nat.blt 0 1&&decide (0≤i.C∧i.C<(↑16:Int))) (.br (decide (i.Op≥16)) (.an (Qej i.Op E3 (wrap u32 i.Imm)) (.lv (Q4u i.Op E3 (wrap u32 i.Imm)) λ(x13:Int×Bool)=> .an (Q5b c i.A x13.1) (.lv (Qb7 c i.A x13.1) λ(x14:Q04)=> .lf ({X:=x14.X,Pc:=wrap u32 (c.Pc+4),B6:=x14.B6},{B5:=0,D1:=0,D9:=0,Value:=0})))) (let E6:=List.getD (A16.l c.X) i.C.toNat 0; .an (Qej i.Op E3 E6) (.lv (Q4u i.Op E3 E6) λ(x15:Int×Bool)=> .an (Q5b c i.A x15.1) (.lv (Qb7 c i.A x15.1) λ(x16:Q04)=> .lf ({X:=x16.X,Pc:=wrap u32 (c.Pc+4),B6:=x16.B6},{B5:=0,D1:=0,D9:=0,Value:=0})))))))))))))))))))))))))
def Qlz(c:Q04)(i:Q0i):(Q04×Q13):=(Q3d c i).m
abbrev Qa9(c:Q04)(i:Q0i):Prop:=(Q3d c i).p
def Z6u:Q0d:=mkP 136 [] true [.agg Q04.sig, .agg Q0i.sig] [] (λargs rows=>Qa9 (Q04.of (args.getD 0 .dead).cells) (Q0i.of (args.getD 1 .dead).cells)) (λargs rows=>Qlz (Q04.of (args.getD 0 .dead).cells) (Q0i.of (args.getD 1 .dead).cells)) (λX=> .tup [.agg (Q04.cells (X.1)), .agg (Q13.cells (X.2))]) (λX=>[])
theorem Z2u:Q07 Tryz.prog Z6u:=Q0p Q0j Q0k (.cons Z4a (.cons Zaf (.cons Qhs (.cons Z80 (.cons Zah (.cons Zjt (.nil))))))) Tryz.func136 Tryz.call136 (λargs rows=>Q3d (Q04.of (args.getD 0 .dead).cells) (Q0i.of (args.getD 1 .dead).cells)) [] [] 2 (λ_ _ _=>by kernel_rfl) (λ_ _=>rfl) (λ_ _ h=>h) (λ_ X=>by kernel_rfl)
def Q6m(c:Q04)(m:(List Int)):Tree (Q04×(List Int)×Q13):=
.an (Qcs c m) (.lv (Qn2 c m) λ(x0:Int×List Int×Int)=> .br (x0.2.2 !=0) (.lv (Q5 c x0.2.2 c.Pc) λ(x1:Q04)=> .lf (x1,x0.2.1,{B5:=0,D1:=0,D9:=0,Value:=0})) (.an (Qbi x0.1) (.lv (Qh x0.1) λ(x2:Q0i×Bool)=> .br (!x2.2) (.lv (Q5 c 1 x0.1) λ(x3:Q04)=> .lf (x3,x0.2.1,{B5:=0,D1:=0,D9:=0,Value:=0})) (.lv (Q96 x2.1.Op) λ(x4:Bool)=>let T1:Tree ((Q04×(List Int)×Q13)):=let T2:Tree ((Q04×(List Int)×Q13)):= .an (Qf c x0.2.1 x2.1) (.lv (Q6v c x0.2.1 x2.1) λ(x7:Q04×List Int)=> .lf (x7.1,x7.2,{B5:=0,D1:=0,D9:=0,Value:=0})); .br (x2.1.Op==32) T2 (.br (x2.1.Op==33) T2 (.br (x2.1.Op==34) T2 (let T3:Tree ((Q04×(List Int)×Q13)):= .an (Qct c x0.2.1 x2.1) (.lv (Q8y c x0.2.1 x2.1) λ(x10:Q04×List Int)=> .lf (x10.1,x10.2,{B5:=0,D1:=0,D9:=0,Value:=0})); .br (x2.1.Op==35) T3 (.br (x2.1.Op==36) T3 (.an (Qa9 c x2.1) (.lv (Qlz c x2.1) λ(x12:Q04×Q13)=> .lf (x12.1,x0.2.1,x12.2))))))); .br x4 (.lv (Qaw c) λ(x5:Bool)=> .br (!x5) (.lv (Q5 c 2 x0.1) λ(x6:Q04)=> .lf (x6,x0.2.1,{B5:=0,D1:=0,D9:=0,Value:=0})) T1) T1))))
def Q5p(c:Q04)(m:(List Int)):(Q04×(List Int)×Q13):=(Q6m c m).m
abbrev Qcm(c:Q04)(m:(List Int)):Prop:=(Q6m c m).p
def Zkx:Q0d:=mkP 98 [] true [.agg Q04.sig, .one (.ints .u32)] [] (λargs rows=>Qcm (Q04.of (args.getD 0 .dead).cells) (argL .u32 args 1)) (λargs rows=>Q5p (Q04.of (args.getD 0 .dead).cells) (argL .u32 args 1)) (λX=> .tup [.agg (Q04.cells (X.1)), .all 0, .agg (Q13.cells (X.2.2))]) (λX=>[⟨false,23,1, .ints .u32 (X.2.1)⟩])
theorem Qyh:Q07 Tryz.prog Zkx:=Q0p Q0j Q0k (.cons Za9 (.cons Qhs (.cons Z77 (.cons Qtj (.cons Qt4 (.cons Zgy (.cons Za8 (.cons Z2u (.nil))))))))) Tryz.func98 Tryz.call98 (λargs rows=>Q6m (Q04.of (args.getD 0 .dead).cells) (argL .u32 args 1)) [.row 23 1 (.ints .u32)] [] 2 (λ_ _ _=>by kernel_rfl) (λ_ _=>rfl) (λ_ _ h=>h) (λ_ X=>by kernel_rfl)
end
end Go.Proofs.YtpcbkbalabgnlaaGreat

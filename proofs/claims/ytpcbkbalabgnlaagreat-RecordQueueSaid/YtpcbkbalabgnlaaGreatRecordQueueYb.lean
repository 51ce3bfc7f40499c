/-
  Functions of the program: models, and that its calls come to them (by a program: gen3.py).
-/
import Derived.Test.YtpcbkbalabgnlaaGreatRecordQueueBase
import Derived.Test.YtpcbkbalabgnlaaGreatRecordQueueYa
set_option linter.unusedVariables false
set_option linter.unusedSimpArgs false
namespace Go.Proofs.YtpcbkbalabgnlaaGreat
open Go Go.GD Go.IntKind
set_option maxRecDepth 100000
noncomputable section
def Qkf(status:Int)(from0:Int)(to:Int):Tree Int:=
.br (iand u32 status from0 !=0) (.lf (ior u32 status to)) (.lf (Qe8 u32 status to))
def Q82(status:Int)(from0:Int)(to:Int):Int:=(Qkf status from0 to).m
def Zbu:Q0f:=mkR 180 [] true [.one (.int .u32), .one (.int .u32), .one (.int .u32)] [] (λargs rows=>Q82 (argI args 0) (argI args 1) (argI args 2)) (λX=> .int .u32 X) (λX=>[])
theorem Qvd:Q09 Tryz.prog Zbu:=Q27 Q0o Q0p (.nil) Tryz.func180 Tryz.call180 (λargs rows=>Qkf (argI args 0) (argI args 1) (argI args 2)) [] [] 2 (λ_ _ _=>by kernel_rfl) (λ_ _=>rfl) (λ_ _=>Tree.free_ok (by kernel_rfl)) (λ_ X=>by kernel_rfl)
def Qh0(c:Q03)(cause:Int)(bad:Int):Tree Q03:=
.lv (Q82 c.B5.a0 1 8) λ(x0:Int)=> .lv (Q82 x0 2 16) λ(x1:Int)=> .lf ({X:=c.X,Pc:=c.B5.a1,B5:={a0:=Qe8 u32 (ior u32 x1 1) 2,a1:=c.B5.a1,a2:=c.Pc,a3:=wrap u32 cause,a4:=bad,a5:=c.B5.a5,a6:=c.B5.a6,a7:=c.B5.a7}})
def Q4e(c:Q03)(cause:Int)(bad:Int):Q03:=(Qh0 c cause bad).m
def Zc6:Q0f:=mkR 129 [] true [.agg Q03.sig, .one (.int .i64), .one (.int .u32)] [] (λargs rows=>Q4e (Q03.of (args.getD 0 .dead).cells) (argI args 1) (argI args 2)) (λX=> .agg (Q03.cells X)) (λX=>[])
theorem Qeq:Q09 Tryz.prog Zc6:=Q27 Q0o Q0p (.cons Qvd (.nil)) Tryz.func129 Tryz.call129 (λargs rows=>Qh0 (Q03.of (args.getD 0 .dead).cells) (argI args 1) (argI args 2)) [] [] 2 (λ_ _ _=>by kernel_rfl) (λ_ _=>rfl) (λ_ _=>Tree.free_ok (by kernel_rfl)) (λ_ X=>by kernel_rfl)
def Qo5(access:Int):Tree (Int×Bool):=
.br (access==1) (.lf (4,true)) (.br (access==2) (.lf (5,true)) (.br (access==3) (.lf (6,true)) (.lf (5,false))))
def Qmm(access:Int):(Int×Bool):=(Qo5 access).m
def Qzh:Q0f:=mkR 225 [] true [.one (.int .i64)] [] (λargs rows=>Qmm (argI args 0)) (λX=> .tup [.int .i64 (X.1), .bool (X.2)]) (λX=>[])
theorem Qw6:Q09 Tryz.prog Qzh:=Q27 Q0o Q0p (.nil) Tryz.func225 Tryz.call225 (λargs rows=>Qo5 (argI args 0)) [] [] 2 (λ_ _ _=>by kernel_rfl) (λ_ _=>rfl) (λ_ _=>Tree.free_ok (by kernel_rfl)) (λ_ X=>by kernel_rfl)
def Qr1(c:Q03):Tree Bool:=
.lf (iand u32 c.B5.a0 (1:Int) !=(0:Int))
def Q91(c:Q03):Bool:=(Qr1 c).m
def Z2w:Q0f:=mkR 133 [] true [.agg Q03.sig] [] (λargs rows=>Q91 (Q03.of (args.getD 0 .dead).cells)) (λX=> .bool X) (λX=>[])
theorem Qn8:Q09 Tryz.prog Z2w:=Q27 Q0o Q0p (.nil) Tryz.func133 Tryz.call133 (λargs rows=>Qr1 (Q03.of (args.getD 0 .dead).cells)) [] [] 2 (λ_ _ _=>by kernel_rfl) (λ_ _=>rfl) (λ_ _=>Tree.free_ok (by kernel_rfl)) (λ_ X=>by kernel_rfl)
def Qiq(access:Int):Tree (Int×Bool):=
.br (access==1) (.lf (4,true)) (.br (access==2) (.lf (5,true)) (.br (access==3) (.lf (6,true)) (.lf (5,false))))
def Qgn(access:Int):(Int×Bool):=(Qiq access).m
def Qrh:Q0f:=mkR 244 [] true [.one (.int .i64)] [] (λargs rows=>Qgn (argI args 0)) (λX=> .tup [.int .i64 (X.1), .bool (X.2)]) (λX=>[])
theorem Qp9:Q09 Tryz.prog Qrh:=Q27 Q0o Q0p (.nil) Tryz.func244 Tryz.call244 (λargs rows=>Qiq (argI args 0)) [] [] 2 (λ_ _ _=>by kernel_rfl) (λ_ _=>rfl) (λ_ _=>Tree.free_ok (by kernel_rfl)) (λ_ X=>by kernel_rfl)
def Qfz(m:(List Int))(frame:Int):Tree Bool:=
.lv (Q0n m) λ(x0:Int)=> .lf (decide (wrap u64 frame<wrap u64 x0))
def Q8w(m:(List Int))(frame:Int):Bool:=(Qfz m frame).m
def Qum:Q0f:=mkR 245 [] true [.one (.ints .u32), .one (.int .u32)] [] (λargs rows=>Q8w (argL .u32 args 0) (argI args 1)) (λX=> .bool X) (λX=>[])
theorem Qrm:Q09 Tryz.prog Qum:=Q27 Q0o Q0p (.cons Q49 (.nil)) Tryz.func245 Tryz.call245 (λargs rows=>Qfz (argL .u32 args 0) (argI args 1)) [] [] 2 (λ_ _ _=>by kernel_rfl) (λ_ _=>rfl) (λ_ _=>Tree.free_ok (by kernel_rfl)) (λ_ X=>by kernel_rfl)
def Q4s(m:(List Int))(addr:Int)(size:Int):Tree (Int×Bool):=
.an (Q59 m addr size) (.lv (Qe6 m addr size) λ(x0:Bool)=> .br (!x0) (.lf (0,false)) (.cn (Nat.beq 1 1&&Nat.blt 0 1&&decide (0≤wrap u32 (Int.tdiv addr 4)∧wrap u32 (Int.tdiv addr 4)<(m.length:Int))) (let E1:=Int.toNat (wrap u32 (Int.tdiv addr 4)); .br (size==1) (let E2:=wrap i64 (wrap i64 (Int.tmod addr 4)*8); .an (Q39 (m.getD E1 0) E2 8) (.lv (Q35 (m.getD E1 0) E2 8) λ(x1:Int)=> .lf (x1,true))) (.lf (m.getD E1 0,true)))))
def Q4l(m:(List Int))(addr:Int)(size:Int):(Int×Bool):=(Q4s m addr size).m
abbrev Q2a(m:(List Int))(addr:Int)(size:Int):Prop:=(Q4s m addr size).p
def Z1k:Q0f:=mkP 182 [] true [.one (.ints .u32), .one (.int .u32), .one (.int .i64)] [] (λargs rows=>Q2a (argL .u32 args 0) (argI args 1) (argI args 2)) (λargs rows=>Q4l (argL .u32 args 0) (argI args 1) (argI args 2)) (λX=> .tup [.int .u32 (X.1), .bool (X.2)]) (λX=>[])
theorem Q9y:Q09 Tryz.prog Z1k:=Q0x Q0o Q0p (.cons Qiy (.cons Qi6 (.nil))) Tryz.func182 Tryz.call182 (λargs rows=>Q4s (argL .u32 args 0) (argI args 1) (argI args 2)) [] [] 2 (λ_ _ _=>by kernel_rfl) (λ_ _=>rfl) (λ_ _ h=>h) (λ_ X=>by kernel_rfl)
def Qis(pte:Int)(access:Int):Tree Bool:=
.br (iand u32 pte (1:Int)==(0:Int)) (.lf false) (.br (access==3) (.lf (iand u32 pte (2:Int) !=(0:Int))) (.br (access==1) (.lf (iand u32 pte (4:Int) !=(0:Int))) (.lf true)))
def Q9p(pte:Int)(access:Int):Bool:=(Qis pte access).m
def Qs2:Q0f:=mkR 246 [] true [.one (.int .u32), .one (.int .i64)] [] (λargs rows=>Q9p (argI args 0) (argI args 1)) (λX=> .bool X) (λX=>[])
theorem Qp0:Q09 Tryz.prog Qs2:=Q27 Q0o Q0p (.nil) Tryz.func246 Tryz.call246 (λargs rows=>Qis (argI args 0) (argI args 1)) [] [] 2 (λ_ _ _=>by kernel_rfl) (λ_ _=>rfl) (λ_ _=>Tree.free_ok (by kernel_rfl)) (λ_ X=>by kernel_rfl)
def Q3n(pte:Int):Tree Int:=
.an (Q39 pte 8 8) (.lv (Q35 pte 8 8) λ(x0:Int)=> .lf x0)
def Qcn(pte:Int):Int:=(Q3n pte).m
abbrev Q4c(pte:Int):Prop:=(Q3n pte).p
def Qry:Q0f:=mkP 247 [] true [.one (.int .u32)] [] (λargs rows=>Q4c (argI args 0)) (λargs rows=>Qcn (argI args 0)) (λX=> .int .u32 X) (λX=>[])
theorem Qp4:Q09 Tryz.prog Qry:=Q0x Q0o Q0p (.cons Qi6 (.nil)) Tryz.func247 Tryz.call247 (λargs rows=>Q3n (argI args 0)) [] [] 2 (λ_ _ _=>by kernel_rfl) (λ_ _=>rfl) (λ_ _ h=>h) (λ_ X=>by kernel_rfl)
def Q4t(m:(List Int))(root:Int)(va:Int)(access:Int):Tree Q16:=
.lv (Qgn access) λ(x0:Int×Bool)=>let E1:=({Addr:=0,F1:=0,E0:=x0.1}:Q16); .br (!x0.2) (.lf (E1)) (.br (decide (va≥4096)) (.lf (E1)) (.lv (Q8w m root) λ(x1:Bool)=> .br (!x1) (.lf (E1)) (let E2:=wrap u32 (root*128)+wrap u32 (4*wrap u32 (Int.tdiv va 128)); .an (Q2a m (wrap u32 E2) 4) (.lv (Q4l m (wrap u32 E2) 4) λ(x2:Int×Bool)=> .br (!x2.2) (.lf (E1)) (.lv (Q9p x2.1 access) λ(x3:Bool)=> .br (!x3) (.lf (E1)) (.an (Q4c x2.1) (.lv (Qcn x2.1) λ(x4:Int)=> .lv (Q8w m x4) λ(x5:Bool)=> .br (!x5) (.lf (E1)) (.an (Q4c x2.1) (.lv (Qcn x2.1) λ(x6:Int)=> .lf ({Addr:=wrap u32 (wrap u32 (x6*128)+Int.tmod va 128),F1:=wrap u32 E2,E0:=0}))))))))))
def Qff(m:(List Int))(root:Int)(va:Int)(access:Int):Q16:=(Q4t m root va access).m
abbrev Q6u(m:(List Int))(root:Int)(va:Int)(access:Int):Prop:=(Q4t m root va access).p
def Z03:Q0f:=mkP 226 [] true [.one (.ints .u32), .one (.int .u32), .one (.int .u32), .one (.int .i64)] [] (λargs rows=>Q6u (argL .u32 args 0) (argI args 1) (argI args 2) (argI args 3)) (λargs rows=>Qff (argL .u32 args 0) (argI args 1) (argI args 2) (argI args 3)) (λX=> .agg (Q16.cells X)) (λX=>[])
theorem Qwf:Q09 Tryz.prog Z03:=Q0x Q0o Q0p (.cons Qp9 (.cons Qrm (.cons Q9y (.cons Qp0 (.cons Qp4 (.nil)))))) Tryz.func226 Tryz.call226 (λargs rows=>Q4t (argL .u32 args 0) (argI args 1) (argI args 2) (argI args 3)) [] [] 2 (λ_ _ _=>by kernel_rfl) (λ_ _=>rfl) (λ_ _ h=>h) (λ_ X=>by kernel_rfl)
def Q3w(m:(List Int))(entry:Int)(access:Int):Tree (List Int):=
.an (Q2a m entry 4) (.lv (Q4l m entry 4) λ(x0:Int×Bool)=> .br (!x0.2) (.an (Q04 m) (.lv (Q02 m) λ(x1:List Int)=> .lf x1)) (.br (access==3) (.an (Q4j m entry 4 (ior u32 (ior u32 x0.1 8) 16)) (.lv (Q8u m entry 4 (ior u32 (ior u32 x0.1 8) 16)) λ(x2:List Int×Bool)=> .lf x2.1)) (.an (Q4j m entry 4 (ior u32 x0.1 8)) (.lv (Q8u m entry 4 (ior u32 x0.1 8)) λ(x3:List Int×Bool)=> .lf x3.1))))
def Qas(m:(List Int))(entry:Int)(access:Int):(List Int):=(Q3w m entry access).m
abbrev Q60(m:(List Int))(entry:Int)(access:Int):Prop:=(Q3w m entry access).p
def Qwk:Q0f:=mkP 227 [] true [.one (.ints .u32), .one (.int .u32), .one (.int .i64)] [] (λargs rows=>Q60 (argL .u32 args 0) (argI args 1) (argI args 2)) (λargs rows=>Qas (argL .u32 args 0) (argI args 1) (argI args 2)) (λX=> .all 0) (λX=>[⟨false,23,1, .ints .u32 X⟩])
theorem Qvu:Q09 Tryz.prog Qwk:=Q0x Q0o Q0p (.cons Q9y (.cons Q0m (.cons Qj (.nil)))) Tryz.func227 Tryz.call227 (λargs rows=>Q3w (argL .u32 args 0) (argI args 1) (argI args 2)) [.row 23 1 (.ints .u32)] [] 2 (λ_ _ _=>by kernel_rfl) (λ_ _=>rfl) (λ_ _ h=>h) (λ_ X=>by kernel_rfl)
def Q4v(c:Q03)(m:(List Int))(va:Int)(size:Int)(access:Int):Tree (Int×(List Int)×Int):=
.lv (Qmm access) λ(x0:Int×Bool)=>let T3:Tree ((Int×(List Int)×Int)):= .an (Q04 m) (.lv (Q02 m) λ(x1:List Int)=> .lf (0,x1,5)); .br (!x0.2) T3 (let T1:Tree ((Int×(List Int)×Int)):= .cn (decide (wrap u32 size≠0)) (.br (Int.tmod va (wrap u32 size) !=0) (.an (Q04 m) (.lv (Q02 m) λ(x3:List Int)=> .lf (0,x3,3))) (.lv (Q91 c) λ(x4:Bool)=>let T2:Tree ((Int×(List Int)×Int)):= .an (Q2a m va size) (.lv (Q4l m va size) λ(x8:Int×Bool)=> .br (!x8.2) (.an (Q04 m) (.lv (Q02 m) λ(x9:List Int)=> .lf (0,x9,x0.1))) (.an (Q04 m) (.lv (Q02 m) λ(x10:List Int)=> .lf (va,x10,0)))); .br (!x4) (.br (iand u32 c.B5.a0 (4:Int) !=(0:Int)) (.an (Q6u m c.B5.a6 va access) (.lv (Qff m c.B5.a6 va access) λ(x5:Q16)=> .br (x5.E0 !=0) (.an (Q04 m) (.lv (Q02 m) λ(x6:List Int)=> .lf (0,x6,x5.E0))) (.an (Q60 m x5.F1 access) (.lv (Qas m x5.F1 access) λ(x7:List Int)=> .lf (x5.Addr,x7,0))))) T2) T2)); .br (size !=1) (.br (size !=4) T3 T1) T1)
def Q1y(c:Q03)(m:(List Int))(va:Int)(size:Int)(access:Int):(Int×(List Int)×Int):=(Q4v c m va size access).m
abbrev Q5m(c:Q03)(m:(List Int))(va:Int)(size:Int)(access:Int):Prop:=(Q4v c m va size access).p
def Z0z:Q0f:=mkP 181 [] true [.agg Q03.sig, .one (.ints .u32), .one (.int .u32), .one (.int .i64), .one (.int .i64)] [] (λargs rows=>Q5m (Q03.of (args.getD 0 .dead).cells) (argL .u32 args 1) (argI args 2) (argI args 3) (argI args 4)) (λargs rows=>Q1y (Q03.of (args.getD 0 .dead).cells) (argL .u32 args 1) (argI args 2) (argI args 3) (argI args 4)) (λX=> .tup [.int .u32 (X.1), .all 0, .int .i64 (X.2.2)]) (λX=>[⟨false,23,1, .ints .u32 (X.2.1)⟩])
theorem Qgm:Q09 Tryz.prog Z0z:=Q0x Q0o Q0p (.cons Qw6 (.cons Q0m (.cons Qn8 (.cons Qwf (.cons Qvu (.cons Q9y (.nil))))))) Tryz.func181 Tryz.call181 (λargs rows=>Q4v (Q03.of (args.getD 0 .dead).cells) (argL .u32 args 1) (argI args 2) (argI args 3) (argI args 4)) [.row 23 1 (.ints .u32)] [] 2 (λ_ _ _=>by kernel_rfl) (λ_ _=>rfl) (λ_ _ h=>h) (λ_ X=>by kernel_rfl)
def Q8s(c:Q03)(m:(List Int)):Tree (Int×(List Int)×Int):=
.an (Q5m c m c.Pc 4 1) (.lv (Q1y c m c.Pc 4 1) λ(x0:Int×List Int×Int)=> .br (x0.2.2 !=0) (.lf (0,x0.2.1,x0.2.2)) (.an (Q2a x0.2.1 x0.1 4) (.lv (Q4l x0.2.1 x0.1 4) λ(x1:Int×Bool)=> .lf (x1.1,x0.2.1,0))))
def Qk0(c:Q03)(m:(List Int)):(Int×(List Int)×Int):=(Q8s c m).m
abbrev Qb(c:Q03)(m:(List Int)):Prop:=(Q8s c m).p
def Z6e:Q0f:=mkP 130 [] true [.agg Q03.sig, .one (.ints .u32)] [] (λargs rows=>Qb (Q03.of (args.getD 0 .dead).cells) (argL .u32 args 1)) (λargs rows=>Qk0 (Q03.of (args.getD 0 .dead).cells) (argL .u32 args 1)) (λX=> .tup [.int .u32 (X.1), .all 0, .int .i64 (X.2.2)]) (λX=>[⟨false,23,1, .ints .u32 (X.2.1)⟩])
theorem Z45:Q09 Tryz.prog Z6e:=Q0x Q0o Q0p (.cons Qgm (.cons Q9y (.nil))) Tryz.func130 Tryz.call130 (λargs rows=>Q8s (Q03.of (args.getD 0 .dead).cells) (argL .u32 args 1)) [.row 23 1 (.ints .u32)] [] 2 (λ_ _ _=>by kernel_rfl) (λ_ _=>rfl) (λ_ _ h=>h) (λ_ X=>by kernel_rfl)
def Qio(op:Int):Tree Bool:=
.br (op==57) (.lf true) (.br (op==58) (.lf true) (.br (op==59) (.lf true) (.br (op==60) (.lf true) (.br (op==61) (.lf true) (.br (op==62) (.lf true) (.br (op==63) (.lf true) (.br (op==64) (.lf true) (.lf false))))))))
def Q7y(op:Int):Bool:=(Qio op).m
def Qs:Q0f:=mkR 132 [] true [.one (.int .i64)] [] (λargs rows=>Q7y (argI args 0)) (λX=> .bool X) (λX=>[])
theorem Qq3:Q09 Tryz.prog Qs:=Q27 Q0o Q0p (.nil) Tryz.func132 Tryz.call132 (λargs rows=>Qio (argI args 0)) [] [] 2 (λ_ _ _=>by kernel_rfl) (λ_ _=>rfl) (λ_ _=>Tree.free_ok (by kernel_rfl)) (λ_ X=>by kernel_rfl)
def Qmg(op:Int):Tree Int:=
.br (op==32) (.lf 4) (.br (op==35) (.lf 4) (.lf 1))
def Qdc(op:Int):Int:=(Qmg op).m
def Z60:Q0f:=mkR 187 [] true [.one (.int .i64)] [] (λargs rows=>Qdc (argI args 0)) (λX=> .int .i64 X) (λX=>[])
theorem Qra:Q09 Tryz.prog Z60:=Q27 Q0o Q0p (.nil) Tryz.func187 Tryz.call187 (λargs rows=>Qmg (argI args 0)) [] [] 2 (λ_ _ _=>by kernel_rfl) (λ_ _=>rfl) (λ_ _=>Tree.free_ok (by kernel_rfl)) (λ_ X=>by kernel_rfl)
def Q7u(c:Q03)(register:Int)(v:Int):Tree Q03:=
.br (register !=0) (.cn (Nat.blt 0 1&&decide (0≤register∧register<(↑16:Int))) (.lf ({X:=A16.of 0 (List.set (A16.l c.X) register.toNat v),Pc:=c.Pc,B5:=c.B5}))) (.lf c)
def Q9h(c:Q03)(register:Int)(v:Int):Q03:=(Q7u c register v).m
abbrev Q4i(c:Q03)(register:Int)(v:Int):Prop:=(Q7u c register v).p
def cpu_set_m:Q0f:=mkP 188 [] true [.agg Q03.sig, .one (.int .i64), .one (.int .u32)] [] (λargs rows=>Q4i (Q03.of (args.getD 0 .dead).cells) (argI args 1) (argI args 2)) (λargs rows=>Q9h (Q03.of (args.getD 0 .dead).cells) (argI args 1) (argI args 2)) (λX=> .agg (Q03.cells X)) (λX=>[])
theorem Qy0:Q09 Tryz.prog cpu_set_m:=Q0x Q0o Q0p (.nil) Tryz.func188 Tryz.call188 (λargs rows=>Q7u (Q03.of (args.getD 0 .dead).cells) (argI args 1) (argI args 2)) [] [] 2 (λ_ _ _=>by kernel_rfl) (λ_ _=>rfl) (λ_ _ h=>h) (λ_ X=>by kernel_rfl)
def Q8(c:Q03)(m:(List Int))(i:Q0g):Tree (Q03×(List Int)):=
.cn (Nat.blt 0 1&&decide (0≤i.B∧i.B<(↑16:Int))) (.lv (Qdc i.Op) λ(x0:Int)=>let E1:=wrap u32 (List.getD (A16.l c.X) i.B.toNat 0+wrap u32 i.Imm); .an (Q5m c m E1 x0 2) (.lv (Q1y c m E1 x0 2) λ(x1:Int×List Int×Int)=> .br (x1.2.2 !=0) (.lv (Q4e c x1.2.2 E1) λ(x2:Q03)=> .lf (x2,x1.2.1)) (.lv (Qdc i.Op) λ(x3:Int)=> .an (Q2a x1.2.1 x1.1 x3) (.lv (Q4l x1.2.1 x1.1 x3) λ(x4:Int×Bool)=> .br (i.Op==33) (.an (Q3s x4.1 8) (.lv (Q28 x4.1 8) λ(x5:Int)=> .an (Q4i c i.A x5) (.lv (Q9h c i.A x5) λ(x6:Q03)=> .lf ({X:=x6.X,Pc:=wrap u32 (x6.Pc+4),B5:=x6.B5},x1.2.1)))) (.an (Q4i c i.A x4.1) (.lv (Q9h c i.A x4.1) λ(x7:Q03)=> .lf ({X:=x7.X,Pc:=wrap u32 (x7.Pc+4),B5:=x7.B5},x1.2.1)))))))
def Q6b(c:Q03)(m:(List Int))(i:Q0g):(Q03×(List Int)):=(Q8 c m i).m
abbrev Qct(c:Q03)(m:(List Int))(i:Q0g):Prop:=(Q8 c m i).p
def Zbz:Q0f:=mkP 134 [] true [.agg Q03.sig, .one (.ints .u32), .agg Q0g.sig] [] (λargs rows=>Qct (Q03.of (args.getD 0 .dead).cells) (argL .u32 args 1) (Q0g.of (args.getD 2 .dead).cells)) (λargs rows=>Q6b (Q03.of (args.getD 0 .dead).cells) (argL .u32 args 1) (Q0g.of (args.getD 2 .dead).cells)) (λX=> .tup [.agg (Q03.cells (X.1)), .all 0]) (λX=>[⟨false,23,1, .ints .u32 (X.2)⟩])
theorem Z5x:Q09 Tryz.prog Zbz:=Q0x Q0o Q0p (.cons Qgm (.cons Qra (.cons Qeq (.cons Q9y (.cons Qga (.cons Qy0 (.nil))))))) Tryz.func134 Tryz.call134 (λargs rows=>Q8 (Q03.of (args.getD 0 .dead).cells) (argL .u32 args 1) (Q0g.of (args.getD 2 .dead).cells)) [.row 23 1 (.ints .u32)] [] 2 (λ_ _ _=>by kernel_rfl) (λ_ _=>rfl) (λ_ _ h=>h) (λ_ X=>by kernel_rfl)
def Q6k(c:Q03)(m:(List Int))(i:Q0g):Tree (Q03×(List Int)):=
.cn (Nat.blt 0 1&&decide (0≤i.B∧i.B<(↑16:Int))) (.lv (Qdc i.Op) λ(x0:Int)=>let E1:=wrap u32 (List.getD (A16.l c.X) i.B.toNat 0+wrap u32 i.Imm); .an (Q5m c m E1 x0 3) (.lv (Q1y c m E1 x0 3) λ(x1:Int×List Int×Int)=> .br (x1.2.2 !=0) (.lv (Q4e c x1.2.2 E1) λ(x2:Q03)=> .lf (x2,x1.2.1)) (.lv (Qdc i.Op) λ(x3:Int)=> .cn (Nat.blt 0 1&&decide (0≤i.A∧i.A<(↑16:Int))) (let E2:=List.getD (A16.l c.X) i.A.toNat 0; .an (Q4j x1.2.1 x1.1 x3 E2) (.lv (Q8u x1.2.1 x1.1 x3 E2) λ(x4:List Int×Bool)=> .lf ({X:=c.X,Pc:=wrap u32 (c.Pc+4),B5:=c.B5},x4.1))))))
def Q7o(c:Q03)(m:(List Int))(i:Q0g):(Q03×(List Int)):=(Q6k c m i).m
abbrev Qbo(c:Q03)(m:(List Int))(i:Q0g):Prop:=(Q6k c m i).p
def Z5v:Q0f:=mkP 135 [] true [.agg Q03.sig, .one (.ints .u32), .agg Q0g.sig] [] (λargs rows=>Qbo (Q03.of (args.getD 0 .dead).cells) (argL .u32 args 1) (Q0g.of (args.getD 2 .dead).cells)) (λargs rows=>Q7o (Q03.of (args.getD 0 .dead).cells) (argL .u32 args 1) (Q0g.of (args.getD 2 .dead).cells)) (λX=> .tup [.agg (Q03.cells (X.1)), .all 0]) (λX=>[⟨false,23,1, .ints .u32 (X.2)⟩])
theorem Z3r:Q09 Tryz.prog Z5v:=Q0x Q0o Q0p (.cons Qgm (.cons Qra (.cons Qeq (.cons Qj (.nil))))) Tryz.func135 Tryz.call135 (λargs rows=>Q6k (Q03.of (args.getD 0 .dead).cells) (argL .u32 args 1) (Q0g.of (args.getD 2 .dead).cells)) [.row 23 1 (.ints .u32)] [] 2 (λ_ _ _=>by kernel_rfl) (λ_ _=>rfl) (λ_ _ h=>h) (λ_ X=>by kernel_rfl)
def Qv1(op:Int)(a:Int)(b:Int):Tree Bool:=
.br (op==40) (.lf (a==b)) (.br (op==41) (.lf (a !=b)) (.br (op==42) (.lf (decide (wrap i32 a<wrap i32 b))) (.br (op==43) (.lf (decide (wrap i32 a≥wrap i32 b))) (.br (op==44) (.lf (decide (a<b))) (.lf (decide (a≥b)))))))
def Z5d(op:Int)(a:Int)(b:Int):Bool:=(Qv1 op a b).m
def Z6b:Q0f:=mkR 190 [] true [.one (.int .i64), .one (.int .u32), .one (.int .u32)] [] (λargs rows=>Z5d (argI args 0) (argI args 1) (argI args 2)) (λX=> .bool X) (λX=>[])
theorem Z41:Q09 Tryz.prog Z6b:=Q27 Q0o Q0p (.nil) Tryz.func190 Tryz.call190 (λargs rows=>Qv1 (argI args 0) (argI args 1) (argI args 2)) [] [] 2 (λ_ _ _=>by kernel_rfl) (λ_ _=>rfl) (λ_ _=>Tree.free_ok (by kernel_rfl)) (λ_ X=>by kernel_rfl)
def Qd1(c:Q03):Tree Q03:=
.lv (Q82 c.B5.a0 8 1) λ(x0:Int)=> .lv (Q82 x0 16 2) λ(x1:Int)=> .lf ({X:=c.X,Pc:=c.B5.a2,B5:={a0:=x1,a1:=c.B5.a1,a2:=c.B5.a2,a3:=c.B5.a3,a4:=c.B5.a4,a5:=c.B5.a5,a6:=c.B5.a6,a7:=c.B5.a7}})
def Qck(c:Q03):Q03:=(Qd1 c).m
def Z3z:Q0f:=mkR 191 [] true [.agg Q03.sig] [] (λargs rows=>Qck (Q03.of (args.getD 0 .dead).cells)) (λX=> .agg (Q03.cells X)) (λX=>[])
theorem Qzc:Q09 Tryz.prog Z3z:=Q27 Q0o Q0p (.cons Qvd (.nil)) Tryz.func191 Tryz.call191 (λargs rows=>Qd1 (Q03.of (args.getD 0 .dead).cells)) [] [] 2 (λ_ _ _=>by kernel_rfl) (λ_ _=>rfl) (λ_ _=>Tree.free_ok (by kernel_rfl)) (λ_ X=>by kernel_rfl)
def Q6i(c:Q03)(csr:Int)(v:Int):Tree Q03:=
let E4:=Nat.blt 0 1&&decide (0≤csr∧csr<(↑8:Int));let T2:Tree (Q03):= .cn E4 (.lf ({X:=c.X,Pc:=c.Pc,B5:=A8.of 0 (List.set (A8.l c.B5) csr.toNat (iand u32 v 31))})); .br (csr==0) T2 (.br (csr==7) T2 (.br (csr==6) (.cn E4 (.lf ({X:=c.X,Pc:=c.Pc,B5:=A8.of 0 (List.set (A8.l c.B5) csr.toNat (iand u32 v 255))}))) (let T3:Tree (Q03):= .cn E4 (.lf ({X:=c.X,Pc:=c.Pc,B5:=A8.of 0 (List.set (A8.l c.B5) csr.toNat (Qe8 u32 v 3))})); .br (csr==1) T3 (.br (csr==2) T3 (let T1:Tree (Q03):= .cn E4 (.lf ({X:=c.X,Pc:=c.Pc,B5:=A8.of 0 (List.set (A8.l c.B5) csr.toNat v)})); .br (csr==3) T1 (.br (csr==4) T1 (.br (csr==5) T1 (.lf c))))))))
def Z5c(c:Q03)(csr:Int)(v:Int):Q03:=(Q6i c csr v).m
abbrev Qb2(c:Q03)(csr:Int)(v:Int):Prop:=(Q6i c csr v).p
def Z7a:Q0f:=mkP 192 [] true [.agg Q03.sig, .one (.int .i64), .one (.int .u32)] [] (λargs rows=>Qb2 (Q03.of (args.getD 0 .dead).cells) (argI args 1) (argI args 2)) (λargs rows=>Z5c (Q03.of (args.getD 0 .dead).cells) (argI args 1) (argI args 2)) (λX=> .agg (Q03.cells X)) (λX=>[])
theorem Z3w:Q09 Tryz.prog Z7a:=Q0x Q0o Q0p (.nil) Tryz.func192 Tryz.call192 (λargs rows=>Q6i (Q03.of (args.getD 0 .dead).cells) (argI args 1) (argI args 2)) [] [] 2 (λ_ _ _=>by kernel_rfl) (λ_ _=>rfl) (λ_ _ h=>h) (λ_ X=>by kernel_rfl)
def Q2y(c:Q03)(i:Q0g):Tree (Q03×Q13):=
.cn (Nat.blt 0 1&&decide (0≤i.A∧i.A<(↑16:Int))) (.cn (Nat.blt 0 1&&decide (0≤i.B∧i.B<(↑16:Int))) (.br (i.Op==24) (.an (Q4i c i.A (ishl u32 (wrap u32 i.Imm) 16)) (.lv (Q9h c i.A (ishl u32 (wrap u32 i.Imm) 16)) λ(x0:Q03)=> .lf ({X:=x0.X,Pc:=wrap u32 (c.Pc+4),B5:=x0.B5},{B8:=0,C9:=0,D9:=0,Value:=0}))) (let E2:=({X:=c.X,Pc:=wrap u32 (c.Pc+4),B5:=c.B5}:Q03);let E3:=List.getD (A16.l c.X) i.B.toNat 0;let E4:=List.getD (A16.l c.X) i.A.toNat 0;let T1:Tree ((Q03×Q13)):= .lv (Z5d i.Op E4 E3) λ(x1:Bool)=> .br x1 (.lf ({X:=c.X,Pc:=wrap u32 (c.Pc+wrap u32 (4*wrap u32 i.Imm)),B5:=c.B5},{B8:=0,C9:=0,D9:=0,Value:=0})) (.lf (E2,{B8:=0,C9:=0,D9:=0,Value:=0})); .br (i.Op==40) T1 (.br (i.Op==41) T1 (.br (i.Op==42) T1 (.br (i.Op==43) T1 (.br (i.Op==44) T1 (.br (i.Op==45) T1 (.br (i.Op==48) (.an (Q4i c i.A (wrap u32 (c.Pc+4))) (.lv (Q9h c i.A (wrap u32 (c.Pc+4))) λ(x7:Q03)=> .lf ({X:=x7.X,Pc:=wrap u32 (x7.Pc+wrap u32 (4*wrap u32 i.Imm)),B5:=x7.B5},{B8:=0,C9:=0,D9:=0,Value:=0}))) (.br (i.Op==49) (.an (Q4i c i.A (wrap u32 (c.Pc+4))) (.lv (Q9h c i.A (wrap u32 (c.Pc+4))) λ(x8:Q03)=> .lf ({X:=x8.X,Pc:=wrap u32 (List.getD (A16.l c.X) i.B.toNat 0+wrap u32 i.Imm),B5:=x8.B5},{B8:=0,C9:=0,D9:=0,Value:=0}))) (.br (i.Op==56) (.lv (Q4e c 7 0) λ(x9:Q03)=> .lf (x9,{B8:=0,C9:=0,D9:=0,Value:=0})) (.br (i.Op==57) (.lv (Qck c) λ(x10:Q03)=> .lf (x10,{B8:=0,C9:=0,D9:=0,Value:=0})) (.br (i.Op==58) (.cn (Nat.blt 0 1&&decide (0≤i.Imm∧i.Imm<(↑8:Int))) (let E5:=List.getD (A8.l c.B5) i.Imm.toNat 0; .an (Q4i c i.A E5) (.lv (Q9h c i.A E5) λ(x11:Q03)=> .lf ({X:=x11.X,Pc:=wrap u32 (c.Pc+4),B5:=x11.B5},{B8:=0,C9:=0,D9:=0,Value:=0})))) (.br (i.Op==59) (.an (Qb2 c (wrap i64 i.Imm) E4) (.lv (Z5c c (wrap i64 i.Imm) E4) λ(x12:Q03)=> .lf ({X:=x12.X,Pc:=wrap u32 (c.Pc+4),B5:=x12.B5},{B8:=0,C9:=0,D9:=0,Value:=0}))) (.br (i.Op==60) (.lf (E2,{B8:=1,C9:=wrap i64 i.Imm,D9:=i.A,Value:=0})) (.br (i.Op==61) (.lf (E2,{B8:=2,C9:=wrap i64 i.Imm,D9:=0,Value:=List.getD (A16.l c.X) i.A.toNat 0})) (.br (i.Op==62) (.lf (E2,{B8:=3,C9:=0,D9:=0,Value:=0})) (.br (i.Op==63) (.lf (E2,{B8:=5,C9:=0,D9:=0,Value:=0})) (.br (i.Op==64) (.lf (E2,{B8:=4,C9:=0,D9:=0,Value:=0})) (.cn (Nat.blt 0 1&&decide (0≤i.C∧i.C<(↑16:Int))) (.br (decide (i.Op≥16)) (.an (Qcc i.Op E3 (wrap u32 i.Imm)) (.lv (Q45 i.Op E3 (wrap u32 i.Imm)) λ(x13:Int×Bool)=> .an (Q4i c i.A x13.1) (.lv (Q9h c i.A x13.1) λ(x14:Q03)=> .lf ({X:=x14.X,Pc:=wrap u32 (c.Pc+4),B5:=x14.B5},{B8:=0,C9:=0,D9:=0,Value:=0})))) (let E6:=List.getD (A16.l c.X) i.C.toNat 0; .an (Qcc i.Op E3 E6) (.lv (Q45 i.Op E3 E6) λ(x15:Int×Bool)=> .an (Q4i c i.A x15.1) (.lv (Q9h c i.A x15.1) λ(x16:Q03)=> .lf ({X:=x16.X,Pc:=wrap u32 (c.Pc+4),B5:=x16.B5},{B8:=0,C9:=0,D9:=0,Value:=0})))))))))))))))))))))))))
def Qhs(c:Q03)(i:Q0g):(Q03×Q13):=(Q2y c i).m
abbrev Q8h(c:Q03)(i:Q0g):Prop:=(Q2y c i).p
def Z1h:Q0f:=mkP 136 [] true [.agg Q03.sig, .agg Q0g.sig] [] (λargs rows=>Q8h (Q03.of (args.getD 0 .dead).cells) (Q0g.of (args.getD 1 .dead).cells)) (λargs rows=>Qhs (Q03.of (args.getD 0 .dead).cells) (Q0g.of (args.getD 1 .dead).cells)) (λX=> .tup [.agg (Q03.cells (X.1)), .agg (Q13.cells (X.2))]) (λX=>[])
theorem Qx4:Q09 Tryz.prog Z1h:=Q0x Q0o Q0p (.cons Qy0 (.cons Z41 (.cons Qeq (.cons Qzc (.cons Z3w (.cons Zc5 (.nil))))))) Tryz.func136 Tryz.call136 (λargs rows=>Q2y (Q03.of (args.getD 0 .dead).cells) (Q0g.of (args.getD 1 .dead).cells)) [] [] 2 (λ_ _ _=>by kernel_rfl) (λ_ _=>rfl) (λ_ _ h=>h) (λ_ X=>by kernel_rfl)
def Q6(c:Q03)(m:(List Int)):Tree (Q03×(List Int)×Q13):=
.an (Qb c m) (.lv (Qk0 c m) λ(x0:Int×List Int×Int)=> .br (x0.2.2 !=0) (.lv (Q4e c x0.2.2 c.Pc) λ(x1:Q03)=> .lf (x1,x0.2.1,{B8:=0,C9:=0,D9:=0,Value:=0})) (.an (Qa5 x0.1) (.lv (Qel x0.1) λ(x2:Q0g×Bool)=> .br (!x2.2) (.lv (Q4e c 1 x0.1) λ(x3:Q03)=> .lf (x3,x0.2.1,{B8:=0,C9:=0,D9:=0,Value:=0})) (.lv (Q7y x2.1.Op) λ(x4:Bool)=>let T1:Tree ((Q03×(List Int)×Q13)):=let T2:Tree ((Q03×(List Int)×Q13)):= .an (Qct c x0.2.1 x2.1) (.lv (Q6b c x0.2.1 x2.1) λ(x7:Q03×List Int)=> .lf (x7.1,x7.2,{B8:=0,C9:=0,D9:=0,Value:=0})); .br (x2.1.Op==32) T2 (.br (x2.1.Op==33) T2 (.br (x2.1.Op==34) T2 (let T3:Tree ((Q03×(List Int)×Q13)):= .an (Qbo c x0.2.1 x2.1) (.lv (Q7o c x0.2.1 x2.1) λ(x10:Q03×List Int)=> .lf (x10.1,x10.2,{B8:=0,C9:=0,D9:=0,Value:=0})); .br (x2.1.Op==35) T3 (.br (x2.1.Op==36) T3 (.an (Q8h c x2.1) (.lv (Qhs c x2.1) λ(x12:Q03×Q13)=> .lf (x12.1,x0.2.1,x12.2))))))); .br x4 (.lv (Q91 c) λ(x5:Bool)=> .br (!x5) (.lv (Q4e c 2 x0.1) λ(x6:Q03)=> .lf (x6,x0.2.1,{B8:=0,C9:=0,D9:=0,Value:=0})) T1) T1))))
def Q7g(c:Q03)(m:(List Int)):(Q03×(List Int)×Q13):=(Q6 c m).m
abbrev Qax(c:Q03)(m:(List Int)):Prop:=(Q6 c m).p
def Zcg:Q0f:=mkP 98 [] true [.agg Q03.sig, .one (.ints .u32)] [] (λargs rows=>Qax (Q03.of (args.getD 0 .dead).cells) (argL .u32 args 1)) (λargs rows=>Q7g (Q03.of (args.getD 0 .dead).cells) (argL .u32 args 1)) (λX=> .tup [.agg (Q03.cells (X.1)), .all 0, .agg (Q13.cells (X.2.2))]) (λX=>[⟨false,23,1, .ints .u32 (X.2.1)⟩])
theorem Qv5:Q09 Tryz.prog Zcg:=Q0x Q0o Q0p (.cons Z45 (.cons Qeq (.cons Z1y (.cons Qq3 (.cons Qn8 (.cons Z5x (.cons Z3r (.cons Qx4 (.nil))))))))) Tryz.func98 Tryz.call98 (λargs rows=>Q6 (Q03.of (args.getD 0 .dead).cells) (argL .u32 args 1)) [.row 23 1 (.ints .u32)] [] 2 (λ_ _ _=>by kernel_rfl) (λ_ _=>rfl) (λ_ _ h=>h) (λ_ X=>by kernel_rfl)
end
end Go.Proofs.YtpcbkbalabgnlaaGreat

/-
  Functions of the program: models, and that its calls come to them (by a program: gen3.py).
-/
import Derived.Test.YtpcbkbalabgnlaaGreatRecordOrderedBase
import Derived.Test.YtpcbkbalabgnlaaGreatRecordOrderedYa
set_option linter.unusedVariables false
set_option linter.unusedSimpArgs false
namespace Go.Proofs.YtpcbkbalabgnlaaGreat
open Go Go.GD Go.IntKind
set_option maxRecDepth 100000
noncomputable section
def Qno(status:Int)(from0:Int)(to:Int):Tree Int:=
.br (iand u32 status from0 !=0) (.lf (ior u32 status to)) (.lf (Qg u32 status to))
def Q96(status:Int)(from0:Int)(to:Int):Int:=(Qno status from0 to).m
def Zhn:Q0d:=mkR 180 [] true [.one (.int .u32), .one (.int .u32), .one (.int .u32)] [] (λargs rows=>Q96 (argI args 0) (argI args 1) (argI args 2)) (λX=> .int .u32 X) (λX=>[])
theorem Qxu:Q05 Tryz.prog Zhn:=Q0z Q0i Q0j (.nil) Tryz.func180 Tryz.call180 (λargs rows=>Qno (argI args 0) (argI args 1) (argI args 2)) [] [] 2 (λ_ _ _=>by kernel_rfl) (λ_ _=>rfl) (λ_ _=>Tree.free_ok (by kernel_rfl)) (λ_ X=>by kernel_rfl)
def Qjl(c:Q03)(cause:Int)(bad:Int):Tree Q03:=
.lv (Q96 c.B6.a0 1 8) λ(x0:Int)=> .lv (Q96 x0 2 16) λ(x1:Int)=> .lf ({X:=c.X,Pc:=c.B6.a1,B6:={a0:=Qg u32 (ior u32 x1 1) 2,a1:=c.B6.a1,a2:=c.Pc,a3:=wrap u32 cause,a4:=bad,a5:=c.B6.a5,a6:=c.B6.a6,a7:=c.B6.a7}})
def Q4w(c:Q03)(cause:Int)(bad:Int):Q03:=(Qjl c cause bad).m
def Zhw:Q0d:=mkR 129 [] true [.agg Q03.sig, .one (.int .i64), .one (.int .u32)] [] (λargs rows=>Q4w (Q03.of (args.getD 0 .dead).cells) (argI args 1) (argI args 2)) (λX=> .agg (Q03.cells X)) (λX=>[])
theorem Qhl:Q05 Tryz.prog Zhw:=Q0z Q0i Q0j (.cons Qxu (.nil)) Tryz.func129 Tryz.call129 (λargs rows=>Qjl (Q03.of (args.getD 0 .dead).cells) (argI args 1) (argI args 2)) [] [] 2 (λ_ _ _=>by kernel_rfl) (λ_ _=>rfl) (λ_ _=>Tree.free_ok (by kernel_rfl)) (λ_ X=>by kernel_rfl)
def Qqc(access:Int):Tree (Int×Bool):=
.br (access==1) (.lf (4,true)) (.br (access==2) (.lf (5,true)) (.br (access==3) (.lf (6,true)) (.lf (5,false))))
def Qpr(access:Int):(Int×Bool):=(Qqc access).m
def Z6m:Q0d:=mkR 225 [] true [.one (.int .i64)] [] (λargs rows=>Qpr (argI args 0)) (λX=> .tup [.int .i64 (X.1), .bool (X.2)]) (λX=>[])
theorem Z1h:Q05 Tryz.prog Z6m:=Q0z Q0i Q0j (.nil) Tryz.func225 Tryz.call225 (λargs rows=>Qqc (argI args 0)) [] [] 2 (λ_ _ _=>by kernel_rfl) (λ_ _=>rfl) (λ_ _=>Tree.free_ok (by kernel_rfl)) (λ_ X=>by kernel_rfl)
def Qvd(c:Q03):Tree Bool:=
.lf (iand u32 c.B6.a0 (1:Int) !=(0:Int))
def Qag(c:Q03):Bool:=(Qvd c).m
def Z8u:Q0d:=mkR 133 [] true [.agg Q03.sig] [] (λargs rows=>Qag (Q03.of (args.getD 0 .dead).cells)) (λX=> .bool X) (λX=>[])
theorem Qr8:Q05 Tryz.prog Z8u:=Q0z Q0i Q0j (.nil) Tryz.func133 Tryz.call133 (λargs rows=>Qvd (Q03.of (args.getD 0 .dead).cells)) [] [] 2 (λ_ _ _=>by kernel_rfl) (λ_ _=>rfl) (λ_ _=>Tree.free_ok (by kernel_rfl)) (λ_ X=>by kernel_rfl)
def Qlr(access:Int):Tree (Int×Bool):=
.br (access==1) (.lf (4,true)) (.br (access==2) (.lf (5,true)) (.br (access==3) (.lf (6,true)) (.lf (5,false))))
def Qj(access:Int):(Int×Bool):=(Qlr access).m
def Qw1:Q0d:=mkR 244 [] true [.one (.int .i64)] [] (λargs rows=>Qj (argI args 0)) (λX=> .tup [.int .i64 (X.1), .bool (X.2)]) (λX=>[])
theorem Qu9:Q05 Tryz.prog Qw1:=Q0z Q0i Q0j (.nil) Tryz.func244 Tryz.call244 (λargs rows=>Qlr (argI args 0)) [] [] 2 (λ_ _ _=>by kernel_rfl) (λ_ _=>rfl) (λ_ _=>Tree.free_ok (by kernel_rfl)) (λ_ X=>by kernel_rfl)
def Qhc(m:(List Int))(frame:Int):Tree Bool:=
.lv (Q0r m) λ(x0:Int)=> .lf (decide (wrap u64 frame<wrap u64 x0))
def Qaj(m:(List Int))(frame:Int):Bool:=(Qhc m frame).m
def Qyk:Q0d:=mkR 245 [] true [.one (.ints .u32), .one (.int .u32)] [] (λargs rows=>Qaj (argL .u32 args 0) (argI args 1)) (λX=> .bool X) (λX=>[])
theorem Qvq:Q05 Tryz.prog Qyk:=Q0z Q0i Q0j (.cons Q4l (.nil)) Tryz.func245 Tryz.call245 (λargs rows=>Qhc (argL .u32 args 0) (argI args 1)) [] [] 2 (λ_ _ _=>by kernel_rfl) (λ_ _=>rfl) (λ_ _=>Tree.free_ok (by kernel_rfl)) (λ_ X=>by kernel_rfl)
def Q5h(m:(List Int))(addr:Int)(size:Int):Tree (Int×Bool):=
.an (Q5s m addr size) (.lv (Qg7 m addr size) λ(x0:Bool)=> .br (!x0) (.lf (0,false)) (.cn (Nat.beq 1 1&&Nat.blt 0 1&&decide (0≤wrap u32 (Int.tdiv addr 4)∧wrap u32 (Int.tdiv addr 4)<(m.length:Int))) (let E1:=Int.toNat (wrap u32 (Int.tdiv addr 4)); .br (size==1) (let E2:=wrap i64 (wrap i64 (Int.tmod addr 4)*8); .an (Q3h (m.getD E1 0) E2 8) (.lv (Q39 (m.getD E1 0) E2 8) λ(x1:Int)=> .lf (x1,true))) (.lf (m.getD E1 0,true)))))
def Q50(m:(List Int))(addr:Int)(size:Int):(Int×Bool):=(Q5h m addr size).m
abbrev Q2j(m:(List Int))(addr:Int)(size:Int):Prop:=(Q5h m addr size).p
def Z5n:Q0d:=mkP 182 [] true [.one (.ints .u32), .one (.int .u32), .one (.int .i64)] [] (λargs rows=>Q2j (argL .u32 args 0) (argI args 1) (argI args 2)) (λargs rows=>Q50 (argL .u32 args 0) (argI args 1) (argI args 2)) (λX=> .tup [.int .u32 (X.1), .bool (X.2)]) (λX=>[])
theorem Qb1:Q05 Tryz.prog Z5n:=Q0n Q0i Q0j (.cons Qll (.cons Ql (.nil))) Tryz.func182 Tryz.call182 (λargs rows=>Q5h (argL .u32 args 0) (argI args 1) (argI args 2)) [] [] 2 (λ_ _ _=>by kernel_rfl) (λ_ _=>rfl) (λ_ _ h=>h) (λ_ X=>by kernel_rfl)
def Qlo(pte:Int)(access:Int):Tree Bool:=
.br (iand u32 pte (1:Int)==(0:Int)) (.lf false) (.br (access==3) (.lf (iand u32 pte (2:Int) !=(0:Int))) (.br (access==1) (.lf (iand u32 pte (4:Int) !=(0:Int))) (.lf true)))
def Qba(pte:Int)(access:Int):Bool:=(Qlo pte access).m
def Qw2:Q0d:=mkR 246 [] true [.one (.int .u32), .one (.int .i64)] [] (λargs rows=>Qba (argI args 0) (argI args 1)) (λX=> .bool X) (λX=>[])
theorem Qsw:Q05 Tryz.prog Qw2:=Q0z Q0i Q0j (.nil) Tryz.func246 Tryz.call246 (λargs rows=>Qlo (argI args 0) (argI args 1)) [] [] 2 (λ_ _ _=>by kernel_rfl) (λ_ _=>rfl) (λ_ _=>Tree.free_ok (by kernel_rfl)) (λ_ X=>by kernel_rfl)
def Q3x(pte:Int):Tree Int:=
.an (Q3h pte 8 8) (.lv (Q39 pte 8 8) λ(x0:Int)=> .lf x0)
def Qea(pte:Int):Int:=(Q3x pte).m
abbrev Q4v(pte:Int):Prop:=(Q3x pte).p
def Qvw:Q0d:=mkP 247 [] true [.one (.int .u32)] [] (λargs rows=>Q4v (argI args 0)) (λargs rows=>Qea (argI args 0)) (λX=> .int .u32 X) (λX=>[])
theorem Qt5:Q05 Tryz.prog Qvw:=Q0n Q0i Q0j (.cons Ql (.nil)) Tryz.func247 Tryz.call247 (λargs rows=>Q3x (argI args 0)) [] [] 2 (λ_ _ _=>by kernel_rfl) (λ_ _=>rfl) (λ_ _ h=>h) (λ_ X=>by kernel_rfl)
def Q5i(m:(List Int))(root:Int)(va:Int)(access:Int):Tree Q18:=
.lv (Qj access) λ(x0:Int×Bool)=>let E1:=({Addr:=0,F1:=0,E0:=x0.1}:Q18); .br (!x0.2) (.lf (E1)) (.br (decide (va≥4096)) (.lf (E1)) (.lv (Qaj m root) λ(x1:Bool)=> .br (!x1) (.lf (E1)) (let E2:=wrap u32 (root*128)+wrap u32 (4*wrap u32 (Int.tdiv va 128)); .an (Q2j m (wrap u32 E2) 4) (.lv (Q50 m (wrap u32 E2) 4) λ(x2:Int×Bool)=> .br (!x2.2) (.lf (E1)) (.lv (Qba x2.1 access) λ(x3:Bool)=> .br (!x3) (.lf (E1)) (.an (Q4v x2.1) (.lv (Qea x2.1) λ(x4:Int)=> .lv (Qaj m x4) λ(x5:Bool)=> .br (!x5) (.lf (E1)) (.an (Q4v x2.1) (.lv (Qea x2.1) λ(x6:Int)=> .lf ({Addr:=wrap u32 (wrap u32 (x6*128)+Int.tmod va 128),F1:=wrap u32 E2,E0:=0}))))))))))
def Qia(m:(List Int))(root:Int)(va:Int)(access:Int):Q18:=(Q5i m root va access).m
abbrev Q7o(m:(List Int))(root:Int)(va:Int)(access:Int):Prop:=(Q5i m root va access).p
def Z7u:Q0d:=mkP 226 [] true [.one (.ints .u32), .one (.int .u32), .one (.int .u32), .one (.int .i64)] [] (λargs rows=>Q7o (argL .u32 args 0) (argI args 1) (argI args 2) (argI args 3)) (λargs rows=>Qia (argL .u32 args 0) (argI args 1) (argI args 2) (argI args 3)) (λX=> .agg (Q18.cells X)) (λX=>[])
theorem Z1m:Q05 Tryz.prog Z7u:=Q0n Q0i Q0j (.cons Qu9 (.cons Qvq (.cons Qb1 (.cons Qsw (.cons Qt5 (.nil)))))) Tryz.func226 Tryz.call226 (λargs rows=>Q5i (argL .u32 args 0) (argI args 1) (argI args 2) (argI args 3)) [] [] 2 (λ_ _ _=>by kernel_rfl) (λ_ _=>rfl) (λ_ _ h=>h) (λ_ X=>by kernel_rfl)
def Q4c(m:(List Int))(entry:Int)(access:Int):Tree (List Int):=
.an (Q2j m entry 4) (.lv (Q50 m entry 4) λ(x0:Int×Bool)=> .br (!x0.2) (.an (Q04 m) (.lv (Q02 m) λ(x1:List Int)=> .lf x1)) (.br (access==3) (.an (Q52 m entry 4 (ior u32 (ior u32 x0.1 8) 16)) (.lv (Q9q m entry 4 (ior u32 (ior u32 x0.1 8) 16)) λ(x2:List Int×Bool)=> .lf x2.1)) (.an (Q52 m entry 4 (ior u32 x0.1 8)) (.lv (Q9q m entry 4 (ior u32 x0.1 8)) λ(x3:List Int×Bool)=> .lf x3.1))))
def Qc4(m:(List Int))(entry:Int)(access:Int):(List Int):=(Q4c m entry access).m
abbrev Q6f(m:(List Int))(entry:Int)(access:Int):Prop:=(Q4c m entry access).p
def Z2d:Q0d:=mkP 227 [] true [.one (.ints .u32), .one (.int .u32), .one (.int .i64)] [] (λargs rows=>Q6f (argL .u32 args 0) (argI args 1) (argI args 2)) (λargs rows=>Qc4 (argL .u32 args 0) (argI args 1) (argI args 2)) (λX=> .all 0) (λX=>[⟨false,23,1, .ints .u32 X⟩])
theorem Qzs:Q05 Tryz.prog Z2d:=Q0n Q0i Q0j (.cons Qb1 (.cons Q0s (.cons Qn7 (.nil)))) Tryz.func227 Tryz.call227 (λargs rows=>Q4c (argL .u32 args 0) (argI args 1) (argI args 2)) [.row 23 1 (.ints .u32)] [] 2 (λ_ _ _=>by kernel_rfl) (λ_ _=>rfl) (λ_ _ h=>h) (λ_ X=>by kernel_rfl)
def Q5c(c:Q03)(m:(List Int))(va:Int)(size:Int)(access:Int):Tree (Int×(List Int)×Int):=
.lv (Qpr access) λ(x0:Int×Bool)=>let T3:Tree ((Int×(List Int)×Int)):= .an (Q04 m) (.lv (Q02 m) λ(x1:List Int)=> .lf (0,x1,5)); .br (!x0.2) T3 (let T1:Tree ((Int×(List Int)×Int)):= .cn (decide (wrap u32 size≠0)) (.br (Int.tmod va (wrap u32 size) !=0) (.an (Q04 m) (.lv (Q02 m) λ(x3:List Int)=> .lf (0,x3,3))) (.lv (Qag c) λ(x4:Bool)=>let T2:Tree ((Int×(List Int)×Int)):= .an (Q2j m va size) (.lv (Q50 m va size) λ(x8:Int×Bool)=> .br (!x8.2) (.an (Q04 m) (.lv (Q02 m) λ(x9:List Int)=> .lf (0,x9,x0.1))) (.an (Q04 m) (.lv (Q02 m) λ(x10:List Int)=> .lf (va,x10,0)))); .br (!x4) (.br (iand u32 c.B6.a0 (4:Int) !=(0:Int)) (.an (Q7o m c.B6.a6 va access) (.lv (Qia m c.B6.a6 va access) λ(x5:Q18)=> .br (x5.E0 !=0) (.an (Q04 m) (.lv (Q02 m) λ(x6:List Int)=> .lf (0,x6,x5.E0))) (.an (Q6f m x5.F1 access) (.lv (Qc4 m x5.F1 access) λ(x7:List Int)=> .lf (x5.Addr,x7,0))))) T2) T2)); .br (size !=1) (.br (size !=4) T3 T1) T1)
def Q21(c:Q03)(m:(List Int))(va:Int)(size:Int)(access:Int):(Int×(List Int)×Int):=(Q5c c m va size access).m
abbrev Q5z(c:Q03)(m:(List Int))(va:Int)(size:Int)(access:Int):Prop:=(Q5c c m va size access).p
def Z6f:Q0d:=mkP 181 [] true [.agg Q03.sig, .one (.ints .u32), .one (.int .u32), .one (.int .i64), .one (.int .i64)] [] (λargs rows=>Q5z (Q03.of (args.getD 0 .dead).cells) (argL .u32 args 1) (argI args 2) (argI args 3) (argI args 4)) (λargs rows=>Q21 (Q03.of (args.getD 0 .dead).cells) (argL .u32 args 1) (argI args 2) (argI args 3) (argI args 4)) (λX=> .tup [.int .u32 (X.1), .all 0, .int .i64 (X.2.2)]) (λX=>[⟨false,23,1, .ints .u32 (X.2.1)⟩])
theorem Qj4:Q05 Tryz.prog Z6f:=Q0n Q0i Q0j (.cons Z1h (.cons Q0s (.cons Qr8 (.cons Z1m (.cons Qzs (.cons Qb1 (.nil))))))) Tryz.func181 Tryz.call181 (λargs rows=>Q5c (Q03.of (args.getD 0 .dead).cells) (argL .u32 args 1) (argI args 2) (argI args 3) (argI args 4)) [.row 23 1 (.ints .u32)] [] 2 (λ_ _ _=>by kernel_rfl) (λ_ _=>rfl) (λ_ _ h=>h) (λ_ X=>by kernel_rfl)
def Q9d(c:Q03)(m:(List Int)):Tree (Int×(List Int)×Int):=
.an (Q5z c m c.Pc 4 1) (.lv (Q21 c m c.Pc 4 1) λ(x0:Int×List Int×Int)=> .br (x0.2.2 !=0) (.lf (0,x0.2.1,x0.2.2)) (.an (Q2j x0.2.1 x0.1 4) (.lv (Q50 x0.2.1 x0.1 4) λ(x1:Int×Bool)=> .lf (x1.1,x0.2.1,0))))
def Qm4(c:Q03)(m:(List Int)):(Int×(List Int)×Int):=(Q9d c m).m
abbrev Qcm(c:Q03)(m:(List Int)):Prop:=(Q9d c m).p
def Zfi:Q0d:=mkP 130 [] true [.agg Q03.sig, .one (.ints .u32)] [] (λargs rows=>Qcm (Q03.of (args.getD 0 .dead).cells) (argL .u32 args 1)) (λargs rows=>Qm4 (Q03.of (args.getD 0 .dead).cells) (argL .u32 args 1)) (λX=> .tup [.int .u32 (X.1), .all 0, .int .i64 (X.2.2)]) (λX=>[⟨false,23,1, .ints .u32 (X.2.1)⟩])
theorem Zbn:Q05 Tryz.prog Zfi:=Q0n Q0i Q0j (.cons Qj4 (.cons Qb1 (.nil))) Tryz.func130 Tryz.call130 (λargs rows=>Q9d (Q03.of (args.getD 0 .dead).cells) (argL .u32 args 1)) [.row 23 1 (.ints .u32)] [] 2 (λ_ _ _=>by kernel_rfl) (λ_ _=>rfl) (λ_ _ h=>h) (λ_ X=>by kernel_rfl)
def Qlv(op:Int):Tree Bool:=
.br (op==57) (.lf true) (.br (op==58) (.lf true) (.br (op==59) (.lf true) (.br (op==60) (.lf true) (.br (op==61) (.lf true) (.br (op==62) (.lf true) (.br (op==63) (.lf true) (.br (op==64) (.lf true) (.lf false))))))))
def Q8z(op:Int):Bool:=(Qlv op).m
def Qvx:Q0d:=mkR 132 [] true [.one (.int .i64)] [] (λargs rows=>Q8z (argI args 0)) (λX=> .bool X) (λX=>[])
theorem Qsr:Q05 Tryz.prog Qvx:=Q0z Q0i Q0j (.nil) Tryz.func132 Tryz.call132 (λargs rows=>Qlv (argI args 0)) [] [] 2 (λ_ _ _=>by kernel_rfl) (λ_ _=>rfl) (λ_ _=>Tree.free_ok (by kernel_rfl)) (λ_ X=>by kernel_rfl)
def Qpg(op:Int):Tree Int:=
.br (op==32) (.lf 4) (.br (op==35) (.lf 4) (.lf 1))
def Qf7(op:Int):Int:=(Qpg op).m
def Zdb:Q0d:=mkR 187 [] true [.one (.int .i64)] [] (λargs rows=>Qf7 (argI args 0)) (λX=> .int .i64 X) (λX=>[])
theorem Qv6:Q05 Tryz.prog Zdb:=Q0z Q0i Q0j (.nil) Tryz.func187 Tryz.call187 (λargs rows=>Qpg (argI args 0)) [] [] 2 (λ_ _ _=>by kernel_rfl) (λ_ _=>rfl) (λ_ _=>Tree.free_ok (by kernel_rfl)) (λ_ X=>by kernel_rfl)
def Q8n(c:Q03)(register:Int)(v:Int):Tree Q03:=
.br (register !=0) (.cn (Nat.blt 0 1&&decide (0≤register∧register<(↑16:Int))) (.lf ({X:=A16.of 0 (List.set (A16.l c.X) register.toNat v),Pc:=c.Pc,B6:=c.B6}))) (.lf c)
def Qb0(c:Q03)(register:Int)(v:Int):Q03:=(Q8n c register v).m
abbrev Q54(c:Q03)(register:Int)(v:Int):Prop:=(Q8n c register v).p
def cpu_set_m:Q0d:=mkP 188 [] true [.agg Q03.sig, .one (.int .i64), .one (.int .u32)] [] (λargs rows=>Q54 (Q03.of (args.getD 0 .dead).cells) (argI args 1) (argI args 2)) (λargs rows=>Qb0 (Q03.of (args.getD 0 .dead).cells) (argI args 1) (argI args 2)) (λX=> .agg (Q03.cells X)) (λX=>[])
theorem Z3e:Q05 Tryz.prog cpu_set_m:=Q0n Q0i Q0j (.nil) Tryz.func188 Tryz.call188 (λargs rows=>Q8n (Q03.of (args.getD 0 .dead).cells) (argI args 1) (argI args 2)) [] [] 2 (λ_ _ _=>by kernel_rfl) (λ_ _=>rfl) (λ_ _ h=>h) (λ_ X=>by kernel_rfl)
def Q8u(c:Q03)(m:(List Int))(i:Q0g):Tree (Q03×(List Int)):=
.cn (Nat.blt 0 1&&decide (0≤i.B∧i.B<(↑16:Int))) (.lv (Qf7 i.Op) λ(x0:Int)=>let E1:=wrap u32 (List.getD (A16.l c.X) i.B.toNat 0+wrap u32 i.Imm); .an (Q5z c m E1 x0 2) (.lv (Q21 c m E1 x0 2) λ(x1:Int×List Int×Int)=> .br (x1.2.2 !=0) (.lv (Q4w c x1.2.2 E1) λ(x2:Q03)=> .lf (x2,x1.2.1)) (.lv (Qf7 i.Op) λ(x3:Int)=> .an (Q2j x1.2.1 x1.1 x3) (.lv (Q50 x1.2.1 x1.1 x3) λ(x4:Int×Bool)=> .br (i.Op==33) (.an (Q45 x4.1 8) (.lv (Q2d x4.1 8) λ(x5:Int)=> .an (Q54 c i.A x5) (.lv (Qb0 c i.A x5) λ(x6:Q03)=> .lf ({X:=x6.X,Pc:=wrap u32 (x6.Pc+4),B6:=x6.B6},x1.2.1)))) (.an (Q54 c i.A x4.1) (.lv (Qb0 c i.A x4.1) λ(x7:Q03)=> .lf ({X:=x7.X,Pc:=wrap u32 (x7.Pc+4),B6:=x7.B6},x1.2.1)))))))
def Q6k(c:Q03)(m:(List Int))(i:Q0g):(Q03×(List Int)):=(Q8u c m i).m
abbrev Qev(c:Q03)(m:(List Int))(i:Q0g):Prop:=(Q8u c m i).p
def Zi2:Q0d:=mkP 134 [] true [.agg Q03.sig, .one (.ints .u32), .agg Q0g.sig] [] (λargs rows=>Qev (Q03.of (args.getD 0 .dead).cells) (argL .u32 args 1) (Q0g.of (args.getD 2 .dead).cells)) (λargs rows=>Q6k (Q03.of (args.getD 0 .dead).cells) (argL .u32 args 1) (Q0g.of (args.getD 2 .dead).cells)) (λX=> .tup [.agg (Q03.cells (X.1)), .all 0]) (λX=>[⟨false,23,1, .ints .u32 (X.2)⟩])
theorem Zdt:Q05 Tryz.prog Zi2:=Q0n Q0i Q0j (.cons Qj4 (.cons Qv6 (.cons Qhl (.cons Qb1 (.cons Qil (.cons Z3e (.nil))))))) Tryz.func134 Tryz.call134 (λargs rows=>Q8u (Q03.of (args.getD 0 .dead).cells) (argL .u32 args 1) (Q0g.of (args.getD 2 .dead).cells)) [.row 23 1 (.ints .u32)] [] 2 (λ_ _ _=>by kernel_rfl) (λ_ _=>rfl) (λ_ _ h=>h) (λ_ X=>by kernel_rfl)
def Q79(c:Q03)(m:(List Int))(i:Q0g):Tree (Q03×(List Int)):=
.cn (Nat.blt 0 1&&decide (0≤i.B∧i.B<(↑16:Int))) (.lv (Qf7 i.Op) λ(x0:Int)=>let E1:=wrap u32 (List.getD (A16.l c.X) i.B.toNat 0+wrap u32 i.Imm); .an (Q5z c m E1 x0 3) (.lv (Q21 c m E1 x0 3) λ(x1:Int×List Int×Int)=> .br (x1.2.2 !=0) (.lv (Q4w c x1.2.2 E1) λ(x2:Q03)=> .lf (x2,x1.2.1)) (.lv (Qf7 i.Op) λ(x3:Int)=> .cn (Nat.blt 0 1&&decide (0≤i.A∧i.A<(↑16:Int))) (let E2:=List.getD (A16.l c.X) i.A.toNat 0; .an (Q52 x1.2.1 x1.1 x3 E2) (.lv (Q9q x1.2.1 x1.1 x3 E2) λ(x4:List Int×Bool)=> .lf ({X:=c.X,Pc:=wrap u32 (c.Pc+4),B6:=c.B6},x4.1))))))
def Q8m(c:Q03)(m:(List Int))(i:Q0g):(Q03×(List Int)):=(Q79 c m i).m
abbrev Qcp(c:Q03)(m:(List Int))(i:Q0g):Prop:=(Q79 c m i).p
def Zeh:Q0d:=mkP 135 [] true [.agg Q03.sig, .one (.ints .u32), .agg Q0g.sig] [] (λargs rows=>Qcp (Q03.of (args.getD 0 .dead).cells) (argL .u32 args 1) (Q0g.of (args.getD 2 .dead).cells)) (λargs rows=>Q8m (Q03.of (args.getD 0 .dead).cells) (argL .u32 args 1) (Q0g.of (args.getD 2 .dead).cells)) (λX=> .tup [.agg (Q03.cells (X.1)), .all 0]) (λX=>[⟨false,23,1, .ints .u32 (X.2)⟩])
theorem Z97:Q05 Tryz.prog Zeh:=Q0n Q0i Q0j (.cons Qj4 (.cons Qv6 (.cons Qhl (.cons Qn7 (.nil))))) Tryz.func135 Tryz.call135 (λargs rows=>Q79 (Q03.of (args.getD 0 .dead).cells) (argL .u32 args 1) (Q0g.of (args.getD 2 .dead).cells)) [.row 23 1 (.ints .u32)] [] 2 (λ_ _ _=>by kernel_rfl) (λ_ _=>rfl) (λ_ _ h=>h) (λ_ X=>by kernel_rfl)
def Qx3(op:Int)(a:Int)(b:Int):Tree Bool:=
.br (op==40) (.lf (a==b)) (.br (op==41) (.lf (a !=b)) (.br (op==42) (.lf (decide (wrap i32 a<wrap i32 b))) (.br (op==43) (.lf (decide (wrap i32 a≥wrap i32 b))) (.br (op==44) (.lf (decide (a<b))) (.lf (decide (a≥b)))))))
def Za6(op:Int)(a:Int)(b:Int):Bool:=(Qx3 op a b).m
def Zf3:Q0d:=mkR 190 [] true [.one (.int .i64), .one (.int .u32), .one (.int .u32)] [] (λargs rows=>Za6 (argI args 0) (argI args 1) (argI args 2)) (λX=> .bool X) (λX=>[])
theorem Z9i:Q05 Tryz.prog Zf3:=Q0z Q0i Q0j (.nil) Tryz.func190 Tryz.call190 (λargs rows=>Qx3 (argI args 0) (argI args 1) (argI args 2)) [] [] 2 (λ_ _ _=>by kernel_rfl) (λ_ _=>rfl) (λ_ _=>Tree.free_ok (by kernel_rfl)) (λ_ X=>by kernel_rfl)
def Qem(c:Q03):Tree Q03:=
.lv (Q96 c.B6.a0 8 1) λ(x0:Int)=> .lv (Q96 x0 16 2) λ(x1:Int)=> .lf ({X:=c.X,Pc:=c.B6.a2,B6:={a0:=x1,a1:=c.B6.a1,a2:=c.B6.a2,a3:=c.B6.a3,a4:=c.B6.a4,a5:=c.B6.a5,a6:=c.B6.a6,a7:=c.B6.a7}})
def Qe(c:Q03):Q03:=(Qem c).m
def Zc9:Q0d:=mkR 191 [] true [.agg Q03.sig] [] (λargs rows=>Qe (Q03.of (args.getD 0 .dead).cells)) (λX=> .agg (Q03.cells X)) (λX=>[])
theorem Z6q:Q05 Tryz.prog Zc9:=Q0z Q0i Q0j (.cons Qxu (.nil)) Tryz.func191 Tryz.call191 (λargs rows=>Qem (Q03.of (args.getD 0 .dead).cells)) [] [] 2 (λ_ _ _=>by kernel_rfl) (λ_ _=>rfl) (λ_ _=>Tree.free_ok (by kernel_rfl)) (λ_ X=>by kernel_rfl)
def Q76(c:Q03)(csr:Int)(v:Int):Tree Q03:=
let E4:=Nat.blt 0 1&&decide (0≤csr∧csr<(↑8:Int));let T2:Tree (Q03):= .cn E4 (.lf ({X:=c.X,Pc:=c.Pc,B6:=A8.of 0 (List.set (A8.l c.B6) csr.toNat (iand u32 v 31))})); .br (csr==0) T2 (.br (csr==7) T2 (.br (csr==6) (.cn E4 (.lf ({X:=c.X,Pc:=c.Pc,B6:=A8.of 0 (List.set (A8.l c.B6) csr.toNat (iand u32 v 255))}))) (let T3:Tree (Q03):= .cn E4 (.lf ({X:=c.X,Pc:=c.Pc,B6:=A8.of 0 (List.set (A8.l c.B6) csr.toNat (Qg u32 v 3))})); .br (csr==1) T3 (.br (csr==2) T3 (let T1:Tree (Q03):= .cn E4 (.lf ({X:=c.X,Pc:=c.Pc,B6:=A8.of 0 (List.set (A8.l c.B6) csr.toNat v)})); .br (csr==3) T1 (.br (csr==4) T1 (.br (csr==5) T1 (.lf c))))))))
def Zb0(c:Q03)(csr:Int)(v:Int):Q03:=(Q76 c csr v).m
abbrev Qcc(c:Q03)(csr:Int)(v:Int):Prop:=(Q76 c csr v).p
def Zcu:Q0d:=mkP 192 [] true [.agg Q03.sig, .one (.int .i64), .one (.int .u32)] [] (λargs rows=>Qcc (Q03.of (args.getD 0 .dead).cells) (argI args 1) (argI args 2)) (λargs rows=>Zb0 (Q03.of (args.getD 0 .dead).cells) (argI args 1) (argI args 2)) (λX=> .agg (Q03.cells X)) (λX=>[])
theorem Z92:Q05 Tryz.prog Zcu:=Q0n Q0i Q0j (.nil) Tryz.func192 Tryz.call192 (λargs rows=>Q76 (Q03.of (args.getD 0 .dead).cells) (argI args 1) (argI args 2)) [] [] 2 (λ_ _ _=>by kernel_rfl) (λ_ _=>rfl) (λ_ _ h=>h) (λ_ X=>by kernel_rfl)
def Q36(c:Q03)(i:Q0g):Tree (Q03×Q11):=
.cn (Nat.blt 0 1&&decide (0≤i.A∧i.A<(↑16:Int))) (.cn (Nat.blt 0 1&&decide (0≤i.B∧i.B<(↑16:Int))) (.br (i.Op==24) (.an (Q54 c i.A (ishl u32 (wrap u32 i.Imm) 16)) (.lv (Qb0 c i.A (ishl u32 (wrap u32 i.Imm) 16)) λ(x0:Q03)=> .lf ({X:=x0.X,Pc:=wrap u32 (c.Pc+4),B6:=x0.B6},{B5:=0,D0:=0,D9:=0,Value:=0}))) (let E2:=({X:=c.X,Pc:=wrap u32 (c.Pc+4),B6:=c.B6}:Q03);let E3:=List.getD (A16.l c.X) i.B.toNat 0;let E4:=List.getD (A16.l c.X) i.A.toNat 0;let T1:Tree ((Q03×Q11)):= .lv (Za6 i.Op E4 E3) λ(x1:Bool)=> .br x1 (.lf ({X:=c.X,Pc:=wrap u32 (c.Pc+wrap u32 (4*wrap u32 i.Imm)),B6:=c.B6},{B5:=0,D0:=0,D9:=0,Value:=0})) (.lf (E2,{B5:=0,D0:=0,D9:=0,Value:=0})); .br (i.Op==40) T1 (.br (i.Op==41) T1 (.br (i.Op==42) T1 (.br (i.Op==43) T1 (.br (i.Op==44) T1 (.br (i.Op==45) T1 (.br (i.Op==48) (.an (Q54 c i.A (wrap u32 (c.Pc+4))) (.lv (Qb0 c i.A (wrap u32 (c.Pc+4))) λ(x7:Q03)=> .lf ({X:=x7.X,Pc:=wrap u32 (x7.Pc+wrap u32 (4*wrap u32 i.Imm)),B6:=x7.B6},{B5:=0,D0:=0,D9:=0,Value:=0}))) (.br (i.Op==49) (.an (Q54 c i.A (wrap u32 (c.Pc+4))) (.lv (Qb0 c i.A (wrap u32 (c.Pc+4))) λ(x8:Q03)=> .lf ({X:=x8.X,Pc:=wrap u32 (List.getD (A16.l c.X) i.B.toNat 0+wrap u32 i.Imm),B6:=x8.B6},{B5:=0,D0:=0,D9:=0,Value:=0}))) (.br (i.Op==56) (.lv (Q4w c 7 0) λ(x9:Q03)=> .lf (x9,{B5:=0,D0:=0,D9:=0,Value:=0})) (.br (i.Op==57) (.lv (Qe c) λ(x10:Q03)=> .lf (x10,{B5:=0,D0:=0,D9:=0,Value:=0})) (.br (i.Op==58) (.cn (Nat.blt 0 1&&decide (0≤i.Imm∧i.Imm<(↑8:Int))) (let E5:=List.getD (A8.l c.B6) i.Imm.toNat 0; .an (Q54 c i.A E5) (.lv (Qb0 c i.A E5) λ(x11:Q03)=> .lf ({X:=x11.X,Pc:=wrap u32 (c.Pc+4),B6:=x11.B6},{B5:=0,D0:=0,D9:=0,Value:=0})))) (.br (i.Op==59) (.an (Qcc c (wrap i64 i.Imm) E4) (.lv (Zb0 c (wrap i64 i.Imm) E4) λ(x12:Q03)=> .lf ({X:=x12.X,Pc:=wrap u32 (c.Pc+4),B6:=x12.B6},{B5:=0,D0:=0,D9:=0,Value:=0}))) (.br (i.Op==60) (.lf (E2,{B5:=1,D0:=wrap i64 i.Imm,D9:=i.A,Value:=0})) (.br (i.Op==61) (.lf (E2,{B5:=2,D0:=wrap i64 i.Imm,D9:=0,Value:=List.getD (A16.l c.X) i.A.toNat 0})) (.br (i.Op==62) (.lf (E2,{B5:=3,D0:=0,D9:=0,Value:=0})) (.br (i.Op==63) (.lf (E2,{B5:=5,D0:=0,D9:=0,Value:=0})) (.br (i.Op==64) (.lf (E2,{B5:=4,D0:=0,D9:=0,Value:=0})) (.cn (Nat.blt 0 1&&decide (0≤i.C∧i.C<(↑16:Int))) (.br (decide (i.Op≥16)) (.an (Qdi i.Op E3 (wrap u32 i.Imm)) (.lv (Q4h i.Op E3 (wrap u32 i.Imm)) λ(x13:Int×Bool)=> .an (Q54 c i.A x13.1) (.lv (Qb0 c i.A x13.1) λ(x14:Q03)=> .lf ({X:=x14.X,Pc:=wrap u32 (c.Pc+4),B6:=x14.B6},{B5:=0,D0:=0,D9:=0,Value:=0})))) (let E6:=List.getD (A16.l c.X) i.C.toNat 0; .an (Qdi i.Op E3 E6) (.lv (Q4h i.Op E3 E6) λ(x15:Int×Bool)=> .an (Q54 c i.A x15.1) (.lv (Qb0 c i.A x15.1) λ(x16:Q03)=> .lf ({X:=x16.X,Pc:=wrap u32 (c.Pc+4),B6:=x16.B6},{B5:=0,D0:=0,D9:=0,Value:=0})))))))))))))))))))))))))
def Qkk(c:Q03)(i:Q0g):(Q03×Q11):=(Q36 c i).m
abbrev Q9o(c:Q03)(i:Q0g):Prop:=(Q36 c i).p
def Z6o:Q0d:=mkP 136 [] true [.agg Q03.sig, .agg Q0g.sig] [] (λargs rows=>Q9o (Q03.of (args.getD 0 .dead).cells) (Q0g.of (args.getD 1 .dead).cells)) (λargs rows=>Qkk (Q03.of (args.getD 0 .dead).cells) (Q0g.of (args.getD 1 .dead).cells)) (λX=> .tup [.agg (Q03.cells (X.1)), .agg (Q11.cells (X.2))]) (λX=>[])
theorem Z2i:Q05 Tryz.prog Z6o:=Q0n Q0i Q0j (.cons Z3e (.cons Z9i (.cons Qhl (.cons Z6q (.cons Z92 (.cons Zji (.nil))))))) Tryz.func136 Tryz.call136 (λargs rows=>Q36 (Q03.of (args.getD 0 .dead).cells) (Q0g.of (args.getD 1 .dead).cells)) [] [] 2 (λ_ _ _=>by kernel_rfl) (λ_ _=>rfl) (λ_ _ h=>h) (λ_ X=>by kernel_rfl)
def Q6h(c:Q03)(m:(List Int)):Tree (Q03×(List Int)×Q11):=
.an (Qcm c m) (.lv (Qm4 c m) λ(x0:Int×List Int×Int)=> .br (x0.2.2 !=0) (.lv (Q4w c x0.2.2 c.Pc) λ(x1:Q03)=> .lf (x1,x0.2.1,{B5:=0,D0:=0,D9:=0,Value:=0})) (.an (Qb3 x0.1) (.lv (Qgg x0.1) λ(x2:Q0g×Bool)=> .br (!x2.2) (.lv (Q4w c 1 x0.1) λ(x3:Q03)=> .lf (x3,x0.2.1,{B5:=0,D0:=0,D9:=0,Value:=0})) (.lv (Q8z x2.1.Op) λ(x4:Bool)=>let T1:Tree ((Q03×(List Int)×Q11)):=let T2:Tree ((Q03×(List Int)×Q11)):= .an (Qev c x0.2.1 x2.1) (.lv (Q6k c x0.2.1 x2.1) λ(x7:Q03×List Int)=> .lf (x7.1,x7.2,{B5:=0,D0:=0,D9:=0,Value:=0})); .br (x2.1.Op==32) T2 (.br (x2.1.Op==33) T2 (.br (x2.1.Op==34) T2 (let T3:Tree ((Q03×(List Int)×Q11)):= .an (Qcp c x0.2.1 x2.1) (.lv (Q8m c x0.2.1 x2.1) λ(x10:Q03×List Int)=> .lf (x10.1,x10.2,{B5:=0,D0:=0,D9:=0,Value:=0})); .br (x2.1.Op==35) T3 (.br (x2.1.Op==36) T3 (.an (Q9o c x2.1) (.lv (Qkk c x2.1) λ(x12:Q03×Q11)=> .lf (x12.1,x0.2.1,x12.2))))))); .br x4 (.lv (Qag c) λ(x5:Bool)=> .br (!x5) (.lv (Q4w c 2 x0.1) λ(x6:Q03)=> .lf (x6,x0.2.1,{B5:=0,D0:=0,D9:=0,Value:=0})) T1) T1))))
def Q84(c:Q03)(m:(List Int)):(Q03×(List Int)×Q11):=(Q6h c m).m
abbrev Qc3(c:Q03)(m:(List Int)):Prop:=(Q6h c m).p
def Zik:Q0d:=mkP 98 [] true [.agg Q03.sig, .one (.ints .u32)] [] (λargs rows=>Qc3 (Q03.of (args.getD 0 .dead).cells) (argL .u32 args 1)) (λargs rows=>Q84 (Q03.of (args.getD 0 .dead).cells) (argL .u32 args 1)) (λX=> .tup [.agg (Q03.cells (X.1)), .all 0, .agg (Q11.cells (X.2.2))]) (λX=>[⟨false,23,1, .ints .u32 (X.2.1)⟩])
theorem Qxy:Q05 Tryz.prog Zik:=Q0n Q0i Q0j (.cons Zbn (.cons Qhl (.cons Z62 (.cons Qsr (.cons Qr8 (.cons Zdt (.cons Z97 (.cons Z2i (.nil))))))))) Tryz.func98 Tryz.call98 (λargs rows=>Q6h (Q03.of (args.getD 0 .dead).cells) (argL .u32 args 1)) [.row 23 1 (.ints .u32)] [] 2 (λ_ _ _=>by kernel_rfl) (λ_ _=>rfl) (λ_ _ h=>h) (λ_ X=>by kernel_rfl)
end
end Go.Proofs.YtpcbkbalabgnlaaGreat

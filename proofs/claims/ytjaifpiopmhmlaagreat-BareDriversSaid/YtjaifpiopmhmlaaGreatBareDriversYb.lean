/-
  Functions of the program: models, and that its calls come to them (by a program: gen3.py).
-/
import Derived.Test.YtjaifpiopmhmlaaGreatBareDriversBase
import Derived.Test.YtjaifpiopmhmlaaGreatBareDriversYa
set_option maxRecDepth 100000
set_option linter.unusedVariables false
set_option linter.unusedSimpArgs false
namespace Go.Proofs.YtjaifpiopmhmlaaGreat
open Go Go.GD Go.IntKind
noncomputable section
def Qka(status:Int)(from0:Int)(to:Int):Tree Int:=
.br (iand u32 status from0 !=0) (.lf (ior u32 status to)) (.lf (Qd8 u32 status to))
def Q7g(status:Int)(from0:Int)(to:Int):Int:=(Qka status from0 to).m
def Z94:Q0e:=mkR 209 [] true [.one (.int .u32), .one (.int .u32), .one (.int .u32)] [] (λargs rows=>Q7g (argI args 0) (argI args 1) (argI args 2)) (λX=> .int .u32 X) (λX=>[])
theorem Qsg:Q08 Tryz.prog Z94:=Q2j Q0r Q0s (.nil) Tryz.func209 Tryz.call209 (λargs rows=>Qka (argI args 0) (argI args 1) (argI args 2)) [] [] 2 (λ_ _ _=>by kernel_rfl) (λ_ _=>rfl) (λ_ _=>Tree.free_ok (by kernel_rfl)) (λ_ X=>by kernel_rfl)
def Qgj(c:Q02)(cause:Int)(bad:Int):Tree Q02:=
.lv (Q7g c.B4.a0 1 8) λ(x0:Int)=> .lv (Q7g x0 2 16) λ(x1:Int)=> .lf ({X:=c.X,Pc:=c.B4.a1,B4:={a0:=Qd8 u32 (ior u32 x1 1) 2,a1:=c.B4.a1,a2:=c.Pc,a3:=wrap u32 cause,a4:=bad,a5:=c.B4.a5,a6:=c.B4.a6,a7:=c.B4.a7}})
def Q3w(c:Q02)(cause:Int)(bad:Int):Q02:=(Qgj c cause bad).m
def Zb4:Q0e:=mkR 154 [] true [.agg Q02.sig, .one (.int .i64), .one (.int .u32)] [] (λargs rows=>Q3w (Q02.of (args.getD 0 .dead).cells) (argI args 1) (argI args 2)) (λX=> .agg (Q02.cells X)) (λX=>[])
theorem Qep:Q08 Tryz.prog Zb4:=Q2j Q0r Q0s (.cons Qsg (.nil)) Tryz.func154 Tryz.call154 (λargs rows=>Qgj (Q02.of (args.getD 0 .dead).cells) (argI args 1) (argI args 2)) [] [] 2 (λ_ _ _=>by kernel_rfl) (λ_ _=>rfl) (λ_ _=>Tree.free_ok (by kernel_rfl)) (λ_ X=>by kernel_rfl)
def Qn3(access:Int):Tree (Int×Bool):=
.br (access==1) (.lf (4,true)) (.br (access==2) (.lf (5,true)) (.br (access==3) (.lf (6,true)) (.lf (5,false))))
def Qlx(access:Int):(Int×Bool):=(Qn3 access).m
def Z0k:Q0e:=mkR 249 [] true [.one (.int .i64)] [] (λargs rows=>Qlx (argI args 0)) (λX=> .tup [.int .i64 (X.1), .bool (X.2)]) (λX=>[])
theorem Qv9:Q08 Tryz.prog Z0k:=Q2j Q0r Q0s (.nil) Tryz.func249 Tryz.call249 (λargs rows=>Qn3 (argI args 0)) [] [] 2 (λ_ _ _=>by kernel_rfl) (λ_ _=>rfl) (λ_ _=>Tree.free_ok (by kernel_rfl)) (λ_ X=>by kernel_rfl)
def Qpz(c:Q02):Tree Bool:=
.lf (iand u32 c.B4.a0 (1:Int) !=(0:Int))
def Q8e(c:Q02):Bool:=(Qpz c).m
def Z3p:Q0e:=mkR 158 [] true [.agg Q02.sig] [] (λargs rows=>Q8e (Q02.of (args.getD 0 .dead).cells)) (λX=> .bool X) (λX=>[])
theorem Qmq:Q08 Tryz.prog Z3p:=Q2j Q0r Q0s (.nil) Tryz.func158 Tryz.call158 (λargs rows=>Qpz (Q02.of (args.getD 0 .dead).cells)) [] [] 2 (λ_ _ _=>by kernel_rfl) (λ_ _=>rfl) (λ_ _=>Tree.free_ok (by kernel_rfl)) (λ_ X=>by kernel_rfl)
def Qi6(access:Int):Tree (Int×Bool):=
.br (access==1) (.lf (4,true)) (.br (access==2) (.lf (5,true)) (.br (access==3) (.lf (6,true)) (.lf (5,false))))
def Qfz(access:Int):(Int×Bool):=(Qi6 access).m
def Qqv:Q0e:=mkR 269 [] true [.one (.int .i64)] [] (λargs rows=>Qfz (argI args 0)) (λX=> .tup [.int .i64 (X.1), .bool (X.2)]) (λX=>[])
theorem Qob:Q08 Tryz.prog Qqv:=Q2j Q0r Q0s (.nil) Tryz.func269 Tryz.call269 (λargs rows=>Qi6 (argI args 0)) [] [] 2 (λ_ _ _=>by kernel_rfl) (λ_ _=>rfl) (λ_ _=>Tree.free_ok (by kernel_rfl)) (λ_ X=>by kernel_rfl)
def Qer(m:(List Int))(frame:Int):Tree Bool:=
.lv (Q0q m) λ(x0:Int)=> .lf (decide (wrap u64 frame<wrap u64 x0))
def Q8i(m:(List Int))(frame:Int):Bool:=(Qer m frame).m
def Qs5:Q0e:=mkR 270 [] true [.one (.ints .u32), .one (.int .u32)] [] (λargs rows=>Q8i (argL .u32 args 0) (argI args 1)) (λX=> .bool X) (λX=>[])
theorem Qqt:Q08 Tryz.prog Qs5:=Q2j Q0r Q0s (.cons Q3u (.nil)) Tryz.func270 Tryz.call270 (λargs rows=>Qer (argL .u32 args 0) (argI args 1)) [] [] 2 (λ_ _ _=>by kernel_rfl) (λ_ _=>rfl) (λ_ _=>Tree.free_ok (by kernel_rfl)) (λ_ X=>by kernel_rfl)
def Q3g(m:(List Int))(addr:Int)(size:Int):Tree (Int×Bool):=
.an (Q8c m addr size) (.lv (Qde m addr size) λ(x0:Bool)=> .br (!x0) (.lf (0,false)) (.cn (Nat.beq 1 1&&Nat.blt 0 1&&decide (0≤wrap u32 (Int.tdiv addr 4)∧wrap u32 (Int.tdiv addr 4)<(m.length:Int))) (let E1:=Int.toNat (wrap u32 (Int.tdiv addr 4)); .br (size==1) (let E2:=wrap i64 (wrap i64 (Int.tmod addr 4)*8); .an (Q4h (m.getD E1 0) E2 8) (.lv (Q2v (m.getD E1 0) E2 8) λ(x1:Int)=> .lf (x1,true))) (.lf (m.getD E1 0,true)))))
def Q41(m:(List Int))(addr:Int)(size:Int):(Int×Bool):=(Q3g m addr size).m
abbrev Q2q(m:(List Int))(addr:Int)(size:Int):Prop:=(Q3g m addr size).p
def Z03:Q0e:=mkP 211 [] true [.one (.ints .u32), .one (.int .u32), .one (.int .i64)] [] (λargs rows=>Q2q (argL .u32 args 0) (argI args 1) (argI args 2)) (λargs rows=>Q41 (argL .u32 args 0) (argI args 1) (argI args 2)) (λX=> .tup [.int .u32 (X.1), .bool (X.2)]) (λX=>[])
theorem Q8v:Q08 Tryz.prog Z03:=Q0x Q0r Q0s (.cons Qid (.cons Qh1 (.nil))) Tryz.func211 Tryz.call211 (λargs rows=>Q3g (argL .u32 args 0) (argI args 1) (argI args 2)) [] [] 2 (λ_ _ _=>by kernel_rfl) (λ_ _=>rfl) (λ_ _ h=>h) (λ_ X=>by kernel_rfl)
def Qi4(pte:Int)(access:Int):Tree Bool:=
.br (iand u32 pte (1:Int)==(0:Int)) (.lf false) (.br (access==3) (.lf (iand u32 pte (2:Int) !=(0:Int))) (.br (access==1) (.lf (iand u32 pte (4:Int) !=(0:Int))) (.lf true)))
def Q8x(pte:Int)(access:Int):Bool:=(Qi4 pte access).m
def Qqp:Q0e:=mkR 271 [] true [.one (.int .u32), .one (.int .i64)] [] (λargs rows=>Q8x (argI args 0) (argI args 1)) (λX=> .bool X) (λX=>[])
theorem Qox:Q08 Tryz.prog Qqp:=Q2j Q0r Q0s (.nil) Tryz.func271 Tryz.call271 (λargs rows=>Qi4 (argI args 0) (argI args 1)) [] [] 2 (λ_ _ _=>by kernel_rfl) (λ_ _=>rfl) (λ_ _=>Tree.free_ok (by kernel_rfl)) (λ_ X=>by kernel_rfl)
def Q40(pte:Int):Tree Int:=
.an (Q4h pte 8 8) (.lv (Q2v pte 8 8) λ(x0:Int)=> .lf x0)
def Qbp(pte:Int):Int:=(Q40 pte).m
abbrev Q7f(pte:Int):Prop:=(Q40 pte).p
def Qrh:Q0e:=mkP 272 [] true [.one (.int .u32)] [] (λargs rows=>Q7f (argI args 0)) (λargs rows=>Qbp (argI args 0)) (λX=> .int .u32 X) (λX=>[])
theorem Qo3:Q08 Tryz.prog Qrh:=Q0x Q0r Q0s (.cons Qh1 (.nil)) Tryz.func272 Tryz.call272 (λargs rows=>Q40 (argI args 0)) [] [] 2 (λ_ _ _=>by kernel_rfl) (λ_ _=>rfl) (λ_ _ h=>h) (λ_ X=>by kernel_rfl)
def Q5i(m:(List Int))(root:Int)(va:Int)(access:Int):Tree Q12:=
.lv (Qfz access) λ(x0:Int×Bool)=>let E1:=({Addr:=0,E0:=0,D8:=x0.1}:Q12); .br (!x0.2) (.lf (E1)) (.br (decide (va≥4096)) (.lf (E1)) (.lv (Q8i m root) λ(x1:Bool)=> .br (!x1) (.lf (E1)) (let E2:=wrap u32 (root*128)+wrap u32 (4*wrap u32 (Int.tdiv va 128)); .an (Q2q m (wrap u32 E2) 4) (.lv (Q41 m (wrap u32 E2) 4) λ(x2:Int×Bool)=> .br (!x2.2) (.lf (E1)) (.lv (Q8x x2.1 access) λ(x3:Bool)=> .br (!x3) (.lf (E1)) (.an (Q7f x2.1) (.lv (Qbp x2.1) λ(x4:Int)=> .lv (Q8i m x4) λ(x5:Bool)=> .br (!x5) (.lf (E1)) (.an (Q7f x2.1) (.lv (Qbp x2.1) λ(x6:Int)=> .lf ({Addr:=wrap u32 (wrap u32 (x6*128)+Int.tmod va 128),E0:=wrap u32 E2,D8:=0}))))))))))
def Qew(m:(List Int))(root:Int)(va:Int)(access:Int):Q12:=(Q5i m root va access).m
abbrev Qag(m:(List Int))(root:Int)(va:Int)(access:Int):Prop:=(Q5i m root va access).p
def Qzf:Q0e:=mkP 250 [] true [.one (.ints .u32), .one (.int .u32), .one (.int .u32), .one (.int .i64)] [] (λargs rows=>Qag (argL .u32 args 0) (argI args 1) (argI args 2) (argI args 3)) (λargs rows=>Qew (argL .u32 args 0) (argI args 1) (argI args 2) (argI args 3)) (λX=> .agg (Q12.cells X)) (λX=>[])
theorem Qw0:Q08 Tryz.prog Qzf:=Q0x Q0r Q0s (.cons Qob (.cons Qqt (.cons Q8v (.cons Qox (.cons Qo3 (.nil)))))) Tryz.func250 Tryz.call250 (λargs rows=>Q5i (argL .u32 args 0) (argI args 1) (argI args 2) (argI args 3)) [] [] 2 (λ_ _ _=>by kernel_rfl) (λ_ _=>rfl) (λ_ _ h=>h) (λ_ X=>by kernel_rfl)
def Q4i(m:(List Int))(entry:Int)(access:Int):Tree (List Int):=
.an (Q2q m entry 4) (.lv (Q41 m entry 4) λ(x0:Int×Bool)=> .br (!x0.2) (.an (Q03 m) (.lv (Q01 m) λ(x1:List Int)=> .lf x1)) (.br (access==3) (.an (Q73 m entry 4 (ior u32 (ior u32 x0.1 8) 16)) (.lv (Q86 m entry 4 (ior u32 (ior u32 x0.1 8) 16)) λ(x2:List Int×Bool)=> .lf x2.1)) (.an (Q73 m entry 4 (ior u32 x0.1 8)) (.lv (Q86 m entry 4 (ior u32 x0.1 8)) λ(x3:List Int×Bool)=> .lf x3.1))))
def Q9k(m:(List Int))(entry:Int)(access:Int):(List Int):=(Q4i m entry access).m
abbrev Q98(m:(List Int))(entry:Int)(access:Int):Prop:=(Q4i m entry access).p
def Qva:Q0e:=mkP 251 [] true [.one (.ints .u32), .one (.int .u32), .one (.int .i64)] [] (λargs rows=>Q98 (argL .u32 args 0) (argI args 1) (argI args 2)) (λargs rows=>Q9k (argL .u32 args 0) (argI args 1) (argI args 2)) (λX=> .all 0) (λX=>[⟨false,23,1, .ints .u32 X⟩])
theorem Qum:Q08 Tryz.prog Qva:=Q0x Q0r Q0s (.cons Q8v (.cons Q0o (.cons Qjb (.nil)))) Tryz.func251 Tryz.call251 (λargs rows=>Q4i (argL .u32 args 0) (argI args 1) (argI args 2)) [.row 23 1 (.ints .u32)] [] 2 (λ_ _ _=>by kernel_rfl) (λ_ _=>rfl) (λ_ _ h=>h) (λ_ X=>by kernel_rfl)
def Q3i(c:Q02)(m:(List Int))(va:Int)(size:Int)(access:Int):Tree (Int×(List Int)×Int):=
.lv (Qlx access) λ(x0:Int×Bool)=>let T3:Tree ((Int×(List Int)×Int)):= .an (Q03 m) (.lv (Q01 m) λ(x1:List Int)=> .lf (0,x1,5)); .br (!x0.2) T3 (let T1:Tree ((Int×(List Int)×Int)):= .cn (decide (wrap u32 size≠0)) (.br (Int.tmod va (wrap u32 size) !=0) (.an (Q03 m) (.lv (Q01 m) λ(x3:List Int)=> .lf (0,x3,3))) (.lv (Q8e c) λ(x4:Bool)=>let T2:Tree ((Int×(List Int)×Int)):= .an (Q2q m va size) (.lv (Q41 m va size) λ(x8:Int×Bool)=> .br (!x8.2) (.an (Q03 m) (.lv (Q01 m) λ(x9:List Int)=> .lf (0,x9,x0.1))) (.an (Q03 m) (.lv (Q01 m) λ(x10:List Int)=> .lf (va,x10,0)))); .br (!x4) (.br (iand u32 c.B4.a0 (4:Int) !=(0:Int)) (.an (Qag m c.B4.a6 va access) (.lv (Qew m c.B4.a6 va access) λ(x5:Q12)=> .br (x5.D8 !=0) (.an (Q03 m) (.lv (Q01 m) λ(x6:List Int)=> .lf (0,x6,x5.D8))) (.an (Q98 m x5.E0 access) (.lv (Q9k m x5.E0 access) λ(x7:List Int)=> .lf (x5.Addr,x7,0))))) T2) T2)); .br (size !=1) (.br (size !=4) T3 T1) T1)
def Q1t(c:Q02)(m:(List Int))(va:Int)(size:Int)(access:Int):(Int×(List Int)×Int):=(Q3i c m va size access).m
abbrev Q62(c:Q02)(m:(List Int))(va:Int)(size:Int)(access:Int):Prop:=(Q3i c m va size access).p
def Z0s:Q0e:=mkP 210 [] true [.agg Q02.sig, .one (.ints .u32), .one (.int .u32), .one (.int .i64), .one (.int .i64)] [] (λargs rows=>Q62 (Q02.of (args.getD 0 .dead).cells) (argL .u32 args 1) (argI args 2) (argI args 3) (argI args 4)) (λargs rows=>Q1t (Q02.of (args.getD 0 .dead).cells) (argL .u32 args 1) (argI args 2) (argI args 3) (argI args 4)) (λX=> .tup [.int .u32 (X.1), .all 0, .int .i64 (X.2.2)]) (λX=>[⟨false,23,1, .ints .u32 (X.2.1)⟩])
theorem Qfy:Q08 Tryz.prog Z0s:=Q0x Q0r Q0s (.cons Qv9 (.cons Q0o (.cons Qmq (.cons Qw0 (.cons Qum (.cons Q8v (.nil))))))) Tryz.func210 Tryz.call210 (λargs rows=>Q3i (Q02.of (args.getD 0 .dead).cells) (argL .u32 args 1) (argI args 2) (argI args 3) (argI args 4)) [.row 23 1 (.ints .u32)] [] 2 (λ_ _ _=>by kernel_rfl) (λ_ _=>rfl) (λ_ _ h=>h) (λ_ X=>by kernel_rfl)
def Q6n(c:Q02)(m:(List Int)):Tree (Int×(List Int)×Int):=
.an (Q62 c m c.Pc 4 1) (.lv (Q1t c m c.Pc 4 1) λ(x0:Int×List Int×Int)=> .br (x0.2.2 !=0) (.lf (0,x0.2.1,x0.2.2)) (.an (Q2q x0.2.1 x0.1 4) (.lv (Q41 x0.2.1 x0.1 4) λ(x1:Int×Bool)=> .lf (x1.1,x0.2.1,0))))
def Qjk(c:Q02)(m:(List Int)):(Int×(List Int)×Int):=(Q6n c m).m
abbrev Qda(c:Q02)(m:(List Int)):Prop:=(Q6n c m).p
def Z5k:Q0e:=mkP 155 [] true [.agg Q02.sig, .one (.ints .u32)] [] (λargs rows=>Qda (Q02.of (args.getD 0 .dead).cells) (argL .u32 args 1)) (λargs rows=>Qjk (Q02.of (args.getD 0 .dead).cells) (argL .u32 args 1)) (λX=> .tup [.int .u32 (X.1), .all 0, .int .i64 (X.2.2)]) (λX=>[⟨false,23,1, .ints .u32 (X.2.1)⟩])
theorem Z4h:Q08 Tryz.prog Z5k:=Q0x Q0r Q0s (.cons Qfy (.cons Q8v (.nil))) Tryz.func155 Tryz.call155 (λargs rows=>Q6n (Q02.of (args.getD 0 .dead).cells) (argL .u32 args 1)) [.row 23 1 (.ints .u32)] [] 2 (λ_ _ _=>by kernel_rfl) (λ_ _=>rfl) (λ_ _ h=>h) (λ_ X=>by kernel_rfl)
def Qi9(op:Int):Tree Bool:=
.br (op==57) (.lf true) (.br (op==58) (.lf true) (.br (op==59) (.lf true) (.br (op==60) (.lf true) (.br (op==61) (.lf true) (.br (op==62) (.lf true) (.br (op==63) (.lf true) (.br (op==64) (.lf true) (.lf false))))))))
def Q79(op:Int):Bool:=(Qi9 op).m
def Qr5:Q0e:=mkR 157 [] true [.one (.int .i64)] [] (λargs rows=>Q79 (argI args 0)) (λX=> .bool X) (λX=>[])
theorem Qog:Q08 Tryz.prog Qr5:=Q2j Q0r Q0s (.nil) Tryz.func157 Tryz.call157 (λargs rows=>Qi9 (argI args 0)) [] [] 2 (λ_ _ _=>by kernel_rfl) (λ_ _=>rfl) (λ_ _=>Tree.free_ok (by kernel_rfl)) (λ_ X=>by kernel_rfl)
def Qlz(op:Int):Tree Int:=
.br (op==32) (.lf 4) (.br (op==35) (.lf 4) (.lf 1))
def Qbw(op:Int):Int:=(Qlz op).m
def Z6b:Q0e:=mkR 216 [] true [.one (.int .i64)] [] (λargs rows=>Qbw (argI args 0)) (λX=> .int .i64 X) (λX=>[])
theorem Qpn:Q08 Tryz.prog Z6b:=Q2j Q0r Q0s (.nil) Tryz.func216 Tryz.call216 (λargs rows=>Qlz (argI args 0)) [] [] 2 (λ_ _ _=>by kernel_rfl) (λ_ _=>rfl) (λ_ _=>Tree.free_ok (by kernel_rfl)) (λ_ X=>by kernel_rfl)
def Q7p(c:Q02)(register:Int)(v:Int):Tree Q02:=
.br (register !=0) (.cn (Nat.blt 0 1&&decide (0≤register∧register<(↑16:Int))) (.lf ({X:=A16.of 0 (List.set (A16.l c.X) register.toNat v),Pc:=c.Pc,B4:=c.B4}))) (.lf c)
def Q8p(c:Q02)(register:Int)(v:Int):Q02:=(Q7p c register v).m
abbrev Q5q(c:Q02)(register:Int)(v:Int):Prop:=(Q7p c register v).p
def cpu_set_m:Q0e:=mkP 217 [] true [.agg Q02.sig, .one (.int .i64), .one (.int .u32)] [] (λargs rows=>Q5q (Q02.of (args.getD 0 .dead).cells) (argI args 1) (argI args 2)) (λargs rows=>Q8p (Q02.of (args.getD 0 .dead).cells) (argI args 1) (argI args 2)) (λX=> .agg (Q02.cells X)) (λX=>[])
theorem Qx6:Q08 Tryz.prog cpu_set_m:=Q0x Q0r Q0s (.nil) Tryz.func217 Tryz.call217 (λargs rows=>Q7p (Q02.of (args.getD 0 .dead).cells) (argI args 1) (argI args 2)) [] [] 2 (λ_ _ _=>by kernel_rfl) (λ_ _=>rfl) (λ_ _ h=>h) (λ_ X=>by kernel_rfl)
def Q87(c:Q02)(m:(List Int))(i:Q0g):Tree (Q02×(List Int)):=
.cn (Nat.blt 0 1&&decide (0≤i.B∧i.B<(↑16:Int))) (.lv (Qbw i.Op) λ(x0:Int)=>let E1:=wrap u32 (List.getD (A16.l c.X) i.B.toNat 0+wrap u32 i.Imm); .an (Q62 c m E1 x0 2) (.lv (Q1t c m E1 x0 2) λ(x1:Int×List Int×Int)=> .br (x1.2.2 !=0) (.lv (Q3w c x1.2.2 E1) λ(x2:Q02)=> .lf (x2,x1.2.1)) (.lv (Qbw i.Op) λ(x3:Int)=> .an (Q2q x1.2.1 x1.1 x3) (.lv (Q41 x1.2.1 x1.1 x3) λ(x4:Int×Bool)=> .br (i.Op==33) (.an (Q6f x4.1 8) (.lv (Q28 x4.1 8) λ(x5:Int)=> .an (Q5q c i.A x5) (.lv (Q8p c i.A x5) λ(x6:Q02)=> .lf ({X:=x6.X,Pc:=wrap u32 (x6.Pc+4),B4:=x6.B4},x1.2.1)))) (.an (Q5q c i.A x4.1) (.lv (Q8p c i.A x4.1) λ(x7:Q02)=> .lf ({X:=x7.X,Pc:=wrap u32 (x7.Pc+4),B4:=x7.B4},x1.2.1)))))))
def Q5d(c:Q02)(m:(List Int))(i:Q0g):(Q02×(List Int)):=(Q87 c m i).m
abbrev Qj3(c:Q02)(m:(List Int))(i:Q0g):Prop:=(Q87 c m i).p
def Zan:Q0e:=mkP 159 [] true [.agg Q02.sig, .one (.ints .u32), .agg Q0g.sig] [] (λargs rows=>Qj3 (Q02.of (args.getD 0 .dead).cells) (argL .u32 args 1) (Q0g.of (args.getD 2 .dead).cells)) (λargs rows=>Q5d (Q02.of (args.getD 0 .dead).cells) (argL .u32 args 1) (Q0g.of (args.getD 2 .dead).cells)) (λX=> .tup [.agg (Q02.cells (X.1)), .all 0]) (λX=>[⟨false,23,1, .ints .u32 (X.2)⟩])
theorem Z6r:Q08 Tryz.prog Zan:=Q0x Q0r Q0s (.cons Qfy (.cons Qpn (.cons Qep (.cons Q8v (.cons Qfs (.cons Qx6 (.nil))))))) Tryz.func159 Tryz.call159 (λargs rows=>Q87 (Q02.of (args.getD 0 .dead).cells) (argL .u32 args 1) (Q0g.of (args.getD 2 .dead).cells)) [.row 23 1 (.ints .u32)] [] 2 (λ_ _ _=>by kernel_rfl) (λ_ _=>rfl) (λ_ _ h=>h) (λ_ X=>by kernel_rfl)
def Q6m(c:Q02)(m:(List Int))(i:Q0g):Tree (Q02×(List Int)):=
.cn (Nat.blt 0 1&&decide (0≤i.B∧i.B<(↑16:Int))) (.lv (Qbw i.Op) λ(x0:Int)=>let E1:=wrap u32 (List.getD (A16.l c.X) i.B.toNat 0+wrap u32 i.Imm); .an (Q62 c m E1 x0 3) (.lv (Q1t c m E1 x0 3) λ(x1:Int×List Int×Int)=> .br (x1.2.2 !=0) (.lv (Q3w c x1.2.2 E1) λ(x2:Q02)=> .lf (x2,x1.2.1)) (.lv (Qbw i.Op) λ(x3:Int)=> .cn (Nat.blt 0 1&&decide (0≤i.A∧i.A<(↑16:Int))) (let E2:=List.getD (A16.l c.X) i.A.toNat 0; .an (Q73 x1.2.1 x1.1 x3 E2) (.lv (Q86 x1.2.1 x1.1 x3 E2) λ(x4:List Int×Bool)=> .lf ({X:=c.X,Pc:=wrap u32 (c.Pc+4),B4:=c.B4},x4.1))))))
def Q6y(c:Q02)(m:(List Int))(i:Q0g):(Q02×(List Int)):=(Q6m c m i).m
abbrev Qhe(c:Q02)(m:(List Int))(i:Q0g):Prop:=(Q6m c m i).p
def Z60:Q0e:=mkP 160 [] true [.agg Q02.sig, .one (.ints .u32), .agg Q0g.sig] [] (λargs rows=>Qhe (Q02.of (args.getD 0 .dead).cells) (argL .u32 args 1) (Q0g.of (args.getD 2 .dead).cells)) (λargs rows=>Q6y (Q02.of (args.getD 0 .dead).cells) (argL .u32 args 1) (Q0g.of (args.getD 2 .dead).cells)) (λX=> .tup [.agg (Q02.cells (X.1)), .all 0]) (λX=>[⟨false,23,1, .ints .u32 (X.2)⟩])
theorem Z2p:Q08 Tryz.prog Z60:=Q0x Q0r Q0s (.cons Qfy (.cons Qpn (.cons Qep (.cons Qjb (.nil))))) Tryz.func160 Tryz.call160 (λargs rows=>Q6m (Q02.of (args.getD 0 .dead).cells) (argL .u32 args 1) (Q0g.of (args.getD 2 .dead).cells)) [.row 23 1 (.ints .u32)] [] 2 (λ_ _ _=>by kernel_rfl) (λ_ _=>rfl) (λ_ _ h=>h) (λ_ X=>by kernel_rfl)
def Qu1(op:Int)(a:Int)(b:Int):Tree Bool:=
.br (op==40) (.lf (a==b)) (.br (op==41) (.lf (a !=b)) (.br (op==42) (.lf (decide (wrap i32 a<wrap i32 b))) (.br (op==43) (.lf (decide (wrap i32 a≥wrap i32 b))) (.br (op==44) (.lf (decide (a<b))) (.lf (decide (a≥b)))))))
def Z22(op:Int)(a:Int)(b:Int):Bool:=(Qu1 op a b).m
def Z5e:Q0e:=mkR 219 [] true [.one (.int .i64), .one (.int .u32), .one (.int .u32)] [] (λargs rows=>Z22 (argI args 0) (argI args 1) (argI args 2)) (λX=> .bool X) (λX=>[])
theorem Z4d:Q08 Tryz.prog Z5e:=Q2j Q0r Q0s (.nil) Tryz.func219 Tryz.call219 (λargs rows=>Qu1 (argI args 0) (argI args 1) (argI args 2)) [] [] 2 (λ_ _ _=>by kernel_rfl) (λ_ _=>rfl) (λ_ _=>Tree.free_ok (by kernel_rfl)) (λ_ X=>by kernel_rfl)
def Qcb(c:Q02):Tree Q02:=
.lv (Q7g c.B4.a0 8 1) λ(x0:Int)=> .lv (Q7g x0 16 2) λ(x1:Int)=> .lf ({X:=c.X,Pc:=c.B4.a2,B4:={a0:=x1,a1:=c.B4.a1,a2:=c.B4.a2,a3:=c.B4.a3,a4:=c.B4.a4,a5:=c.B4.a5,a6:=c.B4.a6,a7:=c.B4.a7}})
def Qba(c:Q02):Q02:=(Qcb c).m
def Z41:Q0e:=mkR 220 [] true [.agg Q02.sig] [] (λargs rows=>Qba (Q02.of (args.getD 0 .dead).cells)) (λX=> .agg (Q02.cells X)) (λX=>[])
theorem Qzd:Q08 Tryz.prog Z41:=Q2j Q0r Q0s (.cons Qsg (.nil)) Tryz.func220 Tryz.call220 (λargs rows=>Qcb (Q02.of (args.getD 0 .dead).cells)) [] [] 2 (λ_ _ _=>by kernel_rfl) (λ_ _=>rfl) (λ_ _=>Tree.free_ok (by kernel_rfl)) (λ_ X=>by kernel_rfl)
def Q6u(c:Q02)(csr:Int)(v:Int):Tree Q02:=
let E4:=Nat.blt 0 1&&decide (0≤csr∧csr<(↑8:Int));let T2:Tree (Q02):= .cn E4 (.lf ({X:=c.X,Pc:=c.Pc,B4:=A8.of 0 (List.set (A8.l c.B4) csr.toNat (iand u32 v 31))})); .br (csr==0) T2 (.br (csr==7) T2 (.br (csr==6) (.cn E4 (.lf ({X:=c.X,Pc:=c.Pc,B4:=A8.of 0 (List.set (A8.l c.B4) csr.toNat (iand u32 v 255))}))) (let T3:Tree (Q02):= .cn E4 (.lf ({X:=c.X,Pc:=c.Pc,B4:=A8.of 0 (List.set (A8.l c.B4) csr.toNat (Qd8 u32 v 3))})); .br (csr==1) T3 (.br (csr==2) T3 (let T1:Tree (Q02):= .cn E4 (.lf ({X:=c.X,Pc:=c.Pc,B4:=A8.of 0 (List.set (A8.l c.B4) csr.toNat v)})); .br (csr==3) T1 (.br (csr==4) T1 (.br (csr==5) T1 (.lf c))))))))
def Z2i(c:Q02)(csr:Int)(v:Int):Q02:=(Q6u c csr v).m
abbrev Qhx(c:Q02)(csr:Int)(v:Int):Prop:=(Q6u c csr v).p
def Z55:Q0e:=mkP 221 [] true [.agg Q02.sig, .one (.int .i64), .one (.int .u32)] [] (λargs rows=>Qhx (Q02.of (args.getD 0 .dead).cells) (argI args 1) (argI args 2)) (λargs rows=>Z2i (Q02.of (args.getD 0 .dead).cells) (argI args 1) (argI args 2)) (λX=> .agg (Q02.cells X)) (λX=>[])
theorem Z3z:Q08 Tryz.prog Z55:=Q0x Q0r Q0s (.nil) Tryz.func221 Tryz.call221 (λargs rows=>Q6u (Q02.of (args.getD 0 .dead).cells) (argI args 1) (argI args 2)) [] [] 2 (λ_ _ _=>by kernel_rfl) (λ_ _=>rfl) (λ_ _ h=>h) (λ_ X=>by kernel_rfl)
def Q32(c:Q02)(i:Q0g):Tree (Q02×Q0z):=
.cn (Nat.blt 0 1&&decide (0≤i.A∧i.A<(↑16:Int))) (.cn (Nat.blt 0 1&&decide (0≤i.B∧i.B<(↑16:Int))) (.br (i.Op==24) (.an (Q5q c i.A (ishl u32 (wrap u32 i.Imm) 16)) (.lv (Q8p c i.A (ishl u32 (wrap u32 i.Imm) 16)) λ(x0:Q02)=> .lf ({X:=x0.X,Pc:=wrap u32 (c.Pc+4),B4:=x0.B4},{B2:=0,C8:=0,D7:=0,Value:=0}))) (let E2:=({X:=c.X,Pc:=wrap u32 (c.Pc+4),B4:=c.B4}:Q02);let E3:=List.getD (A16.l c.X) i.B.toNat 0;let E4:=List.getD (A16.l c.X) i.A.toNat 0;let T1:Tree ((Q02×Q0z)):= .lv (Z22 i.Op E4 E3) λ(x1:Bool)=> .br x1 (.lf ({X:=c.X,Pc:=wrap u32 (c.Pc+wrap u32 (4*wrap u32 i.Imm)),B4:=c.B4},{B2:=0,C8:=0,D7:=0,Value:=0})) (.lf (E2,{B2:=0,C8:=0,D7:=0,Value:=0})); .br (i.Op==40) T1 (.br (i.Op==41) T1 (.br (i.Op==42) T1 (.br (i.Op==43) T1 (.br (i.Op==44) T1 (.br (i.Op==45) T1 (.br (i.Op==48) (.an (Q5q c i.A (wrap u32 (c.Pc+4))) (.lv (Q8p c i.A (wrap u32 (c.Pc+4))) λ(x7:Q02)=> .lf ({X:=x7.X,Pc:=wrap u32 (x7.Pc+wrap u32 (4*wrap u32 i.Imm)),B4:=x7.B4},{B2:=0,C8:=0,D7:=0,Value:=0}))) (.br (i.Op==49) (.an (Q5q c i.A (wrap u32 (c.Pc+4))) (.lv (Q8p c i.A (wrap u32 (c.Pc+4))) λ(x8:Q02)=> .lf ({X:=x8.X,Pc:=wrap u32 (List.getD (A16.l c.X) i.B.toNat 0+wrap u32 i.Imm),B4:=x8.B4},{B2:=0,C8:=0,D7:=0,Value:=0}))) (.br (i.Op==56) (.lv (Q3w c 7 0) λ(x9:Q02)=> .lf (x9,{B2:=0,C8:=0,D7:=0,Value:=0})) (.br (i.Op==57) (.lv (Qba c) λ(x10:Q02)=> .lf (x10,{B2:=0,C8:=0,D7:=0,Value:=0})) (.br (i.Op==58) (.cn (Nat.blt 0 1&&decide (0≤i.Imm∧i.Imm<(↑8:Int))) (let E5:=List.getD (A8.l c.B4) i.Imm.toNat 0; .an (Q5q c i.A E5) (.lv (Q8p c i.A E5) λ(x11:Q02)=> .lf ({X:=x11.X,Pc:=wrap u32 (c.Pc+4),B4:=x11.B4},{B2:=0,C8:=0,D7:=0,Value:=0})))) (.br (i.Op==59) (.an (Qhx c (wrap i64 i.Imm) E4) (.lv (Z2i c (wrap i64 i.Imm) E4) λ(x12:Q02)=> .lf ({X:=x12.X,Pc:=wrap u32 (c.Pc+4),B4:=x12.B4},{B2:=0,C8:=0,D7:=0,Value:=0}))) (.br (i.Op==60) (.lf (E2,{B2:=1,C8:=wrap i64 i.Imm,D7:=i.A,Value:=0})) (.br (i.Op==61) (.lf (E2,{B2:=2,C8:=wrap i64 i.Imm,D7:=0,Value:=List.getD (A16.l c.X) i.A.toNat 0})) (.br (i.Op==62) (.lf (E2,{B2:=3,C8:=0,D7:=0,Value:=0})) (.br (i.Op==63) (.lf (E2,{B2:=5,C8:=0,D7:=0,Value:=0})) (.br (i.Op==64) (.lf (E2,{B2:=4,C8:=0,D7:=0,Value:=0})) (.cn (Nat.blt 0 1&&decide (0≤i.C∧i.C<(↑16:Int))) (.br (decide (i.Op≥16)) (.an (Qh5 i.Op E3 (wrap u32 i.Imm)) (.lv (Q3m i.Op E3 (wrap u32 i.Imm)) λ(x13:Int×Bool)=> .an (Q5q c i.A x13.1) (.lv (Q8p c i.A x13.1) λ(x14:Q02)=> .lf ({X:=x14.X,Pc:=wrap u32 (c.Pc+4),B4:=x14.B4},{B2:=0,C8:=0,D7:=0,Value:=0})))) (let E6:=List.getD (A16.l c.X) i.C.toNat 0; .an (Qh5 i.Op E3 E6) (.lv (Q3m i.Op E3 E6) λ(x15:Int×Bool)=> .an (Q5q c i.A x15.1) (.lv (Q8p c i.A x15.1) λ(x16:Q02)=> .lf ({X:=x16.X,Pc:=wrap u32 (c.Pc+4),B4:=x16.B4},{B2:=0,C8:=0,D7:=0,Value:=0})))))))))))))))))))))))))
def Qhy(c:Q02)(i:Q0g):(Q02×Q0z):=(Q32 c i).m
abbrev Qe5(c:Q02)(i:Q0g):Prop:=(Q32 c i).p
def Qzc:Q0e:=mkP 161 [] true [.agg Q02.sig, .agg Q0g.sig] [] (λargs rows=>Qe5 (Q02.of (args.getD 0 .dead).cells) (Q0g.of (args.getD 1 .dead).cells)) (λargs rows=>Qhy (Q02.of (args.getD 0 .dead).cells) (Q0g.of (args.getD 1 .dead).cells)) (λX=> .tup [.agg (Q02.cells (X.1)), .agg (Q0z.cells (X.2))]) (λX=>[])
theorem Qvq:Q08 Tryz.prog Qzc:=Q0x Q0r Q0s (.cons Qx6 (.cons Z4d (.cons Qep (.cons Qzd (.cons Z3z (.cons Z9g (.nil))))))) Tryz.func161 Tryz.call161 (λargs rows=>Q32 (Q02.of (args.getD 0 .dead).cells) (Q0g.of (args.getD 1 .dead).cells)) [] [] 2 (λ_ _ _=>by kernel_rfl) (λ_ _=>rfl) (λ_ _ h=>h) (λ_ X=>by kernel_rfl)
def Q4m(c:Q02)(m:(List Int)):Tree (Q02×(List Int)×Q0z):=
.an (Qda c m) (.lv (Qjk c m) λ(x0:Int×List Int×Int)=> .br (x0.2.2 !=0) (.lv (Q3w c x0.2.2 c.Pc) λ(x1:Q02)=> .lf (x1,x0.2.1,{B2:=0,C8:=0,D7:=0,Value:=0})) (.an (Qbm x0.1) (.lv (Qdv x0.1) λ(x2:Q0g×Bool)=> .br (!x2.2) (.lv (Q3w c 1 x0.1) λ(x3:Q02)=> .lf (x3,x0.2.1,{B2:=0,C8:=0,D7:=0,Value:=0})) (.lv (Q79 x2.1.Op) λ(x4:Bool)=>let T1:Tree ((Q02×(List Int)×Q0z)):=let T2:Tree ((Q02×(List Int)×Q0z)):= .an (Qj3 c x0.2.1 x2.1) (.lv (Q5d c x0.2.1 x2.1) λ(x7:Q02×List Int)=> .lf (x7.1,x7.2,{B2:=0,C8:=0,D7:=0,Value:=0})); .br (x2.1.Op==32) T2 (.br (x2.1.Op==33) T2 (.br (x2.1.Op==34) T2 (let T3:Tree ((Q02×(List Int)×Q0z)):= .an (Qhe c x0.2.1 x2.1) (.lv (Q6y c x0.2.1 x2.1) λ(x10:Q02×List Int)=> .lf (x10.1,x10.2,{B2:=0,C8:=0,D7:=0,Value:=0})); .br (x2.1.Op==35) T3 (.br (x2.1.Op==36) T3 (.an (Qe5 c x2.1) (.lv (Qhy c x2.1) λ(x12:Q02×Q0z)=> .lf (x12.1,x0.2.1,x12.2))))))); .br x4 (.lv (Q8e c) λ(x5:Bool)=> .br (!x5) (.lv (Q3w c 2 x0.1) λ(x6:Q02)=> .lf (x6,x0.2.1,{B2:=0,C8:=0,D7:=0,Value:=0})) T1) T1))))
def Q4a(c:Q02)(m:(List Int)):(Q02×(List Int)×Q0z):=(Q4m c m).m
abbrev Qby(c:Q02)(m:(List Int)):Prop:=(Q4m c m).p
def Zay:Q0e:=mkP 107 [] true [.agg Q02.sig, .one (.ints .u32)] [] (λargs rows=>Qby (Q02.of (args.getD 0 .dead).cells) (argL .u32 args 1)) (λargs rows=>Q4a (Q02.of (args.getD 0 .dead).cells) (argL .u32 args 1)) (λX=> .tup [.agg (Q02.cells (X.1)), .all 0, .agg (Q0z.cells (X.2.2))]) (λX=>[⟨false,23,1, .ints .u32 (X.2.1)⟩])
theorem Quo:Q08 Tryz.prog Zay:=Q0x Q0r Q0s (.cons Z4h (.cons Qep (.cons Qyi (.cons Qog (.cons Qmq (.cons Z6r (.cons Z2p (.cons Qvq (.nil))))))))) Tryz.func107 Tryz.call107 (λargs rows=>Q4m (Q02.of (args.getD 0 .dead).cells) (argL .u32 args 1)) [.row 23 1 (.ints .u32)] [] 2 (λ_ _ _=>by kernel_rfl) (λ_ _=>rfl) (λ_ _ h=>h) (λ_ X=>by kernel_rfl)
end
end Go.Proofs.YtjaifpiopmhmlaaGreat

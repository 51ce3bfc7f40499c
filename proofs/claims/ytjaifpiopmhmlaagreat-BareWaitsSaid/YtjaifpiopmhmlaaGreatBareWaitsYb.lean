/-
  Functions of the program: models, and that its calls come to them (by a program: gen3.py).
-/
import Derived.Test.YtjaifpiopmhmlaaGreatBareWaitsBase
import Derived.Test.YtjaifpiopmhmlaaGreatBareWaitsYa
set_option maxRecDepth 100000
set_option linter.unusedVariables false
set_option linter.unusedSimpArgs false
namespace Go.Proofs.YtjaifpiopmhmlaaGreat
open Go Go.GD Go.IntKind
noncomputable section
def Qkd(status:Int)(from0:Int)(to:Int):Tree Int:=
.br (iand u32 status from0 !=0) (.lf (ior u32 status to)) (.lf (Qdh u32 status to))
def Q7l(status:Int)(from0:Int)(to:Int):Int:=(Qkd status from0 to).m
def Z9i:Q0e:=mkR 209 [] true [.one (.int .u32), .one (.int .u32), .one (.int .u32)] [] (λargs rows=>Q7l (argI args 0) (argI args 1) (argI args 2)) (λX=> .int .u32 X) (λX=>[])
theorem Qse:Q09 Tryz.prog Z9i:=Q2l Q0s Q0r (.nil) Tryz.func209 Tryz.call209 (λargs rows=>Qkd (argI args 0) (argI args 1) (argI args 2)) [] [] 2 (λ_ _ _=>by kernel_rfl) (λ_ _=>rfl) (λ_ _=>Tree.free_ok (by kernel_rfl)) (λ_ X=>by kernel_rfl)
def Qgc(c:Q02)(cause:Int)(bad:Int):Tree Q02:=
.lv (Q7l c.B3.a0 1 8) λ(x0:Int)=> .lv (Q7l x0 2 16) λ(x1:Int)=> .lf ({X:=c.X,Pc:=c.B3.a1,B3:={a0:=Qdh u32 (ior u32 x1 1) 2,a1:=c.B3.a1,a2:=c.Pc,a3:=wrap u32 cause,a4:=bad,a5:=c.B3.a5,a6:=c.B3.a6,a7:=c.B3.a7}})
def Q3x(c:Q02)(cause:Int)(bad:Int):Q02:=(Qgc c cause bad).m
def Z9k:Q0e:=mkR 154 [] true [.agg Q02.sig, .one (.int .i64), .one (.int .u32)] [] (λargs rows=>Q3x (Q02.of (args.getD 0 .dead).cells) (argI args 1) (argI args 2)) (λX=> .agg (Q02.cells X)) (λX=>[])
theorem Qeu:Q09 Tryz.prog Z9k:=Q2l Q0s Q0r (.cons Qse (.nil)) Tryz.func154 Tryz.call154 (λargs rows=>Qgc (Q02.of (args.getD 0 .dead).cells) (argI args 1) (argI args 2)) [] [] 2 (λ_ _ _=>by kernel_rfl) (λ_ _=>rfl) (λ_ _=>Tree.free_ok (by kernel_rfl)) (λ_ X=>by kernel_rfl)
def Qmi(access:Int):Tree (Int×Bool):=
.br (access==1) (.lf (4,true)) (.br (access==2) (.lf (5,true)) (.br (access==3) (.lf (6,true)) (.lf (5,false))))
def Qlk(access:Int):(Int×Bool):=(Qmi access).m
def Qzv:Q0e:=mkR 249 [] true [.one (.int .i64)] [] (λargs rows=>Qlk (argI args 0)) (λX=> .tup [.int .i64 (X.1), .bool (X.2)]) (λX=>[])
theorem Qvq:Q09 Tryz.prog Qzv:=Q2l Q0s Q0r (.nil) Tryz.func249 Tryz.call249 (λargs rows=>Qmi (argI args 0)) [] [] 2 (λ_ _ _=>by kernel_rfl) (λ_ _=>rfl) (λ_ _=>Tree.free_ok (by kernel_rfl)) (λ_ X=>by kernel_rfl)
def Qpe(c:Q02):Tree Bool:=
.lf (iand u32 c.B3.a0 (1:Int) !=(0:Int))
def Q8l(c:Q02):Bool:=(Qpe c).m
def Z26:Q0e:=mkR 158 [] true [.agg Q02.sig] [] (λargs rows=>Q8l (Q02.of (args.getD 0 .dead).cells)) (λX=> .bool X) (λX=>[])
theorem Qmp:Q09 Tryz.prog Z26:=Q2l Q0s Q0r (.nil) Tryz.func158 Tryz.call158 (λargs rows=>Qpe (Q02.of (args.getD 0 .dead).cells)) [] [] 2 (λ_ _ _=>by kernel_rfl) (λ_ _=>rfl) (λ_ _=>Tree.free_ok (by kernel_rfl)) (λ_ X=>by kernel_rfl)
def Qih(access:Int):Tree (Int×Bool):=
.br (access==1) (.lf (4,true)) (.br (access==2) (.lf (5,true)) (.br (access==3) (.lf (6,true)) (.lf (5,false))))
def Qga(access:Int):(Int×Bool):=(Qih access).m
def Qqm:Q0e:=mkR 269 [] true [.one (.int .i64)] [] (λargs rows=>Qga (argI args 0)) (λX=> .tup [.int .i64 (X.1), .bool (X.2)]) (λX=>[])
theorem Qnn:Q09 Tryz.prog Qqm:=Q2l Q0s Q0r (.nil) Tryz.func269 Tryz.call269 (λargs rows=>Qih (argI args 0)) [] [] 2 (λ_ _ _=>by kernel_rfl) (λ_ _=>rfl) (λ_ _=>Tree.free_ok (by kernel_rfl)) (λ_ X=>by kernel_rfl)
def Qel(m:(List Int))(frame:Int):Tree Bool:=
.lv (Q0q m) λ(x0:Int)=> .lf (decide (wrap u64 frame<wrap u64 x0))
def Q89(m:(List Int))(frame:Int):Bool:=(Qel m frame).m
def Qu7:Q0e:=mkR 270 [] true [.one (.ints .u32), .one (.int .u32)] [] (λargs rows=>Q89 (argL .u32 args 0) (argI args 1)) (λX=> .bool X) (λX=>[])
theorem Qqv:Q09 Tryz.prog Qu7:=Q2l Q0s Q0r (.cons Q3l (.nil)) Tryz.func270 Tryz.call270 (λargs rows=>Qel (argL .u32 args 0) (argI args 1)) [] [] 2 (λ_ _ _=>by kernel_rfl) (λ_ _=>rfl) (λ_ _=>Tree.free_ok (by kernel_rfl)) (λ_ X=>by kernel_rfl)
def Q3j(m:(List Int))(addr:Int)(size:Int):Tree (Int×Bool):=
.an (Q8h m addr size) (.lv (Qd9 m addr size) λ(x0:Bool)=> .br (!x0) (.lf (0,false)) (.cn (Nat.beq 1 1&&Nat.blt 0 1&&decide (0≤wrap u32 (Int.tdiv addr 4)∧wrap u32 (Int.tdiv addr 4)<(m.length:Int))) (let E1:=Int.toNat (wrap u32 (Int.tdiv addr 4)); .br (size==1) (let E2:=wrap i64 (wrap i64 (Int.tmod addr 4)*8); .an (Q4k (m.getD E1 0) E2 8) (.lv (Q2v (m.getD E1 0) E2 8) λ(x1:Int)=> .lf (x1,true))) (.lf (m.getD E1 0,true)))))
def Q44(m:(List Int))(addr:Int)(size:Int):(Int×Bool):=(Q3j m addr size).m
abbrev Q2n(m:(List Int))(addr:Int)(size:Int):Prop:=(Q3j m addr size).p
def Z09:Q0e:=mkP 211 [] true [.one (.ints .u32), .one (.int .u32), .one (.int .i64)] [] (λargs rows=>Q2n (argL .u32 args 0) (argI args 1) (argI args 2)) (λargs rows=>Q44 (argL .u32 args 0) (argI args 1) (argI args 2)) (λX=> .tup [.int .u32 (X.1), .bool (X.2)]) (λX=>[])
theorem Q93:Q09 Tryz.prog Z09:=Q0z Q0s Q0r (.cons Qi2 (.cons Qhi (.nil))) Tryz.func211 Tryz.call211 (λargs rows=>Q3j (argL .u32 args 0) (argI args 1) (argI args 2)) [] [] 2 (λ_ _ _=>by kernel_rfl) (λ_ _=>rfl) (λ_ _ h=>h) (λ_ X=>by kernel_rfl)
def Qii(pte:Int)(access:Int):Tree Bool:=
.br (iand u32 pte (1:Int)==(0:Int)) (.lf false) (.br (access==3) (.lf (iand u32 pte (2:Int) !=(0:Int))) (.br (access==1) (.lf (iand u32 pte (4:Int) !=(0:Int))) (.lf true)))
def Q8z(pte:Int)(access:Int):Bool:=(Qii pte access).m
def Qr7:Q0e:=mkR 271 [] true [.one (.int .u32), .one (.int .i64)] [] (λargs rows=>Q8z (argI args 0) (argI args 1)) (λX=> .bool X) (λX=>[])
theorem Qom:Q09 Tryz.prog Qr7:=Q2l Q0s Q0r (.nil) Tryz.func271 Tryz.call271 (λargs rows=>Qii (argI args 0) (argI args 1)) [] [] 2 (λ_ _ _=>by kernel_rfl) (λ_ _=>rfl) (λ_ _=>Tree.free_ok (by kernel_rfl)) (λ_ X=>by kernel_rfl)
def Q41(pte:Int):Tree Int:=
.an (Q4k pte 8 8) (.lv (Q2v pte 8 8) λ(x0:Int)=> .lf x0)
def Qbo(pte:Int):Int:=(Q41 pte).m
abbrev Q7j(pte:Int):Prop:=(Q41 pte).p
def Qr9:Q0e:=mkP 272 [] true [.one (.int .u32)] [] (λargs rows=>Q7j (argI args 0)) (λargs rows=>Qbo (argI args 0)) (λX=> .int .u32 X) (λX=>[])
theorem Qov:Q09 Tryz.prog Qr9:=Q0z Q0s Q0r (.cons Qhi (.nil)) Tryz.func272 Tryz.call272 (λargs rows=>Q41 (argI args 0)) [] [] 2 (λ_ _ _=>by kernel_rfl) (λ_ _=>rfl) (λ_ _ h=>h) (λ_ X=>by kernel_rfl)
def Q5b(m:(List Int))(root:Int)(va:Int)(access:Int):Tree Q13:=
.lv (Qga access) λ(x0:Int×Bool)=>let E1:=({Addr:=0,E0:=0,D8:=x0.1}:Q13); .br (!x0.2) (.lf (E1)) (.br (decide (va≥4096)) (.lf (E1)) (.lv (Q89 m root) λ(x1:Bool)=> .br (!x1) (.lf (E1)) (let E2:=wrap u32 (root*128)+wrap u32 (4*wrap u32 (Int.tdiv va 128)); .an (Q2n m (wrap u32 E2) 4) (.lv (Q44 m (wrap u32 E2) 4) λ(x2:Int×Bool)=> .br (!x2.2) (.lf (E1)) (.lv (Q8z x2.1 access) λ(x3:Bool)=> .br (!x3) (.lf (E1)) (.an (Q7j x2.1) (.lv (Qbo x2.1) λ(x4:Int)=> .lv (Q89 m x4) λ(x5:Bool)=> .br (!x5) (.lf (E1)) (.an (Q7j x2.1) (.lv (Qbo x2.1) λ(x6:Int)=> .lf ({Addr:=wrap u32 (wrap u32 (x6*128)+Int.tmod va 128),E0:=wrap u32 E2,D8:=0}))))))))))
def Qe7(m:(List Int))(root:Int)(va:Int)(access:Int):Q13:=(Q5b m root va access).m
abbrev Qa7(m:(List Int))(root:Int)(va:Int)(access:Int):Prop:=(Q5b m root va access).p
def Qzl:Q0e:=mkP 250 [] true [.one (.ints .u32), .one (.int .u32), .one (.int .u32), .one (.int .i64)] [] (λargs rows=>Qa7 (argL .u32 args 0) (argI args 1) (argI args 2) (argI args 3)) (λargs rows=>Qe7 (argL .u32 args 0) (argI args 1) (argI args 2) (argI args 3)) (λX=> .agg (Q13.cells X)) (λX=>[])
theorem Qvr:Q09 Tryz.prog Qzl:=Q0z Q0s Q0r (.cons Qnn (.cons Qqv (.cons Q93 (.cons Qom (.cons Qov (.nil)))))) Tryz.func250 Tryz.call250 (λargs rows=>Q5b (argL .u32 args 0) (argI args 1) (argI args 2) (argI args 3)) [] [] 2 (λ_ _ _=>by kernel_rfl) (λ_ _=>rfl) (λ_ _ h=>h) (λ_ X=>by kernel_rfl)
def Q4j(m:(List Int))(entry:Int)(access:Int):Tree (List Int):=
.an (Q2n m entry 4) (.lv (Q44 m entry 4) λ(x0:Int×Bool)=> .br (!x0.2) (.an (Q03 m) (.lv (Q01 m) λ(x1:List Int)=> .lf x1)) (.br (access==3) (.an (Q78 m entry 4 (ior u32 (ior u32 x0.1 8) 16)) (.lv (Q7y m entry 4 (ior u32 (ior u32 x0.1 8) 16)) λ(x2:List Int×Bool)=> .lf x2.1)) (.an (Q78 m entry 4 (ior u32 x0.1 8)) (.lv (Q7y m entry 4 (ior u32 x0.1 8)) λ(x3:List Int×Bool)=> .lf x3.1))))
def Q9m(m:(List Int))(entry:Int)(access:Int):(List Int):=(Q4j m entry access).m
abbrev Q99(m:(List Int))(entry:Int)(access:Int):Prop:=(Q4j m entry access).p
def Qw7:Q0e:=mkP 251 [] true [.one (.ints .u32), .one (.int .u32), .one (.int .i64)] [] (λargs rows=>Q99 (argL .u32 args 0) (argI args 1) (argI args 2)) (λargs rows=>Q9m (argL .u32 args 0) (argI args 1) (argI args 2)) (λX=> .all 0) (λX=>[⟨false,23,1, .ints .u32 X⟩])
theorem Quq:Q09 Tryz.prog Qw7:=Q0z Q0s Q0r (.cons Q93 (.cons Q0o (.cons Qjl (.nil)))) Tryz.func251 Tryz.call251 (λargs rows=>Q4j (argL .u32 args 0) (argI args 1) (argI args 2)) [.row 23 1 (.ints .u32)] [] 2 (λ_ _ _=>by kernel_rfl) (λ_ _=>rfl) (λ_ _ h=>h) (λ_ X=>by kernel_rfl)
def Q3e(c:Q02)(m:(List Int))(va:Int)(size:Int)(access:Int):Tree (Int×(List Int)×Int):=
.lv (Qlk access) λ(x0:Int×Bool)=>let T3:Tree ((Int×(List Int)×Int)):= .an (Q03 m) (.lv (Q01 m) λ(x1:List Int)=> .lf (0,x1,5)); .br (!x0.2) T3 (let T1:Tree ((Int×(List Int)×Int)):= .cn (decide (wrap u32 size≠0)) (.br (Int.tmod va (wrap u32 size) !=0) (.an (Q03 m) (.lv (Q01 m) λ(x3:List Int)=> .lf (0,x3,3))) (.lv (Q8l c) λ(x4:Bool)=>let T2:Tree ((Int×(List Int)×Int)):= .an (Q2n m va size) (.lv (Q44 m va size) λ(x8:Int×Bool)=> .br (!x8.2) (.an (Q03 m) (.lv (Q01 m) λ(x9:List Int)=> .lf (0,x9,x0.1))) (.an (Q03 m) (.lv (Q01 m) λ(x10:List Int)=> .lf (va,x10,0)))); .br (!x4) (.br (iand u32 c.B3.a0 (4:Int) !=(0:Int)) (.an (Qa7 m c.B3.a6 va access) (.lv (Qe7 m c.B3.a6 va access) λ(x5:Q13)=> .br (x5.D8 !=0) (.an (Q03 m) (.lv (Q01 m) λ(x6:List Int)=> .lf (0,x6,x5.D8))) (.an (Q99 m x5.E0 access) (.lv (Q9m m x5.E0 access) λ(x7:List Int)=> .lf (x5.Addr,x7,0))))) T2) T2)); .br (size !=1) (.br (size !=4) T3 T1) T1)
def Q1v(c:Q02)(m:(List Int))(va:Int)(size:Int)(access:Int):(Int×(List Int)×Int):=(Q3e c m va size access).m
abbrev Q5v(c:Q02)(m:(List Int))(va:Int)(size:Int)(access:Int):Prop:=(Q3e c m va size access).p
def Qzk:Q0e:=mkP 210 [] true [.agg Q02.sig, .one (.ints .u32), .one (.int .u32), .one (.int .i64), .one (.int .i64)] [] (λargs rows=>Q5v (Q02.of (args.getD 0 .dead).cells) (argL .u32 args 1) (argI args 2) (argI args 3) (argI args 4)) (λargs rows=>Q1v (Q02.of (args.getD 0 .dead).cells) (argL .u32 args 1) (argI args 2) (argI args 3) (argI args 4)) (λX=> .tup [.int .u32 (X.1), .all 0, .int .i64 (X.2.2)]) (λX=>[⟨false,23,1, .ints .u32 (X.2.1)⟩])
theorem Qgb:Q09 Tryz.prog Qzk:=Q0z Q0s Q0r (.cons Qvq (.cons Q0o (.cons Qmp (.cons Qvr (.cons Quq (.cons Q93 (.nil))))))) Tryz.func210 Tryz.call210 (λargs rows=>Q3e (Q02.of (args.getD 0 .dead).cells) (argL .u32 args 1) (argI args 2) (argI args 3) (argI args 4)) [.row 23 1 (.ints .u32)] [] 2 (λ_ _ _=>by kernel_rfl) (λ_ _=>rfl) (λ_ _ h=>h) (λ_ X=>by kernel_rfl)
def Q6r(c:Q02)(m:(List Int)):Tree (Int×(List Int)×Int):=
.an (Q5v c m c.Pc 4 1) (.lv (Q1v c m c.Pc 4 1) λ(x0:Int×List Int×Int)=> .br (x0.2.2 !=0) (.lf (0,x0.2.1,x0.2.2)) (.an (Q2n x0.2.1 x0.1 4) (.lv (Q44 x0.2.1 x0.1 4) λ(x1:Int×Bool)=> .lf (x1.1,x0.2.1,0))))
def Qjn(c:Q02)(m:(List Int)):(Int×(List Int)×Int):=(Q6r c m).m
abbrev Qdl(c:Q02)(m:(List Int)):Prop:=(Q6r c m).p
def Z56:Q0e:=mkP 155 [] true [.agg Q02.sig, .one (.ints .u32)] [] (λargs rows=>Qdl (Q02.of (args.getD 0 .dead).cells) (argL .u32 args 1)) (λargs rows=>Qjn (Q02.of (args.getD 0 .dead).cells) (argL .u32 args 1)) (λX=> .tup [.int .u32 (X.1), .all 0, .int .i64 (X.2.2)]) (λX=>[⟨false,23,1, .ints .u32 (X.2.1)⟩])
theorem Z37:Q09 Tryz.prog Z56:=Q0z Q0s Q0r (.cons Qgb (.cons Q93 (.nil))) Tryz.func155 Tryz.call155 (λargs rows=>Q6r (Q02.of (args.getD 0 .dead).cells) (argL .u32 args 1)) [.row 23 1 (.ints .u32)] [] 2 (λ_ _ _=>by kernel_rfl) (λ_ _=>rfl) (λ_ _ h=>h) (λ_ X=>by kernel_rfl)
def Qie(op:Int):Tree Bool:=
.br (op==57) (.lf true) (.br (op==58) (.lf true) (.br (op==59) (.lf true) (.br (op==60) (.lf true) (.br (op==61) (.lf true) (.br (op==62) (.lf true) (.br (op==63) (.lf true) (.br (op==64) (.lf true) (.lf false))))))))
def Q7d(op:Int):Bool:=(Qie op).m
def Qqk:Q0e:=mkR 157 [] true [.one (.int .i64)] [] (λargs rows=>Q7d (argI args 0)) (λX=> .bool X) (λX=>[])
theorem Qot:Q09 Tryz.prog Qqk:=Q2l Q0s Q0r (.nil) Tryz.func157 Tryz.call157 (λargs rows=>Qie (argI args 0)) [] [] 2 (λ_ _ _=>by kernel_rfl) (λ_ _=>rfl) (λ_ _=>Tree.free_ok (by kernel_rfl)) (λ_ X=>by kernel_rfl)
def Qlj(op:Int):Tree Int:=
.br (op==32) (.lf 4) (.br (op==35) (.lf 4) (.lf 1))
def Qc3(op:Int):Int:=(Qlj op).m
def Z5z:Q0e:=mkR 216 [] true [.one (.int .i64)] [] (λargs rows=>Qc3 (argI args 0)) (λX=> .int .i64 X) (λX=>[])
theorem Qpy:Q09 Tryz.prog Z5z:=Q2l Q0s Q0r (.nil) Tryz.func216 Tryz.call216 (λargs rows=>Qlj (argI args 0)) [] [] 2 (λ_ _ _=>by kernel_rfl) (λ_ _=>rfl) (λ_ _=>Tree.free_ok (by kernel_rfl)) (λ_ X=>by kernel_rfl)
def Q7m(c:Q02)(register:Int)(v:Int):Tree Q02:=
.br (register !=0) (.cn (Nat.blt 0 1&&decide (0≤register∧register<(↑16:Int))) (.lf ({X:=A16.of 0 (List.set (A16.l c.X) register.toNat v),Pc:=c.Pc,B3:=c.B3}))) (.lf c)
def Q8p(c:Q02)(register:Int)(v:Int):Q02:=(Q7m c register v).m
abbrev Q5o(c:Q02)(register:Int)(v:Int):Prop:=(Q7m c register v).p
def cpu_set_m:Q0e:=mkP 217 [] true [.agg Q02.sig, .one (.int .i64), .one (.int .u32)] [] (λargs rows=>Q5o (Q02.of (args.getD 0 .dead).cells) (argI args 1) (argI args 2)) (λargs rows=>Q8p (Q02.of (args.getD 0 .dead).cells) (argI args 1) (argI args 2)) (λX=> .agg (Q02.cells X)) (λX=>[])
theorem Qy1:Q09 Tryz.prog cpu_set_m:=Q0z Q0s Q0r (.nil) Tryz.func217 Tryz.call217 (λargs rows=>Q7m (Q02.of (args.getD 0 .dead).cells) (argI args 1) (argI args 2)) [] [] 2 (λ_ _ _=>by kernel_rfl) (λ_ _=>rfl) (λ_ _ h=>h) (λ_ X=>by kernel_rfl)
def Q8a(c:Q02)(m:(List Int))(i:Q0f):Tree (Q02×(List Int)):=
.cn (Nat.blt 0 1&&decide (0≤i.B∧i.B<(↑16:Int))) (.lv (Qc3 i.Op) λ(x0:Int)=>let E1:=wrap u32 (List.getD (A16.l c.X) i.B.toNat 0+wrap u32 i.Imm); .an (Q5v c m E1 x0 2) (.lv (Q1v c m E1 x0 2) λ(x1:Int×List Int×Int)=> .br (x1.2.2 !=0) (.lv (Q3x c x1.2.2 E1) λ(x2:Q02)=> .lf (x2,x1.2.1)) (.lv (Qc3 i.Op) λ(x3:Int)=> .an (Q2n x1.2.1 x1.1 x3) (.lv (Q44 x1.2.1 x1.1 x3) λ(x4:Int×Bool)=> .br (i.Op==33) (.an (Q6k x4.1 8) (.lv (Q27 x4.1 8) λ(x5:Int)=> .an (Q5o c i.A x5) (.lv (Q8p c i.A x5) λ(x6:Q02)=> .lf ({X:=x6.X,Pc:=wrap u32 (x6.Pc+4),B3:=x6.B3},x1.2.1)))) (.an (Q5o c i.A x4.1) (.lv (Q8p c i.A x4.1) λ(x7:Q02)=> .lf ({X:=x7.X,Pc:=wrap u32 (x7.Pc+4),B3:=x7.B3},x1.2.1)))))))
def Q5g(c:Q02)(m:(List Int))(i:Q0f):(Q02×(List Int)):=(Q8a c m i).m
abbrev Qj(c:Q02)(m:(List Int))(i:Q0f):Prop:=(Q8a c m i).p
def Z9g:Q0e:=mkP 159 [] true [.agg Q02.sig, .one (.ints .u32), .agg Q0f.sig] [] (λargs rows=>Qj (Q02.of (args.getD 0 .dead).cells) (argL .u32 args 1) (Q0f.of (args.getD 2 .dead).cells)) (λargs rows=>Q5g (Q02.of (args.getD 0 .dead).cells) (argL .u32 args 1) (Q0f.of (args.getD 2 .dead).cells)) (λX=> .tup [.agg (Q02.cells (X.1)), .all 0]) (λX=>[⟨false,23,1, .ints .u32 (X.2)⟩])
theorem Z6j:Q09 Tryz.prog Z9g:=Q0z Q0s Q0r (.cons Qgb (.cons Qpy (.cons Qeu (.cons Q93 (.cons Qfh (.cons Qy1 (.nil))))))) Tryz.func159 Tryz.call159 (λargs rows=>Q8a (Q02.of (args.getD 0 .dead).cells) (argL .u32 args 1) (Q0f.of (args.getD 2 .dead).cells)) [.row 23 1 (.ints .u32)] [] 2 (λ_ _ _=>by kernel_rfl) (λ_ _=>rfl) (λ_ _ h=>h) (λ_ X=>by kernel_rfl)
def Q6n(c:Q02)(m:(List Int))(i:Q0f):Tree (Q02×(List Int)):=
.cn (Nat.blt 0 1&&decide (0≤i.B∧i.B<(↑16:Int))) (.lv (Qc3 i.Op) λ(x0:Int)=>let E1:=wrap u32 (List.getD (A16.l c.X) i.B.toNat 0+wrap u32 i.Imm); .an (Q5v c m E1 x0 3) (.lv (Q1v c m E1 x0 3) λ(x1:Int×List Int×Int)=> .br (x1.2.2 !=0) (.lv (Q3x c x1.2.2 E1) λ(x2:Q02)=> .lf (x2,x1.2.1)) (.lv (Qc3 i.Op) λ(x3:Int)=> .cn (Nat.blt 0 1&&decide (0≤i.A∧i.A<(↑16:Int))) (let E2:=List.getD (A16.l c.X) i.A.toNat 0; .an (Q78 x1.2.1 x1.1 x3 E2) (.lv (Q7y x1.2.1 x1.1 x3 E2) λ(x4:List Int×Bool)=> .lf ({X:=c.X,Pc:=wrap u32 (c.Pc+4),B3:=c.B3},x4.1))))))
def Q72(c:Q02)(m:(List Int))(i:Q0f):(Q02×(List Int)):=(Q6n c m i).m
abbrev Qhs(c:Q02)(m:(List Int))(i:Q0f):Prop:=(Q6n c m i).p
def Z65:Q0e:=mkP 160 [] true [.agg Q02.sig, .one (.ints .u32), .agg Q0f.sig] [] (λargs rows=>Qhs (Q02.of (args.getD 0 .dead).cells) (argL .u32 args 1) (Q0f.of (args.getD 2 .dead).cells)) (λargs rows=>Q72 (Q02.of (args.getD 0 .dead).cells) (argL .u32 args 1) (Q0f.of (args.getD 2 .dead).cells)) (λX=> .tup [.agg (Q02.cells (X.1)), .all 0]) (λX=>[⟨false,23,1, .ints .u32 (X.2)⟩])
theorem Z4m:Q09 Tryz.prog Z65:=Q0z Q0s Q0r (.cons Qgb (.cons Qpy (.cons Qeu (.cons Qjl (.nil))))) Tryz.func160 Tryz.call160 (λargs rows=>Q6n (Q02.of (args.getD 0 .dead).cells) (argL .u32 args 1) (Q0f.of (args.getD 2 .dead).cells)) [.row 23 1 (.ints .u32)] [] 2 (λ_ _ _=>by kernel_rfl) (λ_ _=>rfl) (λ_ _ h=>h) (λ_ X=>by kernel_rfl)
def Qsc(op:Int)(a:Int)(b:Int):Tree Bool:=
.br (op==40) (.lf (a==b)) (.br (op==41) (.lf (a !=b)) (.br (op==42) (.lf (decide (wrap i32 a<wrap i32 b))) (.br (op==43) (.lf (decide (wrap i32 a≥wrap i32 b))) (.br (op==44) (.lf (decide (a<b))) (.lf (decide (a≥b)))))))
def Z1m(op:Int)(a:Int)(b:Int):Bool:=(Qsc op a b).m
def Z6u:Q0e:=mkR 219 [] true [.one (.int .i64), .one (.int .u32), .one (.int .u32)] [] (λargs rows=>Z1m (argI args 0) (argI args 1) (argI args 2)) (λX=> .bool X) (λX=>[])
theorem Z2o:Q09 Tryz.prog Z6u:=Q2l Q0s Q0r (.nil) Tryz.func219 Tryz.call219 (λargs rows=>Qsc (argI args 0) (argI args 1) (argI args 2)) [] [] 2 (λ_ _ _=>by kernel_rfl) (λ_ _=>rfl) (λ_ _=>Tree.free_ok (by kernel_rfl)) (λ_ X=>by kernel_rfl)
def Qc6(c:Q02):Tree Q02:=
.lv (Q7l c.B3.a0 8 1) λ(x0:Int)=> .lv (Q7l x0 16 2) λ(x1:Int)=> .lf ({X:=c.X,Pc:=c.B3.a2,B3:={a0:=x1,a1:=c.B3.a1,a2:=c.B3.a2,a3:=c.B3.a3,a4:=c.B3.a4,a5:=c.B3.a5,a6:=c.B3.a6,a7:=c.B3.a7}})
def Qb2(c:Q02):Q02:=(Qc6 c).m
def Z3c:Q0e:=mkR 220 [] true [.agg Q02.sig] [] (λargs rows=>Qb2 (Q02.of (args.getD 0 .dead).cells)) (λX=> .agg (Q02.cells X)) (λX=>[])
theorem Z08:Q09 Tryz.prog Z3c:=Q2l Q0s Q0r (.cons Qse (.nil)) Tryz.func220 Tryz.call220 (λargs rows=>Qc6 (Q02.of (args.getD 0 .dead).cells)) [] [] 2 (λ_ _ _=>by kernel_rfl) (λ_ _=>rfl) (λ_ _=>Tree.free_ok (by kernel_rfl)) (λ_ X=>by kernel_rfl)
def Q6i(c:Q02)(csr:Int)(v:Int):Tree Q02:=
let E4:=Nat.blt 0 1&&decide (0≤csr∧csr<(↑8:Int));let T2:Tree (Q02):= .cn E4 (.lf ({X:=c.X,Pc:=c.Pc,B3:=A8.of 0 (List.set (A8.l c.B3) csr.toNat (iand u32 v 31))})); .br (csr==0) T2 (.br (csr==7) T2 (.br (csr==6) (.cn E4 (.lf ({X:=c.X,Pc:=c.Pc,B3:=A8.of 0 (List.set (A8.l c.B3) csr.toNat (iand u32 v 255))}))) (let T3:Tree (Q02):= .cn E4 (.lf ({X:=c.X,Pc:=c.Pc,B3:=A8.of 0 (List.set (A8.l c.B3) csr.toNat (Qdh u32 v 3))})); .br (csr==1) T3 (.br (csr==2) T3 (let T1:Tree (Q02):= .cn E4 (.lf ({X:=c.X,Pc:=c.Pc,B3:=A8.of 0 (List.set (A8.l c.B3) csr.toNat v)})); .br (csr==3) T1 (.br (csr==4) T1 (.br (csr==5) T1 (.lf c))))))))
def Z3e(c:Q02)(csr:Int)(v:Int):Q02:=(Q6i c csr v).m
abbrev Qh5(c:Q02)(csr:Int)(v:Int):Prop:=(Q6i c csr v).p
def Z4x:Q0e:=mkP 221 [] true [.agg Q02.sig, .one (.int .i64), .one (.int .u32)] [] (λargs rows=>Qh5 (Q02.of (args.getD 0 .dead).cells) (argI args 1) (argI args 2)) (λargs rows=>Z3e (Q02.of (args.getD 0 .dead).cells) (argI args 1) (argI args 2)) (λX=> .agg (Q02.cells X)) (λX=>[])
theorem Z1o:Q09 Tryz.prog Z4x:=Q0z Q0s Q0r (.nil) Tryz.func221 Tryz.call221 (λargs rows=>Q6i (Q02.of (args.getD 0 .dead).cells) (argI args 1) (argI args 2)) [] [] 2 (λ_ _ _=>by kernel_rfl) (λ_ _=>rfl) (λ_ _ h=>h) (λ_ X=>by kernel_rfl)
def Q3(c:Q02)(i:Q0f):Tree (Q02×Q1):=
.cn (Nat.blt 0 1&&decide (0≤i.A∧i.A<(↑16:Int))) (.cn (Nat.blt 0 1&&decide (0≤i.B∧i.B<(↑16:Int))) (.br (i.Op==24) (.an (Q5o c i.A (ishl u32 (wrap u32 i.Imm) 16)) (.lv (Q8p c i.A (ishl u32 (wrap u32 i.Imm) 16)) λ(x0:Q02)=> .lf ({X:=x0.X,Pc:=wrap u32 (c.Pc+4),B3:=x0.B3},{B2:=0,C8:=0,D7:=0,Value:=0}))) (let E2:=({X:=c.X,Pc:=wrap u32 (c.Pc+4),B3:=c.B3}:Q02);let E3:=List.getD (A16.l c.X) i.B.toNat 0;let E4:=List.getD (A16.l c.X) i.A.toNat 0;let T1:Tree ((Q02×Q1)):= .lv (Z1m i.Op E4 E3) λ(x1:Bool)=> .br x1 (.lf ({X:=c.X,Pc:=wrap u32 (c.Pc+wrap u32 (4*wrap u32 i.Imm)),B3:=c.B3},{B2:=0,C8:=0,D7:=0,Value:=0})) (.lf (E2,{B2:=0,C8:=0,D7:=0,Value:=0})); .br (i.Op==40) T1 (.br (i.Op==41) T1 (.br (i.Op==42) T1 (.br (i.Op==43) T1 (.br (i.Op==44) T1 (.br (i.Op==45) T1 (.br (i.Op==48) (.an (Q5o c i.A (wrap u32 (c.Pc+4))) (.lv (Q8p c i.A (wrap u32 (c.Pc+4))) λ(x7:Q02)=> .lf ({X:=x7.X,Pc:=wrap u32 (x7.Pc+wrap u32 (4*wrap u32 i.Imm)),B3:=x7.B3},{B2:=0,C8:=0,D7:=0,Value:=0}))) (.br (i.Op==49) (.an (Q5o c i.A (wrap u32 (c.Pc+4))) (.lv (Q8p c i.A (wrap u32 (c.Pc+4))) λ(x8:Q02)=> .lf ({X:=x8.X,Pc:=wrap u32 (List.getD (A16.l c.X) i.B.toNat 0+wrap u32 i.Imm),B3:=x8.B3},{B2:=0,C8:=0,D7:=0,Value:=0}))) (.br (i.Op==56) (.lv (Q3x c 7 0) λ(x9:Q02)=> .lf (x9,{B2:=0,C8:=0,D7:=0,Value:=0})) (.br (i.Op==57) (.lv (Qb2 c) λ(x10:Q02)=> .lf (x10,{B2:=0,C8:=0,D7:=0,Value:=0})) (.br (i.Op==58) (.cn (Nat.blt 0 1&&decide (0≤i.Imm∧i.Imm<(↑8:Int))) (let E5:=List.getD (A8.l c.B3) i.Imm.toNat 0; .an (Q5o c i.A E5) (.lv (Q8p c i.A E5) λ(x11:Q02)=> .lf ({X:=x11.X,Pc:=wrap u32 (c.Pc+4),B3:=x11.B3},{B2:=0,C8:=0,D7:=0,Value:=0})))) (.br (i.Op==59) (.an (Qh5 c (wrap i64 i.Imm) E4) (.lv (Z3e c (wrap i64 i.Imm) E4) λ(x12:Q02)=> .lf ({X:=x12.X,Pc:=wrap u32 (c.Pc+4),B3:=x12.B3},{B2:=0,C8:=0,D7:=0,Value:=0}))) (.br (i.Op==60) (.lf (E2,{B2:=1,C8:=wrap i64 i.Imm,D7:=i.A,Value:=0})) (.br (i.Op==61) (.lf (E2,{B2:=2,C8:=wrap i64 i.Imm,D7:=0,Value:=List.getD (A16.l c.X) i.A.toNat 0})) (.br (i.Op==62) (.lf (E2,{B2:=3,C8:=0,D7:=0,Value:=0})) (.br (i.Op==63) (.lf (E2,{B2:=5,C8:=0,D7:=0,Value:=0})) (.br (i.Op==64) (.lf (E2,{B2:=4,C8:=0,D7:=0,Value:=0})) (.cn (Nat.blt 0 1&&decide (0≤i.C∧i.C<(↑16:Int))) (.br (decide (i.Op≥16)) (.an (Qhm i.Op E3 (wrap u32 i.Imm)) (.lv (Q3u i.Op E3 (wrap u32 i.Imm)) λ(x13:Int×Bool)=> .an (Q5o c i.A x13.1) (.lv (Q8p c i.A x13.1) λ(x14:Q02)=> .lf ({X:=x14.X,Pc:=wrap u32 (c.Pc+4),B3:=x14.B3},{B2:=0,C8:=0,D7:=0,Value:=0})))) (let E6:=List.getD (A16.l c.X) i.C.toNat 0; .an (Qhm i.Op E3 E6) (.lv (Q3u i.Op E3 E6) λ(x15:Int×Bool)=> .an (Q5o c i.A x15.1) (.lv (Q8p c i.A x15.1) λ(x16:Q02)=> .lf ({X:=x16.X,Pc:=wrap u32 (c.Pc+4),B3:=x16.B3},{B2:=0,C8:=0,D7:=0,Value:=0})))))))))))))))))))))))))
def Qhz(c:Q02)(i:Q0f):(Q02×Q1):=(Q3 c i).m
abbrev Qe5(c:Q02)(i:Q0f):Prop:=(Q3 c i).p
def Z1:Q0e:=mkP 161 [] true [.agg Q02.sig, .agg Q0f.sig] [] (λargs rows=>Qe5 (Q02.of (args.getD 0 .dead).cells) (Q0f.of (args.getD 1 .dead).cells)) (λargs rows=>Qhz (Q02.of (args.getD 0 .dead).cells) (Q0f.of (args.getD 1 .dead).cells)) (λX=> .tup [.agg (Q02.cells (X.1)), .agg (Q1.cells (X.2))]) (λX=>[])
theorem Qv1:Q09 Tryz.prog Z1:=Q0z Q0s Q0r (.cons Qy1 (.cons Z2o (.cons Qeu (.cons Z08 (.cons Z1o (.cons Z8w (.nil))))))) Tryz.func161 Tryz.call161 (λargs rows=>Q3 (Q02.of (args.getD 0 .dead).cells) (Q0f.of (args.getD 1 .dead).cells)) [] [] 2 (λ_ _ _=>by kernel_rfl) (λ_ _=>rfl) (λ_ _ h=>h) (λ_ X=>by kernel_rfl)
def Q4l(c:Q02)(m:(List Int)):Tree (Q02×(List Int)×Q1):=
.an (Qdl c m) (.lv (Qjn c m) λ(x0:Int×List Int×Int)=> .br (x0.2.2 !=0) (.lv (Q3x c x0.2.2 c.Pc) λ(x1:Q02)=> .lf (x1,x0.2.1,{B2:=0,C8:=0,D7:=0,Value:=0})) (.an (Qbp x0.1) (.lv (Qdu x0.1) λ(x2:Q0f×Bool)=> .br (!x2.2) (.lv (Q3x c 1 x0.1) λ(x3:Q02)=> .lf (x3,x0.2.1,{B2:=0,C8:=0,D7:=0,Value:=0})) (.lv (Q7d x2.1.Op) λ(x4:Bool)=>let T1:Tree ((Q02×(List Int)×Q1)):=let T2:Tree ((Q02×(List Int)×Q1)):= .an (Qj c x0.2.1 x2.1) (.lv (Q5g c x0.2.1 x2.1) λ(x7:Q02×List Int)=> .lf (x7.1,x7.2,{B2:=0,C8:=0,D7:=0,Value:=0})); .br (x2.1.Op==32) T2 (.br (x2.1.Op==33) T2 (.br (x2.1.Op==34) T2 (let T3:Tree ((Q02×(List Int)×Q1)):= .an (Qhs c x0.2.1 x2.1) (.lv (Q72 c x0.2.1 x2.1) λ(x10:Q02×List Int)=> .lf (x10.1,x10.2,{B2:=0,C8:=0,D7:=0,Value:=0})); .br (x2.1.Op==35) T3 (.br (x2.1.Op==36) T3 (.an (Qe5 c x2.1) (.lv (Qhz c x2.1) λ(x12:Q02×Q1)=> .lf (x12.1,x0.2.1,x12.2))))))); .br x4 (.lv (Q8l c) λ(x5:Bool)=> .br (!x5) (.lv (Q3x c 2 x0.1) λ(x6:Q02)=> .lf (x6,x0.2.1,{B2:=0,C8:=0,D7:=0,Value:=0})) T1) T1))))
def Q4a(c:Q02)(m:(List Int)):(Q02×(List Int)×Q1):=(Q4l c m).m
abbrev Qbr(c:Q02)(m:(List Int)):Prop:=(Q4l c m).p
def Z9p:Q0e:=mkP 107 [] true [.agg Q02.sig, .one (.ints .u32)] [] (λargs rows=>Qbr (Q02.of (args.getD 0 .dead).cells) (argL .u32 args 1)) (λargs rows=>Q4a (Q02.of (args.getD 0 .dead).cells) (argL .u32 args 1)) (λX=> .tup [.agg (Q02.cells (X.1)), .all 0, .agg (Q1.cells (X.2.2))]) (λX=>[⟨false,23,1, .ints .u32 (X.2.1)⟩])
theorem Qtp:Q09 Tryz.prog Z9p:=Q0z Q0s Q0r (.cons Z37 (.cons Qeu (.cons Z0j (.cons Qot (.cons Qmp (.cons Z6j (.cons Z4m (.cons Qv1 (.nil))))))))) Tryz.func107 Tryz.call107 (λargs rows=>Q4l (Q02.of (args.getD 0 .dead).cells) (argL .u32 args 1)) [.row 23 1 (.ints .u32)] [] 2 (λ_ _ _=>by kernel_rfl) (λ_ _=>rfl) (λ_ _ h=>h) (λ_ X=>by kernel_rfl)
end
end Go.Proofs.YtjaifpiopmhmlaaGreat

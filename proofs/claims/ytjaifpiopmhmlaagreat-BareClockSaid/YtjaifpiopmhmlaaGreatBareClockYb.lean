/-
  Functions of the program: models, and that its calls come to them (by a program: gen3.py).
-/
import Derived.Test.YtjaifpiopmhmlaaGreatBareClockBase
import Derived.Test.YtjaifpiopmhmlaaGreatBareClockYa
set_option maxRecDepth 100000
set_option linter.unusedVariables false
set_option linter.unusedSimpArgs false
namespace Go.Proofs.YtjaifpiopmhmlaaGreat
open Go Go.GD Go.IntKind
noncomputable section
def Qjl(status:Int)(from0:Int)(to:Int):Tree Int:=
.br (iand u32 status from0 !=0) (.lf (ior u32 status to)) (.lf (Qdf u32 status to))
def Q75(status:Int)(from0:Int)(to:Int):Int:=(Qjl status from0 to).m
def Za3:Q0c:=mkR 209 [] true [.one (.int .u32), .one (.int .u32), .one (.int .u32)] [] (λargs rows=>Q75 (argI args 0) (argI args 1) (argI args 2)) (λX=> .int .u32 X) (λX=>[])
theorem Qsf:Q08 Tryz.prog Za3:=Q27 Q0p Q0o (.nil) Tryz.func209 Tryz.call209 (λargs rows=>Qjl (argI args 0) (argI args 1) (argI args 2)) [] [] 2 (λ_ _ _=>by kernel_rfl) (λ_ _=>rfl) (λ_ _=>Tree.free_ok (by kernel_rfl)) (λ_ X=>by kernel_rfl)
def Qgm(c:Q02)(cause:Int)(bad:Int):Tree Q02:=
.lv (Q75 c.B3.a0 1 8) λ(x0:Int)=> .lv (Q75 x0 2 16) λ(x1:Int)=> .lf ({X:=c.X,Pc:=c.B3.a1,B3:={a0:=Qdf u32 (ior u32 x1 1) 2,a1:=c.B3.a1,a2:=c.Pc,a3:=wrap u32 cause,a4:=bad,a5:=c.B3.a5,a6:=c.B3.a6,a7:=c.B3.a7}})
def Q3r(c:Q02)(cause:Int)(bad:Int):Q02:=(Qgm c cause bad).m
def Z9z:Q0c:=mkR 154 [] true [.agg Q02.sig, .one (.int .i64), .one (.int .u32)] [] (λargs rows=>Q3r (Q02.of (args.getD 0 .dead).cells) (argI args 1) (argI args 2)) (λX=> .agg (Q02.cells X)) (λX=>[])
theorem Qe:Q08 Tryz.prog Z9z:=Q27 Q0p Q0o (.cons Qsf (.nil)) Tryz.func154 Tryz.call154 (λargs rows=>Qgm (Q02.of (args.getD 0 .dead).cells) (argI args 1) (argI args 2)) [] [] 2 (λ_ _ _=>by kernel_rfl) (λ_ _=>rfl) (λ_ _=>Tree.free_ok (by kernel_rfl)) (λ_ X=>by kernel_rfl)
def Qmn(access:Int):Tree (Int×Bool):=
.br (access==1) (.lf (4,true)) (.br (access==2) (.lf (5,true)) (.br (access==3) (.lf (6,true)) (.lf (5,false))))
def Qky(access:Int):(Int×Bool):=(Qmn access).m
def Qze:Q0c:=mkR 249 [] true [.one (.int .i64)] [] (λargs rows=>Qky (argI args 0)) (λX=> .tup [.int .i64 (X.1), .bool (X.2)]) (λX=>[])
theorem Quh:Q08 Tryz.prog Qze:=Q27 Q0p Q0o (.nil) Tryz.func249 Tryz.call249 (λargs rows=>Qmn (argI args 0)) [] [] 2 (λ_ _ _=>by kernel_rfl) (λ_ _=>rfl) (λ_ _=>Tree.free_ok (by kernel_rfl)) (λ_ X=>by kernel_rfl)
def Qpi(c:Q02):Tree Bool:=
.lf (iand u32 c.B3.a0 (1:Int) !=(0:Int))
def Q9f(c:Q02):Bool:=(Qpi c).m
def Z3y:Q0c:=mkR 158 [] true [.agg Q02.sig] [] (λargs rows=>Q9f (Q02.of (args.getD 0 .dead).cells)) (λX=> .bool X) (λX=>[])
theorem Qmq:Q08 Tryz.prog Z3y:=Q27 Q0p Q0o (.nil) Tryz.func158 Tryz.call158 (λargs rows=>Qpi (Q02.of (args.getD 0 .dead).cells)) [] [] 2 (λ_ _ _=>by kernel_rfl) (λ_ _=>rfl) (λ_ _=>Tree.free_ok (by kernel_rfl)) (λ_ X=>by kernel_rfl)
def Qi7(access:Int):Tree (Int×Bool):=
.br (access==1) (.lf (4,true)) (.br (access==2) (.lf (5,true)) (.br (access==3) (.lf (6,true)) (.lf (5,false))))
def Qfs(access:Int):(Int×Bool):=(Qi7 access).m
def Qqr:Q0c:=mkR 269 [] true [.one (.int .i64)] [] (λargs rows=>Qfs (argI args 0)) (λX=> .tup [.int .i64 (X.1), .bool (X.2)]) (λX=>[])
theorem Qnf:Q08 Tryz.prog Qqr:=Q27 Q0p Q0o (.nil) Tryz.func269 Tryz.call269 (λargs rows=>Qi7 (argI args 0)) [] [] 2 (λ_ _ _=>by kernel_rfl) (λ_ _=>rfl) (λ_ _=>Tree.free_ok (by kernel_rfl)) (λ_ X=>by kernel_rfl)
def Qek(m:(List Int))(frame:Int):Tree Bool:=
.lv (Q0l m) λ(x0:Int)=> .lf (decide (wrap u64 frame<wrap u64 x0))
def Q88(m:(List Int))(frame:Int):Bool:=(Qek m frame).m
def Qrp:Q0c:=mkR 270 [] true [.one (.ints .u32), .one (.int .u32)] [] (λargs rows=>Q88 (argL .u32 args 0) (argI args 1)) (λX=> .bool X) (λX=>[])
theorem Qqo:Q08 Tryz.prog Qrp:=Q27 Q0p Q0o (.cons Q3a (.nil)) Tryz.func270 Tryz.call270 (λargs rows=>Qek (argL .u32 args 0) (argI args 1)) [] [] 2 (λ_ _ _=>by kernel_rfl) (λ_ _=>rfl) (λ_ _=>Tree.free_ok (by kernel_rfl)) (λ_ X=>by kernel_rfl)
def Q34(m:(List Int))(addr:Int)(size:Int):Tree (Int×Bool):=
.an (Q84 m addr size) (.lv (Qda m addr size) λ(x0:Bool)=> .br (!x0) (.lf (0,false)) (.cn (Nat.beq 1 1&&Nat.blt 0 1&&decide (0≤wrap u32 (Int.tdiv addr 4)∧wrap u32 (Int.tdiv addr 4)<(m.length:Int))) (let E1:=Int.toNat (wrap u32 (Int.tdiv addr 4)); .br (size==1) (let E2:=wrap i64 (wrap i64 (Int.tmod addr 4)*8); .an (Q47 (m.getD E1 0) E2 8) (.lv (Q2k (m.getD E1 0) E2 8) λ(x1:Int)=> .lf (x1,true))) (.lf (m.getD E1 0,true)))))
def Q3v(m:(List Int))(addr:Int)(size:Int):(Int×Bool):=(Q34 m addr size).m
abbrev Q2b(m:(List Int))(addr:Int)(size:Int):Prop:=(Q34 m addr size).p
def Z0g:Q0c:=mkP 211 [] true [.one (.ints .u32), .one (.int .u32), .one (.int .i64)] [] (λargs rows=>Q2b (argL .u32 args 0) (argI args 1) (argI args 2)) (λargs rows=>Q3v (argL .u32 args 0) (argI args 1) (argI args 2)) (λX=> .tup [.int .u32 (X.1), .bool (X.2)]) (λX=>[])
theorem Q8l:Q08 Tryz.prog Z0g:=Q0t Q0p Q0o (.cons Qi8 (.cons Qhr (.nil))) Tryz.func211 Tryz.call211 (λargs rows=>Q34 (argL .u32 args 0) (argI args 1) (argI args 2)) [] [] 2 (λ_ _ _=>by kernel_rfl) (λ_ _=>rfl) (λ_ _ h=>h) (λ_ X=>by kernel_rfl)
def Qi0(pte:Int)(access:Int):Tree Bool:=
.br (iand u32 pte (1:Int)==(0:Int)) (.lf false) (.br (access==3) (.lf (iand u32 pte (2:Int) !=(0:Int))) (.br (access==1) (.lf (iand u32 pte (4:Int) !=(0:Int))) (.lf true)))
def Q8n(pte:Int)(access:Int):Bool:=(Qi0 pte access).m
def Qq5:Q0c:=mkR 271 [] true [.one (.int .u32), .one (.int .i64)] [] (λargs rows=>Q8n (argI args 0) (argI args 1)) (λX=> .bool X) (λX=>[])
theorem Qns:Q08 Tryz.prog Qq5:=Q27 Q0p Q0o (.nil) Tryz.func271 Tryz.call271 (λargs rows=>Qi0 (argI args 0) (argI args 1)) [] [] 2 (λ_ _ _=>by kernel_rfl) (λ_ _=>rfl) (λ_ _=>Tree.free_ok (by kernel_rfl)) (λ_ X=>by kernel_rfl)
def Q3w(pte:Int):Tree Int:=
.an (Q47 pte 8 8) (.lv (Q2k pte 8 8) λ(x0:Int)=> .lf x0)
def Qbi(pte:Int):Int:=(Q3w pte).m
abbrev Q74(pte:Int):Prop:=(Q3w pte).p
def Qqa:Q0c:=mkP 272 [] true [.one (.int .u32)] [] (λargs rows=>Q74 (argI args 0)) (λargs rows=>Qbi (argI args 0)) (λX=> .int .u32 X) (λX=>[])
theorem Qo:Q08 Tryz.prog Qqa:=Q0t Q0p Q0o (.cons Qhr (.nil)) Tryz.func272 Tryz.call272 (λargs rows=>Q3w (argI args 0)) [] [] 2 (λ_ _ _=>by kernel_rfl) (λ_ _=>rfl) (λ_ _ h=>h) (λ_ X=>by kernel_rfl)
def Q5b(m:(List Int))(root:Int)(va:Int)(access:Int):Tree Q0z:=
.lv (Qfs access) λ(x0:Int×Bool)=>let E1:=({Addr:=0,E0:=0,D8:=x0.1}:Q0z); .br (!x0.2) (.lf (E1)) (.br (decide (va≥4096)) (.lf (E1)) (.lv (Q88 m root) λ(x1:Bool)=> .br (!x1) (.lf (E1)) (let E2:=wrap u32 (root*128)+wrap u32 (4*wrap u32 (Int.tdiv va 128)); .an (Q2b m (wrap u32 E2) 4) (.lv (Q3v m (wrap u32 E2) 4) λ(x2:Int×Bool)=> .br (!x2.2) (.lf (E1)) (.lv (Q8n x2.1 access) λ(x3:Bool)=> .br (!x3) (.lf (E1)) (.an (Q74 x2.1) (.lv (Qbi x2.1) λ(x4:Int)=> .lv (Q88 m x4) λ(x5:Bool)=> .br (!x5) (.lf (E1)) (.an (Q74 x2.1) (.lv (Qbi x2.1) λ(x6:Int)=> .lf ({Addr:=wrap u32 (wrap u32 (x6*128)+Int.tmod va 128),E0:=wrap u32 E2,D8:=0}))))))))))
def Qel(m:(List Int))(root:Int)(va:Int)(access:Int):Q0z:=(Q5b m root va access).m
abbrev Q9v(m:(List Int))(root:Int)(va:Int)(access:Int):Prop:=(Q5b m root va access).p
def Z0m:Q0c:=mkP 250 [] true [.one (.ints .u32), .one (.int .u32), .one (.int .u32), .one (.int .i64)] [] (λargs rows=>Q9v (argL .u32 args 0) (argI args 1) (argI args 2) (argI args 3)) (λargs rows=>Qel (argL .u32 args 0) (argI args 1) (argI args 2) (argI args 3)) (λX=> .agg (Q0z.cells X)) (λX=>[])
theorem Qup:Q08 Tryz.prog Z0m:=Q0t Q0p Q0o (.cons Qnf (.cons Qqo (.cons Q8l (.cons Qns (.cons Qo (.nil)))))) Tryz.func250 Tryz.call250 (λargs rows=>Q5b (argL .u32 args 0) (argI args 1) (argI args 2) (argI args 3)) [] [] 2 (λ_ _ _=>by kernel_rfl) (λ_ _=>rfl) (λ_ _ h=>h) (λ_ X=>by kernel_rfl)
def Q4b(m:(List Int))(entry:Int)(access:Int):Tree (List Int):=
.an (Q2b m entry 4) (.lv (Q3v m entry 4) λ(x0:Int×Bool)=> .br (!x0.2) (.an (Q03 m) (.lv (Q01 m) λ(x1:List Int)=> .lf x1)) (.br (access==3) (.an (Q6v m entry 4 (ior u32 (ior u32 x0.1 8) 16)) (.lv (Q7y m entry 4 (ior u32 (ior u32 x0.1 8) 16)) λ(x2:List Int×Bool)=> .lf x2.1)) (.an (Q6v m entry 4 (ior u32 x0.1 8)) (.lv (Q7y m entry 4 (ior u32 x0.1 8)) λ(x3:List Int×Bool)=> .lf x3.1))))
def Q9c(m:(List Int))(entry:Int)(access:Int):(List Int):=(Q4b m entry access).m
abbrev Q8x(m:(List Int))(entry:Int)(access:Int):Prop:=(Q4b m entry access).p
def Qvm:Q0c:=mkP 251 [] true [.one (.ints .u32), .one (.int .u32), .one (.int .i64)] [] (λargs rows=>Q8x (argL .u32 args 0) (argI args 1) (argI args 2)) (λargs rows=>Q9c (argL .u32 args 0) (argI args 1) (argI args 2)) (λX=> .all 0) (λX=>[⟨false,23,1, .ints .u32 X⟩])
theorem Qsr:Q08 Tryz.prog Qvm:=Q0t Q0p Q0o (.cons Q8l (.cons Q0k (.cons Qiv (.nil)))) Tryz.func251 Tryz.call251 (λargs rows=>Q4b (argL .u32 args 0) (argI args 1) (argI args 2)) [.row 23 1 (.ints .u32)] [] 2 (λ_ _ _=>by kernel_rfl) (λ_ _=>rfl) (λ_ _ h=>h) (λ_ X=>by kernel_rfl)
def Q33(c:Q02)(m:(List Int))(va:Int)(size:Int)(access:Int):Tree (Int×(List Int)×Int):=
.lv (Qky access) λ(x0:Int×Bool)=>let T3:Tree ((Int×(List Int)×Int)):= .an (Q03 m) (.lv (Q01 m) λ(x1:List Int)=> .lf (0,x1,5)); .br (!x0.2) T3 (let T1:Tree ((Int×(List Int)×Int)):= .cn (decide (wrap u32 size≠0)) (.br (Int.tmod va (wrap u32 size) !=0) (.an (Q03 m) (.lv (Q01 m) λ(x3:List Int)=> .lf (0,x3,3))) (.lv (Q9f c) λ(x4:Bool)=>let T2:Tree ((Int×(List Int)×Int)):= .an (Q2b m va size) (.lv (Q3v m va size) λ(x8:Int×Bool)=> .br (!x8.2) (.an (Q03 m) (.lv (Q01 m) λ(x9:List Int)=> .lf (0,x9,x0.1))) (.an (Q03 m) (.lv (Q01 m) λ(x10:List Int)=> .lf (va,x10,0)))); .br (!x4) (.br (iand u32 c.B3.a0 (4:Int) !=(0:Int)) (.an (Q9v m c.B3.a6 va access) (.lv (Qel m c.B3.a6 va access) λ(x5:Q0z)=> .br (x5.D8 !=0) (.an (Q03 m) (.lv (Q01 m) λ(x6:List Int)=> .lf (0,x6,x5.D8))) (.an (Q8x m x5.E0 access) (.lv (Q9c m x5.E0 access) λ(x7:List Int)=> .lf (x5.Addr,x7,0))))) T2) T2)); .br (size !=1) (.br (size !=4) T3 T1) T1)
def Q1n(c:Q02)(m:(List Int))(va:Int)(size:Int)(access:Int):(Int×(List Int)×Int):=(Q33 c m va size access).m
abbrev Q5j(c:Q02)(m:(List Int))(va:Int)(size:Int)(access:Int):Prop:=(Q33 c m va size access).p
def Qzw:Q0c:=mkP 210 [] true [.agg Q02.sig, .one (.ints .u32), .one (.int .u32), .one (.int .i64), .one (.int .i64)] [] (λargs rows=>Q5j (Q02.of (args.getD 0 .dead).cells) (argL .u32 args 1) (argI args 2) (argI args 3) (argI args 4)) (λargs rows=>Q1n (Q02.of (args.getD 0 .dead).cells) (argL .u32 args 1) (argI args 2) (argI args 3) (argI args 4)) (λX=> .tup [.int .u32 (X.1), .all 0, .int .i64 (X.2.2)]) (λX=>[⟨false,23,1, .ints .u32 (X.2.1)⟩])
theorem Qft:Q08 Tryz.prog Qzw:=Q0t Q0p Q0o (.cons Quh (.cons Q0k (.cons Qmq (.cons Qup (.cons Qsr (.cons Q8l (.nil))))))) Tryz.func210 Tryz.call210 (λargs rows=>Q33 (Q02.of (args.getD 0 .dead).cells) (argL .u32 args 1) (argI args 2) (argI args 3) (argI args 4)) [.row 23 1 (.ints .u32)] [] 2 (λ_ _ _=>by kernel_rfl) (λ_ _=>rfl) (λ_ _ h=>h) (λ_ X=>by kernel_rfl)
def Q6d(c:Q02)(m:(List Int)):Tree (Int×(List Int)×Int):=
.an (Q5j c m c.Pc 4 1) (.lv (Q1n c m c.Pc 4 1) λ(x0:Int×List Int×Int)=> .br (x0.2.2 !=0) (.lf (0,x0.2.1,x0.2.2)) (.an (Q2b x0.2.1 x0.1 4) (.lv (Q3v x0.2.1 x0.1 4) λ(x1:Int×Bool)=> .lf (x1.1,x0.2.1,0))))
def Qix(c:Q02)(m:(List Int)):(Int×(List Int)×Int):=(Q6d c m).m
abbrev Qdc(c:Q02)(m:(List Int)):Prop:=(Q6d c m).p
def Z4b:Q0c:=mkP 155 [] true [.agg Q02.sig, .one (.ints .u32)] [] (λargs rows=>Qdc (Q02.of (args.getD 0 .dead).cells) (argL .u32 args 1)) (λargs rows=>Qix (Q02.of (args.getD 0 .dead).cells) (argL .u32 args 1)) (λX=> .tup [.int .u32 (X.1), .all 0, .int .i64 (X.2.2)]) (λX=>[⟨false,23,1, .ints .u32 (X.2.1)⟩])
theorem Z1z:Q08 Tryz.prog Z4b:=Q0t Q0p Q0o (.cons Qft (.cons Q8l (.nil))) Tryz.func155 Tryz.call155 (λargs rows=>Q6d (Q02.of (args.getD 0 .dead).cells) (argL .u32 args 1)) [.row 23 1 (.ints .u32)] [] 2 (λ_ _ _=>by kernel_rfl) (λ_ _=>rfl) (λ_ _ h=>h) (λ_ X=>by kernel_rfl)
def Qhu(op:Int):Tree Bool:=
.br (op==57) (.lf true) (.br (op==58) (.lf true) (.br (op==59) (.lf true) (.br (op==60) (.lf true) (.br (op==61) (.lf true) (.br (op==62) (.lf true) (.br (op==63) (.lf true) (.br (op==64) (.lf true) (.lf false))))))))
def Q72(op:Int):Bool:=(Qhu op).m
def Qqj:Q0c:=mkR 157 [] true [.one (.int .i64)] [] (λargs rows=>Q72 (argI args 0)) (λX=> .bool X) (λX=>[])
theorem Qo1:Q08 Tryz.prog Qqj:=Q27 Q0p Q0o (.nil) Tryz.func157 Tryz.call157 (λargs rows=>Qhu (argI args 0)) [] [] 2 (λ_ _ _=>by kernel_rfl) (λ_ _=>rfl) (λ_ _=>Tree.free_ok (by kernel_rfl)) (λ_ X=>by kernel_rfl)
def Qle(op:Int):Tree Int:=
.br (op==32) (.lf 4) (.br (op==35) (.lf 4) (.lf 1))
def Qbp(op:Int):Int:=(Qle op).m
def Z6:Q0c:=mkR 216 [] true [.one (.int .i64)] [] (λargs rows=>Qbp (argI args 0)) (λX=> .int .i64 X) (λX=>[])
theorem Qp0:Q08 Tryz.prog Z6:=Q27 Q0p Q0o (.nil) Tryz.func216 Tryz.call216 (λargs rows=>Qle (argI args 0)) [] [] 2 (λ_ _ _=>by kernel_rfl) (λ_ _=>rfl) (λ_ _=>Tree.free_ok (by kernel_rfl)) (λ_ X=>by kernel_rfl)
def Q7l(c:Q02)(register:Int)(v:Int):Tree Q02:=
.br (register !=0) (.cn (Nat.blt 0 1&&decide (0≤register∧register<(↑16:Int))) (.lf ({X:=A16.of 0 (List.set (A16.l c.X) register.toNat v),Pc:=c.Pc,B3:=c.B3}))) (.lf c)
def Q8f(c:Q02)(register:Int)(v:Int):Q02:=(Q7l c register v).m
abbrev Q5f(c:Q02)(register:Int)(v:Int):Prop:=(Q7l c register v).p
def cpu_set_m:Q0c:=mkP 217 [] true [.agg Q02.sig, .one (.int .i64), .one (.int .u32)] [] (λargs rows=>Q5f (Q02.of (args.getD 0 .dead).cells) (argI args 1) (argI args 2)) (λargs rows=>Q8f (Q02.of (args.getD 0 .dead).cells) (argI args 1) (argI args 2)) (λX=> .agg (Q02.cells X)) (λX=>[])
theorem Qw7:Q08 Tryz.prog cpu_set_m:=Q0t Q0p Q0o (.nil) Tryz.func217 Tryz.call217 (λargs rows=>Q7l (Q02.of (args.getD 0 .dead).cells) (argI args 1) (argI args 2)) [] [] 2 (λ_ _ _=>by kernel_rfl) (λ_ _=>rfl) (λ_ _ h=>h) (λ_ X=>by kernel_rfl)
def Q8a(c:Q02)(m:(List Int))(i:Q0e):Tree (Q02×(List Int)):=
.cn (Nat.blt 0 1&&decide (0≤i.B∧i.B<(↑16:Int))) (.lv (Qbp i.Op) λ(x0:Int)=>let E1:=wrap u32 (List.getD (A16.l c.X) i.B.toNat 0+wrap u32 i.Imm); .an (Q5j c m E1 x0 2) (.lv (Q1n c m E1 x0 2) λ(x1:Int×List Int×Int)=> .br (x1.2.2 !=0) (.lv (Q3r c x1.2.2 E1) λ(x2:Q02)=> .lf (x2,x1.2.1)) (.lv (Qbp i.Op) λ(x3:Int)=> .an (Q2b x1.2.1 x1.1 x3) (.lv (Q3v x1.2.1 x1.1 x3) λ(x4:Int×Bool)=> .br (i.Op==33) (.an (Q66 x4.1 8) (.lv (Q1t x4.1 8) λ(x5:Int)=> .an (Q5f c i.A x5) (.lv (Q8f c i.A x5) λ(x6:Q02)=> .lf ({X:=x6.X,Pc:=wrap u32 (x6.Pc+4),B3:=x6.B3},x1.2.1)))) (.an (Q5f c i.A x4.1) (.lv (Q8f c i.A x4.1) λ(x7:Q02)=> .lf ({X:=x7.X,Pc:=wrap u32 (x7.Pc+4),B3:=x7.B3},x1.2.1)))))))
def Q57(c:Q02)(m:(List Int))(i:Q0e):(Q02×(List Int)):=(Q8a c m i).m
abbrev Qie(c:Q02)(m:(List Int))(i:Q0e):Prop:=(Q8a c m i).p
def Z9u:Q0c:=mkP 159 [] true [.agg Q02.sig, .one (.ints .u32), .agg Q0e.sig] [] (λargs rows=>Qie (Q02.of (args.getD 0 .dead).cells) (argL .u32 args 1) (Q0e.of (args.getD 2 .dead).cells)) (λargs rows=>Q57 (Q02.of (args.getD 0 .dead).cells) (argL .u32 args 1) (Q0e.of (args.getD 2 .dead).cells)) (λX=> .tup [.agg (Q02.cells (X.1)), .all 0]) (λX=>[⟨false,23,1, .ints .u32 (X.2)⟩])
theorem Z5u:Q08 Tryz.prog Z9u:=Q0t Q0p Q0o (.cons Qft (.cons Qp0 (.cons Qe (.cons Q8l (.cons Qfj (.cons Qw7 (.nil))))))) Tryz.func159 Tryz.call159 (λargs rows=>Q8a (Q02.of (args.getD 0 .dead).cells) (argL .u32 args 1) (Q0e.of (args.getD 2 .dead).cells)) [.row 23 1 (.ints .u32)] [] 2 (λ_ _ _=>by kernel_rfl) (λ_ _=>rfl) (λ_ _ h=>h) (λ_ X=>by kernel_rfl)
def Q6f(c:Q02)(m:(List Int))(i:Q0e):Tree (Q02×(List Int)):=
.cn (Nat.blt 0 1&&decide (0≤i.B∧i.B<(↑16:Int))) (.lv (Qbp i.Op) λ(x0:Int)=>let E1:=wrap u32 (List.getD (A16.l c.X) i.B.toNat 0+wrap u32 i.Imm); .an (Q5j c m E1 x0 3) (.lv (Q1n c m E1 x0 3) λ(x1:Int×List Int×Int)=> .br (x1.2.2 !=0) (.lv (Q3r c x1.2.2 E1) λ(x2:Q02)=> .lf (x2,x1.2.1)) (.lv (Qbp i.Op) λ(x3:Int)=> .cn (Nat.blt 0 1&&decide (0≤i.A∧i.A<(↑16:Int))) (let E2:=List.getD (A16.l c.X) i.A.toNat 0; .an (Q6v x1.2.1 x1.1 x3 E2) (.lv (Q7y x1.2.1 x1.1 x3 E2) λ(x4:List Int×Bool)=> .lf ({X:=c.X,Pc:=wrap u32 (c.Pc+4),B3:=c.B3},x4.1))))))
def Q6s(c:Q02)(m:(List Int))(i:Q0e):(Q02×(List Int)):=(Q6f c m i).m
abbrev Qhh(c:Q02)(m:(List Int))(i:Q0e):Prop:=(Q6f c m i).p
def Z4e:Q0c:=mkP 160 [] true [.agg Q02.sig, .one (.ints .u32), .agg Q0e.sig] [] (λargs rows=>Qhh (Q02.of (args.getD 0 .dead).cells) (argL .u32 args 1) (Q0e.of (args.getD 2 .dead).cells)) (λargs rows=>Q6s (Q02.of (args.getD 0 .dead).cells) (argL .u32 args 1) (Q0e.of (args.getD 2 .dead).cells)) (λX=> .tup [.agg (Q02.cells (X.1)), .all 0]) (λX=>[⟨false,23,1, .ints .u32 (X.2)⟩])
theorem Z2g:Q08 Tryz.prog Z4e:=Q0t Q0p Q0o (.cons Qft (.cons Qp0 (.cons Qe (.cons Qiv (.nil))))) Tryz.func160 Tryz.call160 (λargs rows=>Q6f (Q02.of (args.getD 0 .dead).cells) (argL .u32 args 1) (Q0e.of (args.getD 2 .dead).cells)) [.row 23 1 (.ints .u32)] [] 2 (λ_ _ _=>by kernel_rfl) (λ_ _=>rfl) (λ_ _ h=>h) (λ_ X=>by kernel_rfl)
def Qtr(op:Int)(a:Int)(b:Int):Tree Bool:=
.br (op==40) (.lf (a==b)) (.br (op==41) (.lf (a !=b)) (.br (op==42) (.lf (decide (wrap i32 a<wrap i32 b))) (.br (op==43) (.lf (decide (wrap i32 a≥wrap i32 b))) (.br (op==44) (.lf (decide (a<b))) (.lf (decide (a≥b)))))))
def Z1s(op:Int)(a:Int)(b:Int):Bool:=(Qtr op a b).m
def Z5v:Q0c:=mkR 219 [] true [.one (.int .i64), .one (.int .u32), .one (.int .u32)] [] (λargs rows=>Z1s (argI args 0) (argI args 1) (argI args 2)) (λX=> .bool X) (λX=>[])
theorem Z10:Q08 Tryz.prog Z5v:=Q27 Q0p Q0o (.nil) Tryz.func219 Tryz.call219 (λargs rows=>Qtr (argI args 0) (argI args 1) (argI args 2)) [] [] 2 (λ_ _ _=>by kernel_rfl) (λ_ _=>rfl) (λ_ _=>Tree.free_ok (by kernel_rfl)) (λ_ X=>by kernel_rfl)
def Qbu(c:Q02):Tree Q02:=
.lv (Q75 c.B3.a0 8 1) λ(x0:Int)=> .lv (Q75 x0 16 2) λ(x1:Int)=> .lf ({X:=c.X,Pc:=c.B3.a2,B3:={a0:=x1,a1:=c.B3.a1,a2:=c.B3.a2,a3:=c.B3.a3,a4:=c.B3.a4,a5:=c.B3.a5,a6:=c.B3.a6,a7:=c.B3.a7}})
def Qb(c:Q02):Q02:=(Qbu c).m
def Z2a:Q0c:=mkR 220 [] true [.agg Q02.sig] [] (λargs rows=>Qb (Q02.of (args.getD 0 .dead).cells)) (λX=> .agg (Q02.cells X)) (λX=>[])
theorem Qy1:Q08 Tryz.prog Z2a:=Q27 Q0p Q0o (.cons Qsf (.nil)) Tryz.func220 Tryz.call220 (λargs rows=>Qbu (Q02.of (args.getD 0 .dead).cells)) [] [] 2 (λ_ _ _=>by kernel_rfl) (λ_ _=>rfl) (λ_ _=>Tree.free_ok (by kernel_rfl)) (λ_ X=>by kernel_rfl)
def Q6j(c:Q02)(csr:Int)(v:Int):Tree Q02:=
let E4:=Nat.blt 0 1&&decide (0≤csr∧csr<(↑8:Int));let T2:Tree (Q02):= .cn E4 (.lf ({X:=c.X,Pc:=c.Pc,B3:=A8.of 0 (List.set (A8.l c.B3) csr.toNat (iand u32 v 31))})); .br (csr==0) T2 (.br (csr==7) T2 (.br (csr==6) (.cn E4 (.lf ({X:=c.X,Pc:=c.Pc,B3:=A8.of 0 (List.set (A8.l c.B3) csr.toNat (iand u32 v 255))}))) (let T3:Tree (Q02):= .cn E4 (.lf ({X:=c.X,Pc:=c.Pc,B3:=A8.of 0 (List.set (A8.l c.B3) csr.toNat (Qdf u32 v 3))})); .br (csr==1) T3 (.br (csr==2) T3 (let T1:Tree (Q02):= .cn E4 (.lf ({X:=c.X,Pc:=c.Pc,B3:=A8.of 0 (List.set (A8.l c.B3) csr.toNat v)})); .br (csr==3) T1 (.br (csr==4) T1 (.br (csr==5) T1 (.lf c))))))))
def Z1h(c:Q02)(csr:Int)(v:Int):Q02:=(Q6j c csr v).m
abbrev Qhi(c:Q02)(csr:Int)(v:Int):Prop:=(Q6j c csr v).p
def Z5d:Q0c:=mkP 221 [] true [.agg Q02.sig, .one (.int .i64), .one (.int .u32)] [] (λargs rows=>Qhi (Q02.of (args.getD 0 .dead).cells) (argI args 1) (argI args 2)) (λargs rows=>Z1h (Q02.of (args.getD 0 .dead).cells) (argI args 1) (argI args 2)) (λX=> .agg (Q02.cells X)) (λX=>[])
theorem Z36:Q08 Tryz.prog Z5d:=Q0t Q0p Q0o (.nil) Tryz.func221 Tryz.call221 (λargs rows=>Q6j (Q02.of (args.getD 0 .dead).cells) (argI args 1) (argI args 2)) [] [] 2 (λ_ _ _=>by kernel_rfl) (λ_ _=>rfl) (λ_ _ h=>h) (λ_ X=>by kernel_rfl)
def Q2n(c:Q02)(i:Q0e):Tree (Q02×Q1):=
.cn (Nat.blt 0 1&&decide (0≤i.A∧i.A<(↑16:Int))) (.cn (Nat.blt 0 1&&decide (0≤i.B∧i.B<(↑16:Int))) (.br (i.Op==24) (.an (Q5f c i.A (ishl u32 (wrap u32 i.Imm) 16)) (.lv (Q8f c i.A (ishl u32 (wrap u32 i.Imm) 16)) λ(x0:Q02)=> .lf ({X:=x0.X,Pc:=wrap u32 (c.Pc+4),B3:=x0.B3},{C1:=0,C6:=0,D7:=0,Value:=0}))) (let E2:=({X:=c.X,Pc:=wrap u32 (c.Pc+4),B3:=c.B3}:Q02);let E3:=List.getD (A16.l c.X) i.B.toNat 0;let E4:=List.getD (A16.l c.X) i.A.toNat 0;let T1:Tree ((Q02×Q1)):= .lv (Z1s i.Op E4 E3) λ(x1:Bool)=> .br x1 (.lf ({X:=c.X,Pc:=wrap u32 (c.Pc+wrap u32 (4*wrap u32 i.Imm)),B3:=c.B3},{C1:=0,C6:=0,D7:=0,Value:=0})) (.lf (E2,{C1:=0,C6:=0,D7:=0,Value:=0})); .br (i.Op==40) T1 (.br (i.Op==41) T1 (.br (i.Op==42) T1 (.br (i.Op==43) T1 (.br (i.Op==44) T1 (.br (i.Op==45) T1 (.br (i.Op==48) (.an (Q5f c i.A (wrap u32 (c.Pc+4))) (.lv (Q8f c i.A (wrap u32 (c.Pc+4))) λ(x7:Q02)=> .lf ({X:=x7.X,Pc:=wrap u32 (x7.Pc+wrap u32 (4*wrap u32 i.Imm)),B3:=x7.B3},{C1:=0,C6:=0,D7:=0,Value:=0}))) (.br (i.Op==49) (.an (Q5f c i.A (wrap u32 (c.Pc+4))) (.lv (Q8f c i.A (wrap u32 (c.Pc+4))) λ(x8:Q02)=> .lf ({X:=x8.X,Pc:=wrap u32 (List.getD (A16.l c.X) i.B.toNat 0+wrap u32 i.Imm),B3:=x8.B3},{C1:=0,C6:=0,D7:=0,Value:=0}))) (.br (i.Op==56) (.lv (Q3r c 7 0) λ(x9:Q02)=> .lf (x9,{C1:=0,C6:=0,D7:=0,Value:=0})) (.br (i.Op==57) (.lv (Qb c) λ(x10:Q02)=> .lf (x10,{C1:=0,C6:=0,D7:=0,Value:=0})) (.br (i.Op==58) (.cn (Nat.blt 0 1&&decide (0≤i.Imm∧i.Imm<(↑8:Int))) (let E5:=List.getD (A8.l c.B3) i.Imm.toNat 0; .an (Q5f c i.A E5) (.lv (Q8f c i.A E5) λ(x11:Q02)=> .lf ({X:=x11.X,Pc:=wrap u32 (c.Pc+4),B3:=x11.B3},{C1:=0,C6:=0,D7:=0,Value:=0})))) (.br (i.Op==59) (.an (Qhi c (wrap i64 i.Imm) E4) (.lv (Z1h c (wrap i64 i.Imm) E4) λ(x12:Q02)=> .lf ({X:=x12.X,Pc:=wrap u32 (c.Pc+4),B3:=x12.B3},{C1:=0,C6:=0,D7:=0,Value:=0}))) (.br (i.Op==60) (.lf (E2,{C1:=1,C6:=wrap i64 i.Imm,D7:=i.A,Value:=0})) (.br (i.Op==61) (.lf (E2,{C1:=2,C6:=wrap i64 i.Imm,D7:=0,Value:=List.getD (A16.l c.X) i.A.toNat 0})) (.br (i.Op==62) (.lf (E2,{C1:=3,C6:=0,D7:=0,Value:=0})) (.br (i.Op==63) (.lf (E2,{C1:=5,C6:=0,D7:=0,Value:=0})) (.br (i.Op==64) (.lf (E2,{C1:=4,C6:=0,D7:=0,Value:=0})) (.cn (Nat.blt 0 1&&decide (0≤i.C∧i.C<(↑16:Int))) (.br (decide (i.Op≥16)) (.an (Qh5 i.Op E3 (wrap u32 i.Imm)) (.lv (Q3e i.Op E3 (wrap u32 i.Imm)) λ(x13:Int×Bool)=> .an (Q5f c i.A x13.1) (.lv (Q8f c i.A x13.1) λ(x14:Q02)=> .lf ({X:=x14.X,Pc:=wrap u32 (c.Pc+4),B3:=x14.B3},{C1:=0,C6:=0,D7:=0,Value:=0})))) (let E6:=List.getD (A16.l c.X) i.C.toNat 0; .an (Qh5 i.Op E3 E6) (.lv (Q3e i.Op E3 E6) λ(x15:Int×Bool)=> .an (Q5f c i.A x15.1) (.lv (Q8f c i.A x15.1) λ(x16:Q02)=> .lf ({X:=x16.X,Pc:=wrap u32 (c.Pc+4),B3:=x16.B3},{C1:=0,C6:=0,D7:=0,Value:=0})))))))))))))))))))))))))
def Qhn(c:Q02)(i:Q0e):(Q02×Q1):=(Q2n c i).m
abbrev Qf0(c:Q02)(i:Q0e):Prop:=(Q2n c i).p
def Qza:Q0c:=mkP 161 [] true [.agg Q02.sig, .agg Q0e.sig] [] (λargs rows=>Qf0 (Q02.of (args.getD 0 .dead).cells) (Q0e.of (args.getD 1 .dead).cells)) (λargs rows=>Qhn (Q02.of (args.getD 0 .dead).cells) (Q0e.of (args.getD 1 .dead).cells)) (λX=> .tup [.agg (Q02.cells (X.1)), .agg (Q1.cells (X.2))]) (λX=>[])
theorem Qvq:Q08 Tryz.prog Qza:=Q0t Q0p Q0o (.cons Qw7 (.cons Z10 (.cons Qe (.cons Qy1 (.cons Z36 (.cons Z96 (.nil))))))) Tryz.func161 Tryz.call161 (λargs rows=>Q2n (Q02.of (args.getD 0 .dead).cells) (Q0e.of (args.getD 1 .dead).cells)) [] [] 2 (λ_ _ _=>by kernel_rfl) (λ_ _=>rfl) (λ_ _ h=>h) (λ_ X=>by kernel_rfl)
def Q4e(c:Q02)(m:(List Int)):Tree (Q02×(List Int)×Q1):=
.an (Qdc c m) (.lv (Qix c m) λ(x0:Int×List Int×Int)=> .br (x0.2.2 !=0) (.lv (Q3r c x0.2.2 c.Pc) λ(x1:Q02)=> .lf (x1,x0.2.1,{C1:=0,C6:=0,D7:=0,Value:=0})) (.an (Qbc x0.1) (.lv (Qdm x0.1) λ(x2:Q0e×Bool)=> .br (!x2.2) (.lv (Q3r c 1 x0.1) λ(x3:Q02)=> .lf (x3,x0.2.1,{C1:=0,C6:=0,D7:=0,Value:=0})) (.lv (Q72 x2.1.Op) λ(x4:Bool)=>let T1:Tree ((Q02×(List Int)×Q1)):=let T2:Tree ((Q02×(List Int)×Q1)):= .an (Qie c x0.2.1 x2.1) (.lv (Q57 c x0.2.1 x2.1) λ(x7:Q02×List Int)=> .lf (x7.1,x7.2,{C1:=0,C6:=0,D7:=0,Value:=0})); .br (x2.1.Op==32) T2 (.br (x2.1.Op==33) T2 (.br (x2.1.Op==34) T2 (let T3:Tree ((Q02×(List Int)×Q1)):= .an (Qhh c x0.2.1 x2.1) (.lv (Q6s c x0.2.1 x2.1) λ(x10:Q02×List Int)=> .lf (x10.1,x10.2,{C1:=0,C6:=0,D7:=0,Value:=0})); .br (x2.1.Op==35) T3 (.br (x2.1.Op==36) T3 (.an (Qf0 c x2.1) (.lv (Qhn c x2.1) λ(x12:Q02×Q1)=> .lf (x12.1,x0.2.1,x12.2))))))); .br x4 (.lv (Q9f c) λ(x5:Bool)=> .br (!x5) (.lv (Q3r c 2 x0.1) λ(x6:Q02)=> .lf (x6,x0.2.1,{C1:=0,C6:=0,D7:=0,Value:=0})) T1) T1))))
def Q81(c:Q02)(m:(List Int)):(Q02×(List Int)×Q1):=(Q4e c m).m
abbrev Qbl(c:Q02)(m:(List Int)):Prop:=(Q4e c m).p
def Z9m:Q0c:=mkP 107 [] true [.agg Q02.sig, .one (.ints .u32)] [] (λargs rows=>Qbl (Q02.of (args.getD 0 .dead).cells) (argL .u32 args 1)) (λargs rows=>Q81 (Q02.of (args.getD 0 .dead).cells) (argL .u32 args 1)) (λX=> .tup [.agg (Q02.cells (X.1)), .all 0, .agg (Q1.cells (X.2.2))]) (λX=>[⟨false,23,1, .ints .u32 (X.2.1)⟩])
theorem Qrq:Q08 Tryz.prog Z9m:=Q0t Q0p Q0o (.cons Z1z (.cons Qe (.cons Z0l (.cons Qo1 (.cons Qmq (.cons Z5u (.cons Z2g (.cons Qvq (.nil))))))))) Tryz.func107 Tryz.call107 (λargs rows=>Q4e (Q02.of (args.getD 0 .dead).cells) (argL .u32 args 1)) [.row 23 1 (.ints .u32)] [] 2 (λ_ _ _=>by kernel_rfl) (λ_ _=>rfl) (λ_ _ h=>h) (λ_ X=>by kernel_rfl)
end
end Go.Proofs.YtjaifpiopmhmlaaGreat

/-
  Functions of the program: models, and that its calls come to them (by a program: gen3.py).
-/
import Derived.Test.YtpcbkbalabgnlaaGreatRecordTellsBase
import Derived.Test.YtpcbkbalabgnlaaGreatRecordTellsYa
set_option maxRecDepth 100000
set_option linter.unusedVariables false
set_option linter.unusedSimpArgs false
namespace Go.Proofs.YtpcbkbalabgnlaaGreat
open Go Go.GD Go.IntKind
noncomputable section
def Qpc(status:Int)(from0:Int)(to:Int):Tree Int:=
.br (iand u32 status from0 !=0) (.lf (ior u32 status to)) (.lf (Qhf u32 status to))
def Q9z(status:Int)(from0:Int)(to:Int):Int:=(Qpc status from0 to).m
def Zm1:Q0d:=mkR 180 [] true [.one (.int .u32), .one (.int .u32), .one (.int .u32)] [] (λargs rows=>Q9z (argI args 0) (argI args 1) (argI args 2)) (λX=> .int .u32 X) (λX=>[])
theorem Z0i:Q05 Tryz.prog Zm1:=Q11 Q0j Q0i (.nil) Tryz.func180 Tryz.call180 (λargs rows=>Qpc (argI args 0) (argI args 1) (argI args 2)) [] [] 2 (λ_ _ _=>by kernel_rfl) (λ_ _=>rfl) (λ_ _=>Tree.free_ok (by kernel_rfl)) (λ_ X=>by kernel_rfl)
def Qkw(c:Q02)(cause:Int)(bad:Int):Tree Q02:=
.lv (Q9z c.B5.a0 1 8) λ(x0:Int)=> .lv (Q9z x0 2 16) λ(x1:Int)=> .lf ({X:=c.X,Pc:=c.B5.a1,B5:={a0:=Qhf u32 (ior u32 x1 1) 2,a1:=c.B5.a1,a2:=c.Pc,a3:=wrap u32 cause,a4:=bad,a5:=c.B5.a5,a6:=c.B5.a6,a7:=c.B5.a7}})
def Q59(c:Q02)(cause:Int)(bad:Int):Q02:=(Qkw c cause bad).m
def Zkp:Q0d:=mkR 129 [] true [.agg Q02.sig, .one (.int .i64), .one (.int .u32)] [] (λargs rows=>Q59 (Q02.of (args.getD 0 .dead).cells) (argI args 1) (argI args 2)) (λX=> .agg (Q02.cells X)) (λX=>[])
theorem Qjc:Q05 Tryz.prog Zkp:=Q11 Q0j Q0i (.cons Z0i (.nil)) Tryz.func129 Tryz.call129 (λargs rows=>Qkw (Q02.of (args.getD 0 .dead).cells) (argI args 1) (argI args 2)) [] [] 2 (λ_ _ _=>by kernel_rfl) (λ_ _=>rfl) (λ_ _=>Tree.free_ok (by kernel_rfl)) (λ_ X=>by kernel_rfl)
def Qtg(access:Int):Tree (Int×Bool):=
.br (access==1) (.lf (4,true)) (.br (access==2) (.lf (5,true)) (.br (access==3) (.lf (6,true)) (.lf (5,false))))
def Qrj(access:Int):(Int×Bool):=(Qtg access).m
def Z7g:Q0d:=mkR 225 [] true [.one (.int .i64)] [] (λargs rows=>Qrj (argI args 0)) (λX=> .tup [.int .i64 (X.1), .bool (X.2)]) (λX=>[])
theorem Z4f:Q05 Tryz.prog Z7g:=Q11 Q0j Q0i (.nil) Tryz.func225 Tryz.call225 (λargs rows=>Qtg (argI args 0)) [] [] 2 (λ_ _ _=>by kernel_rfl) (λ_ _=>rfl) (λ_ _=>Tree.free_ok (by kernel_rfl)) (λ_ X=>by kernel_rfl)
def Qwg(c:Q02):Tree Bool:=
.lf (iand u32 c.B5.a0 (1:Int) !=(0:Int))
def Qb8(c:Q02):Bool:=(Qwg c).m
def Zdz:Q0d:=mkR 133 [] true [.agg Q02.sig] [] (λargs rows=>Qb8 (Q02.of (args.getD 0 .dead).cells)) (λX=> .bool X) (λX=>[])
theorem Qsr:Q05 Tryz.prog Zdz:=Q11 Q0j Q0i (.nil) Tryz.func133 Tryz.call133 (λargs rows=>Qwg (Q02.of (args.getD 0 .dead).cells)) [] [] 2 (λ_ _ _=>by kernel_rfl) (λ_ _=>rfl) (λ_ _=>Tree.free_ok (by kernel_rfl)) (λ_ X=>by kernel_rfl)
def Qn2(access:Int):Tree (Int×Bool):=
.br (access==1) (.lf (4,true)) (.br (access==2) (.lf (5,true)) (.br (access==3) (.lf (6,true)) (.lf (5,false))))
def Qki(access:Int):(Int×Bool):=(Qn2 access).m
def Qyw:Q0d:=mkR 244 [] true [.one (.int .i64)] [] (λargs rows=>Qki (argI args 0)) (λX=> .tup [.int .i64 (X.1), .bool (X.2)]) (λX=>[])
theorem Qv3:Q05 Tryz.prog Qyw:=Q11 Q0j Q0i (.nil) Tryz.func244 Tryz.call244 (λargs rows=>Qn2 (argI args 0)) [] [] 2 (λ_ _ _=>by kernel_rfl) (λ_ _=>rfl) (λ_ _=>Tree.free_ok (by kernel_rfl)) (λ_ X=>by kernel_rfl)
def Qhx(m:(List Int))(frame:Int):Tree Bool:=
.lv (Q0v m) λ(x0:Int)=> .lf (decide (wrap u64 frame<wrap u64 x0))
def Qbc(m:(List Int))(frame:Int):Bool:=(Qhx m frame).m
def Z1s:Q0d:=mkR 245 [] true [.one (.ints .u32), .one (.int .u32)] [] (λargs rows=>Qbc (argL .u32 args 0) (argI args 1)) (λX=> .bool X) (λX=>[])
theorem Qy9:Q05 Tryz.prog Z1s:=Q11 Q0j Q0i (.cons Q54 (.nil)) Tryz.func245 Tryz.call245 (λargs rows=>Qhx (argL .u32 args 0) (argI args 1)) [] [] 2 (λ_ _ _=>by kernel_rfl) (λ_ _=>rfl) (λ_ _=>Tree.free_ok (by kernel_rfl)) (λ_ X=>by kernel_rfl)
def Q62(m:(List Int))(addr:Int)(size:Int):Tree (Int×Bool):=
.an (Q6c m addr size) (.lv (Qhe m addr size) λ(x0:Bool)=> .br (!x0) (.lf (0,false)) (.cn (Nat.beq 1 1&&Nat.blt 0 1&&decide (0≤wrap u32 (Int.tdiv addr 4)∧wrap u32 (Int.tdiv addr 4)<(m.length:Int))) (let E1:=Int.toNat (wrap u32 (Int.tdiv addr 4)); .br (size==1) (let E2:=wrap i64 (wrap i64 (Int.tmod addr 4)*8); .an (Q3v (m.getD E1 0) E2 8) (.lv (Q3q (m.getD E1 0) E2 8) λ(x1:Int)=> .lf (x1,true))) (.lf (m.getD E1 0,true)))))
def Q5g(m:(List Int))(addr:Int)(size:Int):(Int×Bool):=(Q62 m addr size).m
abbrev Q2n(m:(List Int))(addr:Int)(size:Int):Prop:=(Q62 m addr size).p
def Z87:Q0d:=mkP 182 [] true [.one (.ints .u32), .one (.int .u32), .one (.int .i64)] [] (λargs rows=>Q2n (argL .u32 args 0) (argI args 1) (argI args 2)) (λargs rows=>Q5g (argL .u32 args 0) (argI args 1) (argI args 2)) (λX=> .tup [.int .u32 (X.1), .bool (X.2)]) (λX=>[])
theorem Qca:Q05 Tryz.prog Z87:=Q0k Q0j Q0i (.cons Qmw (.cons Qml (.nil))) Tryz.func182 Tryz.call182 (λargs rows=>Q62 (argL .u32 args 0) (argI args 1) (argI args 2)) [] [] 2 (λ_ _ _=>by kernel_rfl) (λ_ _=>rfl) (λ_ _ h=>h) (λ_ X=>by kernel_rfl)
def Qn1(pte:Int)(access:Int):Tree Bool:=
.br (iand u32 pte (1:Int)==(0:Int)) (.lf false) (.br (access==3) (.lf (iand u32 pte (2:Int) !=(0:Int))) (.br (access==1) (.lf (iand u32 pte (4:Int) !=(0:Int))) (.lf true)))
def Qce(pte:Int)(access:Int):Bool:=(Qn1 pte access).m
def Qy4:Q0d:=mkR 246 [] true [.one (.int .u32), .one (.int .i64)] [] (λargs rows=>Qce (argI args 0) (argI args 1)) (λX=> .bool X) (λX=>[])
theorem Qvo:Q05 Tryz.prog Qy4:=Q11 Q0j Q0i (.nil) Tryz.func246 Tryz.call246 (λargs rows=>Qn1 (argI args 0) (argI args 1)) [] [] 2 (λ_ _ _=>by kernel_rfl) (λ_ _=>rfl) (λ_ _=>Tree.free_ok (by kernel_rfl)) (λ_ X=>by kernel_rfl)
def Q4a(pte:Int):Tree Int:=
.an (Q3v pte 8 8) (.lv (Q3q pte 8 8) λ(x0:Int)=> .lf x0)
def Qfi(pte:Int):Int:=(Q4a pte).m
abbrev Q5a(pte:Int):Prop:=(Q4a pte).p
def Qxn:Q0d:=mkP 247 [] true [.one (.int .u32)] [] (λargs rows=>Q5a (argI args 0)) (λargs rows=>Qfi (argI args 0)) (λX=> .int .u32 X) (λX=>[])
theorem Quc:Q05 Tryz.prog Qxn:=Q0k Q0j Q0i (.cons Qml (.nil)) Tryz.func247 Tryz.call247 (λargs rows=>Q4a (argI args 0)) [] [] 2 (λ_ _ _=>by kernel_rfl) (λ_ _=>rfl) (λ_ _ h=>h) (λ_ X=>by kernel_rfl)
def Q61(m:(List Int))(root:Int)(va:Int)(access:Int):Tree Q18:=
.lv (Qki access) λ(x0:Int×Bool)=>let E1:=({Addr:=0,F2:=0,F0:=x0.1}:Q18); .br (!x0.2) (.lf (E1)) (.br (decide (va≥4096)) (.lf (E1)) (.lv (Qbc m root) λ(x1:Bool)=> .br (!x1) (.lf (E1)) (let E2:=wrap u32 (root*128)+wrap u32 (4*wrap u32 (Int.tdiv va 128)); .an (Q2n m (wrap u32 E2) 4) (.lv (Q5g m (wrap u32 E2) 4) λ(x2:Int×Bool)=> .br (!x2.2) (.lf (E1)) (.lv (Qce x2.1 access) λ(x3:Bool)=> .br (!x3) (.lf (E1)) (.an (Q5a x2.1) (.lv (Qfi x2.1) λ(x4:Int)=> .lv (Qbc m x4) λ(x5:Bool)=> .br (!x5) (.lf (E1)) (.an (Q5a x2.1) (.lv (Qfi x2.1) λ(x6:Int)=> .lf ({Addr:=wrap u32 (wrap u32 (x6*128)+Int.tmod va 128),F2:=wrap u32 E2,F0:=0}))))))))))
def Qis(m:(List Int))(root:Int)(va:Int)(access:Int):Q18:=(Q61 m root va access).m
abbrev Q8q(m:(List Int))(root:Int)(va:Int)(access:Int):Prop:=(Q61 m root va access).p
def Z8b:Q0d:=mkP 226 [] true [.one (.ints .u32), .one (.int .u32), .one (.int .u32), .one (.int .i64)] [] (λargs rows=>Q8q (argL .u32 args 0) (argI args 1) (argI args 2) (argI args 3)) (λargs rows=>Qis (argL .u32 args 0) (argI args 1) (argI args 2) (argI args 3)) (λX=> .agg (Q18.cells X)) (λX=>[])
theorem Z4e:Q05 Tryz.prog Z8b:=Q0k Q0j Q0i (.cons Qv3 (.cons Qy9 (.cons Qca (.cons Qvo (.cons Quc (.nil)))))) Tryz.func226 Tryz.call226 (λargs rows=>Q61 (argL .u32 args 0) (argI args 1) (argI args 2) (argI args 3)) [] [] 2 (λ_ _ _=>by kernel_rfl) (λ_ _=>rfl) (λ_ _ h=>h) (λ_ X=>by kernel_rfl)
def Q4u(m:(List Int))(entry:Int)(access:Int):Tree (List Int):=
.an (Q2n m entry 4) (.lv (Q5g m entry 4) λ(x0:Int×Bool)=> .br (!x0.2) (.an (Q08 m) (.lv (Q03 m) λ(x1:List Int)=> .lf x1)) (.br (access==3) (.an (Q5j m entry 4 (ior u32 (ior u32 x0.1 8) 16)) (.lv (Qap m entry 4 (ior u32 (ior u32 x0.1 8) 16)) λ(x2:List Int×Bool)=> .lf x2.1)) (.an (Q5j m entry 4 (ior u32 x0.1 8)) (.lv (Qap m entry 4 (ior u32 x0.1 8)) λ(x3:List Int×Bool)=> .lf x3.1))))
def Qd2(m:(List Int))(entry:Int)(access:Int):(List Int):=(Q4u m entry access).m
abbrev Q77(m:(List Int))(entry:Int)(access:Int):Prop:=(Q4u m entry access).p
def Z4m:Q0d:=mkP 227 [] true [.one (.ints .u32), .one (.int .u32), .one (.int .i64)] [] (λargs rows=>Q77 (argL .u32 args 0) (argI args 1) (argI args 2)) (λargs rows=>Qd2 (argL .u32 args 0) (argI args 1) (argI args 2)) (λX=> .all 0) (λX=>[⟨false,23,1, .ints .u32 X⟩])
theorem Z0v:Q05 Tryz.prog Z4m:=Q0k Q0j Q0i (.cons Qca (.cons Q0x (.cons Qou (.nil)))) Tryz.func227 Tryz.call227 (λargs rows=>Q4u (argL .u32 args 0) (argI args 1) (argI args 2)) [.row 23 1 (.ints .u32)] [] 2 (λ_ _ _=>by kernel_rfl) (λ_ _=>rfl) (λ_ _ h=>h) (λ_ X=>by kernel_rfl)
def Q5v(c:Q02)(m:(List Int))(va:Int)(size:Int)(access:Int):Tree (Int×(List Int)×Int):=
.lv (Qrj access) λ(x0:Int×Bool)=>let T3:Tree ((Int×(List Int)×Int)):= .an (Q08 m) (.lv (Q03 m) λ(x1:List Int)=> .lf (0,x1,5)); .br (!x0.2) T3 (let T1:Tree ((Int×(List Int)×Int)):= .cn (decide (wrap u32 size≠0)) (.br (Int.tmod va (wrap u32 size) !=0) (.an (Q08 m) (.lv (Q03 m) λ(x3:List Int)=> .lf (0,x3,3))) (.lv (Qb8 c) λ(x4:Bool)=>let T2:Tree ((Int×(List Int)×Int)):= .an (Q2n m va size) (.lv (Q5g m va size) λ(x8:Int×Bool)=> .br (!x8.2) (.an (Q08 m) (.lv (Q03 m) λ(x9:List Int)=> .lf (0,x9,x0.1))) (.an (Q08 m) (.lv (Q03 m) λ(x10:List Int)=> .lf (va,x10,0)))); .br (!x4) (.br (iand u32 c.B5.a0 (4:Int) !=(0:Int)) (.an (Q8q m c.B5.a6 va access) (.lv (Qis m c.B5.a6 va access) λ(x5:Q18)=> .br (x5.F0 !=0) (.an (Q08 m) (.lv (Q03 m) λ(x6:List Int)=> .lf (0,x6,x5.F0))) (.an (Q77 m x5.F2 access) (.lv (Qd2 m x5.F2 access) λ(x7:List Int)=> .lf (x5.Addr,x7,0))))) T2) T2)); .br (size !=1) (.br (size !=4) T3 T1) T1)
def Q29(c:Q02)(m:(List Int))(va:Int)(size:Int)(access:Int):(Int×(List Int)×Int):=(Q5v c m va size access).m
abbrev Q6i(c:Q02)(m:(List Int))(va:Int)(size:Int)(access:Int):Prop:=(Q5v c m va size access).p
def Z8y:Q0d:=mkP 181 [] true [.agg Q02.sig, .one (.ints .u32), .one (.int .u32), .one (.int .i64), .one (.int .i64)] [] (λargs rows=>Q6i (Q02.of (args.getD 0 .dead).cells) (argL .u32 args 1) (argI args 2) (argI args 3) (argI args 4)) (λargs rows=>Q29 (Q02.of (args.getD 0 .dead).cells) (argL .u32 args 1) (argI args 2) (argI args 3) (argI args 4)) (λX=> .tup [.int .u32 (X.1), .all 0, .int .i64 (X.2.2)]) (λX=>[⟨false,23,1, .ints .u32 (X.2.1)⟩])
theorem Qkg:Q05 Tryz.prog Z8y:=Q0k Q0j Q0i (.cons Z4f (.cons Q0x (.cons Qsr (.cons Z4e (.cons Z0v (.cons Qca (.nil))))))) Tryz.func181 Tryz.call181 (λargs rows=>Q5v (Q02.of (args.getD 0 .dead).cells) (argL .u32 args 1) (argI args 2) (argI args 3) (argI args 4)) [.row 23 1 (.ints .u32)] [] 2 (λ_ _ _=>by kernel_rfl) (λ_ _=>rfl) (λ_ _ h=>h) (λ_ X=>by kernel_rfl)
def Qah(c:Q02)(m:(List Int)):Tree (Int×(List Int)×Int):=
.an (Q6i c m c.Pc 4 1) (.lv (Q29 c m c.Pc 4 1) λ(x0:Int×List Int×Int)=> .br (x0.2.2 !=0) (.lf (0,x0.2.1,x0.2.2)) (.an (Q2n x0.2.1 x0.1 4) (.lv (Q5g x0.2.1 x0.1 4) λ(x1:Int×Bool)=> .lf (x1.1,x0.2.1,0))))
def Qo6(c:Q02)(m:(List Int)):(Int×(List Int)×Int):=(Qah c m).m
abbrev Qe8(c:Q02)(m:(List Int)):Prop:=(Qah c m).p
def Zgg:Q0d:=mkP 130 [] true [.agg Q02.sig, .one (.ints .u32)] [] (λargs rows=>Qe8 (Q02.of (args.getD 0 .dead).cells) (argL .u32 args 1)) (λargs rows=>Qo6 (Q02.of (args.getD 0 .dead).cells) (argL .u32 args 1)) (λX=> .tup [.int .u32 (X.1), .all 0, .int .i64 (X.2.2)]) (λX=>[⟨false,23,1, .ints .u32 (X.2.1)⟩])
theorem Zck:Q05 Tryz.prog Zgg:=Q0k Q0j Q0i (.cons Qkg (.cons Qca (.nil))) Tryz.func130 Tryz.call130 (λargs rows=>Qah (Q02.of (args.getD 0 .dead).cells) (argL .u32 args 1)) [.row 23 1 (.ints .u32)] [] 2 (λ_ _ _=>by kernel_rfl) (λ_ _=>rfl) (λ_ _ h=>h) (λ_ X=>by kernel_rfl)
def Qmu(op:Int):Tree Bool:=
.br (op==57) (.lf true) (.br (op==58) (.lf true) (.br (op==59) (.lf true) (.br (op==60) (.lf true) (.br (op==61) (.lf true) (.br (op==62) (.lf true) (.br (op==63) (.lf true) (.br (op==64) (.lf true) (.lf false))))))))
def Q9v(op:Int):Bool:=(Qmu op).m
def Qxx:Q0d:=mkR 132 [] true [.one (.int .i64)] [] (λargs rows=>Q9v (argI args 0)) (λX=> .bool X) (λX=>[])
theorem Quq:Q05 Tryz.prog Qxx:=Q11 Q0j Q0i (.nil) Tryz.func132 Tryz.call132 (λargs rows=>Qmu (argI args 0)) [] [] 2 (λ_ _ _=>by kernel_rfl) (λ_ _=>rfl) (λ_ _=>Tree.free_ok (by kernel_rfl)) (λ_ X=>by kernel_rfl)
def Qqy(op:Int):Tree Int:=
.br (op==32) (.lf 4) (.br (op==35) (.lf 4) (.lf 1))
def Qfq(op:Int):Int:=(Qqy op).m
def Zhw:Q0d:=mkR 187 [] true [.one (.int .i64)] [] (λargs rows=>Qfq (argI args 0)) (λX=> .int .i64 X) (λX=>[])
theorem Qws:Q05 Tryz.prog Zhw:=Q11 Q0j Q0i (.nil) Tryz.func187 Tryz.call187 (λargs rows=>Qqy (argI args 0)) [] [] 2 (λ_ _ _=>by kernel_rfl) (λ_ _=>rfl) (λ_ _=>Tree.free_ok (by kernel_rfl)) (λ_ X=>by kernel_rfl)
def Q9h(c:Q02)(register:Int)(v:Int):Tree Q02:=
.br (register !=0) (.cn (Nat.blt 0 1&&decide (0≤register∧register<(↑16:Int))) (.lf ({X:=A16.of 0 (List.set (A16.l c.X) register.toNat v),Pc:=c.Pc,B5:=c.B5}))) (.lf c)
def Qbs(c:Q02)(register:Int)(v:Int):Q02:=(Q9h c register v).m
abbrev Q5k(c:Q02)(register:Int)(v:Int):Prop:=(Q9h c register v).p
def cpu_set_m:Q0d:=mkP 188 [] true [.agg Q02.sig, .one (.int .i64), .one (.int .u32)] [] (λargs rows=>Q5k (Q02.of (args.getD 0 .dead).cells) (argI args 1) (argI args 2)) (λargs rows=>Qbs (Q02.of (args.getD 0 .dead).cells) (argI args 1) (argI args 2)) (λX=> .agg (Q02.cells X)) (λX=>[])
theorem Z60:Q05 Tryz.prog cpu_set_m:=Q0k Q0j Q0i (.nil) Tryz.func188 Tryz.call188 (λargs rows=>Q9h (Q02.of (args.getD 0 .dead).cells) (argI args 1) (argI args 2)) [] [] 2 (λ_ _ _=>by kernel_rfl) (λ_ _=>rfl) (λ_ _ h=>h) (λ_ X=>by kernel_rfl)
def Q9n(c:Q02)(m:(List Int))(i:Q0h):Tree (Q02×(List Int)):=
.cn (Nat.blt 0 1&&decide (0≤i.B∧i.B<(↑16:Int))) (.lv (Qfq i.Op) λ(x0:Int)=>let E1:=wrap u32 (List.getD (A16.l c.X) i.B.toNat 0+wrap u32 i.Imm); .an (Q6i c m E1 x0 2) (.lv (Q29 c m E1 x0 2) λ(x1:Int×List Int×Int)=> .br (x1.2.2 !=0) (.lv (Q59 c x1.2.2 E1) λ(x2:Q02)=> .lf (x2,x1.2.1)) (.lv (Qfq i.Op) λ(x3:Int)=> .an (Q2n x1.2.1 x1.1 x3) (.lv (Q5g x1.2.1 x1.1 x3) λ(x4:Int×Bool)=> .br (i.Op==33) (.an (Q4i x4.1 8) (.lv (Q2r x4.1 8) λ(x5:Int)=> .an (Q5k c i.A x5) (.lv (Qbs c i.A x5) λ(x6:Q02)=> .lf ({X:=x6.X,Pc:=wrap u32 (x6.Pc+4),B5:=x6.B5},x1.2.1)))) (.an (Q5k c i.A x4.1) (.lv (Qbs c i.A x4.1) λ(x7:Q02)=> .lf ({X:=x7.X,Pc:=wrap u32 (x7.Pc+4),B5:=x7.B5},x1.2.1)))))))
def Q7f(c:Q02)(m:(List Int))(i:Q0h):(Q02×(List Int)):=(Q9n c m i).m
abbrev Qg2(c:Q02)(m:(List Int))(i:Q0h):Prop:=(Q9n c m i).p
def Zkd:Q0d:=mkP 134 [] true [.agg Q02.sig, .one (.ints .u32), .agg Q0h.sig] [] (λargs rows=>Qg2 (Q02.of (args.getD 0 .dead).cells) (argL .u32 args 1) (Q0h.of (args.getD 2 .dead).cells)) (λargs rows=>Q7f (Q02.of (args.getD 0 .dead).cells) (argL .u32 args 1) (Q0h.of (args.getD 2 .dead).cells)) (λX=> .tup [.agg (Q02.cells (X.1)), .all 0]) (λX=>[⟨false,23,1, .ints .u32 (X.2)⟩])
theorem Zf9:Q05 Tryz.prog Zkd:=Q0k Q0j Q0i (.cons Qkg (.cons Qws (.cons Qjc (.cons Qca (.cons Qk5 (.cons Z60 (.nil))))))) Tryz.func134 Tryz.call134 (λargs rows=>Q9n (Q02.of (args.getD 0 .dead).cells) (argL .u32 args 1) (Q0h.of (args.getD 2 .dead).cells)) [.row 23 1 (.ints .u32)] [] 2 (λ_ _ _=>by kernel_rfl) (λ_ _=>rfl) (λ_ _ h=>h) (λ_ X=>by kernel_rfl)
def Q80(c:Q02)(m:(List Int))(i:Q0h):Tree (Q02×(List Int)):=
.cn (Nat.blt 0 1&&decide (0≤i.B∧i.B<(↑16:Int))) (.lv (Qfq i.Op) λ(x0:Int)=>let E1:=wrap u32 (List.getD (A16.l c.X) i.B.toNat 0+wrap u32 i.Imm); .an (Q6i c m E1 x0 3) (.lv (Q29 c m E1 x0 3) λ(x1:Int×List Int×Int)=> .br (x1.2.2 !=0) (.lv (Q59 c x1.2.2 E1) λ(x2:Q02)=> .lf (x2,x1.2.1)) (.lv (Qfq i.Op) λ(x3:Int)=> .cn (Nat.blt 0 1&&decide (0≤i.A∧i.A<(↑16:Int))) (let E2:=List.getD (A16.l c.X) i.A.toNat 0; .an (Q5j x1.2.1 x1.1 x3 E2) (.lv (Qap x1.2.1 x1.1 x3 E2) λ(x4:List Int×Bool)=> .lf ({X:=c.X,Pc:=wrap u32 (c.Pc+4),B5:=c.B5},x4.1))))))
def Q9k(c:Q02)(m:(List Int))(i:Q0h):(Q02×(List Int)):=(Q80 c m i).m
abbrev Qe2(c:Q02)(m:(List Int))(i:Q0h):Prop:=(Q80 c m i).p
def Zg6:Q0d:=mkP 135 [] true [.agg Q02.sig, .one (.ints .u32), .agg Q0h.sig] [] (λargs rows=>Qe2 (Q02.of (args.getD 0 .dead).cells) (argL .u32 args 1) (Q0h.of (args.getD 2 .dead).cells)) (λargs rows=>Q9k (Q02.of (args.getD 0 .dead).cells) (argL .u32 args 1) (Q0h.of (args.getD 2 .dead).cells)) (λX=> .tup [.agg (Q02.cells (X.1)), .all 0]) (λX=>[⟨false,23,1, .ints .u32 (X.2)⟩])
theorem Zav:Q05 Tryz.prog Zg6:=Q0k Q0j Q0i (.cons Qkg (.cons Qws (.cons Qjc (.cons Qou (.nil))))) Tryz.func135 Tryz.call135 (λargs rows=>Q80 (Q02.of (args.getD 0 .dead).cells) (argL .u32 args 1) (Q0h.of (args.getD 2 .dead).cells)) [.row 23 1 (.ints .u32)] [] 2 (λ_ _ _=>by kernel_rfl) (λ_ _=>rfl) (λ_ _ h=>h) (λ_ X=>by kernel_rfl)
def Z0e(op:Int)(a:Int)(b:Int):Tree Bool:=
.br (op==40) (.lf (a==b)) (.br (op==41) (.lf (a !=b)) (.br (op==42) (.lf (decide (wrap i32 a<wrap i32 b))) (.br (op==43) (.lf (decide (wrap i32 a≥wrap i32 b))) (.br (op==44) (.lf (decide (a<b))) (.lf (decide (a≥b)))))))
def Zam(op:Int)(a:Int)(b:Int):Bool:=(Z0e op a b).m
def Zfx:Q0d:=mkR 190 [] true [.one (.int .i64), .one (.int .u32), .one (.int .u32)] [] (λargs rows=>Zam (argI args 0) (argI args 1) (argI args 2)) (λX=> .bool X) (λX=>[])
theorem Zcx:Q05 Tryz.prog Zfx:=Q11 Q0j Q0i (.nil) Tryz.func190 Tryz.call190 (λargs rows=>Z0e (argI args 0) (argI args 1) (argI args 2)) [] [] 2 (λ_ _ _=>by kernel_rfl) (λ_ _=>rfl) (λ_ _=>Tree.free_ok (by kernel_rfl)) (λ_ X=>by kernel_rfl)
def Qgg(c:Q02):Tree Q02:=
.lv (Q9z c.B5.a0 8 1) λ(x0:Int)=> .lv (Q9z x0 16 2) λ(x1:Int)=> .lf ({X:=c.X,Pc:=c.B5.a2,B5:={a0:=x1,a1:=c.B5.a1,a2:=c.B5.a2,a3:=c.B5.a3,a4:=c.B5.a4,a5:=c.B5.a5,a6:=c.B5.a6,a7:=c.B5.a7}})
def Qek(c:Q02):Q02:=(Qgg c).m
def Zef:Q0d:=mkR 191 [] true [.agg Q02.sig] [] (λargs rows=>Qek (Q02.of (args.getD 0 .dead).cells)) (λX=> .agg (Q02.cells X)) (λX=>[])
theorem Z85:Q05 Tryz.prog Zef:=Q11 Q0j Q0i (.cons Z0i (.nil)) Tryz.func191 Tryz.call191 (λargs rows=>Qgg (Q02.of (args.getD 0 .dead).cells)) [] [] 2 (λ_ _ _=>by kernel_rfl) (λ_ _=>rfl) (λ_ _=>Tree.free_ok (by kernel_rfl)) (λ_ X=>by kernel_rfl)
def Q83(c:Q02)(csr:Int)(v:Int):Tree Q02:=
let E4:=Nat.blt 0 1&&decide (0≤csr∧csr<(↑8:Int));let T2:Tree (Q02):= .cn E4 (.lf ({X:=c.X,Pc:=c.Pc,B5:=A8.of 0 (List.set (A8.l c.B5) csr.toNat (iand u32 v 31))})); .br (csr==0) T2 (.br (csr==7) T2 (.br (csr==6) (.cn E4 (.lf ({X:=c.X,Pc:=c.Pc,B5:=A8.of 0 (List.set (A8.l c.B5) csr.toNat (iand u32 v 255))}))) (let T3:Tree (Q02):= .cn E4 (.lf ({X:=c.X,Pc:=c.Pc,B5:=A8.of 0 (List.set (A8.l c.B5) csr.toNat (Qhf u32 v 3))})); .br (csr==1) T3 (.br (csr==2) T3 (let T1:Tree (Q02):= .cn E4 (.lf ({X:=c.X,Pc:=c.Pc,B5:=A8.of 0 (List.set (A8.l c.B5) csr.toNat v)})); .br (csr==3) T1 (.br (csr==4) T1 (.br (csr==5) T1 (.lf c))))))))
def Ze4(c:Q02)(csr:Int)(v:Int):Q02:=(Q83 c csr v).m
abbrev Qdg(c:Q02)(csr:Int)(v:Int):Prop:=(Q83 c csr v).p
def Zfv:Q0d:=mkP 192 [] true [.agg Q02.sig, .one (.int .i64), .one (.int .u32)] [] (λargs rows=>Qdg (Q02.of (args.getD 0 .dead).cells) (argI args 1) (argI args 2)) (λargs rows=>Ze4 (Q02.of (args.getD 0 .dead).cells) (argI args 1) (argI args 2)) (λX=> .agg (Q02.cells X)) (λX=>[])
theorem Ze:Q05 Tryz.prog Zfv:=Q0k Q0j Q0i (.nil) Tryz.func192 Tryz.call192 (λargs rows=>Q83 (Q02.of (args.getD 0 .dead).cells) (argI args 1) (argI args 2)) [] [] 2 (λ_ _ _=>by kernel_rfl) (λ_ _=>rfl) (λ_ _ h=>h) (λ_ X=>by kernel_rfl)
def Q3g(c:Q02)(i:Q0h):Tree (Q02×Q14):=
.cn (Nat.blt 0 1&&decide (0≤i.A∧i.A<(↑16:Int))) (.cn (Nat.blt 0 1&&decide (0≤i.B∧i.B<(↑16:Int))) (.br (i.Op==24) (.an (Q5k c i.A (ishl u32 (wrap u32 i.Imm) 16)) (.lv (Qbs c i.A (ishl u32 (wrap u32 i.Imm) 16)) λ(x0:Q02)=> .lf ({X:=x0.X,Pc:=wrap u32 (c.Pc+4),B5:=x0.B5},{B8:=0,D0:=0,D9:=0,Value:=0}))) (let E2:=({X:=c.X,Pc:=wrap u32 (c.Pc+4),B5:=c.B5}:Q02);let E3:=List.getD (A16.l c.X) i.B.toNat 0;let E4:=List.getD (A16.l c.X) i.A.toNat 0;let T1:Tree ((Q02×Q14)):= .lv (Zam i.Op E4 E3) λ(x1:Bool)=> .br x1 (.lf ({X:=c.X,Pc:=wrap u32 (c.Pc+wrap u32 (4*wrap u32 i.Imm)),B5:=c.B5},{B8:=0,D0:=0,D9:=0,Value:=0})) (.lf (E2,{B8:=0,D0:=0,D9:=0,Value:=0})); .br (i.Op==40) T1 (.br (i.Op==41) T1 (.br (i.Op==42) T1 (.br (i.Op==43) T1 (.br (i.Op==44) T1 (.br (i.Op==45) T1 (.br (i.Op==48) (.an (Q5k c i.A (wrap u32 (c.Pc+4))) (.lv (Qbs c i.A (wrap u32 (c.Pc+4))) λ(x7:Q02)=> .lf ({X:=x7.X,Pc:=wrap u32 (x7.Pc+wrap u32 (4*wrap u32 i.Imm)),B5:=x7.B5},{B8:=0,D0:=0,D9:=0,Value:=0}))) (.br (i.Op==49) (.an (Q5k c i.A (wrap u32 (c.Pc+4))) (.lv (Qbs c i.A (wrap u32 (c.Pc+4))) λ(x8:Q02)=> .lf ({X:=x8.X,Pc:=wrap u32 (List.getD (A16.l c.X) i.B.toNat 0+wrap u32 i.Imm),B5:=x8.B5},{B8:=0,D0:=0,D9:=0,Value:=0}))) (.br (i.Op==56) (.lv (Q59 c 7 0) λ(x9:Q02)=> .lf (x9,{B8:=0,D0:=0,D9:=0,Value:=0})) (.br (i.Op==57) (.lv (Qek c) λ(x10:Q02)=> .lf (x10,{B8:=0,D0:=0,D9:=0,Value:=0})) (.br (i.Op==58) (.cn (Nat.blt 0 1&&decide (0≤i.Imm∧i.Imm<(↑8:Int))) (let E5:=List.getD (A8.l c.B5) i.Imm.toNat 0; .an (Q5k c i.A E5) (.lv (Qbs c i.A E5) λ(x11:Q02)=> .lf ({X:=x11.X,Pc:=wrap u32 (c.Pc+4),B5:=x11.B5},{B8:=0,D0:=0,D9:=0,Value:=0})))) (.br (i.Op==59) (.an (Qdg c (wrap i64 i.Imm) E4) (.lv (Ze4 c (wrap i64 i.Imm) E4) λ(x12:Q02)=> .lf ({X:=x12.X,Pc:=wrap u32 (c.Pc+4),B5:=x12.B5},{B8:=0,D0:=0,D9:=0,Value:=0}))) (.br (i.Op==60) (.lf (E2,{B8:=1,D0:=wrap i64 i.Imm,D9:=i.A,Value:=0})) (.br (i.Op==61) (.lf (E2,{B8:=2,D0:=wrap i64 i.Imm,D9:=0,Value:=List.getD (A16.l c.X) i.A.toNat 0})) (.br (i.Op==62) (.lf (E2,{B8:=3,D0:=0,D9:=0,Value:=0})) (.br (i.Op==63) (.lf (E2,{B8:=5,D0:=0,D9:=0,Value:=0})) (.br (i.Op==64) (.lf (E2,{B8:=4,D0:=0,D9:=0,Value:=0})) (.cn (Nat.blt 0 1&&decide (0≤i.C∧i.C<(↑16:Int))) (.br (decide (i.Op≥16)) (.an (Qf0 i.Op E3 (wrap u32 i.Imm)) (.lv (Q4w i.Op E3 (wrap u32 i.Imm)) λ(x13:Int×Bool)=> .an (Q5k c i.A x13.1) (.lv (Qbs c i.A x13.1) λ(x14:Q02)=> .lf ({X:=x14.X,Pc:=wrap u32 (c.Pc+4),B5:=x14.B5},{B8:=0,D0:=0,D9:=0,Value:=0})))) (let E6:=List.getD (A16.l c.X) i.C.toNat 0; .an (Qf0 i.Op E3 E6) (.lv (Q4w i.Op E3 E6) λ(x15:Int×Bool)=> .an (Q5k c i.A x15.1) (.lv (Qbs c i.A x15.1) λ(x16:Q02)=> .lf ({X:=x16.X,Pc:=wrap u32 (c.Pc+4),B5:=x16.B5},{B8:=0,D0:=0,D9:=0,Value:=0})))))))))))))))))))))))))
def Qm(c:Q02)(i:Q0h):(Q02×Q14):=(Q3g c i).m
abbrev Qaz(c:Q02)(i:Q0h):Prop:=(Q3g c i).p
def Za8:Q0d:=mkP 136 [] true [.agg Q02.sig, .agg Q0h.sig] [] (λargs rows=>Qaz (Q02.of (args.getD 0 .dead).cells) (Q0h.of (args.getD 1 .dead).cells)) (λargs rows=>Qm (Q02.of (args.getD 0 .dead).cells) (Q0h.of (args.getD 1 .dead).cells)) (λX=> .tup [.agg (Q02.cells (X.1)), .agg (Q14.cells (X.2))]) (λX=>[])
theorem Z3y:Q05 Tryz.prog Za8:=Q0k Q0j Q0i (.cons Z60 (.cons Zcx (.cons Qjc (.cons Z85 (.cons Ze (.cons Zkh (.nil))))))) Tryz.func136 Tryz.call136 (λargs rows=>Q3g (Q02.of (args.getD 0 .dead).cells) (Q0h.of (args.getD 1 .dead).cells)) [] [] 2 (λ_ _ _=>by kernel_rfl) (λ_ _=>rfl) (λ_ _ h=>h) (λ_ X=>by kernel_rfl)
def Q78(c:Q02)(m:(List Int)):Tree (Q02×(List Int)×Q14):=
.an (Qe8 c m) (.lv (Qo6 c m) λ(x0:Int×List Int×Int)=> .br (x0.2.2 !=0) (.lv (Q59 c x0.2.2 c.Pc) λ(x1:Q02)=> .lf (x1,x0.2.1,{B8:=0,D0:=0,D9:=0,Value:=0})) (.an (Qc6 x0.1) (.lv (Qhu x0.1) λ(x2:Q0h×Bool)=> .br (!x2.2) (.lv (Q59 c 1 x0.1) λ(x3:Q02)=> .lf (x3,x0.2.1,{B8:=0,D0:=0,D9:=0,Value:=0})) (.lv (Q9v x2.1.Op) λ(x4:Bool)=>let T1:Tree ((Q02×(List Int)×Q14)):=let T2:Tree ((Q02×(List Int)×Q14)):= .an (Qg2 c x0.2.1 x2.1) (.lv (Q7f c x0.2.1 x2.1) λ(x7:Q02×List Int)=> .lf (x7.1,x7.2,{B8:=0,D0:=0,D9:=0,Value:=0})); .br (x2.1.Op==32) T2 (.br (x2.1.Op==33) T2 (.br (x2.1.Op==34) T2 (let T3:Tree ((Q02×(List Int)×Q14)):= .an (Qe2 c x0.2.1 x2.1) (.lv (Q9k c x0.2.1 x2.1) λ(x10:Q02×List Int)=> .lf (x10.1,x10.2,{B8:=0,D0:=0,D9:=0,Value:=0})); .br (x2.1.Op==35) T3 (.br (x2.1.Op==36) T3 (.an (Qaz c x2.1) (.lv (Qm c x2.1) λ(x12:Q02×Q14)=> .lf (x12.1,x0.2.1,x12.2))))))); .br x4 (.lv (Qb8 c) λ(x5:Bool)=> .br (!x5) (.lv (Q59 c 2 x0.1) λ(x6:Q02)=> .lf (x6,x0.2.1,{B8:=0,D0:=0,D9:=0,Value:=0})) T1) T1))))
def Q9a(c:Q02)(m:(List Int)):(Q02×(List Int)×Q14):=(Q78 c m).m
abbrev Qdb(c:Q02)(m:(List Int)):Prop:=(Q78 c m).p
def Zmg:Q0d:=mkP 98 [] true [.agg Q02.sig, .one (.ints .u32)] [] (λargs rows=>Qdb (Q02.of (args.getD 0 .dead).cells) (argL .u32 args 1)) (λargs rows=>Q9a (Q02.of (args.getD 0 .dead).cells) (argL .u32 args 1)) (λX=> .tup [.agg (Q02.cells (X.1)), .all 0, .agg (Q14.cells (X.2.2))]) (λX=>[⟨false,23,1, .ints .u32 (X.2.1)⟩])
theorem Z14:Q05 Tryz.prog Zmg:=Q0k Q0j Q0i (.cons Zck (.cons Qjc (.cons Z9 (.cons Quq (.cons Qsr (.cons Zf9 (.cons Zav (.cons Z3y (.nil))))))))) Tryz.func98 Tryz.call98 (λargs rows=>Q78 (Q02.of (args.getD 0 .dead).cells) (argL .u32 args 1)) [.row 23 1 (.ints .u32)] [] 2 (λ_ _ _=>by kernel_rfl) (λ_ _=>rfl) (λ_ _ h=>h) (λ_ X=>by kernel_rfl)
end
end Go.Proofs.YtpcbkbalabgnlaaGreat

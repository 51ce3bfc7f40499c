/-
  Functions of the program: models, and that its calls come to them (by a program: gen3.py).
-/
import Derived.Test.YtmalmklaonainaaGreatPrecopyCopiesBase
import Derived.Test.YtmalmklaonainaaGreatPrecopyCopiesYa
set_option maxRecDepth 100000
set_option linter.unusedVariables false
set_option linter.unusedSimpArgs false
namespace Go.Proofs.YtmalmklaonainaaGreat
open Go Go.GD Go.IntKind
noncomputable section
def Qkk(status:Int)(from0:Int)(to:Int):Tree Int:=
.br (iand u32 status from0 !=0) (.lf (ior u32 status to)) (.lf (Ql9 u32 status to))
def Qa3(status:Int)(from0:Int)(to:Int):Int:=(Qkk status from0 to).m
def Zg3:Q09:=mkR 230 [] true [.one (.int .u32), .one (.int .u32), .one (.int .u32)] [] (λargs rows=>Qa3 (argI args 0) (argI args 1) (argI args 2)) (λX=> .int .u32 X) (λX=>[])
theorem Qxx:Q01 Tryz.prog Zg3:=Q0p drawn Q0g (.nil) Tryz.func230 Tryz.call230 (λargs rows=>Qkk (argI args 0) (argI args 1) (argI args 2)) [] [] 2 (λ_ _ _=>by kernel_rfl) (λ_ _=>rfl) (λ_ _=>Tree.free_ok (by kernel_rfl)) (λ_ X=>by kernel_rfl)
def Qkn(c:Q02)(cause:Int)(bad:Int):Tree Q02:=
.lv (Qa3 c.B5.a0 1 8) λ(x0:Int)=> .lv (Qa3 x0 2 16) λ(x1:Int)=> .lf ({X:=c.X,Pc:=c.B5.a1,B5:={a0:=Ql9 u32 (ior u32 x1 1) 2,a1:=c.B5.a1,a2:=c.Pc,a3:=wrap u32 cause,a4:=bad,a5:=c.B5.a5,a6:=c.B5.a6,a7:=c.B5.a7}})
def Qa2(c:Q02)(cause:Int)(bad:Int):Q02:=(Qkn c cause bad).m
def Zey:Q09:=mkR 178 [] true [.agg Q02.sig, .one (.int .i64), .one (.int .u32)] [] (λargs rows=>Qa2 (Q02.of (args.getD 0 .dead).cells) (argI args 1) (argI args 2)) (λX=> .agg (Q02.cells X)) (λX=>[])
theorem Qdw:Q01 Tryz.prog Zey:=Q0p drawn Q0g (.cons Qxx (.nil)) Tryz.func178 Tryz.call178 (λargs rows=>Qkn (Q02.of (args.getD 0 .dead).cells) (argI args 1) (argI args 2)) [] [] 2 (λ_ _ _=>by kernel_rfl) (λ_ _=>rfl) (λ_ _=>Tree.free_ok (by kernel_rfl)) (λ_ X=>by kernel_rfl)
def Qn8(access:Int):Tree (Int×Bool):=
.br (access==1) (.lf (4,true)) (.br (access==2) (.lf (5,true)) (.br (access==3) (.lf (6,true)) (.lf (5,false))))
def Qx9(access:Int):(Int×Bool):=(Qn8 access).m
def Z5a:Q09:=mkR 272 [] true [.one (.int .i64)] [] (λargs rows=>Qx9 (argI args 0)) (λX=> .tup [.int .i64 (X.1), .bool (X.2)]) (λX=>[])
theorem Qyl:Q01 Tryz.prog Z5a:=Q0p drawn Q0g (.nil) Tryz.func272 Tryz.call272 (λargs rows=>Qn8 (argI args 0)) [] [] 2 (λ_ _ _=>by kernel_rfl) (λ_ _=>rfl) (λ_ _=>Tree.free_ok (by kernel_rfl)) (λ_ X=>by kernel_rfl)
def Qsz(c:Q02):Tree Bool:=
.lf (iand u32 c.B5.a0 (1:Int) !=(0:Int))
def Qk6(c:Q02):Bool:=(Qsz c).m
def Z5x:Q09:=mkR 182 [] true [.agg Q02.sig] [] (λargs rows=>Qk6 (Q02.of (args.getD 0 .dead).cells)) (λX=> .bool X) (λX=>[])
theorem Qox:Q01 Tryz.prog Z5x:=Q0p drawn Q0g (.nil) Tryz.func182 Tryz.call182 (λargs rows=>Qsz (Q02.of (args.getD 0 .dead).cells)) [] [] 2 (λ_ _ _=>by kernel_rfl) (λ_ _=>rfl) (λ_ _=>Tree.free_ok (by kernel_rfl)) (λ_ X=>by kernel_rfl)
def Qho(access:Int):Tree (Int×Bool):=
.br (access==1) (.lf (4,true)) (.br (access==2) (.lf (5,true)) (.br (access==3) (.lf (6,true)) (.lf (5,false))))
def Qlr(access:Int):(Int×Bool):=(Qho access).m
def Qu0:Q09:=mkR 306 [] true [.one (.int .i64)] [] (λargs rows=>Qlr (argI args 0)) (λX=> .tup [.int .i64 (X.1), .bool (X.2)]) (λX=>[])
theorem Qpu:Q01 Tryz.prog Qu0:=Q0p drawn Q0g (.nil) Tryz.func306 Tryz.call306 (λargs rows=>Qho (argI args 0)) [] [] 2 (λ_ _ _=>by kernel_rfl) (λ_ _=>rfl) (λ_ _=>Tree.free_ok (by kernel_rfl)) (λ_ X=>by kernel_rfl)
def Qib(m:(List Int))(frame:Int):Tree Bool:=
.lv (Q0f m) λ(x0:Int)=> .lf (decide (wrap u64 frame<wrap u64 x0))
def Qh0(m:(List Int))(frame:Int):Bool:=(Qib m frame).m
def Qx4:Q09:=mkR 307 [] true [.one (.ints .u32), .one (.int .u32)] [] (λargs rows=>Qh0 (argL .u32 args 0) (argI args 1)) (λX=> .bool X) (λX=>[])
theorem Qtn:Q01 Tryz.prog Qx4:=Q0p drawn Q0g (.cons Q1a (.nil)) Tryz.func307 Tryz.call307 (λargs rows=>Qib (argL .u32 args 0) (argI args 1)) [] [] 2 (λ_ _ _=>by kernel_rfl) (λ_ _=>rfl) (λ_ _=>Tree.free_ok (by kernel_rfl)) (λ_ X=>by kernel_rfl)
def Q8e(m:(List Int))(addr:Int)(size:Int):Tree (Int×Bool):=
.an (Q9z m addr size) (.lv (Qh3 m addr size) λ(x0:Bool)=> .br (!x0) (.lf (0,false)) (.cn (Nat.beq 1 1&&Nat.blt 0 1&&decide (0≤wrap u32 (Int.tdiv addr 4)∧wrap u32 (Int.tdiv addr 4)<(m.length:Int))) (let E1:=Int.toNat (wrap u32 (Int.tdiv addr 4)); .br (size==1) (let E2:=wrap i64 (wrap i64 (Int.tmod addr 4)*8); .an (Q3s (m.getD E1 0) E2 8) (.lv (Qa0 (m.getD E1 0) E2 8) λ(x1:Int)=> .lf (x1,true))) (.lf (m.getD E1 0,true)))))
def Q5o(m:(List Int))(addr:Int)(size:Int):(Int×Bool):=(Q8e m addr size).m
abbrev Q2a(m:(List Int))(addr:Int)(size:Int):Prop:=(Q8e m addr size).p
def Z3k:Q09:=mkP 232 [] true [.one (.ints .u32), .one (.int .u32), .one (.int .i64)] [] (λargs rows=>Q2a (argL .u32 args 0) (argI args 1) (argI args 2)) (λargs rows=>Q5o (argL .u32 args 0) (argI args 1) (argI args 2)) (λX=> .tup [.int .u32 (X.1), .bool (X.2)]) (λX=>[])
theorem Q70:Q01 Tryz.prog Z3k:=Q0j drawn Q0g (.cons Qhy (.cons Qgm (.nil))) Tryz.func232 Tryz.call232 (λargs rows=>Q8e (argL .u32 args 0) (argI args 1) (argI args 2)) [] [] 2 (λ_ _ _=>by kernel_rfl) (λ_ _=>rfl) (λ_ _ h=>h) (λ_ X=>by kernel_rfl)
def Qhr(pte:Int)(access:Int):Tree Bool:=
.br (iand u32 pte (1:Int)==(0:Int)) (.lf false) (.br (access==3) (.lf (iand u32 pte (2:Int) !=(0:Int))) (.br (access==1) (.lf (iand u32 pte (4:Int) !=(0:Int))) (.lf true)))
def Qlb(pte:Int)(access:Int):Bool:=(Qhr pte access).m
def Qtz:Q09:=mkR 308 [] true [.one (.int .u32), .one (.int .i64)] [] (λargs rows=>Qlb (argI args 0) (argI args 1)) (λX=> .bool X) (λX=>[])
theorem Qqr:Q01 Tryz.prog Qtz:=Q0p drawn Q0g (.nil) Tryz.func308 Tryz.call308 (λargs rows=>Qhr (argI args 0) (argI args 1)) [] [] 2 (λ_ _ _=>by kernel_rfl) (λ_ _=>rfl) (λ_ _=>Tree.free_ok (by kernel_rfl)) (λ_ X=>by kernel_rfl)
def Q4q(pte:Int):Tree Int:=
.an (Q3s pte 8 8) (.lv (Qa0 pte 8 8) λ(x0:Int)=> .lf x0)
def Qf0(pte:Int):Int:=(Q4q pte).m
abbrev Q8f(pte:Int):Prop:=(Q4q pte).p
def Qtw:Q09:=mkP 309 [] true [.one (.int .u32)] [] (λargs rows=>Q8f (argI args 0)) (λargs rows=>Qf0 (argI args 0)) (λX=> .int .u32 X) (λX=>[])
theorem Qrd:Q01 Tryz.prog Qtw:=Q0j drawn Q0g (.cons Qgm (.nil)) Tryz.func309 Tryz.call309 (λargs rows=>Q4q (argI args 0)) [] [] 2 (λ_ _ _=>by kernel_rfl) (λ_ _=>rfl) (λ_ _ h=>h) (λ_ X=>by kernel_rfl)
def Q8x(m:(List Int))(root:Int)(va:Int)(access:Int):Tree Q0s:=
.lv (Qlr access) λ(x0:Int×Bool)=>let E1:=({Addr:=0,F0:=0,Cause:=x0.1}:Q0s); .br (!x0.2) (.lf (E1)) (.br (decide (va≥4096)) (.lf (E1)) (.lv (Qh0 m root) λ(x1:Bool)=> .br (!x1) (.lf (E1)) (let E2:=wrap u32 (root*128)+wrap u32 (4*wrap u32 (Int.tdiv va 128)); .an (Q2a m (wrap u32 E2) 4) (.lv (Q5o m (wrap u32 E2) 4) λ(x2:Int×Bool)=> .br (!x2.2) (.lf (E1)) (.lv (Qlb x2.1 access) λ(x3:Bool)=> .br (!x3) (.lf (E1)) (.an (Q8f x2.1) (.lv (Qf0 x2.1) λ(x4:Int)=> .lv (Qh0 m x4) λ(x5:Bool)=> .br (!x5) (.lf (E1)) (.an (Q8f x2.1) (.lv (Qf0 x2.1) λ(x6:Int)=> .lf ({Addr:=wrap u32 (wrap u32 (x6*128)+Int.tmod va 128),F0:=wrap u32 E2,Cause:=0}))))))))))
def Qn(m:(List Int))(root:Int)(va:Int)(access:Int):Q0s:=(Q8x m root va access).m
abbrev Qch(m:(List Int))(root:Int)(va:Int)(access:Int):Prop:=(Q8x m root va access).p
def Z43:Q09:=mkP 273 [] true [.one (.ints .u32), .one (.int .u32), .one (.int .u32), .one (.int .i64)] [] (λargs rows=>Qch (argL .u32 args 0) (argI args 1) (argI args 2) (argI args 3)) (λargs rows=>Qn (argL .u32 args 0) (argI args 1) (argI args 2) (argI args 3)) (λX=> .agg (Q0s.cells X)) (λX=>[])
theorem Z09:Q01 Tryz.prog Z43:=Q0j drawn Q0g (.cons Qpu (.cons Qtn (.cons Q70 (.cons Qqr (.cons Qrd (.nil)))))) Tryz.func273 Tryz.call273 (λargs rows=>Q8x (argL .u32 args 0) (argI args 1) (argI args 2) (argI args 3)) [] [] 2 (λ_ _ _=>by kernel_rfl) (λ_ _=>rfl) (λ_ _ h=>h) (λ_ X=>by kernel_rfl)
def Q6w(m:(List Int))(entry:Int)(access:Int):Tree (List Int):=
.an (Q2a m entry 4) (.lv (Q5o m entry 4) λ(x0:Int×Bool)=> .br (!x0.2) (.an (Q08 m) (.lv (Q05 m) λ(x1:List Int)=> .lf x1)) (.br (access==3) (.an (Q76 m entry 4 (ior u32 (ior u32 x0.1 8) 16)) (.lv (Qei m entry 4 (ior u32 (ior u32 x0.1 8) 16)) λ(x2:List Int×Bool)=> .lf x2.1)) (.an (Q76 m entry 4 (ior u32 x0.1 8)) (.lv (Qei m entry 4 (ior u32 x0.1 8)) λ(x3:List Int×Bool)=> .lf x3.1))))
def Qj0(m:(List Int))(entry:Int)(access:Int):(List Int):=(Q6w m entry access).m
abbrev Qbl(m:(List Int))(entry:Int)(access:Int):Prop:=(Q6w m entry access).p
def Qzh:Q09:=mkP 274 [] true [.one (.ints .u32), .one (.int .u32), .one (.int .i64)] [] (λargs rows=>Qbl (argL .u32 args 0) (argI args 1) (argI args 2)) (λargs rows=>Qj0 (argL .u32 args 0) (argI args 1) (argI args 2)) (λX=> .all 0) (λX=>[⟨false,25,1, .ints .u32 X⟩])
theorem Qvq:Q01 Tryz.prog Qzh:=Q0j drawn Q0g (.cons Q70 (.cons Q0u (.cons Qja (.nil)))) Tryz.func274 Tryz.call274 (λargs rows=>Q6w (argL .u32 args 0) (argI args 1) (argI args 2)) [.row 25 1 (.ints .u32)] [] 2 (λ_ _ _=>by kernel_rfl) (λ_ _=>rfl) (λ_ _ h=>h) (λ_ X=>by kernel_rfl)
def Q92(c:Q02)(m:(List Int))(va:Int)(size:Int)(access:Int):Tree (Int×(List Int)×Int):=
.lv (Qx9 access) λ(x0:Int×Bool)=>let T3:Tree ((Int×(List Int)×Int)):= .an (Q08 m) (.lv (Q05 m) λ(x1:List Int)=> .lf (0,x1,5)); .br (!x0.2) T3 (let T1:Tree ((Int×(List Int)×Int)):= .cn (decide (wrap u32 size≠0)) (.br (Int.tmod va (wrap u32 size) !=0) (.an (Q08 m) (.lv (Q05 m) λ(x3:List Int)=> .lf (0,x3,3))) (.lv (Qk6 c) λ(x4:Bool)=>let T2:Tree ((Int×(List Int)×Int)):= .an (Q2a m va size) (.lv (Q5o m va size) λ(x8:Int×Bool)=> .br (!x8.2) (.an (Q08 m) (.lv (Q05 m) λ(x9:List Int)=> .lf (0,x9,x0.1))) (.an (Q08 m) (.lv (Q05 m) λ(x10:List Int)=> .lf (va,x10,0)))); .br (!x4) (.br (iand u32 c.B5.a0 (4:Int) !=(0:Int)) (.an (Qch m c.B5.a6 va access) (.lv (Qn m c.B5.a6 va access) λ(x5:Q0s)=> .br (x5.Cause !=0) (.an (Q08 m) (.lv (Q05 m) λ(x6:List Int)=> .lf (0,x6,x5.Cause))) (.an (Qbl m x5.F0 access) (.lv (Qj0 m x5.F0 access) λ(x7:List Int)=> .lf (x5.Addr,x7,0))))) T2) T2)); .br (size !=1) (.br (size !=4) T3 T1) T1)
def Qgc(c:Q02)(m:(List Int))(va:Int)(size:Int)(access:Int):(Int×(List Int)×Int):=(Q92 c m va size access).m
abbrev Q8g(c:Q02)(m:(List Int))(va:Int)(size:Int)(access:Int):Prop:=(Q92 c m va size access).p
def Z5b:Q09:=mkP 231 [] true [.agg Q02.sig, .one (.ints .u32), .one (.int .u32), .one (.int .i64), .one (.int .i64)] [] (λargs rows=>Q8g (Q02.of (args.getD 0 .dead).cells) (argL .u32 args 1) (argI args 2) (argI args 3) (argI args 4)) (λargs rows=>Qgc (Q02.of (args.getD 0 .dead).cells) (argL .u32 args 1) (argI args 2) (argI args 3) (argI args 4)) (λX=> .tup [.int .u32 (X.1), .all 0, .int .i64 (X.2.2)]) (λX=>[⟨false,25,1, .ints .u32 (X.2.1)⟩])
theorem Qfb:Q01 Tryz.prog Z5b:=Q0j drawn Q0g (.cons Qyl (.cons Q0u (.cons Qox (.cons Z09 (.cons Qvq (.cons Q70 (.nil))))))) Tryz.func231 Tryz.call231 (λargs rows=>Q92 (Q02.of (args.getD 0 .dead).cells) (argL .u32 args 1) (argI args 2) (argI args 3) (argI args 4)) [.row 25 1 (.ints .u32)] [] 2 (λ_ _ _=>by kernel_rfl) (λ_ _=>rfl) (λ_ _ h=>h) (λ_ X=>by kernel_rfl)
def Qdt(c:Q02)(m:(List Int)):Tree (Int×(List Int)×Int):=
.an (Q8g c m c.Pc 4 1) (.lv (Qgc c m c.Pc 4 1) λ(x0:Int×List Int×Int)=> .br (x0.2.2 !=0) (.lf (0,x0.2.1,x0.2.2)) (.an (Q2a x0.2.1 x0.1 4) (.lv (Q5o x0.2.1 x0.1 4) λ(x1:Int×Bool)=> .lf (x1.1,x0.2.1,0))))
def Z7y(c:Q02)(m:(List Int)):(Int×(List Int)×Int):=(Qdt c m).m
abbrev Qp6(c:Q02)(m:(List Int)):Prop:=(Qdt c m).p
def Za1:Q09:=mkP 179 [] true [.agg Q02.sig, .one (.ints .u32)] [] (λargs rows=>Qp6 (Q02.of (args.getD 0 .dead).cells) (argL .u32 args 1)) (λargs rows=>Z7y (Q02.of (args.getD 0 .dead).cells) (argL .u32 args 1)) (λX=> .tup [.int .u32 (X.1), .all 0, .int .i64 (X.2.2)]) (λX=>[⟨false,25,1, .ints .u32 (X.2.1)⟩])
theorem Z8s:Q01 Tryz.prog Za1:=Q0j drawn Q0g (.cons Qfb (.cons Q70 (.nil))) Tryz.func179 Tryz.call179 (λargs rows=>Qdt (Q02.of (args.getD 0 .dead).cells) (argL .u32 args 1)) [.row 25 1 (.ints .u32)] [] 2 (λ_ _ _=>by kernel_rfl) (λ_ _=>rfl) (λ_ _ h=>h) (λ_ X=>by kernel_rfl)
def Qht(op:Int):Tree Bool:=
.br (op==57) (.lf true) (.br (op==58) (.lf true) (.br (op==59) (.lf true) (.br (op==60) (.lf true) (.br (op==61) (.lf true) (.br (op==62) (.lf true) (.br (op==63) (.lf true) (.br (op==64) (.lf true) (.lf false))))))))
def Qly(op:Int):Bool:=(Qht op).m
def Qt4:Q09:=mkR 181 [] true [.one (.int .i64)] [] (λargs rows=>Qly (argI args 0)) (λX=> .bool X) (λX=>[])
theorem Qqi:Q01 Tryz.prog Qt4:=Q0p drawn Q0g (.nil) Tryz.func181 Tryz.call181 (λargs rows=>Qht (argI args 0)) [] [] 2 (λ_ _ _=>by kernel_rfl) (λ_ _=>rfl) (λ_ _=>Tree.free_ok (by kernel_rfl)) (λ_ X=>by kernel_rfl)
def Qmf(op:Int):Tree Int:=
.br (op==32) (.lf 4) (.br (op==35) (.lf 4) (.lf 1))
def Qb4(op:Int):Int:=(Qmf op).m
def Za2:Q09:=mkR 237 [] true [.one (.int .i64)] [] (λargs rows=>Qb4 (argI args 0)) (λX=> .int .i64 X) (λX=>[])
theorem Qsd:Q01 Tryz.prog Za2:=Q0p drawn Q0g (.nil) Tryz.func237 Tryz.call237 (λargs rows=>Qmf (argI args 0)) [] [] 2 (λ_ _ _=>by kernel_rfl) (λ_ _=>rfl) (λ_ _=>Tree.free_ok (by kernel_rfl)) (λ_ X=>by kernel_rfl)
def Qd6(c:Q02)(register:Int)(v:Int):Tree Q02:=
.br (register !=0) (.cn (Nat.blt 0 1&&decide (0≤register∧register<(↑16:Int))) (.lf ({X:=A16.of 0 (List.set (A16.l c.X) register.toNat v),Pc:=c.Pc,B5:=c.B5}))) (.lf c)
def Qgq(c:Q02)(register:Int)(v:Int):Q02:=(Qd6 c register v).m
abbrev Q4k(c:Q02)(register:Int)(v:Int):Prop:=(Qd6 c register v).p
def cpu_set_m:Q09:=mkP 238 [] true [.agg Q02.sig, .one (.int .i64), .one (.int .u32)] [] (λargs rows=>Q4k (Q02.of (args.getD 0 .dead).cells) (argI args 1) (argI args 2)) (λargs rows=>Qgq (Q02.of (args.getD 0 .dead).cells) (argI args 1) (argI args 2)) (λX=> .agg (Q02.cells X)) (λX=>[])
theorem Z0f:Q01 Tryz.prog cpu_set_m:=Q0j drawn Q0g (.nil) Tryz.func238 Tryz.call238 (λargs rows=>Qd6 (Q02.of (args.getD 0 .dead).cells) (argI args 1) (argI args 2)) [] [] 2 (λ_ _ _=>by kernel_rfl) (λ_ _=>rfl) (λ_ _ h=>h) (λ_ X=>by kernel_rfl)
def Q9l(c:Q02)(m:(List Int))(i:Q0h):Tree (Q02×(List Int)):=
.cn (Nat.blt 0 1&&decide (0≤i.B∧i.B<(↑16:Int))) (.lv (Qb4 i.Op) λ(x0:Int)=>let E1:=wrap u32 (List.getD (A16.l c.X) i.B.toNat 0+wrap u32 i.D3); .an (Q8g c m E1 x0 2) (.lv (Qgc c m E1 x0 2) λ(x1:Int×List Int×Int)=> .br (x1.2.2 !=0) (.lv (Qa2 c x1.2.2 E1) λ(x2:Q02)=> .lf (x2,x1.2.1)) (.lv (Qb4 i.Op) λ(x3:Int)=> .an (Q2a x1.2.1 x1.1 x3) (.lv (Q5o x1.2.1 x1.1 x3) λ(x4:Int×Bool)=> .br (i.Op==33) (.an (Q7f x4.1 8) (.lv (Qct x4.1 8) λ(x5:Int)=> .an (Q4k c i.A x5) (.lv (Qgq c i.A x5) λ(x6:Q02)=> .lf ({X:=x6.X,Pc:=wrap u32 (x6.Pc+4),B5:=x6.B5},x1.2.1)))) (.an (Q4k c i.A x4.1) (.lv (Qgq c i.A x4.1) λ(x7:Q02)=> .lf ({X:=x7.X,Pc:=wrap u32 (x7.Pc+4),B5:=x7.B5},x1.2.1)))))))
def Zdd(c:Q02)(m:(List Int))(i:Q0h):(Q02×(List Int)):=(Q9l c m i).m
abbrev Qrr(c:Q02)(m:(List Int))(i:Q0h):Prop:=(Q9l c m i).p
def Zfe:Q09:=mkP 183 [] true [.agg Q02.sig, .one (.ints .u32), .agg Q0h.sig] [] (λargs rows=>Qrr (Q02.of (args.getD 0 .dead).cells) (argL .u32 args 1) (Q0h.of (args.getD 2 .dead).cells)) (λargs rows=>Zdd (Q02.of (args.getD 0 .dead).cells) (argL .u32 args 1) (Q0h.of (args.getD 2 .dead).cells)) (λX=> .tup [.agg (Q02.cells (X.1)), .all 0]) (λX=>[⟨false,25,1, .ints .u32 (X.2)⟩])
theorem Za0:Q01 Tryz.prog Zfe:=Q0j drawn Q0g (.cons Qfb (.cons Qsd (.cons Qdw (.cons Q70 (.cons Qef (.cons Z0f (.nil))))))) Tryz.func183 Tryz.call183 (λargs rows=>Q9l (Q02.of (args.getD 0 .dead).cells) (argL .u32 args 1) (Q0h.of (args.getD 2 .dead).cells)) [.row 25 1 (.ints .u32)] [] 2 (λ_ _ _=>by kernel_rfl) (λ_ _=>rfl) (λ_ _ h=>h) (λ_ X=>by kernel_rfl)
def Q7g(c:Q02)(m:(List Int))(i:Q0h):Tree (Q02×(List Int)):=
.cn (Nat.blt 0 1&&decide (0≤i.B∧i.B<(↑16:Int))) (.lv (Qb4 i.Op) λ(x0:Int)=>let E1:=wrap u32 (List.getD (A16.l c.X) i.B.toNat 0+wrap u32 i.D3); .an (Q8g c m E1 x0 3) (.lv (Qgc c m E1 x0 3) λ(x1:Int×List Int×Int)=> .br (x1.2.2 !=0) (.lv (Qa2 c x1.2.2 E1) λ(x2:Q02)=> .lf (x2,x1.2.1)) (.lv (Qb4 i.Op) λ(x3:Int)=> .cn (Nat.blt 0 1&&decide (0≤i.A∧i.A<(↑16:Int))) (let E2:=List.getD (A16.l c.X) i.A.toNat 0; .an (Q76 x1.2.1 x1.1 x3 E2) (.lv (Qei x1.2.1 x1.1 x3 E2) λ(x4:List Int×Bool)=> .lf ({X:=c.X,Pc:=wrap u32 (c.Pc+4),B5:=c.B5},x4.1))))))
def Z67(c:Q02)(m:(List Int))(i:Q0h):(Q02×(List Int)):=(Q7g c m i).m
abbrev Qpb(c:Q02)(m:(List Int))(i:Q0h):Prop:=(Q7g c m i).p
def Zaj:Q09:=mkP 184 [] true [.agg Q02.sig, .one (.ints .u32), .agg Q0h.sig] [] (λargs rows=>Qpb (Q02.of (args.getD 0 .dead).cells) (argL .u32 args 1) (Q0h.of (args.getD 2 .dead).cells)) (λargs rows=>Z67 (Q02.of (args.getD 0 .dead).cells) (argL .u32 args 1) (Q0h.of (args.getD 2 .dead).cells)) (λX=> .tup [.agg (Q02.cells (X.1)), .all 0]) (λX=>[⟨false,25,1, .ints .u32 (X.2)⟩])
theorem Z9b:Q01 Tryz.prog Zaj:=Q0j drawn Q0g (.cons Qfb (.cons Qsd (.cons Qdw (.cons Qja (.nil))))) Tryz.func184 Tryz.call184 (λargs rows=>Q7g (Q02.of (args.getD 0 .dead).cells) (argL .u32 args 1) (Q0h.of (args.getD 2 .dead).cells)) [.row 25 1 (.ints .u32)] [] 2 (λ_ _ _=>by kernel_rfl) (λ_ _=>rfl) (λ_ _ h=>h) (λ_ X=>by kernel_rfl)
def Qwh(op:Int)(a:Int)(b:Int):Tree Bool:=
.br (op==40) (.lf (a==b)) (.br (op==41) (.lf (a !=b)) (.br (op==42) (.lf (decide (wrap i32 a<wrap i32 b))) (.br (op==43) (.lf (decide (wrap i32 a≥wrap i32 b))) (.br (op==44) (.lf (decide (a<b))) (.lf (decide (a≥b)))))))
def Z6m(op:Int)(a:Int)(b:Int):Bool:=(Qwh op a b).m
def Za4:Q09:=mkR 240 [] true [.one (.int .i64), .one (.int .u32), .one (.int .u32)] [] (λargs rows=>Z6m (argI args 0) (argI args 1) (argI args 2)) (λX=> .bool X) (λX=>[])
theorem Z9o:Q01 Tryz.prog Za4:=Q0p drawn Q0g (.nil) Tryz.func240 Tryz.call240 (λargs rows=>Qwh (argI args 0) (argI args 1) (argI args 2)) [] [] 2 (λ_ _ _=>by kernel_rfl) (λ_ _=>rfl) (λ_ _=>Tree.free_ok (by kernel_rfl)) (λ_ X=>by kernel_rfl)
def Qeq(c:Q02):Tree Q02:=
.lv (Qa3 c.B5.a0 8 1) λ(x0:Int)=> .lv (Qa3 x0 16 2) λ(x1:Int)=> .lf ({X:=c.X,Pc:=c.B5.a2,B5:={a0:=x1,a1:=c.B5.a1,a2:=c.B5.a2,a3:=c.B5.a3,a4:=c.B5.a4,a5:=c.B5.a5,a6:=c.B5.a6,a7:=c.B5.a7}})
def Qk8(c:Q02):Q02:=(Qeq c).m
def Z8q:Q09:=mkR 241 [] true [.agg Q02.sig] [] (λargs rows=>Qk8 (Q02.of (args.getD 0 .dead).cells)) (λX=> .agg (Q02.cells X)) (λX=>[])
theorem Z34:Q01 Tryz.prog Z8q:=Q0p drawn Q0g (.cons Qxx (.nil)) Tryz.func241 Tryz.call241 (λargs rows=>Qeq (Q02.of (args.getD 0 .dead).cells)) [] [] 2 (λ_ _ _=>by kernel_rfl) (λ_ _=>rfl) (λ_ _=>Tree.free_ok (by kernel_rfl)) (λ_ X=>by kernel_rfl)
def Q7c(c:Q02)(csr:Int)(v:Int):Tree Q02:=
let E4:=Nat.blt 0 1&&decide (0≤csr∧csr<(↑8:Int));let T2:Tree (Q02):= .cn E4 (.lf ({X:=c.X,Pc:=c.Pc,B5:=A8.of 0 (List.set (A8.l c.B5) csr.toNat (iand u32 v 31))})); .br (csr==0) T2 (.br (csr==7) T2 (.br (csr==6) (.cn E4 (.lf ({X:=c.X,Pc:=c.Pc,B5:=A8.of 0 (List.set (A8.l c.B5) csr.toNat (iand u32 v 255))}))) (let T3:Tree (Q02):= .cn E4 (.lf ({X:=c.X,Pc:=c.Pc,B5:=A8.of 0 (List.set (A8.l c.B5) csr.toNat (Ql9 u32 v 3))})); .br (csr==1) T3 (.br (csr==2) T3 (let T1:Tree (Q02):= .cn E4 (.lf ({X:=c.X,Pc:=c.Pc,B5:=A8.of 0 (List.set (A8.l c.B5) csr.toNat v)})); .br (csr==3) T1 (.br (csr==4) T1 (.br (csr==5) T1 (.lf c))))))))
def Z6i(c:Q02)(csr:Int)(v:Int):Q02:=(Q7c c csr v).m
abbrev Qnf(c:Q02)(csr:Int)(v:Int):Prop:=(Q7c c csr v).p
def Z9v:Q09:=mkP 242 [] true [.agg Q02.sig, .one (.int .i64), .one (.int .u32)] [] (λargs rows=>Qnf (Q02.of (args.getD 0 .dead).cells) (argI args 1) (argI args 2)) (λargs rows=>Z6i (Q02.of (args.getD 0 .dead).cells) (argI args 1) (argI args 2)) (λX=> .agg (Q02.cells X)) (λX=>[])
theorem Z65:Q01 Tryz.prog Z9v:=Q0j drawn Q0g (.nil) Tryz.func242 Tryz.call242 (λargs rows=>Q7c (Q02.of (args.getD 0 .dead).cells) (argI args 1) (argI args 2)) [] [] 2 (λ_ _ _=>by kernel_rfl) (λ_ _=>rfl) (λ_ _ h=>h) (λ_ X=>by kernel_rfl)
def Q2s(c:Q02)(i:Q0h):Tree (Q02×Q16):=
.cn (Nat.blt 0 1&&decide (0≤i.A∧i.A<(↑16:Int))) (.cn (Nat.blt 0 1&&decide (0≤i.B∧i.B<(↑16:Int))) (.br (i.Op==24) (.an (Q4k c i.A (ishl u32 (wrap u32 i.D3) 16)) (.lv (Qgq c i.A (ishl u32 (wrap u32 i.D3) 16)) λ(x0:Q02)=> .lf ({X:=x0.X,Pc:=wrap u32 (c.Pc+4),B5:=x0.B5},{C6:=0,D2:=0,D8:=0,Value:=0}))) (let E2:=({X:=c.X,Pc:=wrap u32 (c.Pc+4),B5:=c.B5}:Q02);let E3:=List.getD (A16.l c.X) i.B.toNat 0;let E4:=List.getD (A16.l c.X) i.A.toNat 0;let T1:Tree ((Q02×Q16)):= .lv (Z6m i.Op E4 E3) λ(x1:Bool)=> .br x1 (.lf ({X:=c.X,Pc:=wrap u32 (c.Pc+wrap u32 (4*wrap u32 i.D3)),B5:=c.B5},{C6:=0,D2:=0,D8:=0,Value:=0})) (.lf (E2,{C6:=0,D2:=0,D8:=0,Value:=0})); .br (i.Op==40) T1 (.br (i.Op==41) T1 (.br (i.Op==42) T1 (.br (i.Op==43) T1 (.br (i.Op==44) T1 (.br (i.Op==45) T1 (.br (i.Op==48) (.an (Q4k c i.A (wrap u32 (c.Pc+4))) (.lv (Qgq c i.A (wrap u32 (c.Pc+4))) λ(x7:Q02)=> .lf ({X:=x7.X,Pc:=wrap u32 (x7.Pc+wrap u32 (4*wrap u32 i.D3)),B5:=x7.B5},{C6:=0,D2:=0,D8:=0,Value:=0}))) (.br (i.Op==49) (.an (Q4k c i.A (wrap u32 (c.Pc+4))) (.lv (Qgq c i.A (wrap u32 (c.Pc+4))) λ(x8:Q02)=> .lf ({X:=x8.X,Pc:=wrap u32 (List.getD (A16.l c.X) i.B.toNat 0+wrap u32 i.D3),B5:=x8.B5},{C6:=0,D2:=0,D8:=0,Value:=0}))) (.br (i.Op==56) (.lv (Qa2 c 7 0) λ(x9:Q02)=> .lf (x9,{C6:=0,D2:=0,D8:=0,Value:=0})) (.br (i.Op==57) (.lv (Qk8 c) λ(x10:Q02)=> .lf (x10,{C6:=0,D2:=0,D8:=0,Value:=0})) (.br (i.Op==58) (.cn (Nat.blt 0 1&&decide (0≤i.D3∧i.D3<(↑8:Int))) (let E5:=List.getD (A8.l c.B5) i.D3.toNat 0; .an (Q4k c i.A E5) (.lv (Qgq c i.A E5) λ(x11:Q02)=> .lf ({X:=x11.X,Pc:=wrap u32 (c.Pc+4),B5:=x11.B5},{C6:=0,D2:=0,D8:=0,Value:=0})))) (.br (i.Op==59) (.an (Qnf c (wrap i64 i.D3) E4) (.lv (Z6i c (wrap i64 i.D3) E4) λ(x12:Q02)=> .lf ({X:=x12.X,Pc:=wrap u32 (c.Pc+4),B5:=x12.B5},{C6:=0,D2:=0,D8:=0,Value:=0}))) (.br (i.Op==60) (.lf (E2,{C6:=1,D2:=wrap i64 i.D3,D8:=i.A,Value:=0})) (.br (i.Op==61) (.lf (E2,{C6:=2,D2:=wrap i64 i.D3,D8:=0,Value:=List.getD (A16.l c.X) i.A.toNat 0})) (.br (i.Op==62) (.lf (E2,{C6:=3,D2:=0,D8:=0,Value:=0})) (.br (i.Op==63) (.lf (E2,{C6:=5,D2:=0,D8:=0,Value:=0})) (.br (i.Op==64) (.lf (E2,{C6:=4,D2:=0,D8:=0,Value:=0})) (.cn (Nat.blt 0 1&&decide (0≤i.C∧i.C<(↑16:Int))) (.br (decide (i.Op≥16)) (.an (Qn1 i.Op E3 (wrap u32 i.D3)) (.lv (Zbv i.Op E3 (wrap u32 i.D3)) λ(x13:Int×Bool)=> .an (Q4k c i.A x13.1) (.lv (Qgq c i.A x13.1) λ(x14:Q02)=> .lf ({X:=x14.X,Pc:=wrap u32 (c.Pc+4),B5:=x14.B5},{C6:=0,D2:=0,D8:=0,Value:=0})))) (let E6:=List.getD (A16.l c.X) i.C.toNat 0; .an (Qn1 i.Op E3 E6) (.lv (Zbv i.Op E3 E6) λ(x15:Int×Bool)=> .an (Q4k c i.A x15.1) (.lv (Qgq c i.A x15.1) λ(x16:Q02)=> .lf ({X:=x16.X,Pc:=wrap u32 (c.Pc+4),B5:=x16.B5},{C6:=0,D2:=0,D8:=0,Value:=0})))))))))))))))))))))))))
def Qv(c:Q02)(i:Q0h):(Q02×Q16):=(Q2s c i).m
abbrev Qiy(c:Q02)(i:Q0h):Prop:=(Q2s c i).p
def Z5k:Q09:=mkP 185 [] true [.agg Q02.sig, .agg Q0h.sig] [] (λargs rows=>Qiy (Q02.of (args.getD 0 .dead).cells) (Q0h.of (args.getD 1 .dead).cells)) (λargs rows=>Qv (Q02.of (args.getD 0 .dead).cells) (Q0h.of (args.getD 1 .dead).cells)) (λX=> .tup [.agg (Q02.cells (X.1)), .agg (Q16.cells (X.2))]) (λX=>[])
theorem Z01:Q01 Tryz.prog Z5k:=Q0j drawn Q0g (.cons Z0f (.cons Z9o (.cons Qdw (.cons Z34 (.cons Z65 (.cons Zf0 (.nil))))))) Tryz.func185 Tryz.call185 (λargs rows=>Q2s (Q02.of (args.getD 0 .dead).cells) (Q0h.of (args.getD 1 .dead).cells)) [] [] 2 (λ_ _ _=>by kernel_rfl) (λ_ _=>rfl) (λ_ _ h=>h) (λ_ X=>by kernel_rfl)
def Q65(c:Q02)(m:(List Int)):Tree (Q02×(List Int)×Q16):=
.an (Qp6 c m) (.lv (Z7y c m) λ(x0:Int×List Int×Int)=> .br (x0.2.2 !=0) (.lv (Qa2 c x0.2.2 c.Pc) λ(x1:Q02)=> .lf (x1,x0.2.1,{C6:=0,D2:=0,D8:=0,Value:=0})) (.an (Qlp x0.1) (.lv (Z2a x0.1) λ(x2:Q0h×Bool)=> .br (!x2.2) (.lv (Qa2 c 1 x0.1) λ(x3:Q02)=> .lf (x3,x0.2.1,{C6:=0,D2:=0,D8:=0,Value:=0})) (.lv (Qly x2.1.Op) λ(x4:Bool)=>let T1:Tree ((Q02×(List Int)×Q16)):=let T2:Tree ((Q02×(List Int)×Q16)):= .an (Qrr c x0.2.1 x2.1) (.lv (Zdd c x0.2.1 x2.1) λ(x7:Q02×List Int)=> .lf (x7.1,x7.2,{C6:=0,D2:=0,D8:=0,Value:=0})); .br (x2.1.Op==32) T2 (.br (x2.1.Op==33) T2 (.br (x2.1.Op==34) T2 (let T3:Tree ((Q02×(List Int)×Q16)):= .an (Qpb c x0.2.1 x2.1) (.lv (Z67 c x0.2.1 x2.1) λ(x10:Q02×List Int)=> .lf (x10.1,x10.2,{C6:=0,D2:=0,D8:=0,Value:=0})); .br (x2.1.Op==35) T3 (.br (x2.1.Op==36) T3 (.an (Qiy c x2.1) (.lv (Qv c x2.1) λ(x12:Q02×Q16)=> .lf (x12.1,x0.2.1,x12.2))))))); .br x4 (.lv (Qk6 c) λ(x5:Bool)=> .br (!x5) (.lv (Qa2 c 2 x0.1) λ(x6:Q02)=> .lf (x6,x0.2.1,{C6:=0,D2:=0,D8:=0,Value:=0})) T1) T1))))
def Zdz(c:Q02)(m:(List Int)):(Q02×(List Int)×Q16):=(Q65 c m).m
abbrev Qrv(c:Q02)(m:(List Int)):Prop:=(Q65 c m).p
def Zf5:Q09:=mkP 114 [] true [.agg Q02.sig, .one (.ints .u32)] [] (λargs rows=>Qrv (Q02.of (args.getD 0 .dead).cells) (argL .u32 args 1)) (λargs rows=>Zdz (Q02.of (args.getD 0 .dead).cells) (argL .u32 args 1)) (λX=> .tup [.agg (Q02.cells (X.1)), .all 0, .agg (Q16.cells (X.2.2))]) (λX=>[⟨false,25,1, .ints .u32 (X.2.1)⟩])
theorem Zar:Q01 Tryz.prog Zf5:=Q0j drawn Q0g (.cons Z8s (.cons Qdw (.cons Z2s (.cons Qqi (.cons Qox (.cons Za0 (.cons Z9b (.cons Z01 (.nil))))))))) Tryz.func114 Tryz.call114 (λargs rows=>Q65 (Q02.of (args.getD 0 .dead).cells) (argL .u32 args 1)) [.row 25 1 (.ints .u32)] [] 2 (λ_ _ _=>by kernel_rfl) (λ_ _=>rfl) (λ_ _ h=>h) (λ_ X=>by kernel_rfl)
end
end Go.Proofs.YtmalmklaonainaaGreat

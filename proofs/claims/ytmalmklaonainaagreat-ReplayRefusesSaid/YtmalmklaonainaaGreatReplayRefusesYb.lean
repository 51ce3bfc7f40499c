import Derived.Test.YtmalmklaonainaaGreatReplayRefusesYa
set_option maxRecDepth 100000
set_option linter.all false
namespace Go.Proofs.YtmalmklaonainaaGreat
open Go Go.GD Go.IntKind
noncomputable section
def Qqj(status:Int)(from0:Int)(to:Int):Tree Int:=
.br (iand u32 status from0 !=0) (.lf (ior u32 status to)) (.lf (Qhp u32 status to))
def Q9i(status:Int)(from0:Int)(to:Int):Int:=(Qqj status from0 to).m
def Zn5:Q0d:=mkR 230 [] true [.one (.int .u32), .one (.int .u32), .one (.int .u32)] [] (λargs rows=>Q9i (argI args 0) (argI args 1) (argI args 2)) (λX=> .int .u32 X) (λX=>[])
theorem Z44:Q05 Tryz.prog Zn5:=Q0z drawn Q0j (.nil) Tryz.func230 Tryz.call230 (λargs rows=>Qqj (argI args 0) (argI args 1) (argI args 2)) [] [] 2
def Qlx(c:Q02)(cause:Int)(bad:Int):Tree Q02:=
.lv (Q9i c.B5.a0 1 8) λ(x0:Int)=> .lv (Q9i x0 2 16) λ(x1:Int)=> .lf ({X:=c.X,Pc:=c.B5.a1,B5:={a0:=Qhp u32 (ior u32 x1 1) 2,a1:=c.B5.a1,a2:=c.Pc,a3:=wrap u32 cause,a4:=bad,a5:=c.B5.a5,a6:=c.B5.a6,a7:=c.B5.a7}})
def Q4x(c:Q02)(cause:Int)(bad:Int):Q02:=(Qlx c cause bad).m
def Zo3:Q0d:=mkR 178 [] true [.agg Q02.sig, .one (.int .i64), .one (.int .u32)] [] (λargs rows=>Q4x (Q02.of (aC args 0)) (argI args 1) (argI args 2)) (λX=> .agg (Q02.cells X)) (λX=>[])
theorem Qil:Q05 Tryz.prog Zo3:=Q0z drawn Q0j (.cons Z44 (.nil)) Tryz.func178 Tryz.call178 (λargs rows=>Qlx (Q02.of (aC args 0)) (argI args 1) (argI args 2)) [] [] 2
def Quf(access:Int):Tree (Int×Bool):=
.br (access==1) (.lf (4,true)) (.br (access==2) (.lf (5,true)) (.br (access==3) (.lf (6,true)) (.lf (5,false))))
def Qsb(access:Int):(Int×Bool):=(Quf access).m
def Z98:Q0d:=mkR 272 [] true [.one (.int .i64)] [] (λargs rows=>Qsb (argI args 0)) (λX=> .tup [.int .i64 (X.1), .bool (X.2)]) (λX=>[])
theorem Z5h:Q05 Tryz.prog Z98:=Q0z drawn Q0j (.nil) Tryz.func272 Tryz.call272 (λargs rows=>Quf (argI args 0)) [] [] 2
def Qy1(c:Q02):Tree Bool:=
.lf (iand u32 c.B5.a0 (1:Int) !=(0:Int))
def Qb7(c:Q02):Bool:=(Qy1 c).m
def Zgf:Q0d:=mkR 182 [] true [.agg Q02.sig] [] (λargs rows=>Qb7 (Q02.of (aC args 0))) (λX=> .bool X) (λX=>[])
theorem Qtp:Q05 Tryz.prog Zgf:=Q0z drawn Q0j (.nil) Tryz.func182 Tryz.call182 (λargs rows=>Qy1 (Q02.of (aC args 0))) [] [] 2
def Qnv(access:Int):Tree (Int×Bool):=
.br (access==1) (.lf (4,true)) (.br (access==2) (.lf (5,true)) (.br (access==3) (.lf (6,true)) (.lf (5,false))))
def Ql1(access:Int):(Int×Bool):=(Qnv access).m
def Z05:Q0d:=mkR 306 [] true [.one (.int .i64)] [] (λargs rows=>Ql1 (argI args 0)) (λX=> .tup [.int .i64 (X.1), .bool (X.2)]) (λX=>[])
theorem Qvx:Q05 Tryz.prog Z05:=Q0z drawn Q0j (.nil) Tryz.func306 Tryz.call306 (λargs rows=>Qnv (argI args 0)) [] [] 2
def Qjr(m:(List Int))(frame:Int):Tree Bool:=
.lv (Q0v m) λ(x0:Int)=> .lf (decide (wrap u64 frame<wrap u64 x0))
def Qaq(m:(List Int))(frame:Int):Bool:=(Qjr m frame).m
def Z10:Q0d:=mkR 307 [] true [.one (.ints .u32), .one (.int .u32)] [] (λargs rows=>Qaq (argL .u32 args 0) (argI args 1)) (λX=> .bool X) (λX=>[])
theorem Z03:Q05 Tryz.prog Z10:=Q0z drawn Q0j (.cons Q4d (.nil)) Tryz.func307 Tryz.call307 (λargs rows=>Qjr (argL .u32 args 0) (argI args 1)) [] [] 2
def Q77(m:(List Int))(addr:Int)(size:Int):Tree (Int×Bool):=
.an (Qb m addr size) (.lv (Qht m addr size) λ(x0:Bool)=> .br (!x0) (.lf (0,false)) (.cn (Nat.beq 1 1&&Nat.blt 0 1&&decide (0<=wrap u32 (Int.tdiv addr 4)/\wrap u32 (Int.tdiv addr 4)<(m.length:Int))) (let E1:=Int.toNat (wrap u32 (Int.tdiv addr 4)); .br (size==1) (let E2:=wrap i64 (wrap i64 (Int.tmod addr 4)*8); .an (Q5g (m.getD E1 0) E2 8) (.lv (Q35 (m.getD E1 0) E2 8) λ(x1:Int)=> .lf (x1,true))) (.lf (m.getD E1 0,true)))))
def Q5(m:(List Int))(addr:Int)(size:Int):(Int×Bool):=(Q77 m addr size).m
abbrev Q3b(m:(List Int))(addr:Int)(size:Int):Prop:=(Q77 m addr size).p
def Z9r:Q0d:=mkP 232 [] true [.one (.ints .u32), .one (.int .u32), .one (.int .i64)] [] (λargs rows=>Q3b (argL .u32 args 0) (argI args 1) (argI args 2)) (λargs rows=>Q5 (argL .u32 args 0) (argI args 1) (argI args 2)) (λX=> .tup [.int .u32 (X.1), .bool (X.2)]) (λX=>[])
theorem Qc5:Q05 Tryz.prog Z9r:=Q0l drawn Q0j (.cons Qnw (.cons Qmx (.nil))) Tryz.func232 Tryz.call232 (λargs rows=>Q77 (argL .u32 args 0) (argI args 1) (argI args 2)) [] [] 2
def Qnp(pte:Int)(access:Int):Tree Bool:=
.br (iand u32 pte (1:Int)==(0:Int)) (.lf false) (.br (access==3) (.lf (iand u32 pte (2:Int) !=(0:Int))) (.br (access==1) (.lf (iand u32 pte (4:Int) !=(0:Int))) (.lf true)))
def Qcc(pte:Int)(access:Int):Bool:=(Qnp pte access).m
def Qzf:Q0d:=mkR 308 [] true [.one (.int .u32), .one (.int .i64)] [] (λargs rows=>Qcc (argI args 0) (argI args 1)) (λX=> .bool X) (λX=>[])
theorem Qxj:Q05 Tryz.prog Qzf:=Q0z drawn Q0j (.nil) Tryz.func308 Tryz.call308 (λargs rows=>Qnp (argI args 0) (argI args 1)) [] [] 2
def Q51(pte:Int):Tree Int:=
.an (Q5g pte 8 8) (.lv (Q35 pte 8 8) λ(x0:Int)=> .lf x0)
def Qfr(pte:Int):Int:=(Q51 pte).m
abbrev Q9h(pte:Int):Prop:=(Q51 pte).p
def Qzm:Q0d:=mkP 309 [] true [.one (.int .u32)] [] (λargs rows=>Q9h (argI args 0)) (λargs rows=>Qfr (argI args 0)) (λX=> .int .u32 X) (λX=>[])
theorem Qvq:Q05 Tryz.prog Qzm:=Q0l drawn Q0j (.cons Qmx (.nil)) Tryz.func309 Tryz.call309 (λargs rows=>Q51 (argI args 0)) [] [] 2
def Q6t(m:(List Int))(root:Int)(va:Int)(access:Int):Tree Q1b:=
.lv (Ql1 access) λ(x0:Int×Bool)=>let E1:=({Addr:=0,F2:=0,F0:=x0.1}:Q1b); .br (!x0.2) (.lf (E1)) (.br (decide (va>=4096)) (.lf (E1)) (.lv (Qaq m root) λ(x1:Bool)=> .br (!x1) (.lf (E1)) (let E2:=wrap u32 (root*128)+wrap u32 (4*wrap u32 (Int.tdiv va 128)); .an (Q3b m (wrap u32 E2) 4) (.lv (Q5 m (wrap u32 E2) 4) λ(x2:Int×Bool)=> .br (!x2.2) (.lf (E1)) (.lv (Qcc x2.1 access) λ(x3:Bool)=> .br (!x3) (.lf (E1)) (.an (Q9h x2.1) (.lv (Qfr x2.1) λ(x4:Int)=> .lv (Qaq m x4) λ(x5:Bool)=> .br (!x5) (.lf (E1)) (.an (Q9h x2.1) (.lv (Qfr x2.1) λ(x6:Int)=> .lf ({Addr:=wrap u32 (wrap u32 (x6*128)+Int.tmod va 128),F2:=wrap u32 E2,F0:=0}))))))))))
def Qik(m:(List Int))(root:Int)(va:Int)(access:Int):Q1b:=(Q6t m root va access).m
abbrev Qe3(m:(List Int))(root:Int)(va:Int)(access:Int):Prop:=(Q6t m root va access).p
def Zaq:Q0d:=mkP 273 [] true [.one (.ints .u32), .one (.int .u32), .one (.int .u32), .one (.int .i64)] [] (λargs rows=>Qe3 (argL .u32 args 0) (argI args 1) (argI args 2) (argI args 3)) (λargs rows=>Qik (argL .u32 args 0) (argI args 1) (argI args 2) (argI args 3)) (λX=> .agg (Q1b.cells X)) (λX=>[])
theorem Z5a:Q05 Tryz.prog Zaq:=Q0l drawn Q0j (.cons Qvx (.cons Z03 (.cons Qc5 (.cons Qxj (.cons Qvq (.nil)))))) Tryz.func273 Tryz.call273 (λargs rows=>Q6t (argL .u32 args 0) (argI args 1) (argI args 2) (argI args 3)) [] [] 2
def Q5j(m:(List Int))(entry:Int)(access:Int):Tree (List Int):=
.an (Q3b m entry 4) (.lv (Q5 m entry 4) λ(x0:Int×Bool)=> .br (!x0.2) (.an (Q09 m) (.lv (Q03 m) λ(x1:List Int)=> .lf x1)) (.br (access==3) (.an (Q91 m entry 4 (ior u32 (ior u32 x0.1 8) 16)) (.lv (Q9u m entry 4 (ior u32 (ior u32 x0.1 8) 16)) λ(x2:List Int×Bool)=> .lf x2.1)) (.an (Q91 m entry 4 (ior u32 x0.1 8)) (.lv (Q9u m entry 4 (ior u32 x0.1 8)) λ(x3:List Int×Bool)=> .lf x3.1))))
def Qdb(m:(List Int))(entry:Int)(access:Int):(List Int):=(Q5j m entry access).m
abbrev Qcg(m:(List Int))(entry:Int)(access:Int):Prop:=(Q5j m entry access).p
def Z5w:Q0d:=mkP 274 [] true [.one (.ints .u32), .one (.int .u32), .one (.int .i64)] [] (λargs rows=>Qcg (argL .u32 args 0) (argI args 1) (argI args 2)) (λargs rows=>Qdb (argL .u32 args 0) (argI args 1) (argI args 2)) (λX=> .all 0) (λX=>[⟨false,25,1, .ints .u32 X⟩])
theorem Z4h:Q05 Tryz.prog Z5w:=Q0l drawn Q0j (.cons Qc5 (.cons Q0t (.cons Qpn (.nil)))) Tryz.func274 Tryz.call274 (λargs rows=>Q5j (argL .u32 args 0) (argI args 1) (argI args 2)) [.row 25 1 (.ints .u32)] [] 2
def Q6u(c:Q02)(m:(List Int))(va:Int)(size:Int)(access:Int):Tree (Int×(List Int)×Int):=
.lv (Qsb access) λ(x0:Int×Bool)=>let T3:Tree ((Int×(List Int)×Int)):= .an (Q09 m) (.lv (Q03 m) λ(x1:List Int)=> .lf (0,x1,5)); .br (!x0.2) T3 (let T1:Tree ((Int×(List Int)×Int)):= .cn (decide (wrap u32 size≠0)) (.br (Int.tmod va (wrap u32 size) !=0) (.an (Q09 m) (.lv (Q03 m) λ(x3:List Int)=> .lf (0,x3,3))) (.lv (Qb7 c) λ(x4:Bool)=>let T2:Tree ((Int×(List Int)×Int)):= .an (Q3b m va size) (.lv (Q5 m va size) λ(x8:Int×Bool)=> .br (!x8.2) (.an (Q09 m) (.lv (Q03 m) λ(x9:List Int)=> .lf (0,x9,x0.1))) (.an (Q09 m) (.lv (Q03 m) λ(x10:List Int)=> .lf (va,x10,0)))); .br (!x4) (.br (iand u32 c.B5.a0 (4:Int) !=(0:Int)) (.an (Qe3 m c.B5.a6 va access) (.lv (Qik m c.B5.a6 va access) λ(x5:Q1b)=> .br (x5.F0 !=0) (.an (Q09 m) (.lv (Q03 m) λ(x6:List Int)=> .lf (0,x6,x5.F0))) (.an (Qcg m x5.F2 access) (.lv (Qdb m x5.F2 access) λ(x7:List Int)=> .lf (x5.Addr,x7,0))))) T2) T2)); .br (size !=1) (.br (size !=4) T3 T1) T1)
def Q26(c:Q02)(m:(List Int))(va:Int)(size:Int)(access:Int):(Int×(List Int)×Int):=(Q6u c m va size access).m
abbrev Q9o(c:Q02)(m:(List Int))(va:Int)(size:Int)(access:Int):Prop:=(Q6u c m va size access).p
def Zaz:Q0d:=mkP 231 [] true [.agg Q02.sig, .one (.ints .u32), .one (.int .u32), .one (.int .i64), .one (.int .i64)] [] (λargs rows=>Q9o (Q02.of (aC args 0)) (argL .u32 args 1) (argI args 2) (argI args 3) (argI args 4)) (λargs rows=>Q26 (Q02.of (aC args 0)) (argL .u32 args 1) (argI args 2) (argI args 3) (argI args 4)) (λX=> .tup [.int .u32 (X.1), .all 0, .int .i64 (X.2.2)]) (λX=>[⟨false,25,1, .ints .u32 (X.2.1)⟩])
theorem Ql3:Q05 Tryz.prog Zaz:=Q0l drawn Q0j (.cons Z5h (.cons Q0t (.cons Qtp (.cons Z5a (.cons Z4h (.cons Qc5 (.nil))))))) Tryz.func231 Tryz.call231 (λargs rows=>Q6u (Q02.of (aC args 0)) (argL .u32 args 1) (argI args 2) (argI args 3) (argI args 4)) [.row 25 1 (.ints .u32)] [] 2
def Qd0(c:Q02)(m:(List Int)):Tree (Int×(List Int)×Int):=
.an (Q9o c m c.Pc 4 1) (.lv (Q26 c m c.Pc 4 1) λ(x0:Int×List Int×Int)=> .br (x0.2.2 !=0) (.lf (0,x0.2.1,x0.2.2)) (.an (Q3b x0.2.1 x0.1 4) (.lv (Q5 x0.2.1 x0.1 4) λ(x1:Int×Bool)=> .lf (x1.1,x0.2.1,0))))
def Qov(c:Q02)(m:(List Int)):(Int×(List Int)×Int):=(Qd0 c m).m
abbrev Qmd(c:Q02)(m:(List Int)):Prop:=(Qd0 c m).p
def Zhp:Q0d:=mkP 179 [] true [.agg Q02.sig, .one (.ints .u32)] [] (λargs rows=>Qmd (Q02.of (aC args 0)) (argL .u32 args 1)) (λargs rows=>Qov (Q02.of (aC args 0)) (argL .u32 args 1)) (λX=> .tup [.int .u32 (X.1), .all 0, .int .i64 (X.2.2)]) (λX=>[⟨false,25,1, .ints .u32 (X.2.1)⟩])
theorem Zgn:Q05 Tryz.prog Zhp:=Q0l drawn Q0j (.cons Ql3 (.cons Qc5 (.nil))) Tryz.func179 Tryz.call179 (λargs rows=>Qd0 (Q02.of (aC args 0)) (argL .u32 args 1)) [.row 25 1 (.ints .u32)] [] 2
def Qnt(op:Int):Tree Bool:=
.br (op==57) (.lf true) (.br (op==58) (.lf true) (.br (op==59) (.lf true) (.br (op==60) (.lf true) (.br (op==61) (.lf true) (.br (op==62) (.lf true) (.br (op==63) (.lf true) (.br (op==64) (.lf true) (.lf false))))))))
def Q94(op:Int):Bool:=(Qnt op).m
def Z06:Q0d:=mkR 181 [] true [.one (.int .i64)] [] (λargs rows=>Q94 (argI args 0)) (λX=> .bool X) (λX=>[])
theorem Qwg:Q05 Tryz.prog Z06:=Q0z drawn Q0j (.nil) Tryz.func181 Tryz.call181 (λargs rows=>Qnt (argI args 0)) [] [] 2
def Qse(op:Int):Tree Int:=
.br (op==32) (.lf 4) (.br (op==35) (.lf 4) (.lf 1))
def Qgh(op:Int):Int:=(Qse op).m
def Zj2:Q0d:=mkR 237 [] true [.one (.int .i64)] [] (λargs rows=>Qgh (argI args 0)) (λX=> .int .i64 X) (λX=>[])
theorem Qyf:Q05 Tryz.prog Zj2:=Q0z drawn Q0j (.nil) Tryz.func237 Tryz.call237 (λargs rows=>Qse (argI args 0)) [] [] 2
def Q9w(c:Q02)(register:Int)(v:Int):Tree Q02:=
.br (register !=0) (.cn (Nat.blt 0 1&&decide (0<=register/\register<(↑16:Int))) (.lf ({X:=A16.of 0 (List.set (A16.l c.X) register.toNat v),Pc:=c.Pc,B5:=c.B5}))) (.lf c)
def Qbo(c:Q02)(register:Int)(v:Int):Q02:=(Q9w c register v).m
abbrev Q7h(c:Q02)(register:Int)(v:Int):Prop:=(Q9w c register v).p
def zA:Q0d:=mkP 238 [] true [.agg Q02.sig, .one (.int .i64), .one (.int .u32)] [] (λargs rows=>Q7h (Q02.of (aC args 0)) (argI args 1) (argI args 2)) (λargs rows=>Qbo (Q02.of (aC args 0)) (argI args 1) (argI args 2)) (λX=> .agg (Q02.cells X)) (λX=>[])
theorem Z7e:Q05 Tryz.prog zA:=Q0l drawn Q0j (.nil) Tryz.func238 Tryz.call238 (λargs rows=>Q9w (Q02.of (aC args 0)) (argI args 1) (argI args 2)) [] [] 2
def Qan(c:Q02)(m:(List Int))(i:Q0k):Tree (Q02×(List Int)):=
.cn (Nat.blt 0 1&&decide (0<=i.B/\i.B<(↑16:Int))) (.lv (Qgh i.Op) λ(x0:Int)=>let E1:=wrap u32 (List.getD (A16.l c.X) i.B.toNat 0+wrap u32 i.Imm); .an (Q9o c m E1 x0 2) (.lv (Q26 c m E1 x0 2) λ(x1:Int×List Int×Int)=> .br (x1.2.2 !=0) (.lv (Q4x c x1.2.2 E1) λ(x2:Q02)=> .lf (x2,x1.2.1)) (.lv (Qgh i.Op) λ(x3:Int)=> .an (Q3b x1.2.1 x1.1 x3) (.lv (Q5 x1.2.1 x1.1 x3) λ(x4:Int×Bool)=> .br (i.Op==33) (.an (Q8n x4.1 8) (.lv (Q2g x4.1 8) λ(x5:Int)=> .an (Q7h c i.A x5) (.lv (Qbo c i.A x5) λ(x6:Q02)=> .lf ({X:=x6.X,Pc:=wrap u32 (x6.Pc+4),B5:=x6.B5},x1.2.1)))) (.an (Q7h c i.A x4.1) (.lv (Qbo c i.A x4.1) λ(x7:Q02)=> .lf ({X:=x7.X,Pc:=wrap u32 (x7.Pc+4),B5:=x7.B5},x1.2.1)))))))
def Q74(c:Q02)(m:(List Int))(i:Q0k):(Q02×(List Int)):=(Qan c m i).m
abbrev Qpm(c:Q02)(m:(List Int))(i:Q0k):Prop:=(Qan c m i).p
def Zow:Q0d:=mkP 183 [] true [.agg Q02.sig, .one (.ints .u32), .agg Q0k.sig] [] (λargs rows=>Qpm (Q02.of (aC args 0)) (argL .u32 args 1) (Q0k.of (aC args 2))) (λargs rows=>Q74 (Q02.of (aC args 0)) (argL .u32 args 1) (Q0k.of (aC args 2))) (λX=> .tup [.agg (Q02.cells (X.1)), .all 0]) (λX=>[⟨false,25,1, .ints .u32 (X.2)⟩])
theorem Zin:Q05 Tryz.prog Zow:=Q0l drawn Q0j (.cons Ql3 (.cons Qyf (.cons Qil (.cons Qc5 (.cons Qkp (.cons Z7e (.nil))))))) Tryz.func183 Tryz.call183 (λargs rows=>Qan (Q02.of (aC args 0)) (argL .u32 args 1) (Q0k.of (aC args 2))) [.row 25 1 (.ints .u32)] [] 2
def Q8t(c:Q02)(m:(List Int))(i:Q0k):Tree (Q02×(List Int)):=
.cn (Nat.blt 0 1&&decide (0<=i.B/\i.B<(↑16:Int))) (.lv (Qgh i.Op) λ(x0:Int)=>let E1:=wrap u32 (List.getD (A16.l c.X) i.B.toNat 0+wrap u32 i.Imm); .an (Q9o c m E1 x0 3) (.lv (Q26 c m E1 x0 3) λ(x1:Int×List Int×Int)=> .br (x1.2.2 !=0) (.lv (Q4x c x1.2.2 E1) λ(x2:Q02)=> .lf (x2,x1.2.1)) (.lv (Qgh i.Op) λ(x3:Int)=> .cn (Nat.blt 0 1&&decide (0<=i.A/\i.A<(↑16:Int))) (let E2:=List.getD (A16.l c.X) i.A.toNat 0; .an (Q91 x1.2.1 x1.1 x3 E2) (.lv (Q9u x1.2.1 x1.1 x3 E2) λ(x4:List Int×Bool)=> .lf ({X:=c.X,Pc:=wrap u32 (c.Pc+4),B5:=c.B5},x4.1))))))
def Q9(c:Q02)(m:(List Int))(i:Q0k):(Q02×(List Int)):=(Q8t c m i).m
abbrev Qme(c:Q02)(m:(List Int))(i:Q0k):Prop:=(Q8t c m i).p
def Zi9:Q0d:=mkP 184 [] true [.agg Q02.sig, .one (.ints .u32), .agg Q0k.sig] [] (λargs rows=>Qme (Q02.of (aC args 0)) (argL .u32 args 1) (Q0k.of (aC args 2))) (λargs rows=>Q9 (Q02.of (aC args 0)) (argL .u32 args 1) (Q0k.of (aC args 2))) (λX=> .tup [.agg (Q02.cells (X.1)), .all 0]) (λX=>[⟨false,25,1, .ints .u32 (X.2)⟩])
theorem Zfu:Q05 Tryz.prog Zi9:=Q0l drawn Q0j (.cons Ql3 (.cons Qyf (.cons Qil (.cons Qpn (.nil))))) Tryz.func184 Tryz.call184 (λargs rows=>Q8t (Q02.of (aC args 0)) (argL .u32 args 1) (Q0k.of (aC args 2))) [.row 25 1 (.ints .u32)] [] 2
def Z1t(op:Int)(a:Int)(b:Int):Tree Bool:=
.br (op==40) (.lf (a==b)) (.br (op==41) (.lf (a !=b)) (.br (op==42) (.lf (decide (wrap i32 a<wrap i32 b))) (.br (op==43) (.lf (decide (wrap i32 a>=wrap i32 b))) (.br (op==44) (.lf (decide (a<b))) (.lf (decide (a>=b)))))))
def Zgc(op:Int)(a:Int)(b:Int):Bool:=(Z1t op a b).m
def Zj7:Q0d:=mkR 240 [] true [.one (.int .i64), .one (.int .u32), .one (.int .u32)] [] (λargs rows=>Zgc (argI args 0) (argI args 1) (argI args 2)) (λX=> .bool X) (λX=>[])
theorem Zco:Q05 Tryz.prog Zj7:=Q0z drawn Q0j (.nil) Tryz.func240 Tryz.call240 (λargs rows=>Z1t (argI args 0) (argI args 1) (argI args 2)) [] [] 2
def Qg0(c:Q02):Tree Q02:=
.lv (Q9i c.B5.a0 8 1) λ(x0:Int)=> .lv (Q9i x0 16 2) λ(x1:Int)=> .lf ({X:=c.X,Pc:=c.B5.a2,B5:={a0:=x1,a1:=c.B5.a1,a2:=c.B5.a2,a3:=c.B5.a3,a4:=c.B5.a4,a5:=c.B5.a5,a6:=c.B5.a6,a7:=c.B5.a7}})
def Qff(c:Q02):Q02:=(Qg0 c).m
def Zge:Q0d:=mkR 241 [] true [.agg Q02.sig] [] (λargs rows=>Qff (Q02.of (aC args 0))) (λX=> .agg (Q02.cells X)) (λX=>[])
theorem Zbe:Q05 Tryz.prog Zge:=Q0z drawn Q0j (.cons Z44 (.nil)) Tryz.func241 Tryz.call241 (λargs rows=>Qg0 (Q02.of (aC args 0))) [] [] 2
def Q8r(c:Q02)(csr:Int)(v:Int):Tree Q02:=
let E4:=Nat.blt 0 1&&decide (0<=csr/\csr<(↑8:Int));let T2:Tree (Q02):= .cn E4 (.lf ({X:=c.X,Pc:=c.Pc,B5:=A8.of 0 (List.set (A8.l c.B5) csr.toNat (iand u32 v 31))})); .br (csr==0) T2 (.br (csr==7) T2 (.br (csr==6) (.cn E4 (.lf ({X:=c.X,Pc:=c.Pc,B5:=A8.of 0 (List.set (A8.l c.B5) csr.toNat (iand u32 v 255))}))) (let T3:Tree (Q02):= .cn E4 (.lf ({X:=c.X,Pc:=c.Pc,B5:=A8.of 0 (List.set (A8.l c.B5) csr.toNat (Qhp u32 v 3))})); .br (csr==1) T3 (.br (csr==2) T3 (let T1:Tree (Q02):= .cn E4 (.lf ({X:=c.X,Pc:=c.Pc,B5:=A8.of 0 (List.set (A8.l c.B5) csr.toNat v)})); .br (csr==3) T1 (.br (csr==4) T1 (.br (csr==5) T1 (.lf c))))))))
def Zfg(c:Q02)(csr:Int)(v:Int):Q02:=(Q8r c csr v).m
abbrev Qmr(c:Q02)(csr:Int)(v:Int):Prop:=(Q8r c csr v).p
def Zi5:Q0d:=mkP 242 [] true [.agg Q02.sig, .one (.int .i64), .one (.int .u32)] [] (λargs rows=>Qmr (Q02.of (aC args 0)) (argI args 1) (argI args 2)) (λargs rows=>Zfg (Q02.of (aC args 0)) (argI args 1) (argI args 2)) (λX=> .agg (Q02.cells X)) (λX=>[])
theorem Zev:Q05 Tryz.prog Zi5:=Q0l drawn Q0j (.nil) Tryz.func242 Tryz.call242 (λargs rows=>Q8r (Q02.of (aC args 0)) (argI args 1) (argI args 2)) [] [] 2
def Q3g(c:Q02)(i:Q0k):Tree (Q02×Q13):=
.cn (Nat.blt 0 1&&decide (0<=i.A/\i.A<(↑16:Int))) (.cn (Nat.blt 0 1&&decide (0<=i.B/\i.B<(↑16:Int))) (.br (i.Op==24) (.an (Q7h c i.A (ishl u32 (wrap u32 i.Imm) 16)) (.lv (Qbo c i.A (ishl u32 (wrap u32 i.Imm) 16)) λ(x0:Q02)=> .lf ({X:=x0.X,Pc:=wrap u32 (c.Pc+4),B5:=x0.B5},{B6:=0,D0:=0,D9:=0,Value:=0}))) (let E2:=({X:=c.X,Pc:=wrap u32 (c.Pc+4),B5:=c.B5}:Q02);let E3:=List.getD (A16.l c.X) i.B.toNat 0;let E4:=List.getD (A16.l c.X) i.A.toNat 0;let T1:Tree ((Q02×Q13)):= .lv (Zgc i.Op E4 E3) λ(x1:Bool)=> .br x1 (.lf ({X:=c.X,Pc:=wrap u32 (c.Pc+wrap u32 (4*wrap u32 i.Imm)),B5:=c.B5},{B6:=0,D0:=0,D9:=0,Value:=0})) (.lf (E2,{B6:=0,D0:=0,D9:=0,Value:=0})); .br (i.Op==40) T1 (.br (i.Op==41) T1 (.br (i.Op==42) T1 (.br (i.Op==43) T1 (.br (i.Op==44) T1 (.br (i.Op==45) T1 (.br (i.Op==48) (.an (Q7h c i.A (wrap u32 (c.Pc+4))) (.lv (Qbo c i.A (wrap u32 (c.Pc+4))) λ(x7:Q02)=> .lf ({X:=x7.X,Pc:=wrap u32 (x7.Pc+wrap u32 (4*wrap u32 i.Imm)),B5:=x7.B5},{B6:=0,D0:=0,D9:=0,Value:=0}))) (.br (i.Op==49) (.an (Q7h c i.A (wrap u32 (c.Pc+4))) (.lv (Qbo c i.A (wrap u32 (c.Pc+4))) λ(x8:Q02)=> .lf ({X:=x8.X,Pc:=wrap u32 (List.getD (A16.l c.X) i.B.toNat 0+wrap u32 i.Imm),B5:=x8.B5},{B6:=0,D0:=0,D9:=0,Value:=0}))) (.br (i.Op==56) (.lv (Q4x c 7 0) λ(x9:Q02)=> .lf (x9,{B6:=0,D0:=0,D9:=0,Value:=0})) (.br (i.Op==57) (.lv (Qff c) λ(x10:Q02)=> .lf (x10,{B6:=0,D0:=0,D9:=0,Value:=0})) (.br (i.Op==58) (.cn (Nat.blt 0 1&&decide (0<=i.Imm/\i.Imm<(↑8:Int))) (let E5:=List.getD (A8.l c.B5) i.Imm.toNat 0; .an (Q7h c i.A E5) (.lv (Qbo c i.A E5) λ(x11:Q02)=> .lf ({X:=x11.X,Pc:=wrap u32 (c.Pc+4),B5:=x11.B5},{B6:=0,D0:=0,D9:=0,Value:=0})))) (.br (i.Op==59) (.an (Qmr c (wrap i64 i.Imm) E4) (.lv (Zfg c (wrap i64 i.Imm) E4) λ(x12:Q02)=> .lf ({X:=x12.X,Pc:=wrap u32 (c.Pc+4),B5:=x12.B5},{B6:=0,D0:=0,D9:=0,Value:=0}))) (.br (i.Op==60) (.lf (E2,{B6:=1,D0:=wrap i64 i.Imm,D9:=i.A,Value:=0})) (.br (i.Op==61) (.lf (E2,{B6:=2,D0:=wrap i64 i.Imm,D9:=0,Value:=List.getD (A16.l c.X) i.A.toNat 0})) (.br (i.Op==62) (.lf (E2,{B6:=3,D0:=0,D9:=0,Value:=0})) (.br (i.Op==63) (.lf (E2,{B6:=5,D0:=0,D9:=0,Value:=0})) (.br (i.Op==64) (.lf (E2,{B6:=4,D0:=0,D9:=0,Value:=0})) (.cn (Nat.blt 0 1&&decide (0<=i.C/\i.C<(↑16:Int))) (.br (decide (i.Op>=16)) (.an (Qml i.Op E3 (wrap u32 i.Imm)) (.lv (Q4f i.Op E3 (wrap u32 i.Imm)) λ(x13:Int×Bool)=> .an (Q7h c i.A x13.1) (.lv (Qbo c i.A x13.1) λ(x14:Q02)=> .lf ({X:=x14.X,Pc:=wrap u32 (c.Pc+4),B5:=x14.B5},{B6:=0,D0:=0,D9:=0,Value:=0})))) (let E6:=List.getD (A16.l c.X) i.C.toNat 0; .an (Qml i.Op E3 E6) (.lv (Q4f i.Op E3 E6) λ(x15:Int×Bool)=> .an (Q7h c i.A x15.1) (.lv (Qbo c i.A x15.1) λ(x16:Q02)=> .lf ({X:=x16.X,Pc:=wrap u32 (c.Pc+4),B5:=x16.B5},{B6:=0,D0:=0,D9:=0,Value:=0})))))))))))))))))))))))))
def Qmk(c:Q02)(i:Q0k):(Q02×Q13):=(Q3g c i).m
abbrev Qjk(c:Q02)(i:Q0k):Prop:=(Q3g c i).p
def Zb7:Q0d:=mkP 185 [] true [.agg Q02.sig, .agg Q0k.sig] [] (λargs rows=>Qjk (Q02.of (aC args 0)) (Q0k.of (aC args 1))) (λargs rows=>Qmk (Q02.of (aC args 0)) (Q0k.of (aC args 1))) (λX=> .tup [.agg (Q02.cells (X.1)), .agg (Q13.cells (X.2))]) (λX=>[])
theorem Z5y:Q05 Tryz.prog Zb7:=Q0l drawn Q0j (.cons Z7e (.cons Zco (.cons Qil (.cons Zbe (.cons Zev (.cons Zo5 (.nil))))))) Tryz.func185 Tryz.call185 (λargs rows=>Q3g (Q02.of (aC args 0)) (Q0k.of (aC args 1))) [] [] 2
def Q7w(c:Q02)(m:(List Int)):Tree (Q02×(List Int)×Q13):=
.an (Qmd c m) (.lv (Qov c m) λ(x0:Int×List Int×Int)=> .br (x0.2.2 !=0) (.lv (Q4x c x0.2.2 c.Pc) λ(x1:Q02)=> .lf (x1,x0.2.1,{B6:=0,D0:=0,D9:=0,Value:=0})) (.an (Qla x0.1) (.lv (Qi0 x0.1) λ(x2:Q0k×Bool)=> .br (!x2.2) (.lv (Q4x c 1 x0.1) λ(x3:Q02)=> .lf (x3,x0.2.1,{B6:=0,D0:=0,D9:=0,Value:=0})) (.lv (Q94 x2.1.Op) λ(x4:Bool)=>let T1:Tree ((Q02×(List Int)×Q13)):=let T2:Tree ((Q02×(List Int)×Q13)):= .an (Qpm c x0.2.1 x2.1) (.lv (Q74 c x0.2.1 x2.1) λ(x7:Q02×List Int)=> .lf (x7.1,x7.2,{B6:=0,D0:=0,D9:=0,Value:=0})); .br (x2.1.Op==32) T2 (.br (x2.1.Op==33) T2 (.br (x2.1.Op==34) T2 (let T3:Tree ((Q02×(List Int)×Q13)):= .an (Qme c x0.2.1 x2.1) (.lv (Q9 c x0.2.1 x2.1) λ(x10:Q02×List Int)=> .lf (x10.1,x10.2,{B6:=0,D0:=0,D9:=0,Value:=0})); .br (x2.1.Op==35) T3 (.br (x2.1.Op==36) T3 (.an (Qjk c x2.1) (.lv (Qmk c x2.1) λ(x12:Q02×Q13)=> .lf (x12.1,x0.2.1,x12.2))))))); .br x4 (.lv (Qb7 c) λ(x5:Bool)=> .br (!x5) (.lv (Q4x c 2 x0.1) λ(x6:Q02)=> .lf (x6,x0.2.1,{B6:=0,D0:=0,D9:=0,Value:=0})) T1) T1))))
def Qbe(c:Q02)(m:(List Int)):(Q02×(List Int)×Q13):=(Q7w c m).m
abbrev Qkd(c:Q02)(m:(List Int)):Prop:=(Q7w c m).p
def Znc:Q0d:=mkP 114 [] true [.agg Q02.sig, .one (.ints .u32)] [] (λargs rows=>Qkd (Q02.of (aC args 0)) (argL .u32 args 1)) (λargs rows=>Qbe (Q02.of (aC args 0)) (argL .u32 args 1)) (λX=> .tup [.agg (Q02.cells (X.1)), .all 0, .agg (Q13.cells (X.2.2))]) (λX=>[⟨false,25,1, .ints .u32 (X.2.1)⟩])
theorem Z4b:Q05 Tryz.prog Znc:=Q0l drawn Q0j (.cons Zgn (.cons Qil (.cons Z9m (.cons Qwg (.cons Qtp (.cons Zin (.cons Zfu (.cons Z5y (.nil))))))))) Tryz.func114 Tryz.call114 (λargs rows=>Q7w (Q02.of (aC args 0)) (argL .u32 args 1)) [.row 25 1 (.ints .u32)] [] 2

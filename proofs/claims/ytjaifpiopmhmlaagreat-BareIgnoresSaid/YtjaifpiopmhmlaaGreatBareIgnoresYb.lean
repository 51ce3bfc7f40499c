/-
  Functions of the program: models, and that its calls come to them (by a program: gen3.py).
-/
import Derived.Test.YtjaifpiopmhmlaaGreatBareIgnoresBase
import Derived.Test.YtjaifpiopmhmlaaGreatBareIgnoresYa
set_option maxRecDepth 100000
set_option linter.all false
namespace Go.Proofs.YtjaifpiopmhmlaaGreat
open Go Go.GD Go.IntKind
noncomputable section
def Qob(status:Int)(from0:Int)(to:Int):Tree Int:=
.br (iand u32 status from0 !=0) (.lf (ior u32 status to)) (.lf (Qft u32 status to))
def Q8j(status:Int)(from0:Int)(to:Int):Int:=(Qob status from0 to).m
def Zk9:Q0c:=mkR 209 [] true [.one (.int .u32), .one (.int .u32), .one (.int .u32)] [] (λargs rows=>Q8j (argI args 0) (argI args 1) (argI args 2)) (λX=> .int .u32 X) (λX=>[])
theorem Qz3:Q05 Tryz.prog Zk9:=Q0z Q0j Q0k (.nil) Tryz.func209 Tryz.call209 (λargs rows=>Qob (argI args 0) (argI args 1) (argI args 2)) [] [] 2 (λ_ _ _=>by kernel_rfl) (λ_ _=>rfl) (λ_ _=>Tree.free_ok (by kernel_rfl)) (λ_ X=>by kernel_rfl)
def Qk3(c:Q04)(cause:Int)(bad:Int):Tree Q04:=
.lv (Q8j c.B6.a0 1 8) λ(x0:Int)=> .lv (Q8j x0 2 16) λ(x1:Int)=> .lf ({X:=c.X,Pc:=c.B6.a1,B6:={a0:=Qft u32 (ior u32 x1 1) 2,a1:=c.B6.a1,a2:=c.Pc,a3:=wrap u32 cause,a4:=bad,a5:=c.B6.a5,a6:=c.B6.a6,a7:=c.B6.a7}})
def Q48(c:Q04)(cause:Int)(bad:Int):Q04:=(Qk3 c cause bad).m
def Zj8:Q0c:=mkR 154 [] true [.agg Q04.sig, .one (.int .i64), .one (.int .u32)] [] (λargs rows=>Q48 (Q04.of (args.getD 0 .dead).cells) (argI args 1) (argI args 2)) (λX=> .agg (Q04.cells X)) (λX=>[])
theorem Qhc:Q05 Tryz.prog Zj8:=Q0z Q0j Q0k (.cons Qz3 (.nil)) Tryz.func154 Tryz.call154 (λargs rows=>Qk3 (Q04.of (args.getD 0 .dead).cells) (argI args 1) (argI args 2)) [] [] 2 (λ_ _ _=>by kernel_rfl) (λ_ _=>rfl) (λ_ _=>Tree.free_ok (by kernel_rfl)) (λ_ X=>by kernel_rfl)
def Qs5(access:Int):Tree (Int×Bool):=
.br (access==1) (.lf (4,true)) (.br (access==2) (.lf (5,true)) (.br (access==3) (.lf (6,true)) (.lf (5,false))))
def Qq7(access:Int):(Int×Bool):=(Qs5 access).m
def Z7j:Q0c:=mkR 249 [] true [.one (.int .i64)] [] (λargs rows=>Qq7 (argI args 0)) (λX=> .tup [.int .i64 (X.1), .bool (X.2)]) (λX=>[])
theorem Z24:Q05 Tryz.prog Z7j:=Q0z Q0j Q0k (.nil) Tryz.func249 Tryz.call249 (λargs rows=>Qs5 (argI args 0)) [] [] 2 (λ_ _ _=>by kernel_rfl) (λ_ _=>rfl) (λ_ _=>Tree.free_ok (by kernel_rfl)) (λ_ X=>by kernel_rfl)
def Qwp(c:Q04):Tree Bool:=
.lf (iand u32 c.B6.a0 (1:Int) !=(0:Int))
def Q9m(c:Q04):Bool:=(Qwp c).m
def Zbd:Q0c:=mkR 158 [] true [.agg Q04.sig] [] (λargs rows=>Q9m (Q04.of (args.getD 0 .dead).cells)) (λX=> .bool X) (λX=>[])
theorem Qs0:Q05 Tryz.prog Zbd:=Q0z Q0j Q0k (.nil) Tryz.func158 Tryz.call158 (λargs rows=>Qwp (Q04.of (args.getD 0 .dead).cells)) [] [] 2 (λ_ _ _=>by kernel_rfl) (λ_ _=>rfl) (λ_ _=>Tree.free_ok (by kernel_rfl)) (λ_ X=>by kernel_rfl)
def Qlm(access:Int):Tree (Int×Bool):=
.br (access==1) (.lf (4,true)) (.br (access==2) (.lf (5,true)) (.br (access==3) (.lf (6,true)) (.lf (5,false))))
def Qjb(access:Int):(Int×Bool):=(Qlm access).m
def Qxa:Q0c:=mkR 269 [] true [.one (.int .i64)] [] (λargs rows=>Qjb (argI args 0)) (λX=> .tup [.int .i64 (X.1), .bool (X.2)]) (λX=>[])
theorem Qu9:Q05 Tryz.prog Qxa:=Q0z Q0j Q0k (.nil) Tryz.func269 Tryz.call269 (λargs rows=>Qlm (argI args 0)) [] [] 2 (λ_ _ _=>by kernel_rfl) (λ_ _=>rfl) (λ_ _=>Tree.free_ok (by kernel_rfl)) (λ_ X=>by kernel_rfl)
def Qh4(m:(List Int))(frame:Int):Tree Bool:=
.lv (Q0v m) λ(x0:Int)=> .lf (decide (wrap u64 frame<wrap u64 x0))
def Q9y(m:(List Int))(frame:Int):Bool:=(Qh4 m frame).m
def Z06:Q0c:=mkR 270 [] true [.one (.ints .u32), .one (.int .u32)] [] (λargs rows=>Q9y (argL .u32 args 0) (argI args 1)) (λX=> .bool X) (λX=>[])
theorem Qxh:Q05 Tryz.prog Z06:=Q0z Q0j Q0k (.cons Q41 (.nil)) Tryz.func270 Tryz.call270 (λargs rows=>Qh4 (argL .u32 args 0) (argI args 1)) [] [] 2 (λ_ _ _=>by kernel_rfl) (λ_ _=>rfl) (λ_ _=>Tree.free_ok (by kernel_rfl)) (λ_ X=>by kernel_rfl)
def Q6(m:(List Int))(addr:Int)(size:Int):Tree (Int×Bool):=
.an (Q9l m addr size) (.lv (Qfo m addr size) λ(x0:Bool)=> .br (!x0) (.lf (0,false)) (.cn (Nat.beq 1 1&&Nat.blt 0 1&&decide (0<=wrap u32 (Int.tdiv addr 4)/\wrap u32 (Int.tdiv addr 4)<(m.length:Int))) (let E1:=Int.toNat (wrap u32 (Int.tdiv addr 4)); .br (size==1) (let E2:=wrap i64 (wrap i64 (Int.tmod addr 4)*8); .an (Q4z (m.getD E1 0) E2 8) (.lv (Q2p (m.getD E1 0) E2 8) λ(x1:Int)=> .lf (x1,true))) (.lf (m.getD E1 0,true)))))
def Q4i(m:(List Int))(addr:Int)(size:Int):(Int×Bool):=(Q6 m addr size).m
abbrev Q30(m:(List Int))(addr:Int)(size:Int):Prop:=(Q6 m addr size).p
def Z86:Q0c:=mkP 211 [] true [.one (.ints .u32), .one (.int .u32), .one (.int .i64)] [] (λargs rows=>Q30 (argL .u32 args 0) (argI args 1) (argI args 2)) (λargs rows=>Q4i (argL .u32 args 0) (argI args 1) (argI args 2)) (λX=> .tup [.int .u32 (X.1), .bool (X.2)]) (λX=>[])
theorem Qae:Q05 Tryz.prog Z86:=Q0n Q0j Q0k (.cons Qm0 (.cons Ql4 (.nil))) Tryz.func211 Tryz.call211 (λargs rows=>Q6 (argL .u32 args 0) (argI args 1) (argI args 2)) [] [] 2 (λ_ _ _=>by kernel_rfl) (λ_ _=>rfl) (λ_ _ h=>h) (λ_ X=>by kernel_rfl)
def Qlw(pte:Int)(access:Int):Tree Bool:=
.br (iand u32 pte (1:Int)==(0:Int)) (.lf false) (.br (access==3) (.lf (iand u32 pte (2:Int) !=(0:Int))) (.br (access==1) (.lf (iand u32 pte (4:Int) !=(0:Int))) (.lf true)))
def Qad(pte:Int)(access:Int):Bool:=(Qlw pte access).m
def Qx5:Q0c:=mkR 271 [] true [.one (.int .u32), .one (.int .i64)] [] (λargs rows=>Qad (argI args 0) (argI args 1)) (λX=> .bool X) (λX=>[])
theorem Qtc:Q05 Tryz.prog Qx5:=Q0z Q0j Q0k (.nil) Tryz.func271 Tryz.call271 (λargs rows=>Qlw (argI args 0) (argI args 1)) [] [] 2 (λ_ _ _=>by kernel_rfl) (λ_ _=>rfl) (λ_ _=>Tree.free_ok (by kernel_rfl)) (λ_ X=>by kernel_rfl)
def Q7w(pte:Int):Tree Int:=
.an (Q4z pte 8 8) (.lv (Q2p pte 8 8) λ(x0:Int)=> .lf x0)
def Qe(pte:Int):Int:=(Q7w pte).m
abbrev Qbm(pte:Int):Prop:=(Q7w pte).p
def Qxp:Q0c:=mkP 272 [] true [.one (.int .u32)] [] (λargs rows=>Qbm (argI args 0)) (λargs rows=>Qe (argI args 0)) (λX=> .int .u32 X) (λX=>[])
theorem Qus:Q05 Tryz.prog Qxp:=Q0n Q0j Q0k (.cons Ql4 (.nil)) Tryz.func272 Tryz.call272 (λargs rows=>Q7w (argI args 0)) [] [] 2 (λ_ _ _=>by kernel_rfl) (λ_ _=>rfl) (λ_ _ h=>h) (λ_ X=>by kernel_rfl)
def Q9t(m:(List Int))(root:Int)(va:Int)(access:Int):Tree Q14:=
.lv (Qjb access) λ(x0:Int×Bool)=>let E1:=({Addr:=0,F3:=0,F1:=x0.1}:Q14); .br (!x0.2) (.lf (E1)) (.br (decide (va>=4096)) (.lf (E1)) (.lv (Q9y m root) λ(x1:Bool)=> .br (!x1) (.lf (E1)) (let E2:=wrap u32 (root*128)+wrap u32 (4*wrap u32 (Int.tdiv va 128)); .an (Q30 m (wrap u32 E2) 4) (.lv (Q4i m (wrap u32 E2) 4) λ(x2:Int×Bool)=> .br (!x2.2) (.lf (E1)) (.lv (Qad x2.1 access) λ(x3:Bool)=> .br (!x3) (.lf (E1)) (.an (Qbm x2.1) (.lv (Qe x2.1) λ(x4:Int)=> .lv (Q9y m x4) λ(x5:Bool)=> .br (!x5) (.lf (E1)) (.an (Qbm x2.1) (.lv (Qe x2.1) λ(x6:Int)=> .lf ({Addr:=wrap u32 (wrap u32 (x6*128)+Int.tmod va 128),F3:=wrap u32 E2,F1:=0}))))))))))
def Qi(m:(List Int))(root:Int)(va:Int)(access:Int):Q14:=(Q9t m root va access).m
abbrev Qgp(m:(List Int))(root:Int)(va:Int)(access:Int):Prop:=(Q9t m root va access).p
def Z96:Q0c:=mkP 250 [] true [.one (.ints .u32), .one (.int .u32), .one (.int .u32), .one (.int .i64)] [] (λargs rows=>Qgp (argL .u32 args 0) (argI args 1) (argI args 2) (argI args 3)) (λargs rows=>Qi (argL .u32 args 0) (argI args 1) (argI args 2) (argI args 3)) (λX=> .agg (Q14.cells X)) (λX=>[])
theorem Z2l:Q05 Tryz.prog Z96:=Q0n Q0j Q0k (.cons Qu9 (.cons Qxh (.cons Qae (.cons Qtc (.cons Qus (.nil)))))) Tryz.func250 Tryz.call250 (λargs rows=>Q9t (argL .u32 args 0) (argI args 1) (argI args 2) (argI args 3)) [] [] 2 (λ_ _ _=>by kernel_rfl) (λ_ _=>rfl) (λ_ _ h=>h) (λ_ X=>by kernel_rfl)
def Q81(m:(List Int))(entry:Int)(access:Int):Tree (List Int):=
.an (Q30 m entry 4) (.lv (Q4i m entry 4) λ(x0:Int×Bool)=> .br (!x0.2) (.an (Q06 m) (.lv (Q03 m) λ(x1:List Int)=> .lf x1)) (.br (access==3) (.an (Qam m entry 4 (ior u32 (ior u32 x0.1 8) 16)) (.lv (Q92 m entry 4 (ior u32 (ior u32 x0.1 8) 16)) λ(x2:List Int×Bool)=> .lf x2.1)) (.an (Qam m entry 4 (ior u32 x0.1 8)) (.lv (Q92 m entry 4 (ior u32 x0.1 8)) λ(x3:List Int×Bool)=> .lf x3.1))))
def Qbg(m:(List Int))(entry:Int)(access:Int):(List Int):=(Q81 m entry access).m
abbrev Qf1(m:(List Int))(entry:Int)(access:Int):Prop:=(Q81 m entry access).p
def Z3t:Q0c:=mkP 251 [] true [.one (.ints .u32), .one (.int .u32), .one (.int .i64)] [] (λargs rows=>Qf1 (argL .u32 args 0) (argI args 1) (argI args 2)) (λargs rows=>Qbg (argL .u32 args 0) (argI args 1) (argI args 2)) (λX=> .all 0) (λX=>[⟨false,23,1, .ints .u32 X⟩])
theorem Z02:Q05 Tryz.prog Z3t:=Q0n Q0j Q0k (.cons Qae (.cons Q0w (.cons Qmu (.nil)))) Tryz.func251 Tryz.call251 (λargs rows=>Q81 (argL .u32 args 0) (argI args 1) (argI args 2)) [.row 23 1 (.ints .u32)] [] 2 (λ_ _ _=>by kernel_rfl) (λ_ _=>rfl) (λ_ _ h=>h) (λ_ X=>by kernel_rfl)
def Q5y(c:Q04)(m:(List Int))(va:Int)(size:Int)(access:Int):Tree (Int×(List Int)×Int):=
.lv (Qq7 access) λ(x0:Int×Bool)=>let T3:Tree ((Int×(List Int)×Int)):= .an (Q06 m) (.lv (Q03 m) λ(x1:List Int)=> .lf (0,x1,5)); .br (!x0.2) T3 (let T1:Tree ((Int×(List Int)×Int)):= .cn (decide (wrap u32 size≠0)) (.br (Int.tmod va (wrap u32 size) !=0) (.an (Q06 m) (.lv (Q03 m) λ(x3:List Int)=> .lf (0,x3,3))) (.lv (Q9m c) λ(x4:Bool)=>let T2:Tree ((Int×(List Int)×Int)):= .an (Q30 m va size) (.lv (Q4i m va size) λ(x8:Int×Bool)=> .br (!x8.2) (.an (Q06 m) (.lv (Q03 m) λ(x9:List Int)=> .lf (0,x9,x0.1))) (.an (Q06 m) (.lv (Q03 m) λ(x10:List Int)=> .lf (va,x10,0)))); .br (!x4) (.br (iand u32 c.B6.a0 (4:Int) !=(0:Int)) (.an (Qgp m c.B6.a6 va access) (.lv (Qi m c.B6.a6 va access) λ(x5:Q14)=> .br (x5.F1 !=0) (.an (Q06 m) (.lv (Q03 m) λ(x6:List Int)=> .lf (0,x6,x5.F1))) (.an (Qf1 m x5.F3 access) (.lv (Qbg m x5.F3 access) λ(x7:List Int)=> .lf (x5.Addr,x7,0))))) T2) T2)); .br (size !=1) (.br (size !=4) T3 T1) T1)
def Q1w(c:Q04)(m:(List Int))(va:Int)(size:Int)(access:Int):(Int×(List Int)×Int):=(Q5y c m va size access).m
abbrev Q8x(c:Q04)(m:(List Int))(va:Int)(size:Int)(access:Int):Prop:=(Q5y c m va size access).p
def Z7w:Q0c:=mkP 210 [] true [.agg Q04.sig, .one (.ints .u32), .one (.int .u32), .one (.int .i64), .one (.int .i64)] [] (λargs rows=>Q8x (Q04.of (args.getD 0 .dead).cells) (argL .u32 args 1) (argI args 2) (argI args 3) (argI args 4)) (λargs rows=>Q1w (Q04.of (args.getD 0 .dead).cells) (argL .u32 args 1) (argI args 2) (argI args 3) (argI args 4)) (λX=> .tup [.int .u32 (X.1), .all 0, .int .i64 (X.2.2)]) (λX=>[⟨false,23,1, .ints .u32 (X.2.1)⟩])
theorem Qjh:Q05 Tryz.prog Z7w:=Q0n Q0j Q0k (.cons Z24 (.cons Q0w (.cons Qs0 (.cons Z2l (.cons Z02 (.cons Qae (.nil))))))) Tryz.func210 Tryz.call210 (λargs rows=>Q5y (Q04.of (args.getD 0 .dead).cells) (argL .u32 args 1) (argI args 2) (argI args 3) (argI args 4)) [.row 23 1 (.ints .u32)] [] 2 (λ_ _ _=>by kernel_rfl) (λ_ _=>rfl) (λ_ _ h=>h) (λ_ X=>by kernel_rfl)
def Qb5(c:Q04)(m:(List Int)):Tree (Int×(List Int)×Int):=
.an (Q8x c m c.Pc 4 1) (.lv (Q1w c m c.Pc 4 1) λ(x0:Int×List Int×Int)=> .br (x0.2.2 !=0) (.lf (0,x0.2.1,x0.2.2)) (.an (Q30 x0.2.1 x0.1 4) (.lv (Q4i x0.2.1 x0.1 4) λ(x1:Int×Bool)=> .lf (x1.1,x0.2.1,0))))
def Qn8(c:Q04)(m:(List Int)):(Int×(List Int)×Int):=(Qb5 c m).m
abbrev Qkp(c:Q04)(m:(List Int)):Prop:=(Qb5 c m).p
def Zg0:Q0c:=mkP 155 [] true [.agg Q04.sig, .one (.ints .u32)] [] (λargs rows=>Qkp (Q04.of (args.getD 0 .dead).cells) (argL .u32 args 1)) (λargs rows=>Qn8 (Q04.of (args.getD 0 .dead).cells) (argL .u32 args 1)) (λX=> .tup [.int .u32 (X.1), .all 0, .int .i64 (X.2.2)]) (λX=>[⟨false,23,1, .ints .u32 (X.2.1)⟩])
theorem Zax:Q05 Tryz.prog Zg0:=Q0n Q0j Q0k (.cons Qjh (.cons Qae (.nil))) Tryz.func155 Tryz.call155 (λargs rows=>Qb5 (Q04.of (args.getD 0 .dead).cells) (argL .u32 args 1)) [.row 23 1 (.ints .u32)] [] 2 (λ_ _ _=>by kernel_rfl) (λ_ _=>rfl) (λ_ _ h=>h) (λ_ X=>by kernel_rfl)
def Qm1(op:Int):Tree Bool:=
.br (op==57) (.lf true) (.br (op==58) (.lf true) (.br (op==59) (.lf true) (.br (op==60) (.lf true) (.br (op==61) (.lf true) (.br (op==62) (.lf true) (.br (op==63) (.lf true) (.br (op==64) (.lf true) (.lf false))))))))
def Q82(op:Int):Bool:=(Qm1 op).m
def Qx2:Q0c:=mkR 157 [] true [.one (.int .i64)] [] (λargs rows=>Q82 (argI args 0)) (λX=> .bool X) (λX=>[])
theorem Quh:Q05 Tryz.prog Qx2:=Q0z Q0j Q0k (.nil) Tryz.func157 Tryz.call157 (λargs rows=>Qm1 (argI args 0)) [] [] 2 (λ_ _ _=>by kernel_rfl) (λ_ _=>rfl) (λ_ _=>Tree.free_ok (by kernel_rfl)) (λ_ X=>by kernel_rfl)
def Qqg(op:Int):Tree Int:=
.br (op==32) (.lf 4) (.br (op==35) (.lf 4) (.lf 1))
def Qeq(op:Int):Int:=(Qqg op).m
def Zgn:Q0c:=mkR 216 [] true [.one (.int .i64)] [] (λargs rows=>Qeq (argI args 0)) (λX=> .int .i64 X) (λX=>[])
theorem Qwb:Q05 Tryz.prog Zgn:=Q0z Q0j Q0k (.nil) Tryz.func216 Tryz.call216 (λargs rows=>Qqg (argI args 0)) [] [] 2 (λ_ _ _=>by kernel_rfl) (λ_ _=>rfl) (λ_ _=>Tree.free_ok (by kernel_rfl)) (λ_ X=>by kernel_rfl)
def Qc0(c:Q04)(register:Int)(v:Int):Tree Q04:=
.br (register !=0) (.cn (Nat.blt 0 1&&decide (0<=register/\register<(↑16:Int))) (.lf ({X:=A16.of 0 (List.set (A16.l c.X) register.toNat v),Pc:=c.Pc,B6:=c.B6}))) (.lf c)
def Qa7(c:Q04)(register:Int)(v:Int):Q04:=(Qc0 c register v).m
abbrev Q77(c:Q04)(register:Int)(v:Int):Prop:=(Qc0 c register v).p
def vA:Q0c:=mkP 217 [] true [.agg Q04.sig, .one (.int .i64), .one (.int .u32)] [] (λargs rows=>Q77 (Q04.of (args.getD 0 .dead).cells) (argI args 1) (argI args 2)) (λargs rows=>Qa7 (Q04.of (args.getD 0 .dead).cells) (argI args 1) (argI args 2)) (λX=> .agg (Q04.cells X)) (λX=>[])
theorem Z5s:Q05 Tryz.prog vA:=Q0n Q0j Q0k (.nil) Tryz.func217 Tryz.call217 (λargs rows=>Qc0 (Q04.of (args.getD 0 .dead).cells) (argI args 1) (argI args 2)) [] [] 2 (λ_ _ _=>by kernel_rfl) (λ_ _=>rfl) (λ_ _ h=>h) (λ_ X=>by kernel_rfl)
def Qd4(c:Q04)(m:(List Int))(i:Q0i):Tree (Q04×(List Int)):=
.cn (Nat.blt 0 1&&decide (0<=i.B/\i.B<(↑16:Int))) (.lv (Qeq i.Op) λ(x0:Int)=>let E1:=wrap u32 (List.getD (A16.l c.X) i.B.toNat 0+wrap u32 i.Imm); .an (Q8x c m E1 x0 2) (.lv (Q1w c m E1 x0 2) λ(x1:Int×List Int×Int)=> .br (x1.2.2 !=0) (.lv (Q48 c x1.2.2 E1) λ(x2:Q04)=> .lf (x2,x1.2.1)) (.lv (Qeq i.Op) λ(x3:Int)=> .an (Q30 x1.2.1 x1.1 x3) (.lv (Q4i x1.2.1 x1.1 x3) λ(x4:Int×Bool)=> .br (i.Op==33) (.an (Qb1 x4.1 8) (.lv (Q28 x4.1 8) λ(x5:Int)=> .an (Q77 c i.A x5) (.lv (Qa7 c i.A x5) λ(x6:Q04)=> .lf ({X:=x6.X,Pc:=wrap u32 (x6.Pc+4),B6:=x6.B6},x1.2.1)))) (.an (Q77 c i.A x4.1) (.lv (Qa7 c i.A x4.1) λ(x7:Q04)=> .lf ({X:=x7.X,Pc:=wrap u32 (x7.Pc+4),B6:=x7.B6},x1.2.1)))))))
def Q69(c:Q04)(m:(List Int))(i:Q0i):(Q04×(List Int)):=(Qd4 c m i).m
abbrev Qw(c:Q04)(m:(List Int))(i:Q0i):Prop:=(Qd4 c m i).p
def Zlb:Q0c:=mkP 159 [] true [.agg Q04.sig, .one (.ints .u32), .agg Q0i.sig] [] (λargs rows=>Qw (Q04.of (args.getD 0 .dead).cells) (argL .u32 args 1) (Q0i.of (args.getD 2 .dead).cells)) (λargs rows=>Q69 (Q04.of (args.getD 0 .dead).cells) (argL .u32 args 1) (Q0i.of (args.getD 2 .dead).cells)) (λX=> .tup [.agg (Q04.cells (X.1)), .all 0]) (λX=>[⟨false,23,1, .ints .u32 (X.2)⟩])
theorem Zeu:Q05 Tryz.prog Zlb:=Q0n Q0j Q0k (.cons Qjh (.cons Qwb (.cons Qhc (.cons Qae (.cons Qij (.cons Z5s (.nil))))))) Tryz.func159 Tryz.call159 (λargs rows=>Qd4 (Q04.of (args.getD 0 .dead).cells) (argL .u32 args 1) (Q0i.of (args.getD 2 .dead).cells)) [.row 23 1 (.ints .u32)] [] 2 (λ_ _ _=>by kernel_rfl) (λ_ _=>rfl) (λ_ _ h=>h) (λ_ X=>by kernel_rfl)
def Qat(c:Q04)(m:(List Int))(i:Q0i):Tree (Q04×(List Int)):=
.cn (Nat.blt 0 1&&decide (0<=i.B/\i.B<(↑16:Int))) (.lv (Qeq i.Op) λ(x0:Int)=>let E1:=wrap u32 (List.getD (A16.l c.X) i.B.toNat 0+wrap u32 i.Imm); .an (Q8x c m E1 x0 3) (.lv (Q1w c m E1 x0 3) λ(x1:Int×List Int×Int)=> .br (x1.2.2 !=0) (.lv (Q48 c x1.2.2 E1) λ(x2:Q04)=> .lf (x2,x1.2.1)) (.lv (Qeq i.Op) λ(x3:Int)=> .cn (Nat.blt 0 1&&decide (0<=i.A/\i.A<(↑16:Int))) (let E2:=List.getD (A16.l c.X) i.A.toNat 0; .an (Qam x1.2.1 x1.1 x3 E2) (.lv (Q92 x1.2.1 x1.1 x3 E2) λ(x4:List Int×Bool)=> .lf ({X:=c.X,Pc:=wrap u32 (c.Pc+4),B6:=c.B6},x4.1))))))
def Q7x(c:Q04)(m:(List Int))(i:Q0i):(Q04×(List Int)):=(Qat c m i).m
abbrev Qrl(c:Q04)(m:(List Int))(i:Q0i):Prop:=(Qat c m i).p
def Zfr:Q0c:=mkP 160 [] true [.agg Q04.sig, .one (.ints .u32), .agg Q0i.sig] [] (λargs rows=>Qrl (Q04.of (args.getD 0 .dead).cells) (argL .u32 args 1) (Q0i.of (args.getD 2 .dead).cells)) (λargs rows=>Q7x (Q04.of (args.getD 0 .dead).cells) (argL .u32 args 1) (Q0i.of (args.getD 2 .dead).cells)) (λX=> .tup [.agg (Q04.cells (X.1)), .all 0]) (λX=>[⟨false,23,1, .ints .u32 (X.2)⟩])
theorem Za2:Q05 Tryz.prog Zfr:=Q0n Q0j Q0k (.cons Qjh (.cons Qwb (.cons Qhc (.cons Qmu (.nil))))) Tryz.func160 Tryz.call160 (λargs rows=>Qat (Q04.of (args.getD 0 .dead).cells) (argL .u32 args 1) (Q0i.of (args.getD 2 .dead).cells)) [.row 23 1 (.ints .u32)] [] 2 (λ_ _ _=>by kernel_rfl) (λ_ _=>rfl) (λ_ _ h=>h) (λ_ X=>by kernel_rfl)
def Z1x(op:Int)(a:Int)(b:Int):Tree Bool:=
.br (op==40) (.lf (a==b)) (.br (op==41) (.lf (a !=b)) (.br (op==42) (.lf (decide (wrap i32 a<wrap i32 b))) (.br (op==43) (.lf (decide (wrap i32 a>=wrap i32 b))) (.br (op==44) (.lf (decide (a<b))) (.lf (decide (a>=b)))))))
def Zcd(op:Int)(a:Int)(b:Int):Bool:=(Z1x op a b).m
def Zg4:Q0c:=mkR 219 [] true [.one (.int .i64), .one (.int .u32), .one (.int .u32)] [] (λargs rows=>Zcd (argI args 0) (argI args 1) (argI args 2)) (λX=> .bool X) (λX=>[])
theorem Za7:Q05 Tryz.prog Zg4:=Q0z Q0j Q0k (.nil) Tryz.func219 Tryz.call219 (λargs rows=>Z1x (argI args 0) (argI args 1) (argI args 2)) [] [] 2 (λ_ _ _=>by kernel_rfl) (λ_ _=>rfl) (λ_ _=>Tree.free_ok (by kernel_rfl)) (λ_ X=>by kernel_rfl)
def Qe3(c:Q04):Tree Q04:=
.lv (Q8j c.B6.a0 8 1) λ(x0:Int)=> .lv (Q8j x0 16 2) λ(x1:Int)=> .lf ({X:=c.X,Pc:=c.B6.a2,B6:={a0:=x1,a1:=c.B6.a1,a2:=c.B6.a2,a3:=c.B6.a3,a4:=c.B6.a4,a5:=c.B6.a5,a6:=c.B6.a6,a7:=c.B6.a7}})
def Qd8(c:Q04):Q04:=(Qe3 c).m
def Zc8:Q0c:=mkR 220 [] true [.agg Q04.sig] [] (λargs rows=>Qd8 (Q04.of (args.getD 0 .dead).cells)) (λX=> .agg (Q04.cells X)) (λX=>[])
theorem Z8y:Q05 Tryz.prog Zc8:=Q0z Q0j Q0k (.cons Qz3 (.nil)) Tryz.func220 Tryz.call220 (λargs rows=>Qe3 (Q04.of (args.getD 0 .dead).cells)) [] [] 2 (λ_ _ _=>by kernel_rfl) (λ_ _=>rfl) (λ_ _=>Tree.free_ok (by kernel_rfl)) (λ_ X=>by kernel_rfl)
def Qaz(c:Q04)(csr:Int)(v:Int):Tree Q04:=
let E4:=Nat.blt 0 1&&decide (0<=csr/\csr<(↑8:Int));let T2:Tree (Q04):= .cn E4 (.lf ({X:=c.X,Pc:=c.Pc,B6:=A8.of 0 (List.set (A8.l c.B6) csr.toNat (iand u32 v 31))})); .br (csr==0) T2 (.br (csr==7) T2 (.br (csr==6) (.cn E4 (.lf ({X:=c.X,Pc:=c.Pc,B6:=A8.of 0 (List.set (A8.l c.B6) csr.toNat (iand u32 v 255))}))) (let T3:Tree (Q04):= .cn E4 (.lf ({X:=c.X,Pc:=c.Pc,B6:=A8.of 0 (List.set (A8.l c.B6) csr.toNat (Qft u32 v 3))})); .br (csr==1) T3 (.br (csr==2) T3 (let T1:Tree (Q04):= .cn E4 (.lf ({X:=c.X,Pc:=c.Pc,B6:=A8.of 0 (List.set (A8.l c.B6) csr.toNat v)})); .br (csr==3) T1 (.br (csr==4) T1 (.br (csr==5) T1 (.lf c))))))))
def Zb9(c:Q04)(csr:Int)(v:Int):Q04:=(Qaz c csr v).m
abbrev Qrq(c:Q04)(csr:Int)(v:Int):Prop:=(Qaz c csr v).p
def Zex:Q0c:=mkP 221 [] true [.agg Q04.sig, .one (.int .i64), .one (.int .u32)] [] (λargs rows=>Qrq (Q04.of (args.getD 0 .dead).cells) (argI args 1) (argI args 2)) (λargs rows=>Zb9 (Q04.of (args.getD 0 .dead).cells) (argI args 1) (argI args 2)) (λX=> .agg (Q04.cells X)) (λX=>[])
theorem Zc:Q05 Tryz.prog Zex:=Q0n Q0j Q0k (.nil) Tryz.func221 Tryz.call221 (λargs rows=>Qaz (Q04.of (args.getD 0 .dead).cells) (argI args 1) (argI args 2)) [] [] 2 (λ_ _ _=>by kernel_rfl) (λ_ _=>rfl) (λ_ _ h=>h) (λ_ X=>by kernel_rfl)
def Q4v(c:Q04)(i:Q0i):Tree (Q04×Q11):=
.cn (Nat.blt 0 1&&decide (0<=i.A/\i.A<(↑16:Int))) (.cn (Nat.blt 0 1&&decide (0<=i.B/\i.B<(↑16:Int))) (.br (i.Op==24) (.an (Q77 c i.A (ishl u32 (wrap u32 i.Imm) 16)) (.lv (Qa7 c i.A (ishl u32 (wrap u32 i.Imm) 16)) λ(x0:Q04)=> .lf ({X:=x0.X,Pc:=wrap u32 (c.Pc+4),B6:=x0.B6},{B5:=0,D1:=0,E0:=0,Value:=0}))) (let E2:=({X:=c.X,Pc:=wrap u32 (c.Pc+4),B6:=c.B6}:Q04);let E3:=List.getD (A16.l c.X) i.B.toNat 0;let E4:=List.getD (A16.l c.X) i.A.toNat 0;let T1:Tree ((Q04×Q11)):= .lv (Zcd i.Op E4 E3) λ(x1:Bool)=> .br x1 (.lf ({X:=c.X,Pc:=wrap u32 (c.Pc+wrap u32 (4*wrap u32 i.Imm)),B6:=c.B6},{B5:=0,D1:=0,E0:=0,Value:=0})) (.lf (E2,{B5:=0,D1:=0,E0:=0,Value:=0})); .br (i.Op==40) T1 (.br (i.Op==41) T1 (.br (i.Op==42) T1 (.br (i.Op==43) T1 (.br (i.Op==44) T1 (.br (i.Op==45) T1 (.br (i.Op==48) (.an (Q77 c i.A (wrap u32 (c.Pc+4))) (.lv (Qa7 c i.A (wrap u32 (c.Pc+4))) λ(x7:Q04)=> .lf ({X:=x7.X,Pc:=wrap u32 (x7.Pc+wrap u32 (4*wrap u32 i.Imm)),B6:=x7.B6},{B5:=0,D1:=0,E0:=0,Value:=0}))) (.br (i.Op==49) (.an (Q77 c i.A (wrap u32 (c.Pc+4))) (.lv (Qa7 c i.A (wrap u32 (c.Pc+4))) λ(x8:Q04)=> .lf ({X:=x8.X,Pc:=wrap u32 (List.getD (A16.l c.X) i.B.toNat 0+wrap u32 i.Imm),B6:=x8.B6},{B5:=0,D1:=0,E0:=0,Value:=0}))) (.br (i.Op==56) (.lv (Q48 c 7 0) λ(x9:Q04)=> .lf (x9,{B5:=0,D1:=0,E0:=0,Value:=0})) (.br (i.Op==57) (.lv (Qd8 c) λ(x10:Q04)=> .lf (x10,{B5:=0,D1:=0,E0:=0,Value:=0})) (.br (i.Op==58) (.cn (Nat.blt 0 1&&decide (0<=i.Imm/\i.Imm<(↑8:Int))) (let E5:=List.getD (A8.l c.B6) i.Imm.toNat 0; .an (Q77 c i.A E5) (.lv (Qa7 c i.A E5) λ(x11:Q04)=> .lf ({X:=x11.X,Pc:=wrap u32 (c.Pc+4),B6:=x11.B6},{B5:=0,D1:=0,E0:=0,Value:=0})))) (.br (i.Op==59) (.an (Qrq c (wrap i64 i.Imm) E4) (.lv (Zb9 c (wrap i64 i.Imm) E4) λ(x12:Q04)=> .lf ({X:=x12.X,Pc:=wrap u32 (c.Pc+4),B6:=x12.B6},{B5:=0,D1:=0,E0:=0,Value:=0}))) (.br (i.Op==60) (.lf (E2,{B5:=1,D1:=wrap i64 i.Imm,E0:=i.A,Value:=0})) (.br (i.Op==61) (.lf (E2,{B5:=2,D1:=wrap i64 i.Imm,E0:=0,Value:=List.getD (A16.l c.X) i.A.toNat 0})) (.br (i.Op==62) (.lf (E2,{B5:=3,D1:=0,E0:=0,Value:=0})) (.br (i.Op==63) (.lf (E2,{B5:=5,D1:=0,E0:=0,Value:=0})) (.br (i.Op==64) (.lf (E2,{B5:=4,D1:=0,E0:=0,Value:=0})) (.cn (Nat.blt 0 1&&decide (0<=i.C/\i.C<(↑16:Int))) (.br (decide (i.Op>=16)) (.an (Qqb i.Op E3 (wrap u32 i.Imm)) (.lv (Q42 i.Op E3 (wrap u32 i.Imm)) λ(x13:Int×Bool)=> .an (Q77 c i.A x13.1) (.lv (Qa7 c i.A x13.1) λ(x14:Q04)=> .lf ({X:=x14.X,Pc:=wrap u32 (c.Pc+4),B6:=x14.B6},{B5:=0,D1:=0,E0:=0,Value:=0})))) (let E6:=List.getD (A16.l c.X) i.C.toNat 0; .an (Qqb i.Op E3 E6) (.lv (Q42 i.Op E3 E6) λ(x15:Int×Bool)=> .an (Q77 c i.A x15.1) (.lv (Qa7 c i.A x15.1) λ(x16:Q04)=> .lf ({X:=x16.X,Pc:=wrap u32 (c.Pc+4),B6:=x16.B6},{B5:=0,D1:=0,E0:=0,Value:=0})))))))))))))))))))))))))
def Ql9(c:Q04)(i:Q0i):(Q04×Q11):=(Q4v c i).m
abbrev Qnn(c:Q04)(i:Q0i):Prop:=(Q4v c i).p
def Z6b:Q0c:=mkP 161 [] true [.agg Q04.sig, .agg Q0i.sig] [] (λargs rows=>Qnn (Q04.of (args.getD 0 .dead).cells) (Q0i.of (args.getD 1 .dead).cells)) (λargs rows=>Ql9 (Q04.of (args.getD 0 .dead).cells) (Q0i.of (args.getD 1 .dead).cells)) (λX=> .tup [.agg (Q04.cells (X.1)), .agg (Q11.cells (X.2))]) (λX=>[])
theorem Z42:Q05 Tryz.prog Z6b:=Q0n Q0j Q0k (.cons Z5s (.cons Za7 (.cons Qhc (.cons Z8y (.cons Zc (.cons Zjs (.nil))))))) Tryz.func161 Tryz.call161 (λargs rows=>Q4v (Q04.of (args.getD 0 .dead).cells) (Q0i.of (args.getD 1 .dead).cells)) [] [] 2 (λ_ _ _=>by kernel_rfl) (λ_ _=>rfl) (λ_ _ h=>h) (λ_ X=>by kernel_rfl)
def Q6l(c:Q04)(m:(List Int)):Tree (Q04×(List Int)×Q11):=
.an (Qkp c m) (.lv (Qn8 c m) λ(x0:Int×List Int×Int)=> .br (x0.2.2 !=0) (.lv (Q48 c x0.2.2 c.Pc) λ(x1:Q04)=> .lf (x1,x0.2.1,{B5:=0,D1:=0,E0:=0,Value:=0})) (.an (Qj4 x0.1) (.lv (Qgj x0.1) λ(x2:Q0i×Bool)=> .br (!x2.2) (.lv (Q48 c 1 x0.1) λ(x3:Q04)=> .lf (x3,x0.2.1,{B5:=0,D1:=0,E0:=0,Value:=0})) (.lv (Q82 x2.1.Op) λ(x4:Bool)=>let T1:Tree ((Q04×(List Int)×Q11)):=let T2:Tree ((Q04×(List Int)×Q11)):= .an (Qw c x0.2.1 x2.1) (.lv (Q69 c x0.2.1 x2.1) λ(x7:Q04×List Int)=> .lf (x7.1,x7.2,{B5:=0,D1:=0,E0:=0,Value:=0})); .br (x2.1.Op==32) T2 (.br (x2.1.Op==33) T2 (.br (x2.1.Op==34) T2 (let T3:Tree ((Q04×(List Int)×Q11)):= .an (Qrl c x0.2.1 x2.1) (.lv (Q7x c x0.2.1 x2.1) λ(x10:Q04×List Int)=> .lf (x10.1,x10.2,{B5:=0,D1:=0,E0:=0,Value:=0})); .br (x2.1.Op==35) T3 (.br (x2.1.Op==36) T3 (.an (Qnn c x2.1) (.lv (Ql9 c x2.1) λ(x12:Q04×Q11)=> .lf (x12.1,x0.2.1,x12.2))))))); .br x4 (.lv (Q9m c) λ(x5:Bool)=> .br (!x5) (.lv (Q48 c 2 x0.1) λ(x6:Q04)=> .lf (x6,x0.2.1,{B5:=0,D1:=0,E0:=0,Value:=0})) T1) T1))))
def Q4s(c:Q04)(m:(List Int)):(Q04×(List Int)×Q11):=(Q6l c m).m
abbrev Qiz(c:Q04)(m:(List Int)):Prop:=(Q6l c m).p
def Zjp:Q0c:=mkP 107 [] true [.agg Q04.sig, .one (.ints .u32)] [] (λargs rows=>Qiz (Q04.of (args.getD 0 .dead).cells) (argL .u32 args 1)) (λargs rows=>Q4s (Q04.of (args.getD 0 .dead).cells) (argL .u32 args 1)) (λX=> .tup [.agg (Q04.cells (X.1)), .all 0, .agg (Q11.cells (X.2.2))]) (λX=>[⟨false,23,1, .ints .u32 (X.2.1)⟩])
theorem Z1l:Q05 Tryz.prog Zjp:=Q0n Q0j Q0k (.cons Zax (.cons Qhc (.cons Z7v (.cons Quh (.cons Qs0 (.cons Zeu (.cons Za2 (.cons Z42 (.nil))))))))) Tryz.func107 Tryz.call107 (λargs rows=>Q6l (Q04.of (args.getD 0 .dead).cells) (argL .u32 args 1)) [.row 23 1 (.ints .u32)] [] 2 (λ_ _ _=>by kernel_rfl) (λ_ _=>rfl) (λ_ _ h=>h) (λ_ X=>by kernel_rfl)
end
end Go.Proofs.YtjaifpiopmhmlaaGreat

/-
  Functions of the program: models, and that its calls come to them (by a program: gen3.py).
-/
import Derived.Test.YtjaifpiopmhmlaaGreatBarePositionsBase
import Derived.Test.YtjaifpiopmhmlaaGreatBarePositionsYa
set_option maxRecDepth 100000
set_option linter.unusedVariables false
set_option linter.unusedSimpArgs false
namespace Go.Proofs.YtjaifpiopmhmlaaGreat
open Go Go.GD Go.IntKind
noncomputable section
def Qnq(status:Int)(from0:Int)(to:Int):Tree Int:=
.br (iand u32 status from0 !=0) (.lf (ior u32 status to)) (.lf (Qfg u32 status to))
def Q8e(status:Int)(from0:Int)(to:Int):Int:=(Qnq status from0 to).m
def Ziv:Q0c:=mkR 209 [] true [.one (.int .u32), .one (.int .u32), .one (.int .u32)] [] (λargs rows=>Q8e (argI args 0) (argI args 1) (argI args 2)) (λX=> .int .u32 X) (λX=>[])
theorem Qz6:Q05 Tryz.prog Ziv:=Q0z Q0k Q0l (.nil) Tryz.func209 Tryz.call209 (λargs rows=>Qnq (argI args 0) (argI args 1) (argI args 2)) [] [] 2 (λ_ _ _=>by kernel_rfl) (λ_ _=>rfl) (λ_ _=>Tree.free_ok (by kernel_rfl)) (λ_ X=>by kernel_rfl)
def Qjl(c:Q04)(cause:Int)(bad:Int):Tree Q04:=
.lv (Q8e c.B6.a0 1 8) λ(x0:Int)=> .lv (Q8e x0 2 16) λ(x1:Int)=> .lf ({X:=c.X,Pc:=c.B6.a1,B6:={a0:=Qfg u32 (ior u32 x1 1) 2,a1:=c.B6.a1,a2:=c.Pc,a3:=wrap u32 cause,a4:=bad,a5:=c.B6.a5,a6:=c.B6.a6,a7:=c.B6.a7}})
def Q43(c:Q04)(cause:Int)(bad:Int):Q04:=(Qjl c cause bad).m
def Zkm:Q0c:=mkR 154 [] true [.agg Q04.sig, .one (.int .i64), .one (.int .u32)] [] (λargs rows=>Q43 (Q04.of (args.getD 0 .dead).cells) (argI args 1) (argI args 2)) (λX=> .agg (Q04.cells X)) (λX=>[])
theorem Qhy:Q05 Tryz.prog Zkm:=Q0z Q0k Q0l (.cons Qz6 (.nil)) Tryz.func154 Tryz.call154 (λargs rows=>Qjl (Q04.of (args.getD 0 .dead).cells) (argI args 1) (argI args 2)) [] [] 2 (λ_ _ _=>by kernel_rfl) (λ_ _=>rfl) (λ_ _=>Tree.free_ok (by kernel_rfl)) (λ_ X=>by kernel_rfl)
def Qrn(access:Int):Tree (Int×Bool):=
.br (access==1) (.lf (4,true)) (.br (access==2) (.lf (5,true)) (.br (access==3) (.lf (6,true)) (.lf (5,false))))
def Qq5(access:Int):(Int×Bool):=(Qrn access).m
def Z80:Q0c:=mkR 249 [] true [.one (.int .i64)] [] (λargs rows=>Qq5 (argI args 0)) (λX=> .tup [.int .i64 (X.1), .bool (X.2)]) (λX=>[])
theorem Z1m:Q05 Tryz.prog Z80:=Q0z Q0k Q0l (.nil) Tryz.func249 Tryz.call249 (λargs rows=>Qrn (argI args 0)) [] [] 2 (λ_ _ _=>by kernel_rfl) (λ_ _=>rfl) (λ_ _=>Tree.free_ok (by kernel_rfl)) (λ_ X=>by kernel_rfl)
def Qvn(c:Q04):Tree Bool:=
.lf (iand u32 c.B6.a0 (1:Int) !=(0:Int))
def Q9i(c:Q04):Bool:=(Qvn c).m
def Zb2:Q0c:=mkR 158 [] true [.agg Q04.sig] [] (λargs rows=>Q9i (Q04.of (args.getD 0 .dead).cells)) (λX=> .bool X) (λX=>[])
theorem Qql:Q05 Tryz.prog Zb2:=Q0z Q0k Q0l (.nil) Tryz.func158 Tryz.call158 (λargs rows=>Qvn (Q04.of (args.getD 0 .dead).cells)) [] [] 2 (λ_ _ _=>by kernel_rfl) (λ_ _=>rfl) (λ_ _=>Tree.free_ok (by kernel_rfl)) (λ_ X=>by kernel_rfl)
def Qlt(access:Int):Tree (Int×Bool):=
.br (access==1) (.lf (4,true)) (.br (access==2) (.lf (5,true)) (.br (access==3) (.lf (6,true)) (.lf (5,false))))
def Qj(access:Int):(Int×Bool):=(Qlt access).m
def Qx2:Q0c:=mkR 269 [] true [.one (.int .i64)] [] (λargs rows=>Qj (argI args 0)) (λX=> .tup [.int .i64 (X.1), .bool (X.2)]) (λX=>[])
theorem Qtn:Q05 Tryz.prog Qx2:=Q0z Q0k Q0l (.nil) Tryz.func269 Tryz.call269 (λargs rows=>Qlt (argI args 0)) [] [] 2 (λ_ _ _=>by kernel_rfl) (λ_ _=>rfl) (λ_ _=>Tree.free_ok (by kernel_rfl)) (λ_ X=>by kernel_rfl)
def Qhs(m:(List Int))(frame:Int):Tree Bool:=
.lv (Q0v m) λ(x0:Int)=> .lf (decide (wrap u64 frame<wrap u64 x0))
def Q9j(m:(List Int))(frame:Int):Bool:=(Qhs m frame).m
def Z0d:Q0c:=mkR 270 [] true [.one (.ints .u32), .one (.int .u32)] [] (λargs rows=>Q9j (argL .u32 args 0) (argI args 1)) (λX=> .bool X) (λX=>[])
theorem Qxe:Q05 Tryz.prog Z0d:=Q0z Q0k Q0l (.cons Q3u (.nil)) Tryz.func270 Tryz.call270 (λargs rows=>Qhs (argL .u32 args 0) (argI args 1)) [] [] 2 (λ_ _ _=>by kernel_rfl) (λ_ _=>rfl) (λ_ _=>Tree.free_ok (by kernel_rfl)) (λ_ X=>by kernel_rfl)
def Q5z(m:(List Int))(addr:Int)(size:Int):Tree (Int×Bool):=
.an (Q9g m addr size) (.lv (Qfs m addr size) λ(x0:Bool)=> .br (!x0) (.lf (0,false)) (.cn (Nat.beq 1 1&&Nat.blt 0 1&&decide (0≤wrap u32 (Int.tdiv addr 4)∧wrap u32 (Int.tdiv addr 4)<(m.length:Int))) (let E1:=Int.toNat (wrap u32 (Int.tdiv addr 4)); .br (size==1) (let E2:=wrap i64 (wrap i64 (Int.tmod addr 4)*8); .an (Q4w (m.getD E1 0) E2 8) (.lv (Q2q (m.getD E1 0) E2 8) λ(x1:Int)=> .lf (x1,true))) (.lf (m.getD E1 0,true)))))
def Q4h(m:(List Int))(addr:Int)(size:Int):(Int×Bool):=(Q5z m addr size).m
abbrev Q30(m:(List Int))(addr:Int)(size:Int):Prop:=(Q5z m addr size).p
def Z7u:Q0c:=mkP 211 [] true [.one (.ints .u32), .one (.int .u32), .one (.int .i64)] [] (λargs rows=>Q30 (argL .u32 args 0) (argI args 1) (argI args 2)) (λargs rows=>Q4h (argL .u32 args 0) (argI args 1) (argI args 2)) (λX=> .tup [.int .u32 (X.1), .bool (X.2)]) (λX=>[])
theorem Qa8:Q05 Tryz.prog Z7u:=Q0n Q0k Q0l (.cons Qlq (.cons Qkh (.nil))) Tryz.func211 Tryz.call211 (λargs rows=>Q5z (argL .u32 args 0) (argI args 1) (argI args 2)) [] [] 2 (λ_ _ _=>by kernel_rfl) (λ_ _=>rfl) (λ_ _ h=>h) (λ_ X=>by kernel_rfl)
def Qlv(pte:Int)(access:Int):Tree Bool:=
.br (iand u32 pte (1:Int)==(0:Int)) (.lf false) (.br (access==3) (.lf (iand u32 pte (2:Int) !=(0:Int))) (.br (access==1) (.lf (iand u32 pte (4:Int) !=(0:Int))) (.lf true)))
def Qac(pte:Int)(access:Int):Bool:=(Qlv pte access).m
def Qwj:Q0c:=mkR 271 [] true [.one (.int .u32), .one (.int .i64)] [] (λargs rows=>Qac (argI args 0) (argI args 1)) (λX=> .bool X) (λX=>[])
theorem Qtu:Q05 Tryz.prog Qwj:=Q0z Q0k Q0l (.nil) Tryz.func271 Tryz.call271 (λargs rows=>Qlv (argI args 0) (argI args 1)) [] [] 2 (λ_ _ _=>by kernel_rfl) (λ_ _=>rfl) (λ_ _=>Tree.free_ok (by kernel_rfl)) (λ_ X=>by kernel_rfl)
def Q7u(pte:Int):Tree Int:=
.an (Q4w pte 8 8) (.lv (Q2q pte 8 8) λ(x0:Int)=> .lf x0)
def Qdp(pte:Int):Int:=(Q7u pte).m
abbrev Qca(pte:Int):Prop:=(Q7u pte).p
def Qx5:Q0c:=mkP 272 [] true [.one (.int .u32)] [] (λargs rows=>Qca (argI args 0)) (λargs rows=>Qdp (argI args 0)) (λX=> .int .u32 X) (λX=>[])
theorem Qth:Q05 Tryz.prog Qx5:=Q0n Q0k Q0l (.cons Qkh (.nil)) Tryz.func272 Tryz.call272 (λargs rows=>Q7u (argI args 0)) [] [] 2 (λ_ _ _=>by kernel_rfl) (λ_ _=>rfl) (λ_ _ h=>h) (λ_ X=>by kernel_rfl)
def Q9h(m:(List Int))(root:Int)(va:Int)(access:Int):Tree Q14:=
.lv (Qj access) λ(x0:Int×Bool)=>let E1:=({Addr:=0,F3:=0,F1:=x0.1}:Q14); .br (!x0.2) (.lf (E1)) (.br (decide (va≥4096)) (.lf (E1)) (.lv (Q9j m root) λ(x1:Bool)=> .br (!x1) (.lf (E1)) (let E2:=wrap u32 (root*128)+wrap u32 (4*wrap u32 (Int.tdiv va 128)); .an (Q30 m (wrap u32 E2) 4) (.lv (Q4h m (wrap u32 E2) 4) λ(x2:Int×Bool)=> .br (!x2.2) (.lf (E1)) (.lv (Qac x2.1 access) λ(x3:Bool)=> .br (!x3) (.lf (E1)) (.an (Qca x2.1) (.lv (Qdp x2.1) λ(x4:Int)=> .lv (Q9j m x4) λ(x5:Bool)=> .br (!x5) (.lf (E1)) (.an (Qca x2.1) (.lv (Qdp x2.1) λ(x6:Int)=> .lf ({Addr:=wrap u32 (wrap u32 (x6*128)+Int.tmod va 128),F3:=wrap u32 E2,F1:=0}))))))))))
def Qh0(m:(List Int))(root:Int)(va:Int)(access:Int):Q14:=(Q9h m root va access).m
abbrev Qh5(m:(List Int))(root:Int)(va:Int)(access:Int):Prop:=(Q9h m root va access).p
def Z87:Q0c:=mkP 250 [] true [.one (.ints .u32), .one (.int .u32), .one (.int .u32), .one (.int .i64)] [] (λargs rows=>Qh5 (argL .u32 args 0) (argI args 1) (argI args 2) (argI args 3)) (λargs rows=>Qh0 (argL .u32 args 0) (argI args 1) (argI args 2) (argI args 3)) (λX=> .agg (Q14.cells X)) (λX=>[])
theorem Z37:Q05 Tryz.prog Z87:=Q0n Q0k Q0l (.cons Qtn (.cons Qxe (.cons Qa8 (.cons Qtu (.cons Qth (.nil)))))) Tryz.func250 Tryz.call250 (λargs rows=>Q9h (argL .u32 args 0) (argI args 1) (argI args 2) (argI args 3)) [] [] 2 (λ_ _ _=>by kernel_rfl) (λ_ _=>rfl) (λ_ _ h=>h) (λ_ X=>by kernel_rfl)
def Q8(m:(List Int))(entry:Int)(access:Int):Tree (List Int):=
.an (Q30 m entry 4) (.lv (Q4h m entry 4) λ(x0:Int×Bool)=> .br (!x0.2) (.an (Q06 m) (.lv (Q02 m) λ(x1:List Int)=> .lf x1)) (.br (access==3) (.an (Qah m entry 4 (ior u32 (ior u32 x0.1 8) 16)) (.lv (Q94 m entry 4 (ior u32 (ior u32 x0.1 8) 16)) λ(x2:List Int×Bool)=> .lf x2.1)) (.an (Qah m entry 4 (ior u32 x0.1 8)) (.lv (Q94 m entry 4 (ior u32 x0.1 8)) λ(x3:List Int×Bool)=> .lf x3.1))))
def Qbe(m:(List Int))(entry:Int)(access:Int):(List Int):=(Q8 m entry access).m
abbrev Qf7(m:(List Int))(entry:Int)(access:Int):Prop:=(Q8 m entry access).p
def Z2c:Q0c:=mkP 251 [] true [.one (.ints .u32), .one (.int .u32), .one (.int .i64)] [] (λargs rows=>Qf7 (argL .u32 args 0) (argI args 1) (argI args 2)) (λargs rows=>Qbe (argL .u32 args 0) (argI args 1) (argI args 2)) (λX=> .all 0) (λX=>[⟨false,23,1, .ints .u32 X⟩])
theorem Z0b:Q05 Tryz.prog Z2c:=Q0n Q0k Q0l (.cons Qa8 (.cons Q0w (.cons Qn7 (.nil)))) Tryz.func251 Tryz.call251 (λargs rows=>Q8 (argL .u32 args 0) (argI args 1) (argI args 2)) [.row 23 1 (.ints .u32)] [] 2 (λ_ _ _=>by kernel_rfl) (λ_ _=>rfl) (λ_ _ h=>h) (λ_ X=>by kernel_rfl)
def Q60(c:Q04)(m:(List Int))(va:Int)(size:Int)(access:Int):Tree (Int×(List Int)×Int):=
.lv (Qq5 access) λ(x0:Int×Bool)=>let T3:Tree ((Int×(List Int)×Int)):= .an (Q06 m) (.lv (Q02 m) λ(x1:List Int)=> .lf (0,x1,5)); .br (!x0.2) T3 (let T1:Tree ((Int×(List Int)×Int)):= .cn (decide (wrap u32 size≠0)) (.br (Int.tmod va (wrap u32 size) !=0) (.an (Q06 m) (.lv (Q02 m) λ(x3:List Int)=> .lf (0,x3,3))) (.lv (Q9i c) λ(x4:Bool)=>let T2:Tree ((Int×(List Int)×Int)):= .an (Q30 m va size) (.lv (Q4h m va size) λ(x8:Int×Bool)=> .br (!x8.2) (.an (Q06 m) (.lv (Q02 m) λ(x9:List Int)=> .lf (0,x9,x0.1))) (.an (Q06 m) (.lv (Q02 m) λ(x10:List Int)=> .lf (va,x10,0)))); .br (!x4) (.br (iand u32 c.B6.a0 (4:Int) !=(0:Int)) (.an (Qh5 m c.B6.a6 va access) (.lv (Qh0 m c.B6.a6 va access) λ(x5:Q14)=> .br (x5.F1 !=0) (.an (Q06 m) (.lv (Q02 m) λ(x6:List Int)=> .lf (0,x6,x5.F1))) (.an (Qf7 m x5.F3 access) (.lv (Qbe m x5.F3 access) λ(x7:List Int)=> .lf (x5.Addr,x7,0))))) T2) T2)); .br (size !=1) (.br (size !=4) T3 T1) T1)
def Q1w(c:Q04)(m:(List Int))(va:Int)(size:Int)(access:Int):(Int×(List Int)×Int):=(Q60 c m va size access).m
abbrev Q8n(c:Q04)(m:(List Int))(va:Int)(size:Int)(access:Int):Prop:=(Q60 c m va size access).p
def Z7l:Q0c:=mkP 210 [] true [.agg Q04.sig, .one (.ints .u32), .one (.int .u32), .one (.int .i64), .one (.int .i64)] [] (λargs rows=>Q8n (Q04.of (args.getD 0 .dead).cells) (argL .u32 args 1) (argI args 2) (argI args 3) (argI args 4)) (λargs rows=>Q1w (Q04.of (args.getD 0 .dead).cells) (argL .u32 args 1) (argI args 2) (argI args 3) (argI args 4)) (λX=> .tup [.int .u32 (X.1), .all 0, .int .i64 (X.2.2)]) (λX=>[⟨false,23,1, .ints .u32 (X.2.1)⟩])
theorem Qj3:Q05 Tryz.prog Z7l:=Q0n Q0k Q0l (.cons Z1m (.cons Q0w (.cons Qql (.cons Z37 (.cons Z0b (.cons Qa8 (.nil))))))) Tryz.func210 Tryz.call210 (λargs rows=>Q60 (Q04.of (args.getD 0 .dead).cells) (argL .u32 args 1) (argI args 2) (argI args 3) (argI args 4)) [.row 23 1 (.ints .u32)] [] 2 (λ_ _ _=>by kernel_rfl) (λ_ _=>rfl) (λ_ _ h=>h) (λ_ X=>by kernel_rfl)
def Qav(c:Q04)(m:(List Int)):Tree (Int×(List Int)×Int):=
.an (Q8n c m c.Pc 4 1) (.lv (Q1w c m c.Pc 4 1) λ(x0:Int×List Int×Int)=> .br (x0.2.2 !=0) (.lf (0,x0.2.1,x0.2.2)) (.an (Q30 x0.2.1 x0.1 4) (.lv (Q4h x0.2.1 x0.1 4) λ(x1:Int×Bool)=> .lf (x1.1,x0.2.1,0))))
def Qmh(c:Q04)(m:(List Int)):(Int×(List Int)×Int):=(Qav c m).m
abbrev Ql2(c:Q04)(m:(List Int)):Prop:=(Qav c m).p
def Ze5:Q0c:=mkP 155 [] true [.agg Q04.sig, .one (.ints .u32)] [] (λargs rows=>Ql2 (Q04.of (args.getD 0 .dead).cells) (argL .u32 args 1)) (λargs rows=>Qmh (Q04.of (args.getD 0 .dead).cells) (argL .u32 args 1)) (λX=> .tup [.int .u32 (X.1), .all 0, .int .i64 (X.2.2)]) (λX=>[⟨false,23,1, .ints .u32 (X.2.1)⟩])
theorem Zc1:Q05 Tryz.prog Ze5:=Q0n Q0k Q0l (.cons Qj3 (.cons Qa8 (.nil))) Tryz.func155 Tryz.call155 (λargs rows=>Qav (Q04.of (args.getD 0 .dead).cells) (argL .u32 args 1)) [.row 23 1 (.ints .u32)] [] 2 (λ_ _ _=>by kernel_rfl) (λ_ _=>rfl) (λ_ _ h=>h) (λ_ X=>by kernel_rfl)
def Qld(op:Int):Tree Bool:=
.br (op==57) (.lf true) (.br (op==58) (.lf true) (.br (op==59) (.lf true) (.br (op==60) (.lf true) (.br (op==61) (.lf true) (.br (op==62) (.lf true) (.br (op==63) (.lf true) (.br (op==64) (.lf true) (.lf false))))))))
def Q88(op:Int):Bool:=(Qld op).m
def Qx6:Q0c:=mkR 157 [] true [.one (.int .i64)] [] (λargs rows=>Q88 (argI args 0)) (λX=> .bool X) (λX=>[])
theorem Qug:Q05 Tryz.prog Qx6:=Q0z Q0k Q0l (.nil) Tryz.func157 Tryz.call157 (λargs rows=>Qld (argI args 0)) [] [] 2 (λ_ _ _=>by kernel_rfl) (λ_ _=>rfl) (λ_ _=>Tree.free_ok (by kernel_rfl)) (λ_ X=>by kernel_rfl)
def Qqa(op:Int):Tree Int:=
.br (op==32) (.lf 4) (.br (op==35) (.lf 4) (.lf 1))
def Qed(op:Int):Int:=(Qqa op).m
def Zf3:Q0c:=mkR 216 [] true [.one (.int .i64)] [] (λargs rows=>Qed (argI args 0)) (λX=> .int .i64 X) (λX=>[])
theorem Qvx:Q05 Tryz.prog Zf3:=Q0z Q0k Q0l (.nil) Tryz.func216 Tryz.call216 (λargs rows=>Qqa (argI args 0)) [] [] 2 (λ_ _ _=>by kernel_rfl) (λ_ _=>rfl) (λ_ _=>Tree.free_ok (by kernel_rfl)) (λ_ X=>by kernel_rfl)
def Qcg(c:Q04)(register:Int)(v:Int):Tree Q04:=
.br (register !=0) (.cn (Nat.blt 0 1&&decide (0≤register∧register<(↑16:Int))) (.lf ({X:=A16.of 0 (List.set (A16.l c.X) register.toNat v),Pc:=c.Pc,B6:=c.B6}))) (.lf c)
def Qa1(c:Q04)(register:Int)(v:Int):Q04:=(Qcg c register v).m
abbrev Q7o(c:Q04)(register:Int)(v:Int):Prop:=(Qcg c register v).p
def cpu_set_m:Q0c:=mkP 217 [] true [.agg Q04.sig, .one (.int .i64), .one (.int .u32)] [] (λargs rows=>Q7o (Q04.of (args.getD 0 .dead).cells) (argI args 1) (argI args 2)) (λargs rows=>Qa1 (Q04.of (args.getD 0 .dead).cells) (argI args 1) (argI args 2)) (λX=> .agg (Q04.cells X)) (λX=>[])
theorem Z4c:Q05 Tryz.prog cpu_set_m:=Q0n Q0k Q0l (.nil) Tryz.func217 Tryz.call217 (λargs rows=>Qcg (Q04.of (args.getD 0 .dead).cells) (argI args 1) (argI args 2)) [] [] 2 (λ_ _ _=>by kernel_rfl) (λ_ _=>rfl) (λ_ _ h=>h) (λ_ X=>by kernel_rfl)
def Qdd(c:Q04)(m:(List Int))(i:Q0i):Tree (Q04×(List Int)):=
.cn (Nat.blt 0 1&&decide (0≤i.B∧i.B<(↑16:Int))) (.lv (Qed i.Op) λ(x0:Int)=>let E1:=wrap u32 (List.getD (A16.l c.X) i.B.toNat 0+wrap u32 i.Imm); .an (Q8n c m E1 x0 2) (.lv (Q1w c m E1 x0 2) λ(x1:Int×List Int×Int)=> .br (x1.2.2 !=0) (.lv (Q43 c x1.2.2 E1) λ(x2:Q04)=> .lf (x2,x1.2.1)) (.lv (Qed i.Op) λ(x3:Int)=> .an (Q30 x1.2.1 x1.1 x3) (.lv (Q4h x1.2.1 x1.1 x3) λ(x4:Int×Bool)=> .br (i.Op==33) (.an (Qak x4.1 8) (.lv (Q24 x4.1 8) λ(x5:Int)=> .an (Q7o c i.A x5) (.lv (Qa1 c i.A x5) λ(x6:Q04)=> .lf ({X:=x6.X,Pc:=wrap u32 (x6.Pc+4),B6:=x6.B6},x1.2.1)))) (.an (Q7o c i.A x4.1) (.lv (Qa1 c i.A x4.1) λ(x7:Q04)=> .lf ({X:=x7.X,Pc:=wrap u32 (x7.Pc+4),B6:=x7.B6},x1.2.1)))))))
def Q6(c:Q04)(m:(List Int))(i:Q0i):(Q04×(List Int)):=(Qdd c m i).m
abbrev Qv0(c:Q04)(m:(List Int))(i:Q0i):Prop:=(Qdd c m i).p
def Zkc:Q0c:=mkP 159 [] true [.agg Q04.sig, .one (.ints .u32), .agg Q0i.sig] [] (λargs rows=>Qv0 (Q04.of (args.getD 0 .dead).cells) (argL .u32 args 1) (Q0i.of (args.getD 2 .dead).cells)) (λargs rows=>Q6 (Q04.of (args.getD 0 .dead).cells) (argL .u32 args 1) (Q0i.of (args.getD 2 .dead).cells)) (λX=> .tup [.agg (Q04.cells (X.1)), .all 0]) (λX=>[⟨false,23,1, .ints .u32 (X.2)⟩])
theorem Zg4:Q05 Tryz.prog Zkc:=Q0n Q0k Q0l (.cons Qj3 (.cons Qvx (.cons Qhy (.cons Qa8 (.cons Qip (.cons Z4c (.nil))))))) Tryz.func159 Tryz.call159 (λargs rows=>Qdd (Q04.of (args.getD 0 .dead).cells) (argL .u32 args 1) (Q0i.of (args.getD 2 .dead).cells)) [.row 23 1 (.ints .u32)] [] 2 (λ_ _ _=>by kernel_rfl) (λ_ _=>rfl) (λ_ _ h=>h) (λ_ X=>by kernel_rfl)
def Qb(c:Q04)(m:(List Int))(i:Q0i):Tree (Q04×(List Int)):=
.cn (Nat.blt 0 1&&decide (0≤i.B∧i.B<(↑16:Int))) (.lv (Qed i.Op) λ(x0:Int)=>let E1:=wrap u32 (List.getD (A16.l c.X) i.B.toNat 0+wrap u32 i.Imm); .an (Q8n c m E1 x0 3) (.lv (Q1w c m E1 x0 3) λ(x1:Int×List Int×Int)=> .br (x1.2.2 !=0) (.lv (Q43 c x1.2.2 E1) λ(x2:Q04)=> .lf (x2,x1.2.1)) (.lv (Qed i.Op) λ(x3:Int)=> .cn (Nat.blt 0 1&&decide (0≤i.A∧i.A<(↑16:Int))) (let E2:=List.getD (A16.l c.X) i.A.toNat 0; .an (Qah x1.2.1 x1.1 x3 E2) (.lv (Q94 x1.2.1 x1.1 x3 E2) λ(x4:List Int×Bool)=> .lf ({X:=c.X,Pc:=wrap u32 (c.Pc+4),B6:=c.B6},x4.1))))))
def Q7q(c:Q04)(m:(List Int))(i:Q0i):(Q04×(List Int)):=(Qb c m i).m
abbrev Qs9(c:Q04)(m:(List Int))(i:Q0i):Prop:=(Qb c m i).p
def Zeo:Q0c:=mkP 160 [] true [.agg Q04.sig, .one (.ints .u32), .agg Q0i.sig] [] (λargs rows=>Qs9 (Q04.of (args.getD 0 .dead).cells) (argL .u32 args 1) (Q0i.of (args.getD 2 .dead).cells)) (λargs rows=>Q7q (Q04.of (args.getD 0 .dead).cells) (argL .u32 args 1) (Q0i.of (args.getD 2 .dead).cells)) (λX=> .tup [.agg (Q04.cells (X.1)), .all 0]) (λX=>[⟨false,23,1, .ints .u32 (X.2)⟩])
theorem Zay:Q05 Tryz.prog Zeo:=Q0n Q0k Q0l (.cons Qj3 (.cons Qvx (.cons Qhy (.cons Qn7 (.nil))))) Tryz.func160 Tryz.call160 (λargs rows=>Qb (Q04.of (args.getD 0 .dead).cells) (argL .u32 args 1) (Q0i.of (args.getD 2 .dead).cells)) [.row 23 1 (.ints .u32)] [] 2 (λ_ _ _=>by kernel_rfl) (λ_ _=>rfl) (λ_ _ h=>h) (λ_ X=>by kernel_rfl)
def Z05(op:Int)(a:Int)(b:Int):Tree Bool:=
.br (op==40) (.lf (a==b)) (.br (op==41) (.lf (a !=b)) (.br (op==42) (.lf (decide (wrap i32 a<wrap i32 b))) (.br (op==43) (.lf (decide (wrap i32 a≥wrap i32 b))) (.br (op==44) (.lf (decide (a<b))) (.lf (decide (a≥b)))))))
def Zdd(op:Int)(a:Int)(b:Int):Bool:=(Z05 op a b).m
def Zer:Q0c:=mkR 219 [] true [.one (.int .i64), .one (.int .u32), .one (.int .u32)] [] (λargs rows=>Zdd (argI args 0) (argI args 1) (argI args 2)) (λX=> .bool X) (λX=>[])
theorem Zau:Q05 Tryz.prog Zer:=Q0z Q0k Q0l (.nil) Tryz.func219 Tryz.call219 (λargs rows=>Z05 (argI args 0) (argI args 1) (argI args 2)) [] [] 2 (λ_ _ _=>by kernel_rfl) (λ_ _=>rfl) (λ_ _=>Tree.free_ok (by kernel_rfl)) (λ_ X=>by kernel_rfl)
def Qe2(c:Q04):Tree Q04:=
.lv (Q8e c.B6.a0 8 1) λ(x0:Int)=> .lv (Q8e x0 16 2) λ(x1:Int)=> .lf ({X:=c.X,Pc:=c.B6.a2,B6:={a0:=x1,a1:=c.B6.a1,a2:=c.B6.a2,a3:=c.B6.a3,a4:=c.B6.a4,a5:=c.B6.a5,a6:=c.B6.a6,a7:=c.B6.a7}})
def Qd(c:Q04):Q04:=(Qe2 c).m
def Zd3:Q0c:=mkR 220 [] true [.agg Q04.sig] [] (λargs rows=>Qd (Q04.of (args.getD 0 .dead).cells)) (λX=> .agg (Q04.cells X)) (λX=>[])
theorem Z8w:Q05 Tryz.prog Zd3:=Q0z Q0k Q0l (.cons Qz6 (.nil)) Tryz.func220 Tryz.call220 (λargs rows=>Qe2 (Q04.of (args.getD 0 .dead).cells)) [] [] 2 (λ_ _ _=>by kernel_rfl) (λ_ _=>rfl) (λ_ _=>Tree.free_ok (by kernel_rfl)) (λ_ X=>by kernel_rfl)
def Qax(c:Q04)(csr:Int)(v:Int):Tree Q04:=
let E4:=Nat.blt 0 1&&decide (0≤csr∧csr<(↑8:Int));let T2:Tree (Q04):= .cn E4 (.lf ({X:=c.X,Pc:=c.Pc,B6:=A8.of 0 (List.set (A8.l c.B6) csr.toNat (iand u32 v 31))})); .br (csr==0) T2 (.br (csr==7) T2 (.br (csr==6) (.cn E4 (.lf ({X:=c.X,Pc:=c.Pc,B6:=A8.of 0 (List.set (A8.l c.B6) csr.toNat (iand u32 v 255))}))) (let T3:Tree (Q04):= .cn E4 (.lf ({X:=c.X,Pc:=c.Pc,B6:=A8.of 0 (List.set (A8.l c.B6) csr.toNat (Qfg u32 v 3))})); .br (csr==1) T3 (.br (csr==2) T3 (let T1:Tree (Q04):= .cn E4 (.lf ({X:=c.X,Pc:=c.Pc,B6:=A8.of 0 (List.set (A8.l c.B6) csr.toNat v)})); .br (csr==3) T1 (.br (csr==4) T1 (.br (csr==5) T1 (.lf c))))))))
def Zcq(c:Q04)(csr:Int)(v:Int):Q04:=(Qax c csr v).m
abbrev Qrf(c:Q04)(csr:Int)(v:Int):Prop:=(Qax c csr v).p
def Zex:Q0c:=mkP 221 [] true [.agg Q04.sig, .one (.int .i64), .one (.int .u32)] [] (λargs rows=>Qrf (Q04.of (args.getD 0 .dead).cells) (argI args 1) (argI args 2)) (λargs rows=>Zcq (Q04.of (args.getD 0 .dead).cells) (argI args 1) (argI args 2)) (λX=> .agg (Q04.cells X)) (λX=>[])
theorem Zce:Q05 Tryz.prog Zex:=Q0n Q0k Q0l (.nil) Tryz.func221 Tryz.call221 (λargs rows=>Qax (Q04.of (args.getD 0 .dead).cells) (argI args 1) (argI args 2)) [] [] 2 (λ_ _ _=>by kernel_rfl) (λ_ _=>rfl) (λ_ _ h=>h) (λ_ X=>by kernel_rfl)
def Q4o(c:Q04)(i:Q0i):Tree (Q04×Q11):=
.cn (Nat.blt 0 1&&decide (0≤i.A∧i.A<(↑16:Int))) (.cn (Nat.blt 0 1&&decide (0≤i.B∧i.B<(↑16:Int))) (.br (i.Op==24) (.an (Q7o c i.A (ishl u32 (wrap u32 i.Imm) 16)) (.lv (Qa1 c i.A (ishl u32 (wrap u32 i.Imm) 16)) λ(x0:Q04)=> .lf ({X:=x0.X,Pc:=wrap u32 (c.Pc+4),B6:=x0.B6},{B5:=0,D1:=0,E0:=0,Value:=0}))) (let E2:=({X:=c.X,Pc:=wrap u32 (c.Pc+4),B6:=c.B6}:Q04);let E3:=List.getD (A16.l c.X) i.B.toNat 0;let E4:=List.getD (A16.l c.X) i.A.toNat 0;let T1:Tree ((Q04×Q11)):= .lv (Zdd i.Op E4 E3) λ(x1:Bool)=> .br x1 (.lf ({X:=c.X,Pc:=wrap u32 (c.Pc+wrap u32 (4*wrap u32 i.Imm)),B6:=c.B6},{B5:=0,D1:=0,E0:=0,Value:=0})) (.lf (E2,{B5:=0,D1:=0,E0:=0,Value:=0})); .br (i.Op==40) T1 (.br (i.Op==41) T1 (.br (i.Op==42) T1 (.br (i.Op==43) T1 (.br (i.Op==44) T1 (.br (i.Op==45) T1 (.br (i.Op==48) (.an (Q7o c i.A (wrap u32 (c.Pc+4))) (.lv (Qa1 c i.A (wrap u32 (c.Pc+4))) λ(x7:Q04)=> .lf ({X:=x7.X,Pc:=wrap u32 (x7.Pc+wrap u32 (4*wrap u32 i.Imm)),B6:=x7.B6},{B5:=0,D1:=0,E0:=0,Value:=0}))) (.br (i.Op==49) (.an (Q7o c i.A (wrap u32 (c.Pc+4))) (.lv (Qa1 c i.A (wrap u32 (c.Pc+4))) λ(x8:Q04)=> .lf ({X:=x8.X,Pc:=wrap u32 (List.getD (A16.l c.X) i.B.toNat 0+wrap u32 i.Imm),B6:=x8.B6},{B5:=0,D1:=0,E0:=0,Value:=0}))) (.br (i.Op==56) (.lv (Q43 c 7 0) λ(x9:Q04)=> .lf (x9,{B5:=0,D1:=0,E0:=0,Value:=0})) (.br (i.Op==57) (.lv (Qd c) λ(x10:Q04)=> .lf (x10,{B5:=0,D1:=0,E0:=0,Value:=0})) (.br (i.Op==58) (.cn (Nat.blt 0 1&&decide (0≤i.Imm∧i.Imm<(↑8:Int))) (let E5:=List.getD (A8.l c.B6) i.Imm.toNat 0; .an (Q7o c i.A E5) (.lv (Qa1 c i.A E5) λ(x11:Q04)=> .lf ({X:=x11.X,Pc:=wrap u32 (c.Pc+4),B6:=x11.B6},{B5:=0,D1:=0,E0:=0,Value:=0})))) (.br (i.Op==59) (.an (Qrf c (wrap i64 i.Imm) E4) (.lv (Zcq c (wrap i64 i.Imm) E4) λ(x12:Q04)=> .lf ({X:=x12.X,Pc:=wrap u32 (c.Pc+4),B6:=x12.B6},{B5:=0,D1:=0,E0:=0,Value:=0}))) (.br (i.Op==60) (.lf (E2,{B5:=1,D1:=wrap i64 i.Imm,E0:=i.A,Value:=0})) (.br (i.Op==61) (.lf (E2,{B5:=2,D1:=wrap i64 i.Imm,E0:=0,Value:=List.getD (A16.l c.X) i.A.toNat 0})) (.br (i.Op==62) (.lf (E2,{B5:=3,D1:=0,E0:=0,Value:=0})) (.br (i.Op==63) (.lf (E2,{B5:=5,D1:=0,E0:=0,Value:=0})) (.br (i.Op==64) (.lf (E2,{B5:=4,D1:=0,E0:=0,Value:=0})) (.cn (Nat.blt 0 1&&decide (0≤i.C∧i.C<(↑16:Int))) (.br (decide (i.Op≥16)) (.an (Qq4 i.Op E3 (wrap u32 i.Imm)) (.lv (Q3v i.Op E3 (wrap u32 i.Imm)) λ(x13:Int×Bool)=> .an (Q7o c i.A x13.1) (.lv (Qa1 c i.A x13.1) λ(x14:Q04)=> .lf ({X:=x14.X,Pc:=wrap u32 (c.Pc+4),B6:=x14.B6},{B5:=0,D1:=0,E0:=0,Value:=0})))) (let E6:=List.getD (A16.l c.X) i.C.toNat 0; .an (Qq4 i.Op E3 E6) (.lv (Q3v i.Op E3 E6) λ(x15:Int×Bool)=> .an (Q7o c i.A x15.1) (.lv (Qa1 c i.A x15.1) λ(x16:Q04)=> .lf ({X:=x16.X,Pc:=wrap u32 (c.Pc+4),B6:=x16.B6},{B5:=0,D1:=0,E0:=0,Value:=0})))))))))))))))))))))))))
def Ql1(c:Q04)(i:Q0i):(Q04×Q11):=(Q4o c i).m
abbrev Qm1(c:Q04)(i:Q0i):Prop:=(Q4o c i).p
def Z7n:Q0c:=mkP 161 [] true [.agg Q04.sig, .agg Q0i.sig] [] (λargs rows=>Qm1 (Q04.of (args.getD 0 .dead).cells) (Q0i.of (args.getD 1 .dead).cells)) (λargs rows=>Ql1 (Q04.of (args.getD 0 .dead).cells) (Q0i.of (args.getD 1 .dead).cells)) (λX=> .tup [.agg (Q04.cells (X.1)), .agg (Q11.cells (X.2))]) (λX=>[])
theorem Z1y:Q05 Tryz.prog Z7n:=Q0n Q0k Q0l (.cons Z4c (.cons Zau (.cons Qhy (.cons Z8w (.cons Zce (.cons Zke (.nil))))))) Tryz.func161 Tryz.call161 (λargs rows=>Q4o (Q04.of (args.getD 0 .dead).cells) (Q0i.of (args.getD 1 .dead).cells)) [] [] 2 (λ_ _ _=>by kernel_rfl) (λ_ _=>rfl) (λ_ _ h=>h) (λ_ X=>by kernel_rfl)
def Q6r(c:Q04)(m:(List Int)):Tree (Q04×(List Int)×Q11):=
.an (Ql2 c m) (.lv (Qmh c m) λ(x0:Int×List Int×Int)=> .br (x0.2.2 !=0) (.lv (Q43 c x0.2.2 c.Pc) λ(x1:Q04)=> .lf (x1,x0.2.1,{B5:=0,D1:=0,E0:=0,Value:=0})) (.an (Qj2 x0.1) (.lv (Qgb x0.1) λ(x2:Q0i×Bool)=> .br (!x2.2) (.lv (Q43 c 1 x0.1) λ(x3:Q04)=> .lf (x3,x0.2.1,{B5:=0,D1:=0,E0:=0,Value:=0})) (.lv (Q88 x2.1.Op) λ(x4:Bool)=>let T1:Tree ((Q04×(List Int)×Q11)):=let T2:Tree ((Q04×(List Int)×Q11)):= .an (Qv0 c x0.2.1 x2.1) (.lv (Q6 c x0.2.1 x2.1) λ(x7:Q04×List Int)=> .lf (x7.1,x7.2,{B5:=0,D1:=0,E0:=0,Value:=0})); .br (x2.1.Op==32) T2 (.br (x2.1.Op==33) T2 (.br (x2.1.Op==34) T2 (let T3:Tree ((Q04×(List Int)×Q11)):= .an (Qs9 c x0.2.1 x2.1) (.lv (Q7q c x0.2.1 x2.1) λ(x10:Q04×List Int)=> .lf (x10.1,x10.2,{B5:=0,D1:=0,E0:=0,Value:=0})); .br (x2.1.Op==35) T3 (.br (x2.1.Op==36) T3 (.an (Qm1 c x2.1) (.lv (Ql1 c x2.1) λ(x12:Q04×Q11)=> .lf (x12.1,x0.2.1,x12.2))))))); .br x4 (.lv (Q9i c) λ(x5:Bool)=> .br (!x5) (.lv (Q43 c 2 x0.1) λ(x6:Q04)=> .lf (x6,x0.2.1,{B5:=0,D1:=0,E0:=0,Value:=0})) T1) T1))))
def Q4q(c:Q04)(m:(List Int)):(Q04×(List Int)×Q11):=(Q6r c m).m
abbrev Qi7(c:Q04)(m:(List Int)):Prop:=(Q6r c m).p
def Zjv:Q0c:=mkP 107 [] true [.agg Q04.sig, .one (.ints .u32)] [] (λargs rows=>Qi7 (Q04.of (args.getD 0 .dead).cells) (argL .u32 args 1)) (λargs rows=>Q4q (Q04.of (args.getD 0 .dead).cells) (argL .u32 args 1)) (λX=> .tup [.agg (Q04.cells (X.1)), .all 0, .agg (Q11.cells (X.2.2))]) (λX=>[⟨false,23,1, .ints .u32 (X.2.1)⟩])
theorem Qz1:Q05 Tryz.prog Zjv:=Q0n Q0k Q0l (.cons Zc1 (.cons Qhy (.cons Z79 (.cons Qug (.cons Qql (.cons Zg4 (.cons Zay (.cons Z1y (.nil))))))))) Tryz.func107 Tryz.call107 (λargs rows=>Q6r (Q04.of (args.getD 0 .dead).cells) (argL .u32 args 1)) [.row 23 1 (.ints .u32)] [] 2 (λ_ _ _=>by kernel_rfl) (λ_ _=>rfl) (λ_ _ h=>h) (λ_ X=>by kernel_rfl)
end
end Go.Proofs.YtjaifpiopmhmlaaGreat

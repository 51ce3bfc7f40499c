/-
  Functions of the program: models, and that its calls come to them (by a program: gen3.py).
-/
import Derived.Test.YtjaifpiopmhmlaaGreatBareSeesBase
import Derived.Test.YtjaifpiopmhmlaaGreatBareSeesYa
set_option maxRecDepth 100000
set_option linter.all false
namespace Go.Proofs.YtjaifpiopmhmlaaGreat
open Go Go.GD Go.IntKind
noncomputable section
def Qof(status:Int)(from0:Int)(to:Int):Tree Int:=
.br (iand u32 status from0 !=0) (.lf (ior u32 status to)) (.lf (Qg5 u32 status to))
def Q8h(status:Int)(from0:Int)(to:Int):Int:=(Qof status from0 to).m
def Zkp:Q0b:=mkR 209 [] true [.one (.int .u32), .one (.int .u32), .one (.int .u32)] [] (λargs rows=>Q8h (argI args 0) (argI args 1) (argI args 2)) (λX=> .int .u32 X) (λX=>[])
theorem Qz6:Q05 Tryz.prog Zkp:=Q0x Q0j Q0h (.nil) Tryz.func209 Tryz.call209 (λargs rows=>Qof (argI args 0) (argI args 1) (argI args 2)) [] [] 2 (λ_ _ _=>by kernel_rfl) (λ_ _=>rfl) (λ_ _=>Tree.free_ok (by kernel_rfl)) (λ_ X=>by kernel_rfl)
def Qk2(c:Q03)(cause:Int)(bad:Int):Tree Q03:=
.lv (Q8h c.B7.a0 1 8) λ(x0:Int)=> .lv (Q8h x0 2 16) λ(x1:Int)=> .lf ({X:=c.X,Pc:=c.B7.a1,B7:={a0:=Qg5 u32 (ior u32 x1 1) 2,a1:=c.B7.a1,a2:=c.Pc,a3:=wrap u32 cause,a4:=bad,a5:=c.B7.a5,a6:=c.B7.a6,a7:=c.B7.a7}})
def Q45(c:Q03)(cause:Int)(bad:Int):Q03:=(Qk2 c cause bad).m
def Zlr:Q0b:=mkR 154 [] true [.agg Q03.sig, .one (.int .i64), .one (.int .u32)] [] (λargs rows=>Q45 (Q03.of (args.getD 0 .dead).cells) (argI args 1) (argI args 2)) (λX=> .agg (Q03.cells X)) (λX=>[])
theorem Qh8:Q05 Tryz.prog Zlr:=Q0x Q0j Q0h (.cons Qz6 (.nil)) Tryz.func154 Tryz.call154 (λargs rows=>Qk2 (Q03.of (args.getD 0 .dead).cells) (argI args 1) (argI args 2)) [] [] 2 (λ_ _ _=>by kernel_rfl) (λ_ _=>rfl) (λ_ _=>Tree.free_ok (by kernel_rfl)) (λ_ X=>by kernel_rfl)
def Qrm(access:Int):Tree (Int×Bool):=
.br (access==1) (.lf (4,true)) (.br (access==2) (.lf (5,true)) (.br (access==3) (.lf (6,true)) (.lf (5,false))))
def Qqq(access:Int):(Int×Bool):=(Qrm access).m
def Z9k:Q0b:=mkR 249 [] true [.one (.int .i64)] [] (λargs rows=>Qqq (argI args 0)) (λX=> .tup [.int .i64 (X.1), .bool (X.2)]) (λX=>[])
theorem Z3l:Q05 Tryz.prog Z9k:=Q0x Q0j Q0h (.nil) Tryz.func249 Tryz.call249 (λargs rows=>Qrm (argI args 0)) [] [] 2 (λ_ _ _=>by kernel_rfl) (λ_ _=>rfl) (λ_ _=>Tree.free_ok (by kernel_rfl)) (λ_ X=>by kernel_rfl)
def Qwd(c:Q03):Tree Bool:=
.lf (iand u32 c.B7.a0 (1:Int) !=(0:Int))
def Q9v(c:Q03):Bool:=(Qwd c).m
def Zen:Q0b:=mkR 158 [] true [.agg Q03.sig] [] (λargs rows=>Q9v (Q03.of (args.getD 0 .dead).cells)) (λX=> .bool X) (λX=>[])
theorem Qrq:Q05 Tryz.prog Zen:=Q0x Q0j Q0h (.nil) Tryz.func158 Tryz.call158 (λargs rows=>Qwd (Q03.of (args.getD 0 .dead).cells)) [] [] 2 (λ_ _ _=>by kernel_rfl) (λ_ _=>rfl) (λ_ _=>Tree.free_ok (by kernel_rfl)) (λ_ X=>by kernel_rfl)
def Qmg(access:Int):Tree (Int×Bool):=
.br (access==1) (.lf (4,true)) (.br (access==2) (.lf (5,true)) (.br (access==3) (.lf (6,true)) (.lf (5,false))))
def Qjl(access:Int):(Int×Bool):=(Qmg access).m
def Qxa:Q0b:=mkR 269 [] true [.one (.int .i64)] [] (λargs rows=>Qjl (argI args 0)) (λX=> .tup [.int .i64 (X.1), .bool (X.2)]) (λX=>[])
theorem Qve:Q05 Tryz.prog Qxa:=Q0x Q0j Q0h (.nil) Tryz.func269 Tryz.call269 (λargs rows=>Qmg (argI args 0)) [] [] 2 (λ_ _ _=>by kernel_rfl) (λ_ _=>rfl) (λ_ _=>Tree.free_ok (by kernel_rfl)) (λ_ X=>by kernel_rfl)
def Qgw(m:(List Int))(frame:Int):Tree Bool:=
.lv (Q0t m) λ(x0:Int)=> .lf (decide (wrap u64 frame<wrap u64 x0))
def Q9i(m:(List Int))(frame:Int):Bool:=(Qgw m frame).m
def Z1s:Q0b:=mkR 270 [] true [.one (.ints .u32), .one (.int .u32)] [] (λargs rows=>Q9i (argL .u32 args 0) (argI args 1)) (λX=> .bool X) (λX=>[])
theorem Qxt:Q05 Tryz.prog Z1s:=Q0x Q0j Q0h (.cons Q3w (.nil)) Tryz.func270 Tryz.call270 (λargs rows=>Qgw (argL .u32 args 0) (argI args 1)) [] [] 2 (λ_ _ _=>by kernel_rfl) (λ_ _=>rfl) (λ_ _=>Tree.free_ok (by kernel_rfl)) (λ_ X=>by kernel_rfl)
def Q65(m:(List Int))(addr:Int)(size:Int):Tree (Int×Bool):=
.an (Q9y m addr size) (.lv (Qg4 m addr size) λ(x0:Bool)=> .br (!x0) (.lf (0,false)) (.cn (Nat.beq 1 1&&Nat.blt 0 1&&decide (0<=wrap u32 (Int.tdiv addr 4)/\wrap u32 (Int.tdiv addr 4)<(m.length:Int))) (let E1:=Int.toNat (wrap u32 (Int.tdiv addr 4)); .br (size==1) (let E2:=wrap i64 (wrap i64 (Int.tmod addr 4)*8); .an (Q4y (m.getD E1 0) E2 8) (.lv (Q2p (m.getD E1 0) E2 8) λ(x1:Int)=> .lf (x1,true))) (.lf (m.getD E1 0,true)))))
def Q4b(m:(List Int))(addr:Int)(size:Int):(Int×Bool):=(Q65 m addr size).m
abbrev Q2w(m:(List Int))(addr:Int)(size:Int):Prop:=(Q65 m addr size).p
def Z9t:Q0b:=mkP 211 [] true [.one (.ints .u32), .one (.int .u32), .one (.int .i64)] [] (λargs rows=>Q2w (argL .u32 args 0) (argI args 1) (argI args 2)) (λargs rows=>Q4b (argL .u32 args 0) (argI args 1) (argI args 2)) (λX=> .tup [.int .u32 (X.1), .bool (X.2)]) (λX=>[])
theorem Qaf:Q05 Tryz.prog Z9t:=Q0k Q0j Q0h (.cons Qm0 (.cons Ql9 (.nil))) Tryz.func211 Tryz.call211 (λargs rows=>Q65 (argL .u32 args 0) (argI args 1) (argI args 2)) [] [] 2 (λ_ _ _=>by kernel_rfl) (λ_ _=>rfl) (λ_ _ h=>h) (λ_ X=>by kernel_rfl)
def Qm4(pte:Int)(access:Int):Tree Bool:=
.br (iand u32 pte (1:Int)==(0:Int)) (.lf false) (.br (access==3) (.lf (iand u32 pte (2:Int) !=(0:Int))) (.br (access==1) (.lf (iand u32 pte (4:Int) !=(0:Int))) (.lf true)))
def Qah(pte:Int)(access:Int):Bool:=(Qm4 pte access).m
def Qxm:Q0b:=mkR 271 [] true [.one (.int .u32), .one (.int .i64)] [] (λargs rows=>Qah (argI args 0) (argI args 1)) (λX=> .bool X) (λX=>[])
theorem Quk:Q05 Tryz.prog Qxm:=Q0x Q0j Q0h (.nil) Tryz.func271 Tryz.call271 (λargs rows=>Qm4 (argI args 0) (argI args 1)) [] [] 2 (λ_ _ _=>by kernel_rfl) (λ_ _=>rfl) (λ_ _=>Tree.free_ok (by kernel_rfl)) (λ_ X=>by kernel_rfl)
def Q8(pte:Int):Tree Int:=
.an (Q4y pte 8 8) (.lv (Q2p pte 8 8) λ(x0:Int)=> .lf x0)
def Qe1(pte:Int):Int:=(Q8 pte).m
abbrev Qc7(pte:Int):Prop:=(Q8 pte).p
def Qxg:Q0b:=mkP 272 [] true [.one (.int .u32)] [] (λargs rows=>Qc7 (argI args 0)) (λargs rows=>Qe1 (argI args 0)) (λX=> .int .u32 X) (λX=>[])
theorem Qtn:Q05 Tryz.prog Qxg:=Q0k Q0j Q0h (.cons Ql9 (.nil)) Tryz.func272 Tryz.call272 (λargs rows=>Q8 (argI args 0)) [] [] 2 (λ_ _ _=>by kernel_rfl) (λ_ _=>rfl) (λ_ _ h=>h) (λ_ X=>by kernel_rfl)
def Q9z(m:(List Int))(root:Int)(va:Int)(access:Int):Tree Q13:=
.lv (Qjl access) λ(x0:Int×Bool)=>let E1:=({Addr:=0,F7:=0,F5:=x0.1}:Q13); .br (!x0.2) (.lf (E1)) (.br (decide (va>=4096)) (.lf (E1)) (.lv (Q9i m root) λ(x1:Bool)=> .br (!x1) (.lf (E1)) (let E2:=wrap u32 (root*128)+wrap u32 (4*wrap u32 (Int.tdiv va 128)); .an (Q2w m (wrap u32 E2) 4) (.lv (Q4b m (wrap u32 E2) 4) λ(x2:Int×Bool)=> .br (!x2.2) (.lf (E1)) (.lv (Qah x2.1 access) λ(x3:Bool)=> .br (!x3) (.lf (E1)) (.an (Qc7 x2.1) (.lv (Qe1 x2.1) λ(x4:Int)=> .lv (Q9i m x4) λ(x5:Bool)=> .br (!x5) (.lf (E1)) (.an (Qc7 x2.1) (.lv (Qe1 x2.1) λ(x6:Int)=> .lf ({Addr:=wrap u32 (wrap u32 (x6*128)+Int.tmod va 128),F7:=wrap u32 E2,F5:=0}))))))))))
def Qhr(m:(List Int))(root:Int)(va:Int)(access:Int):Q13:=(Q9z m root va access).m
abbrev Qh3(m:(List Int))(root:Int)(va:Int)(access:Int):Prop:=(Q9z m root va access).p
def Z9l:Q0b:=mkP 250 [] true [.one (.ints .u32), .one (.int .u32), .one (.int .u32), .one (.int .i64)] [] (λargs rows=>Qh3 (argL .u32 args 0) (argI args 1) (argI args 2) (argI args 3)) (λargs rows=>Qhr (argL .u32 args 0) (argI args 1) (argI args 2) (argI args 3)) (λX=> .agg (Q13.cells X)) (λX=>[])
theorem Z38:Q05 Tryz.prog Z9l:=Q0k Q0j Q0h (.cons Qve (.cons Qxt (.cons Qaf (.cons Quk (.cons Qtn (.nil)))))) Tryz.func250 Tryz.call250 (λargs rows=>Q9z (argL .u32 args 0) (argI args 1) (argI args 2) (argI args 3)) [] [] 2 (λ_ _ _=>by kernel_rfl) (λ_ _=>rfl) (λ_ _ h=>h) (λ_ X=>by kernel_rfl)
def Q8a(m:(List Int))(entry:Int)(access:Int):Tree (List Int):=
.an (Q2w m entry 4) (.lv (Q4b m entry 4) λ(x0:Int×Bool)=> .br (!x0.2) (.an (Q06 m) (.lv (Q04 m) λ(x1:List Int)=> .lf x1)) (.br (access==3) (.an (Qao m entry 4 (ior u32 (ior u32 x0.1 8) 16)) (.lv (Q98 m entry 4 (ior u32 (ior u32 x0.1 8) 16)) λ(x2:List Int×Bool)=> .lf x2.1)) (.an (Qao m entry 4 (ior u32 x0.1 8)) (.lv (Q98 m entry 4 (ior u32 x0.1 8)) λ(x3:List Int×Bool)=> .lf x3.1))))
def Qbe(m:(List Int))(entry:Int)(access:Int):(List Int):=(Q8a m entry access).m
abbrev Qfq(m:(List Int))(entry:Int)(access:Int):Prop:=(Q8a m entry access).p
def Z2x:Q0b:=mkP 251 [] true [.one (.ints .u32), .one (.int .u32), .one (.int .i64)] [] (λargs rows=>Qfq (argL .u32 args 0) (argI args 1) (argI args 2)) (λargs rows=>Qbe (argL .u32 args 0) (argI args 1) (argI args 2)) (λX=> .all 0) (λX=>[⟨false,23,1, .ints .u32 X⟩])
theorem Z0g:Q05 Tryz.prog Z2x:=Q0k Q0j Q0h (.cons Qaf (.cons Q0u (.cons Qoc (.nil)))) Tryz.func251 Tryz.call251 (λargs rows=>Q8a (argL .u32 args 0) (argI args 1) (argI args 2)) [.row 23 1 (.ints .u32)] [] 2 (λ_ _ _=>by kernel_rfl) (λ_ _=>rfl) (λ_ _ h=>h) (λ_ X=>by kernel_rfl)
def Q60(c:Q03)(m:(List Int))(va:Int)(size:Int)(access:Int):Tree (Int×(List Int)×Int):=
.lv (Qqq access) λ(x0:Int×Bool)=>let T3:Tree ((Int×(List Int)×Int)):= .an (Q06 m) (.lv (Q04 m) λ(x1:List Int)=> .lf (0,x1,5)); .br (!x0.2) T3 (let T1:Tree ((Int×(List Int)×Int)):= .cn (decide (wrap u32 size≠0)) (.br (Int.tmod va (wrap u32 size) !=0) (.an (Q06 m) (.lv (Q04 m) λ(x3:List Int)=> .lf (0,x3,3))) (.lv (Q9v c) λ(x4:Bool)=>let T2:Tree ((Int×(List Int)×Int)):= .an (Q2w m va size) (.lv (Q4b m va size) λ(x8:Int×Bool)=> .br (!x8.2) (.an (Q06 m) (.lv (Q04 m) λ(x9:List Int)=> .lf (0,x9,x0.1))) (.an (Q06 m) (.lv (Q04 m) λ(x10:List Int)=> .lf (va,x10,0)))); .br (!x4) (.br (iand u32 c.B7.a0 (4:Int) !=(0:Int)) (.an (Qh3 m c.B7.a6 va access) (.lv (Qhr m c.B7.a6 va access) λ(x5:Q13)=> .br (x5.F5 !=0) (.an (Q06 m) (.lv (Q04 m) λ(x6:List Int)=> .lf (0,x6,x5.F5))) (.an (Qfq m x5.F7 access) (.lv (Qbe m x5.F7 access) λ(x7:List Int)=> .lf (x5.Addr,x7,0))))) T2) T2)); .br (size !=1) (.br (size !=4) T3 T1) T1)
def Q2(c:Q03)(m:(List Int))(va:Int)(size:Int)(access:Int):(Int×(List Int)×Int):=(Q60 c m va size access).m
abbrev Q8t(c:Q03)(m:(List Int))(va:Int)(size:Int)(access:Int):Prop:=(Q60 c m va size access).p
def Z8p:Q0b:=mkP 210 [] true [.agg Q03.sig, .one (.ints .u32), .one (.int .u32), .one (.int .i64), .one (.int .i64)] [] (λargs rows=>Q8t (Q03.of (args.getD 0 .dead).cells) (argL .u32 args 1) (argI args 2) (argI args 3) (argI args 4)) (λargs rows=>Q2 (Q03.of (args.getD 0 .dead).cells) (argL .u32 args 1) (argI args 2) (argI args 3) (argI args 4)) (λX=> .tup [.int .u32 (X.1), .all 0, .int .i64 (X.2.2)]) (λX=>[⟨false,23,1, .ints .u32 (X.2.1)⟩])
theorem Qjc:Q05 Tryz.prog Z8p:=Q0k Q0j Q0h (.cons Z3l (.cons Q0u (.cons Qrq (.cons Z38 (.cons Z0g (.cons Qaf (.nil))))))) Tryz.func210 Tryz.call210 (λargs rows=>Q60 (Q03.of (args.getD 0 .dead).cells) (argL .u32 args 1) (argI args 2) (argI args 3) (argI args 4)) [.row 23 1 (.ints .u32)] [] 2 (λ_ _ _=>by kernel_rfl) (λ_ _=>rfl) (λ_ _ h=>h) (λ_ X=>by kernel_rfl)
def Qaz(c:Q03)(m:(List Int)):Tree (Int×(List Int)×Int):=
.an (Q8t c m c.Pc 4 1) (.lv (Q2 c m c.Pc 4 1) λ(x0:Int×List Int×Int)=> .br (x0.2.2 !=0) (.lf (0,x0.2.1,x0.2.2)) (.an (Q2w x0.2.1 x0.1 4) (.lv (Q4b x0.2.1 x0.1 4) λ(x1:Int×Bool)=> .lf (x1.1,x0.2.1,0))))
def Qmo(c:Q03)(m:(List Int)):(Int×(List Int)×Int):=(Qaz c m).m
abbrev Qlt(c:Q03)(m:(List Int)):Prop:=(Qaz c m).p
def Zh4:Q0b:=mkP 155 [] true [.agg Q03.sig, .one (.ints .u32)] [] (λargs rows=>Qlt (Q03.of (args.getD 0 .dead).cells) (argL .u32 args 1)) (λargs rows=>Qmo (Q03.of (args.getD 0 .dead).cells) (argL .u32 args 1)) (λX=> .tup [.int .u32 (X.1), .all 0, .int .i64 (X.2.2)]) (λX=>[⟨false,23,1, .ints .u32 (X.2.1)⟩])
theorem Zd:Q05 Tryz.prog Zh4:=Q0k Q0j Q0h (.cons Qjc (.cons Qaf (.nil))) Tryz.func155 Tryz.call155 (λargs rows=>Qaz (Q03.of (args.getD 0 .dead).cells) (argL .u32 args 1)) [.row 23 1 (.ints .u32)] [] 2 (λ_ _ _=>by kernel_rfl) (λ_ _=>rfl) (λ_ _ h=>h) (λ_ X=>by kernel_rfl)
def Qm2(op:Int):Tree Bool:=
.br (op==57) (.lf true) (.br (op==58) (.lf true) (.br (op==59) (.lf true) (.br (op==60) (.lf true) (.br (op==61) (.lf true) (.br (op==62) (.lf true) (.br (op==63) (.lf true) (.br (op==64) (.lf true) (.lf false))))))))
def Q85(op:Int):Bool:=(Qm2 op).m
def Qwx:Q0b:=mkR 157 [] true [.one (.int .i64)] [] (λargs rows=>Q85 (argI args 0)) (λX=> .bool X) (λX=>[])
theorem Qvk:Q05 Tryz.prog Qwx:=Q0x Q0j Q0h (.nil) Tryz.func157 Tryz.call157 (λargs rows=>Qm2 (argI args 0)) [] [] 2 (λ_ _ _=>by kernel_rfl) (λ_ _=>rfl) (λ_ _=>Tree.free_ok (by kernel_rfl)) (λ_ X=>by kernel_rfl)
def Qqc(op:Int):Tree Int:=
.br (op==32) (.lf 4) (.br (op==35) (.lf 4) (.lf 1))
def Qef(op:Int):Int:=(Qqc op).m
def Zf8:Q0b:=mkR 216 [] true [.one (.int .i64)] [] (λargs rows=>Qef (argI args 0)) (λX=> .int .i64 X) (λX=>[])
theorem Qvt:Q05 Tryz.prog Zf8:=Q0x Q0j Q0h (.nil) Tryz.func216 Tryz.call216 (λargs rows=>Qqc (argI args 0)) [] [] 2 (λ_ _ _=>by kernel_rfl) (λ_ _=>rfl) (λ_ _=>Tree.free_ok (by kernel_rfl)) (λ_ X=>by kernel_rfl)
def Qbk(c:Q03)(register:Int)(v:Int):Tree Q03:=
.br (register !=0) (.cn (Nat.blt 0 1&&decide (0<=register/\register<(↑16:Int))) (.lf ({X:=A16.of 0 (List.set (A16.l c.X) register.toNat v),Pc:=c.Pc,B7:=c.B7}))) (.lf c)
def Qa5(c:Q03)(register:Int)(v:Int):Q03:=(Qbk c register v).m
abbrev Q7b(c:Q03)(register:Int)(v:Int):Prop:=(Qbk c register v).p
def qB:Q0b:=mkP 217 [] true [.agg Q03.sig, .one (.int .i64), .one (.int .u32)] [] (λargs rows=>Q7b (Q03.of (args.getD 0 .dead).cells) (argI args 1) (argI args 2)) (λargs rows=>Qa5 (Q03.of (args.getD 0 .dead).cells) (argI args 1) (argI args 2)) (λX=> .agg (Q03.cells X)) (λX=>[])
theorem Z61:Q05 Tryz.prog qB:=Q0k Q0j Q0h (.nil) Tryz.func217 Tryz.call217 (λargs rows=>Qbk (Q03.of (args.getD 0 .dead).cells) (argI args 1) (argI args 2)) [] [] 2 (λ_ _ _=>by kernel_rfl) (λ_ _=>rfl) (λ_ _ h=>h) (λ_ X=>by kernel_rfl)
def Qdn(c:Q03)(m:(List Int))(i:Q0i):Tree (Q03×(List Int)):=
.cn (Nat.blt 0 1&&decide (0<=i.B/\i.B<(↑16:Int))) (.lv (Qef i.Op) λ(x0:Int)=>let E1:=wrap u32 (List.getD (A16.l c.X) i.B.toNat 0+wrap u32 i.Imm); .an (Q8t c m E1 x0 2) (.lv (Q2 c m E1 x0 2) λ(x1:Int×List Int×Int)=> .br (x1.2.2 !=0) (.lv (Q45 c x1.2.2 E1) λ(x2:Q03)=> .lf (x2,x1.2.1)) (.lv (Qef i.Op) λ(x3:Int)=> .an (Q2w x1.2.1 x1.1 x3) (.lv (Q4b x1.2.1 x1.1 x3) λ(x4:Int×Bool)=> .br (i.Op==33) (.an (Qb x4.1 8) (.lv (Q28 x4.1 8) λ(x5:Int)=> .an (Q7b c i.A x5) (.lv (Qa5 c i.A x5) λ(x6:Q03)=> .lf ({X:=x6.X,Pc:=wrap u32 (x6.Pc+4),B7:=x6.B7},x1.2.1)))) (.an (Q7b c i.A x4.1) (.lv (Qa5 c i.A x4.1) λ(x7:Q03)=> .lf ({X:=x7.X,Pc:=wrap u32 (x7.Pc+4),B7:=x7.B7},x1.2.1)))))))
def Q6a(c:Q03)(m:(List Int))(i:Q0i):(Q03×(List Int)):=(Qdn c m i).m
abbrev Qvm(c:Q03)(m:(List Int))(i:Q0i):Prop:=(Qdn c m i).p
def Zkn:Q0b:=mkP 159 [] true [.agg Q03.sig, .one (.ints .u32), .agg Q0i.sig] [] (λargs rows=>Qvm (Q03.of (args.getD 0 .dead).cells) (argL .u32 args 1) (Q0i.of (args.getD 2 .dead).cells)) (λargs rows=>Q6a (Q03.of (args.getD 0 .dead).cells) (argL .u32 args 1) (Q0i.of (args.getD 2 .dead).cells)) (λX=> .tup [.agg (Q03.cells (X.1)), .all 0]) (λX=>[⟨false,23,1, .ints .u32 (X.2)⟩])
theorem Zh2:Q05 Tryz.prog Zkn:=Q0k Q0j Q0h (.cons Qjc (.cons Qvt (.cons Qh8 (.cons Qaf (.cons Qir (.cons Z61 (.nil))))))) Tryz.func159 Tryz.call159 (λargs rows=>Qdn (Q03.of (args.getD 0 .dead).cells) (argL .u32 args 1) (Q0i.of (args.getD 2 .dead).cells)) [.row 23 1 (.ints .u32)] [] 2 (λ_ _ _=>by kernel_rfl) (λ_ _=>rfl) (λ_ _ h=>h) (λ_ X=>by kernel_rfl)
def Qav(c:Q03)(m:(List Int))(i:Q0i):Tree (Q03×(List Int)):=
.cn (Nat.blt 0 1&&decide (0<=i.B/\i.B<(↑16:Int))) (.lv (Qef i.Op) λ(x0:Int)=>let E1:=wrap u32 (List.getD (A16.l c.X) i.B.toNat 0+wrap u32 i.Imm); .an (Q8t c m E1 x0 3) (.lv (Q2 c m E1 x0 3) λ(x1:Int×List Int×Int)=> .br (x1.2.2 !=0) (.lv (Q45 c x1.2.2 E1) λ(x2:Q03)=> .lf (x2,x1.2.1)) (.lv (Qef i.Op) λ(x3:Int)=> .cn (Nat.blt 0 1&&decide (0<=i.A/\i.A<(↑16:Int))) (let E2:=List.getD (A16.l c.X) i.A.toNat 0; .an (Qao x1.2.1 x1.1 x3 E2) (.lv (Q98 x1.2.1 x1.1 x3 E2) λ(x4:List Int×Bool)=> .lf ({X:=c.X,Pc:=wrap u32 (c.Pc+4),B7:=c.B7},x4.1))))))
def Q7v(c:Q03)(m:(List Int))(i:Q0i):(Q03×(List Int)):=(Qav c m i).m
abbrev Qs9(c:Q03)(m:(List Int))(i:Q0i):Prop:=(Qav c m i).p
def Zf0:Q0b:=mkP 160 [] true [.agg Q03.sig, .one (.ints .u32), .agg Q0i.sig] [] (λargs rows=>Qs9 (Q03.of (args.getD 0 .dead).cells) (argL .u32 args 1) (Q0i.of (args.getD 2 .dead).cells)) (λargs rows=>Q7v (Q03.of (args.getD 0 .dead).cells) (argL .u32 args 1) (Q0i.of (args.getD 2 .dead).cells)) (λX=> .tup [.agg (Q03.cells (X.1)), .all 0]) (λX=>[⟨false,23,1, .ints .u32 (X.2)⟩])
theorem Zds:Q05 Tryz.prog Zf0:=Q0k Q0j Q0h (.cons Qjc (.cons Qvt (.cons Qh8 (.cons Qoc (.nil))))) Tryz.func160 Tryz.call160 (λargs rows=>Qav (Q03.of (args.getD 0 .dead).cells) (argL .u32 args 1) (Q0i.of (args.getD 2 .dead).cells)) [.row 23 1 (.ints .u32)] [] 2 (λ_ _ _=>by kernel_rfl) (λ_ _=>rfl) (λ_ _ h=>h) (λ_ X=>by kernel_rfl)
def Z0b(op:Int)(a:Int)(b:Int):Tree Bool:=
.br (op==40) (.lf (a==b)) (.br (op==41) (.lf (a !=b)) (.br (op==42) (.lf (decide (wrap i32 a<wrap i32 b))) (.br (op==43) (.lf (decide (wrap i32 a>=wrap i32 b))) (.br (op==44) (.lf (decide (a<b))) (.lf (decide (a>=b)))))))
def Zda(op:Int)(a:Int)(b:Int):Bool:=(Z0b op a b).m
def Zgi:Q0b:=mkR 219 [] true [.one (.int .i64), .one (.int .u32), .one (.int .u32)] [] (λargs rows=>Zda (argI args 0) (argI args 1) (argI args 2)) (λX=> .bool X) (λX=>[])
theorem Zd9:Q05 Tryz.prog Zgi:=Q0x Q0j Q0h (.nil) Tryz.func219 Tryz.call219 (λargs rows=>Z0b (argI args 0) (argI args 1) (argI args 2)) [] [] 2 (λ_ _ _=>by kernel_rfl) (λ_ _=>rfl) (λ_ _=>Tree.free_ok (by kernel_rfl)) (λ_ X=>by kernel_rfl)
def Qea(c:Q03):Tree Q03:=
.lv (Q8h c.B7.a0 8 1) λ(x0:Int)=> .lv (Q8h x0 16 2) λ(x1:Int)=> .lf ({X:=c.X,Pc:=c.B7.a2,B7:={a0:=x1,a1:=c.B7.a1,a2:=c.B7.a2,a3:=c.B7.a3,a4:=c.B7.a4,a5:=c.B7.a5,a6:=c.B7.a6,a7:=c.B7.a7}})
def Qd2(c:Q03):Q03:=(Qea c).m
def Ze3:Q0b:=mkR 220 [] true [.agg Q03.sig] [] (λargs rows=>Qd2 (Q03.of (args.getD 0 .dead).cells)) (λX=> .agg (Q03.cells X)) (λX=>[])
theorem Z9o:Q05 Tryz.prog Ze3:=Q0x Q0j Q0h (.cons Qz6 (.nil)) Tryz.func220 Tryz.call220 (λargs rows=>Qea (Q03.of (args.getD 0 .dead).cells)) [] [] 2 (λ_ _ _=>by kernel_rfl) (λ_ _=>rfl) (λ_ _=>Tree.free_ok (by kernel_rfl)) (λ_ X=>by kernel_rfl)
def Qb6(c:Q03)(csr:Int)(v:Int):Tree Q03:=
let E4:=Nat.blt 0 1&&decide (0<=csr/\csr<(↑8:Int));let T2:Tree (Q03):= .cn E4 (.lf ({X:=c.X,Pc:=c.Pc,B7:=A8.of 0 (List.set (A8.l c.B7) csr.toNat (iand u32 v 31))})); .br (csr==0) T2 (.br (csr==7) T2 (.br (csr==6) (.cn E4 (.lf ({X:=c.X,Pc:=c.Pc,B7:=A8.of 0 (List.set (A8.l c.B7) csr.toNat (iand u32 v 255))}))) (let T3:Tree (Q03):= .cn E4 (.lf ({X:=c.X,Pc:=c.Pc,B7:=A8.of 0 (List.set (A8.l c.B7) csr.toNat (Qg5 u32 v 3))})); .br (csr==1) T3 (.br (csr==2) T3 (let T1:Tree (Q03):= .cn E4 (.lf ({X:=c.X,Pc:=c.Pc,B7:=A8.of 0 (List.set (A8.l c.B7) csr.toNat v)})); .br (csr==3) T1 (.br (csr==4) T1 (.br (csr==5) T1 (.lf c))))))))
def Zbg(c:Q03)(csr:Int)(v:Int):Q03:=(Qb6 c csr v).m
abbrev Qt9(c:Q03)(csr:Int)(v:Int):Prop:=(Qb6 c csr v).p
def Zh1:Q0b:=mkP 221 [] true [.agg Q03.sig, .one (.int .i64), .one (.int .u32)] [] (λargs rows=>Qt9 (Q03.of (args.getD 0 .dead).cells) (argI args 1) (argI args 2)) (λargs rows=>Zbg (Q03.of (args.getD 0 .dead).cells) (argI args 1) (argI args 2)) (λX=> .agg (Q03.cells X)) (λX=>[])
theorem Zcv:Q05 Tryz.prog Zh1:=Q0k Q0j Q0h (.nil) Tryz.func221 Tryz.call221 (λargs rows=>Qb6 (Q03.of (args.getD 0 .dead).cells) (argI args 1) (argI args 2)) [] [] 2 (λ_ _ _=>by kernel_rfl) (λ_ _=>rfl) (λ_ _ h=>h) (λ_ X=>by kernel_rfl)
def Q4t(c:Q03)(i:Q0i):Tree (Q03×Q1):=
.cn (Nat.blt 0 1&&decide (0<=i.A/\i.A<(↑16:Int))) (.cn (Nat.blt 0 1&&decide (0<=i.B/\i.B<(↑16:Int))) (.br (i.Op==24) (.an (Q7b c i.A (ishl u32 (wrap u32 i.Imm) 16)) (.lv (Qa5 c i.A (ishl u32 (wrap u32 i.Imm) 16)) λ(x0:Q03)=> .lf ({X:=x0.X,Pc:=wrap u32 (c.Pc+4),B7:=x0.B7},{B5:=0,D3:=0,F3:=0,Value:=0}))) (let E2:=({X:=c.X,Pc:=wrap u32 (c.Pc+4),B7:=c.B7}:Q03);let E3:=List.getD (A16.l c.X) i.B.toNat 0;let E4:=List.getD (A16.l c.X) i.A.toNat 0;let T1:Tree ((Q03×Q1)):= .lv (Zda i.Op E4 E3) λ(x1:Bool)=> .br x1 (.lf ({X:=c.X,Pc:=wrap u32 (c.Pc+wrap u32 (4*wrap u32 i.Imm)),B7:=c.B7},{B5:=0,D3:=0,F3:=0,Value:=0})) (.lf (E2,{B5:=0,D3:=0,F3:=0,Value:=0})); .br (i.Op==40) T1 (.br (i.Op==41) T1 (.br (i.Op==42) T1 (.br (i.Op==43) T1 (.br (i.Op==44) T1 (.br (i.Op==45) T1 (.br (i.Op==48) (.an (Q7b c i.A (wrap u32 (c.Pc+4))) (.lv (Qa5 c i.A (wrap u32 (c.Pc+4))) λ(x7:Q03)=> .lf ({X:=x7.X,Pc:=wrap u32 (x7.Pc+wrap u32 (4*wrap u32 i.Imm)),B7:=x7.B7},{B5:=0,D3:=0,F3:=0,Value:=0}))) (.br (i.Op==49) (.an (Q7b c i.A (wrap u32 (c.Pc+4))) (.lv (Qa5 c i.A (wrap u32 (c.Pc+4))) λ(x8:Q03)=> .lf ({X:=x8.X,Pc:=wrap u32 (List.getD (A16.l c.X) i.B.toNat 0+wrap u32 i.Imm),B7:=x8.B7},{B5:=0,D3:=0,F3:=0,Value:=0}))) (.br (i.Op==56) (.lv (Q45 c 7 0) λ(x9:Q03)=> .lf (x9,{B5:=0,D3:=0,F3:=0,Value:=0})) (.br (i.Op==57) (.lv (Qd2 c) λ(x10:Q03)=> .lf (x10,{B5:=0,D3:=0,F3:=0,Value:=0})) (.br (i.Op==58) (.cn (Nat.blt 0 1&&decide (0<=i.Imm/\i.Imm<(↑8:Int))) (let E5:=List.getD (A8.l c.B7) i.Imm.toNat 0; .an (Q7b c i.A E5) (.lv (Qa5 c i.A E5) λ(x11:Q03)=> .lf ({X:=x11.X,Pc:=wrap u32 (c.Pc+4),B7:=x11.B7},{B5:=0,D3:=0,F3:=0,Value:=0})))) (.br (i.Op==59) (.an (Qt9 c (wrap i64 i.Imm) E4) (.lv (Zbg c (wrap i64 i.Imm) E4) λ(x12:Q03)=> .lf ({X:=x12.X,Pc:=wrap u32 (c.Pc+4),B7:=x12.B7},{B5:=0,D3:=0,F3:=0,Value:=0}))) (.br (i.Op==60) (.lf (E2,{B5:=1,D3:=wrap i64 i.Imm,F3:=i.A,Value:=0})) (.br (i.Op==61) (.lf (E2,{B5:=2,D3:=wrap i64 i.Imm,F3:=0,Value:=List.getD (A16.l c.X) i.A.toNat 0})) (.br (i.Op==62) (.lf (E2,{B5:=3,D3:=0,F3:=0,Value:=0})) (.br (i.Op==63) (.lf (E2,{B5:=5,D3:=0,F3:=0,Value:=0})) (.br (i.Op==64) (.lf (E2,{B5:=4,D3:=0,F3:=0,Value:=0})) (.cn (Nat.blt 0 1&&decide (0<=i.C/\i.C<(↑16:Int))) (.br (decide (i.Op>=16)) (.an (Qqr i.Op E3 (wrap u32 i.Imm)) (.lv (Q3z i.Op E3 (wrap u32 i.Imm)) λ(x13:Int×Bool)=> .an (Q7b c i.A x13.1) (.lv (Qa5 c i.A x13.1) λ(x14:Q03)=> .lf ({X:=x14.X,Pc:=wrap u32 (c.Pc+4),B7:=x14.B7},{B5:=0,D3:=0,F3:=0,Value:=0})))) (let E6:=List.getD (A16.l c.X) i.C.toNat 0; .an (Qqr i.Op E3 E6) (.lv (Q3z i.Op E3 E6) λ(x15:Int×Bool)=> .an (Q7b c i.A x15.1) (.lv (Qa5 c i.A x15.1) λ(x16:Q03)=> .lf ({X:=x16.X,Pc:=wrap u32 (c.Pc+4),B7:=x16.B7},{B5:=0,D3:=0,F3:=0,Value:=0})))))))))))))))))))))))))
def Ql(c:Q03)(i:Q0i):(Q03×Q1):=(Q4t c i).m
abbrev Qn7(c:Q03)(i:Q0i):Prop:=(Q4t c i).p
def Z9m:Q0b:=mkP 161 [] true [.agg Q03.sig, .agg Q0i.sig] [] (λargs rows=>Qn7 (Q03.of (args.getD 0 .dead).cells) (Q0i.of (args.getD 1 .dead).cells)) (λargs rows=>Ql (Q03.of (args.getD 0 .dead).cells) (Q0i.of (args.getD 1 .dead).cells)) (λX=> .tup [.agg (Q03.cells (X.1)), .agg (Q1.cells (X.2))]) (λX=>[])
theorem Z2u:Q05 Tryz.prog Z9m:=Q0k Q0j Q0h (.cons Z61 (.cons Zd9 (.cons Qh8 (.cons Z9o (.cons Zcv (.cons Zjs (.nil))))))) Tryz.func161 Tryz.call161 (λargs rows=>Q4t (Q03.of (args.getD 0 .dead).cells) (Q0i.of (args.getD 1 .dead).cells)) [] [] 2 (λ_ _ _=>by kernel_rfl) (λ_ _=>rfl) (λ_ _ h=>h) (λ_ X=>by kernel_rfl)
def Q7(c:Q03)(m:(List Int)):Tree (Q03×(List Int)×Q1):=
.an (Qlt c m) (.lv (Qmo c m) λ(x0:Int×List Int×Int)=> .br (x0.2.2 !=0) (.lv (Q45 c x0.2.2 c.Pc) λ(x1:Q03)=> .lf (x1,x0.2.1,{B5:=0,D3:=0,F3:=0,Value:=0})) (.an (Qjm x0.1) (.lv (Qgo x0.1) λ(x2:Q0i×Bool)=> .br (!x2.2) (.lv (Q45 c 1 x0.1) λ(x3:Q03)=> .lf (x3,x0.2.1,{B5:=0,D3:=0,F3:=0,Value:=0})) (.lv (Q85 x2.1.Op) λ(x4:Bool)=>let T1:Tree ((Q03×(List Int)×Q1)):=let T2:Tree ((Q03×(List Int)×Q1)):= .an (Qvm c x0.2.1 x2.1) (.lv (Q6a c x0.2.1 x2.1) λ(x7:Q03×List Int)=> .lf (x7.1,x7.2,{B5:=0,D3:=0,F3:=0,Value:=0})); .br (x2.1.Op==32) T2 (.br (x2.1.Op==33) T2 (.br (x2.1.Op==34) T2 (let T3:Tree ((Q03×(List Int)×Q1)):= .an (Qs9 c x0.2.1 x2.1) (.lv (Q7v c x0.2.1 x2.1) λ(x10:Q03×List Int)=> .lf (x10.1,x10.2,{B5:=0,D3:=0,F3:=0,Value:=0})); .br (x2.1.Op==35) T3 (.br (x2.1.Op==36) T3 (.an (Qn7 c x2.1) (.lv (Ql c x2.1) λ(x12:Q03×Q1)=> .lf (x12.1,x0.2.1,x12.2))))))); .br x4 (.lv (Q9v c) λ(x5:Bool)=> .br (!x5) (.lv (Q45 c 2 x0.1) λ(x6:Q03)=> .lf (x6,x0.2.1,{B5:=0,D3:=0,F3:=0,Value:=0})) T1) T1))))
def Q9l(c:Q03)(m:(List Int)):(Q03×(List Int)×Q1):=(Q7 c m).m
abbrev Qiu(c:Q03)(m:(List Int)):Prop:=(Q7 c m).p
def Zlt:Q0b:=mkP 107 [] true [.agg Q03.sig, .one (.ints .u32)] [] (λargs rows=>Qiu (Q03.of (args.getD 0 .dead).cells) (argL .u32 args 1)) (λargs rows=>Q9l (Q03.of (args.getD 0 .dead).cells) (argL .u32 args 1)) (λX=> .tup [.agg (Q03.cells (X.1)), .all 0, .agg (Q1.cells (X.2.2))]) (λX=>[⟨false,23,1, .ints .u32 (X.2.1)⟩])
theorem Qzp:Q05 Tryz.prog Zlt:=Q0k Q0j Q0h (.cons Zd (.cons Qh8 (.cons Z8q (.cons Qvk (.cons Qrq (.cons Zh2 (.cons Zds (.cons Z2u (.nil))))))))) Tryz.func107 Tryz.call107 (λargs rows=>Q7 (Q03.of (args.getD 0 .dead).cells) (argL .u32 args 1)) [.row 23 1 (.ints .u32)] [] 2 (λ_ _ _=>by kernel_rfl) (λ_ _=>rfl) (λ_ _ h=>h) (λ_ X=>by kernel_rfl)
end
end Go.Proofs.YtjaifpiopmhmlaaGreat

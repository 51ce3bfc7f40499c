/-
  Functions of the program: models, and that its calls come to them (by a program: gen3.py).
-/
import Derived.Test.YtjaifpiopmhmlaaGreatBareSplitsBase
import Derived.Test.YtjaifpiopmhmlaaGreatBareSplitsYa
set_option maxRecDepth 100000
set_option linter.all false
namespace Go.Proofs.YtjaifpiopmhmlaaGreat
open Go Go.GD Go.IntKind
noncomputable section
def Qoo(status:Int)(from0:Int)(to:Int):Tree Int:=
.br (iand u32 status from0 !=0) (.lf (ior u32 status to)) (.lf (Qg1 u32 status to))
def Q8h(status:Int)(from0:Int)(to:Int):Int:=(Qoo status from0 to).m
def Zla:Q0c:=mkR 209 [] true [.one (.int .u32), .one (.int .u32), .one (.int .u32)] [] (λargs rows=>Q8h (argI args 0) (argI args 1) (argI args 2)) (λX=> .int .u32 X) (λX=>[])
theorem Z0y:Q05 Tryz.prog Zla:=Q0z Q0j Q0k (.nil) Tryz.func209 Tryz.call209 (λargs rows=>Qoo (argI args 0) (argI args 1) (argI args 2)) [] [] 2 (λ_ _ _=>by kernel_rfl) (λ_ _=>rfl) (λ_ _=>Tree.free_ok (by kernel_rfl)) (λ_ X=>by kernel_rfl)
def Qkb(c:Q04)(cause:Int)(bad:Int):Tree Q04:=
.lv (Q8h c.B6.a0 1 8) λ(x0:Int)=> .lv (Q8h x0 2 16) λ(x1:Int)=> .lf ({X:=c.X,Pc:=c.B6.a1,B6:={a0:=Qg1 u32 (ior u32 x1 1) 2,a1:=c.B6.a1,a2:=c.Pc,a3:=wrap u32 cause,a4:=bad,a5:=c.B6.a5,a6:=c.B6.a6,a7:=c.B6.a7}})
def Q48(c:Q04)(cause:Int)(bad:Int):Q04:=(Qkb c cause bad).m
def Zju:Q0c:=mkR 154 [] true [.agg Q04.sig, .one (.int .i64), .one (.int .u32)] [] (λargs rows=>Q48 (Q04.of (args.getD 0 .dead).cells) (argI args 1) (argI args 2)) (λX=> .agg (Q04.cells X)) (λX=>[])
theorem Qgx:Q05 Tryz.prog Zju:=Q0z Q0j Q0k (.cons Z0y (.nil)) Tryz.func154 Tryz.call154 (λargs rows=>Qkb (Q04.of (args.getD 0 .dead).cells) (argI args 1) (argI args 2)) [] [] 2 (λ_ _ _=>by kernel_rfl) (λ_ _=>rfl) (λ_ _=>Tree.free_ok (by kernel_rfl)) (λ_ X=>by kernel_rfl)
def Qt(access:Int):Tree (Int×Bool):=
.br (access==1) (.lf (4,true)) (.br (access==2) (.lf (5,true)) (.br (access==3) (.lf (6,true)) (.lf (5,false))))
def Qqa(access:Int):(Int×Bool):=(Qt access).m
def Z6f:Q0c:=mkR 249 [] true [.one (.int .i64)] [] (λargs rows=>Qqa (argI args 0)) (λX=> .tup [.int .i64 (X.1), .bool (X.2)]) (λX=>[])
theorem Z2m:Q05 Tryz.prog Z6f:=Q0z Q0j Q0k (.nil) Tryz.func249 Tryz.call249 (λargs rows=>Qt (argI args 0)) [] [] 2 (λ_ _ _=>by kernel_rfl) (λ_ _=>rfl) (λ_ _=>Tree.free_ok (by kernel_rfl)) (λ_ X=>by kernel_rfl)
def Qwb(c:Q04):Tree Bool:=
.lf (iand u32 c.B6.a0 (1:Int) !=(0:Int))
def Q9q(c:Q04):Bool:=(Qwb c).m
def Zcx:Q0c:=mkR 158 [] true [.agg Q04.sig] [] (λargs rows=>Q9q (Q04.of (args.getD 0 .dead).cells)) (λX=> .bool X) (λX=>[])
theorem Qsy:Q05 Tryz.prog Zcx:=Q0z Q0j Q0k (.nil) Tryz.func158 Tryz.call158 (λargs rows=>Qwb (Q04.of (args.getD 0 .dead).cells)) [] [] 2 (λ_ _ _=>by kernel_rfl) (λ_ _=>rfl) (λ_ _=>Tree.free_ok (by kernel_rfl)) (λ_ X=>by kernel_rfl)
def Qln(access:Int):Tree (Int×Bool):=
.br (access==1) (.lf (4,true)) (.br (access==2) (.lf (5,true)) (.br (access==3) (.lf (6,true)) (.lf (5,false))))
def Qj4(access:Int):(Int×Bool):=(Qln access).m
def Qwu:Q0c:=mkR 269 [] true [.one (.int .i64)] [] (λargs rows=>Qj4 (argI args 0)) (λX=> .tup [.int .i64 (X.1), .bool (X.2)]) (λX=>[])
theorem Qtf:Q05 Tryz.prog Qwu:=Q0z Q0j Q0k (.nil) Tryz.func269 Tryz.call269 (λargs rows=>Qln (argI args 0)) [] [] 2 (λ_ _ _=>by kernel_rfl) (λ_ _=>rfl) (λ_ _=>Tree.free_ok (by kernel_rfl)) (λ_ X=>by kernel_rfl)
def Qh9(m:(List Int))(frame:Int):Tree Bool:=
.lv (Q0v m) λ(x0:Int)=> .lf (decide (wrap u64 frame<wrap u64 x0))
def Qa1(m:(List Int))(frame:Int):Bool:=(Qh9 m frame).m
def Z0u:Q0c:=mkR 270 [] true [.one (.ints .u32), .one (.int .u32)] [] (λargs rows=>Qa1 (argL .u32 args 0) (argI args 1)) (λX=> .bool X) (λX=>[])
theorem Qwy:Q05 Tryz.prog Z0u:=Q0z Q0j Q0k (.cons Q3t (.nil)) Tryz.func270 Tryz.call270 (λargs rows=>Qh9 (argL .u32 args 0) (argI args 1)) [] [] 2 (λ_ _ _=>by kernel_rfl) (λ_ _=>rfl) (λ_ _=>Tree.free_ok (by kernel_rfl)) (λ_ X=>by kernel_rfl)
def Q63(m:(List Int))(addr:Int)(size:Int):Tree (Int×Bool):=
.an (Q9j m addr size) (.lv (Qg4 m addr size) λ(x0:Bool)=> .br (!x0) (.lf (0,false)) (.cn (Nat.beq 1 1&&Nat.blt 0 1&&decide (0<=wrap u32 (Int.tdiv addr 4)/\wrap u32 (Int.tdiv addr 4)<(m.length:Int))) (let E1:=Int.toNat (wrap u32 (Int.tdiv addr 4)); .br (size==1) (let E2:=wrap i64 (wrap i64 (Int.tmod addr 4)*8); .an (Q5 (m.getD E1 0) E2 8) (.lv (Q2r (m.getD E1 0) E2 8) λ(x1:Int)=> .lf (x1,true))) (.lf (m.getD E1 0,true)))))
def Q4h(m:(List Int))(addr:Int)(size:Int):(Int×Bool):=(Q63 m addr size).m
abbrev Q2v(m:(List Int))(addr:Int)(size:Int):Prop:=(Q63 m addr size).p
def Z7g:Q0c:=mkP 211 [] true [.one (.ints .u32), .one (.int .u32), .one (.int .i64)] [] (λargs rows=>Q2v (argL .u32 args 0) (argI args 1) (argI args 2)) (λargs rows=>Q4h (argL .u32 args 0) (argI args 1) (argI args 2)) (λX=> .tup [.int .u32 (X.1), .bool (X.2)]) (λX=>[])
theorem Qag:Q05 Tryz.prog Z7g:=Q0n Q0j Q0k (.cons Qlx (.cons Qlc (.nil))) Tryz.func211 Tryz.call211 (λargs rows=>Q63 (argL .u32 args 0) (argI args 1) (argI args 2)) [] [] 2 (λ_ _ _=>by kernel_rfl) (λ_ _=>rfl) (λ_ _ h=>h) (λ_ X=>by kernel_rfl)
def Qlq(pte:Int)(access:Int):Tree Bool:=
.br (iand u32 pte (1:Int)==(0:Int)) (.lf false) (.br (access==3) (.lf (iand u32 pte (2:Int) !=(0:Int))) (.br (access==1) (.lf (iand u32 pte (4:Int) !=(0:Int))) (.lf true)))
def Qaj(pte:Int)(access:Int):Bool:=(Qlq pte access).m
def Qxg:Q0c:=mkR 271 [] true [.one (.int .u32), .one (.int .i64)] [] (λargs rows=>Qaj (argI args 0) (argI args 1)) (λX=> .bool X) (λX=>[])
theorem Qtz:Q05 Tryz.prog Qxg:=Q0z Q0j Q0k (.nil) Tryz.func271 Tryz.call271 (λargs rows=>Qlq (argI args 0) (argI args 1)) [] [] 2 (λ_ _ _=>by kernel_rfl) (λ_ _=>rfl) (λ_ _=>Tree.free_ok (by kernel_rfl)) (λ_ X=>by kernel_rfl)
def Q7q(pte:Int):Tree Int:=
.an (Q5 pte 8 8) (.lv (Q2r pte 8 8) λ(x0:Int)=> .lf x0)
def Qds(pte:Int):Int:=(Q7q pte).m
abbrev Qch(pte:Int):Prop:=(Q7q pte).p
def Qy0:Q0c:=mkP 272 [] true [.one (.int .u32)] [] (λargs rows=>Qch (argI args 0)) (λargs rows=>Qds (argI args 0)) (λX=> .int .u32 X) (λX=>[])
theorem Qtc:Q05 Tryz.prog Qy0:=Q0n Q0j Q0k (.cons Qlc (.nil)) Tryz.func272 Tryz.call272 (λargs rows=>Q7q (argI args 0)) [] [] 2 (λ_ _ _=>by kernel_rfl) (λ_ _=>rfl) (λ_ _ h=>h) (λ_ X=>by kernel_rfl)
def Q9v(m:(List Int))(root:Int)(va:Int)(access:Int):Tree Q14:=
.lv (Qj4 access) λ(x0:Int×Bool)=>let E1:=({Addr:=0,F3:=0,F1:=x0.1}:Q14); .br (!x0.2) (.lf (E1)) (.br (decide (va>=4096)) (.lf (E1)) (.lv (Qa1 m root) λ(x1:Bool)=> .br (!x1) (.lf (E1)) (let E2:=wrap u32 (root*128)+wrap u32 (4*wrap u32 (Int.tdiv va 128)); .an (Q2v m (wrap u32 E2) 4) (.lv (Q4h m (wrap u32 E2) 4) λ(x2:Int×Bool)=> .br (!x2.2) (.lf (E1)) (.lv (Qaj x2.1 access) λ(x3:Bool)=> .br (!x3) (.lf (E1)) (.an (Qch x2.1) (.lv (Qds x2.1) λ(x4:Int)=> .lv (Qa1 m x4) λ(x5:Bool)=> .br (!x5) (.lf (E1)) (.an (Qch x2.1) (.lv (Qds x2.1) λ(x6:Int)=> .lf ({Addr:=wrap u32 (wrap u32 (x6*128)+Int.tmod va 128),F3:=wrap u32 E2,F1:=0}))))))))))
def Qia(m:(List Int))(root:Int)(va:Int)(access:Int):Q14:=(Q9v m root va access).m
abbrev Qgz(m:(List Int))(root:Int)(va:Int)(access:Int):Prop:=(Q9v m root va access).p
def Z88:Q0c:=mkP 250 [] true [.one (.ints .u32), .one (.int .u32), .one (.int .u32), .one (.int .i64)] [] (λargs rows=>Qgz (argL .u32 args 0) (argI args 1) (argI args 2) (argI args 3)) (λargs rows=>Qia (argL .u32 args 0) (argI args 1) (argI args 2) (argI args 3)) (λX=> .agg (Q14.cells X)) (λX=>[])
theorem Z2p:Q05 Tryz.prog Z88:=Q0n Q0j Q0k (.cons Qtf (.cons Qwy (.cons Qag (.cons Qtz (.cons Qtc (.nil)))))) Tryz.func250 Tryz.call250 (λargs rows=>Q9v (argL .u32 args 0) (argI args 1) (argI args 2) (argI args 3)) [] [] 2 (λ_ _ _=>by kernel_rfl) (λ_ _=>rfl) (λ_ _ h=>h) (λ_ X=>by kernel_rfl)
def Q8(m:(List Int))(entry:Int)(access:Int):Tree (List Int):=
.an (Q2v m entry 4) (.lv (Q4h m entry 4) λ(x0:Int×Bool)=> .br (!x0.2) (.an (Q06 m) (.lv (Q03 m) λ(x1:List Int)=> .lf x1)) (.br (access==3) (.an (Qal m entry 4 (ior u32 (ior u32 x0.1 8) 16)) (.lv (Q8r m entry 4 (ior u32 (ior u32 x0.1 8) 16)) λ(x2:List Int×Bool)=> .lf x2.1)) (.an (Qal m entry 4 (ior u32 x0.1 8)) (.lv (Q8r m entry 4 (ior u32 x0.1 8)) λ(x3:List Int×Bool)=> .lf x3.1))))
def Qba(m:(List Int))(entry:Int)(access:Int):(List Int):=(Q8 m entry access).m
abbrev Qf7(m:(List Int))(entry:Int)(access:Int):Prop:=(Q8 m entry access).p
def Z31:Q0c:=mkP 251 [] true [.one (.ints .u32), .one (.int .u32), .one (.int .i64)] [] (λargs rows=>Qf7 (argL .u32 args 0) (argI args 1) (argI args 2)) (λargs rows=>Qba (argL .u32 args 0) (argI args 1) (argI args 2)) (λX=> .all 0) (λX=>[⟨false,23,1, .ints .u32 X⟩])
theorem Qzp:Q05 Tryz.prog Z31:=Q0n Q0j Q0k (.cons Qag (.cons Q0w (.cons Qno (.nil)))) Tryz.func251 Tryz.call251 (λargs rows=>Q8 (argL .u32 args 0) (argI args 1) (argI args 2)) [.row 23 1 (.ints .u32)] [] 2 (λ_ _ _=>by kernel_rfl) (λ_ _=>rfl) (λ_ _ h=>h) (λ_ X=>by kernel_rfl)
def Q5x(c:Q04)(m:(List Int))(va:Int)(size:Int)(access:Int):Tree (Int×(List Int)×Int):=
.lv (Qqa access) λ(x0:Int×Bool)=>let T3:Tree ((Int×(List Int)×Int)):= .an (Q06 m) (.lv (Q03 m) λ(x1:List Int)=> .lf (0,x1,5)); .br (!x0.2) T3 (let T1:Tree ((Int×(List Int)×Int)):= .cn (decide (wrap u32 size≠0)) (.br (Int.tmod va (wrap u32 size) !=0) (.an (Q06 m) (.lv (Q03 m) λ(x3:List Int)=> .lf (0,x3,3))) (.lv (Q9q c) λ(x4:Bool)=>let T2:Tree ((Int×(List Int)×Int)):= .an (Q2v m va size) (.lv (Q4h m va size) λ(x8:Int×Bool)=> .br (!x8.2) (.an (Q06 m) (.lv (Q03 m) λ(x9:List Int)=> .lf (0,x9,x0.1))) (.an (Q06 m) (.lv (Q03 m) λ(x10:List Int)=> .lf (va,x10,0)))); .br (!x4) (.br (iand u32 c.B6.a0 (4:Int) !=(0:Int)) (.an (Qgz m c.B6.a6 va access) (.lv (Qia m c.B6.a6 va access) λ(x5:Q14)=> .br (x5.F1 !=0) (.an (Q06 m) (.lv (Q03 m) λ(x6:List Int)=> .lf (0,x6,x5.F1))) (.an (Qf7 m x5.F3 access) (.lv (Qba m x5.F3 access) λ(x7:List Int)=> .lf (x5.Addr,x7,0))))) T2) T2)); .br (size !=1) (.br (size !=4) T3 T1) T1)
def Q1x(c:Q04)(m:(List Int))(va:Int)(size:Int)(access:Int):(Int×(List Int)×Int):=(Q5x c m va size access).m
abbrev Q9b(c:Q04)(m:(List Int))(va:Int)(size:Int)(access:Int):Prop:=(Q5x c m va size access).p
def Z8i:Q0c:=mkP 210 [] true [.agg Q04.sig, .one (.ints .u32), .one (.int .u32), .one (.int .i64), .one (.int .i64)] [] (λargs rows=>Q9b (Q04.of (args.getD 0 .dead).cells) (argL .u32 args 1) (argI args 2) (argI args 3) (argI args 4)) (λargs rows=>Q1x (Q04.of (args.getD 0 .dead).cells) (argL .u32 args 1) (argI args 2) (argI args 3) (argI args 4)) (λX=> .tup [.int .u32 (X.1), .all 0, .int .i64 (X.2.2)]) (λX=>[⟨false,23,1, .ints .u32 (X.2.1)⟩])
theorem Qj:Q05 Tryz.prog Z8i:=Q0n Q0j Q0k (.cons Z2m (.cons Q0w (.cons Qsy (.cons Z2p (.cons Qzp (.cons Qag (.nil))))))) Tryz.func210 Tryz.call210 (λargs rows=>Q5x (Q04.of (args.getD 0 .dead).cells) (argL .u32 args 1) (argI args 2) (argI args 3) (argI args 4)) [.row 23 1 (.ints .u32)] [] 2 (λ_ _ _=>by kernel_rfl) (λ_ _=>rfl) (λ_ _ h=>h) (λ_ X=>by kernel_rfl)
def Qaq(c:Q04)(m:(List Int)):Tree (Int×(List Int)×Int):=
.an (Q9b c m c.Pc 4 1) (.lv (Q1x c m c.Pc 4 1) λ(x0:Int×List Int×Int)=> .br (x0.2.2 !=0) (.lf (0,x0.2.1,x0.2.2)) (.an (Q2v x0.2.1 x0.1 4) (.lv (Q4h x0.2.1 x0.1 4) λ(x1:Int×Bool)=> .lf (x1.1,x0.2.1,0))))
def Qmy(c:Q04)(m:(List Int)):(Int×(List Int)×Int):=(Qaq c m).m
abbrev Qks(c:Q04)(m:(List Int)):Prop:=(Qaq c m).p
def Zg:Q0c:=mkP 155 [] true [.agg Q04.sig, .one (.ints .u32)] [] (λargs rows=>Qks (Q04.of (args.getD 0 .dead).cells) (argL .u32 args 1)) (λargs rows=>Qmy (Q04.of (args.getD 0 .dead).cells) (argL .u32 args 1)) (λX=> .tup [.int .u32 (X.1), .all 0, .int .i64 (X.2.2)]) (λX=>[⟨false,23,1, .ints .u32 (X.2.1)⟩])
theorem Zbg:Q05 Tryz.prog Zg:=Q0n Q0j Q0k (.cons Qj (.cons Qag (.nil))) Tryz.func155 Tryz.call155 (λargs rows=>Qaq (Q04.of (args.getD 0 .dead).cells) (argL .u32 args 1)) [.row 23 1 (.ints .u32)] [] 2 (λ_ _ _=>by kernel_rfl) (λ_ _=>rfl) (λ_ _ h=>h) (λ_ X=>by kernel_rfl)
def Qlr(op:Int):Tree Bool:=
.br (op==57) (.lf true) (.br (op==58) (.lf true) (.br (op==59) (.lf true) (.br (op==60) (.lf true) (.br (op==61) (.lf true) (.br (op==62) (.lf true) (.br (op==63) (.lf true) (.br (op==64) (.lf true) (.lf false))))))))
def Q83(op:Int):Bool:=(Qlr op).m
def Qxb:Q0c:=mkR 157 [] true [.one (.int .i64)] [] (λargs rows=>Q83 (argI args 0)) (λX=> .bool X) (λX=>[])
theorem Qu:Q05 Tryz.prog Qxb:=Q0z Q0j Q0k (.nil) Tryz.func157 Tryz.call157 (λargs rows=>Qlr (argI args 0)) [] [] 2 (λ_ _ _=>by kernel_rfl) (λ_ _=>rfl) (λ_ _=>Tree.free_ok (by kernel_rfl)) (λ_ X=>by kernel_rfl)
def Qqb(op:Int):Tree Int:=
.br (op==32) (.lf 4) (.br (op==35) (.lf 4) (.lf 1))
def Qek(op:Int):Int:=(Qqb op).m
def Zgk:Q0c:=mkR 216 [] true [.one (.int .i64)] [] (λargs rows=>Qek (argI args 0)) (λX=> .int .i64 X) (λX=>[])
theorem Qwn:Q05 Tryz.prog Zgk:=Q0z Q0j Q0k (.nil) Tryz.func216 Tryz.call216 (λargs rows=>Qqb (argI args 0)) [] [] 2 (λ_ _ _=>by kernel_rfl) (λ_ _=>rfl) (λ_ _=>Tree.free_ok (by kernel_rfl)) (λ_ X=>by kernel_rfl)
def Qbi(c:Q04)(register:Int)(v:Int):Tree Q04:=
.br (register !=0) (.cn (Nat.blt 0 1&&decide (0<=register/\register<(↑16:Int))) (.lf ({X:=A16.of 0 (List.set (A16.l c.X) register.toNat v),Pc:=c.Pc,B6:=c.B6}))) (.lf c)
def Qa8(c:Q04)(register:Int)(v:Int):Q04:=(Qbi c register v).m
abbrev Q7a(c:Q04)(register:Int)(v:Int):Prop:=(Qbi c register v).p
def zA:Q0c:=mkP 217 [] true [.agg Q04.sig, .one (.int .i64), .one (.int .u32)] [] (λargs rows=>Q7a (Q04.of (args.getD 0 .dead).cells) (argI args 1) (argI args 2)) (λargs rows=>Qa8 (Q04.of (args.getD 0 .dead).cells) (argI args 1) (argI args 2)) (λX=> .agg (Q04.cells X)) (λX=>[])
theorem Z5:Q05 Tryz.prog zA:=Q0n Q0j Q0k (.nil) Tryz.func217 Tryz.call217 (λargs rows=>Qbi (Q04.of (args.getD 0 .dead).cells) (argI args 1) (argI args 2)) [] [] 2 (λ_ _ _=>by kernel_rfl) (λ_ _=>rfl) (λ_ _ h=>h) (λ_ X=>by kernel_rfl)
def Qdi(c:Q04)(m:(List Int))(i:Q0i):Tree (Q04×(List Int)):=
.cn (Nat.blt 0 1&&decide (0<=i.B/\i.B<(↑16:Int))) (.lv (Qek i.Op) λ(x0:Int)=>let E1:=wrap u32 (List.getD (A16.l c.X) i.B.toNat 0+wrap u32 i.Imm); .an (Q9b c m E1 x0 2) (.lv (Q1x c m E1 x0 2) λ(x1:Int×List Int×Int)=> .br (x1.2.2 !=0) (.lv (Q48 c x1.2.2 E1) λ(x2:Q04)=> .lf (x2,x1.2.1)) (.lv (Qek i.Op) λ(x3:Int)=> .an (Q2v x1.2.1 x1.1 x3) (.lv (Q4h x1.2.1 x1.1 x3) λ(x4:Int×Bool)=> .br (i.Op==33) (.an (Qap x4.1 8) (.lv (Q26 x4.1 8) λ(x5:Int)=> .an (Q7a c i.A x5) (.lv (Qa8 c i.A x5) λ(x6:Q04)=> .lf ({X:=x6.X,Pc:=wrap u32 (x6.Pc+4),B6:=x6.B6},x1.2.1)))) (.an (Q7a c i.A x4.1) (.lv (Qa8 c i.A x4.1) λ(x7:Q04)=> .lf ({X:=x7.X,Pc:=wrap u32 (x7.Pc+4),B6:=x7.B6},x1.2.1)))))))
def Q60(c:Q04)(m:(List Int))(i:Q0i):(Q04×(List Int)):=(Qdi c m i).m
abbrev Qw5(c:Q04)(m:(List Int))(i:Q0i):Prop:=(Qdi c m i).p
def Zle:Q0c:=mkP 159 [] true [.agg Q04.sig, .one (.ints .u32), .agg Q0i.sig] [] (λargs rows=>Qw5 (Q04.of (args.getD 0 .dead).cells) (argL .u32 args 1) (Q0i.of (args.getD 2 .dead).cells)) (λargs rows=>Q60 (Q04.of (args.getD 0 .dead).cells) (argL .u32 args 1) (Q0i.of (args.getD 2 .dead).cells)) (λX=> .tup [.agg (Q04.cells (X.1)), .all 0]) (λX=>[⟨false,23,1, .ints .u32 (X.2)⟩])
theorem Zej:Q05 Tryz.prog Zle:=Q0n Q0j Q0k (.cons Qj (.cons Qwn (.cons Qgx (.cons Qag (.cons Qii (.cons Z5 (.nil))))))) Tryz.func159 Tryz.call159 (λargs rows=>Qdi (Q04.of (args.getD 0 .dead).cells) (argL .u32 args 1) (Q0i.of (args.getD 2 .dead).cells)) [.row 23 1 (.ints .u32)] [] 2 (λ_ _ _=>by kernel_rfl) (λ_ _=>rfl) (λ_ _ h=>h) (λ_ X=>by kernel_rfl)
def Qau(c:Q04)(m:(List Int))(i:Q0i):Tree (Q04×(List Int)):=
.cn (Nat.blt 0 1&&decide (0<=i.B/\i.B<(↑16:Int))) (.lv (Qek i.Op) λ(x0:Int)=>let E1:=wrap u32 (List.getD (A16.l c.X) i.B.toNat 0+wrap u32 i.Imm); .an (Q9b c m E1 x0 3) (.lv (Q1x c m E1 x0 3) λ(x1:Int×List Int×Int)=> .br (x1.2.2 !=0) (.lv (Q48 c x1.2.2 E1) λ(x2:Q04)=> .lf (x2,x1.2.1)) (.lv (Qek i.Op) λ(x3:Int)=> .cn (Nat.blt 0 1&&decide (0<=i.A/\i.A<(↑16:Int))) (let E2:=List.getD (A16.l c.X) i.A.toNat 0; .an (Qal x1.2.1 x1.1 x3 E2) (.lv (Q8r x1.2.1 x1.1 x3 E2) λ(x4:List Int×Bool)=> .lf ({X:=c.X,Pc:=wrap u32 (c.Pc+4),B6:=c.B6},x4.1))))))
def Q7o(c:Q04)(m:(List Int))(i:Q0i):(Q04×(List Int)):=(Qau c m i).m
abbrev Qt5(c:Q04)(m:(List Int))(i:Q0i):Prop:=(Qau c m i).p
def Zg0:Q0c:=mkP 160 [] true [.agg Q04.sig, .one (.ints .u32), .agg Q0i.sig] [] (λargs rows=>Qt5 (Q04.of (args.getD 0 .dead).cells) (argL .u32 args 1) (Q0i.of (args.getD 2 .dead).cells)) (λargs rows=>Q7o (Q04.of (args.getD 0 .dead).cells) (argL .u32 args 1) (Q0i.of (args.getD 2 .dead).cells)) (λX=> .tup [.agg (Q04.cells (X.1)), .all 0]) (λX=>[⟨false,23,1, .ints .u32 (X.2)⟩])
theorem Za2:Q05 Tryz.prog Zg0:=Q0n Q0j Q0k (.cons Qj (.cons Qwn (.cons Qgx (.cons Qno (.nil))))) Tryz.func160 Tryz.call160 (λargs rows=>Qau (Q04.of (args.getD 0 .dead).cells) (argL .u32 args 1) (Q0i.of (args.getD 2 .dead).cells)) [.row 23 1 (.ints .u32)] [] 2 (λ_ _ _=>by kernel_rfl) (λ_ _=>rfl) (λ_ _ h=>h) (λ_ X=>by kernel_rfl)
def Z1y(op:Int)(a:Int)(b:Int):Tree Bool:=
.br (op==40) (.lf (a==b)) (.br (op==41) (.lf (a !=b)) (.br (op==42) (.lf (decide (wrap i32 a<wrap i32 b))) (.br (op==43) (.lf (decide (wrap i32 a>=wrap i32 b))) (.br (op==44) (.lf (decide (a<b))) (.lf (decide (a>=b)))))))
def Zad(op:Int)(a:Int)(b:Int):Bool:=(Z1y op a b).m
def Zfu:Q0c:=mkR 219 [] true [.one (.int .i64), .one (.int .u32), .one (.int .u32)] [] (λargs rows=>Zad (argI args 0) (argI args 1) (argI args 2)) (λX=> .bool X) (λX=>[])
theorem Zdb:Q05 Tryz.prog Zfu:=Q0z Q0j Q0k (.nil) Tryz.func219 Tryz.call219 (λargs rows=>Z1y (argI args 0) (argI args 1) (argI args 2)) [] [] 2 (λ_ _ _=>by kernel_rfl) (λ_ _=>rfl) (λ_ _=>Tree.free_ok (by kernel_rfl)) (λ_ X=>by kernel_rfl)
def Qen(c:Q04):Tree Q04:=
.lv (Q8h c.B6.a0 8 1) λ(x0:Int)=> .lv (Q8h x0 16 2) λ(x1:Int)=> .lf ({X:=c.X,Pc:=c.B6.a2,B6:={a0:=x1,a1:=c.B6.a1,a2:=c.B6.a2,a3:=c.B6.a3,a4:=c.B6.a4,a5:=c.B6.a5,a6:=c.B6.a6,a7:=c.B6.a7}})
def Qcx(c:Q04):Q04:=(Qen c).m
def Zap:Q0c:=mkR 220 [] true [.agg Q04.sig] [] (λargs rows=>Qcx (Q04.of (args.getD 0 .dead).cells)) (λX=> .agg (Q04.cells X)) (λX=>[])
theorem Z6r:Q05 Tryz.prog Zap:=Q0z Q0j Q0k (.cons Z0y (.nil)) Tryz.func220 Tryz.call220 (λargs rows=>Qen (Q04.of (args.getD 0 .dead).cells)) [] [] 2 (λ_ _ _=>by kernel_rfl) (λ_ _=>rfl) (λ_ _=>Tree.free_ok (by kernel_rfl)) (λ_ X=>by kernel_rfl)
def Qb0(c:Q04)(csr:Int)(v:Int):Tree Q04:=
let E4:=Nat.blt 0 1&&decide (0<=csr/\csr<(↑8:Int));let T2:Tree (Q04):= .cn E4 (.lf ({X:=c.X,Pc:=c.Pc,B6:=A8.of 0 (List.set (A8.l c.B6) csr.toNat (iand u32 v 31))})); .br (csr==0) T2 (.br (csr==7) T2 (.br (csr==6) (.cn E4 (.lf ({X:=c.X,Pc:=c.Pc,B6:=A8.of 0 (List.set (A8.l c.B6) csr.toNat (iand u32 v 255))}))) (let T3:Tree (Q04):= .cn E4 (.lf ({X:=c.X,Pc:=c.Pc,B6:=A8.of 0 (List.set (A8.l c.B6) csr.toNat (Qg1 u32 v 3))})); .br (csr==1) T3 (.br (csr==2) T3 (let T1:Tree (Q04):= .cn E4 (.lf ({X:=c.X,Pc:=c.Pc,B6:=A8.of 0 (List.set (A8.l c.B6) csr.toNat v)})); .br (csr==3) T1 (.br (csr==4) T1 (.br (csr==5) T1 (.lf c))))))))
def Zdp(c:Q04)(csr:Int)(v:Int):Q04:=(Qb0 c csr v).m
abbrev Qrv(c:Q04)(csr:Int)(v:Int):Prop:=(Qb0 c csr v).p
def Zg8:Q0c:=mkP 221 [] true [.agg Q04.sig, .one (.int .i64), .one (.int .u32)] [] (λargs rows=>Qrv (Q04.of (args.getD 0 .dead).cells) (argI args 1) (argI args 2)) (λargs rows=>Zdp (Q04.of (args.getD 0 .dead).cells) (argI args 1) (argI args 2)) (λX=> .agg (Q04.cells X)) (λX=>[])
theorem Zaj:Q05 Tryz.prog Zg8:=Q0n Q0j Q0k (.nil) Tryz.func221 Tryz.call221 (λargs rows=>Qb0 (Q04.of (args.getD 0 .dead).cells) (argI args 1) (argI args 2)) [] [] 2 (λ_ _ _=>by kernel_rfl) (λ_ _=>rfl) (λ_ _ h=>h) (λ_ X=>by kernel_rfl)
def Q4q(c:Q04)(i:Q0i):Tree (Q04×Q11):=
.cn (Nat.blt 0 1&&decide (0<=i.A/\i.A<(↑16:Int))) (.cn (Nat.blt 0 1&&decide (0<=i.B/\i.B<(↑16:Int))) (.br (i.Op==24) (.an (Q7a c i.A (ishl u32 (wrap u32 i.Imm) 16)) (.lv (Qa8 c i.A (ishl u32 (wrap u32 i.Imm) 16)) λ(x0:Q04)=> .lf ({X:=x0.X,Pc:=wrap u32 (c.Pc+4),B6:=x0.B6},{B5:=0,D1:=0,E0:=0,Value:=0}))) (let E2:=({X:=c.X,Pc:=wrap u32 (c.Pc+4),B6:=c.B6}:Q04);let E3:=List.getD (A16.l c.X) i.B.toNat 0;let E4:=List.getD (A16.l c.X) i.A.toNat 0;let T1:Tree ((Q04×Q11)):= .lv (Zad i.Op E4 E3) λ(x1:Bool)=> .br x1 (.lf ({X:=c.X,Pc:=wrap u32 (c.Pc+wrap u32 (4*wrap u32 i.Imm)),B6:=c.B6},{B5:=0,D1:=0,E0:=0,Value:=0})) (.lf (E2,{B5:=0,D1:=0,E0:=0,Value:=0})); .br (i.Op==40) T1 (.br (i.Op==41) T1 (.br (i.Op==42) T1 (.br (i.Op==43) T1 (.br (i.Op==44) T1 (.br (i.Op==45) T1 (.br (i.Op==48) (.an (Q7a c i.A (wrap u32 (c.Pc+4))) (.lv (Qa8 c i.A (wrap u32 (c.Pc+4))) λ(x7:Q04)=> .lf ({X:=x7.X,Pc:=wrap u32 (x7.Pc+wrap u32 (4*wrap u32 i.Imm)),B6:=x7.B6},{B5:=0,D1:=0,E0:=0,Value:=0}))) (.br (i.Op==49) (.an (Q7a c i.A (wrap u32 (c.Pc+4))) (.lv (Qa8 c i.A (wrap u32 (c.Pc+4))) λ(x8:Q04)=> .lf ({X:=x8.X,Pc:=wrap u32 (List.getD (A16.l c.X) i.B.toNat 0+wrap u32 i.Imm),B6:=x8.B6},{B5:=0,D1:=0,E0:=0,Value:=0}))) (.br (i.Op==56) (.lv (Q48 c 7 0) λ(x9:Q04)=> .lf (x9,{B5:=0,D1:=0,E0:=0,Value:=0})) (.br (i.Op==57) (.lv (Qcx c) λ(x10:Q04)=> .lf (x10,{B5:=0,D1:=0,E0:=0,Value:=0})) (.br (i.Op==58) (.cn (Nat.blt 0 1&&decide (0<=i.Imm/\i.Imm<(↑8:Int))) (let E5:=List.getD (A8.l c.B6) i.Imm.toNat 0; .an (Q7a c i.A E5) (.lv (Qa8 c i.A E5) λ(x11:Q04)=> .lf ({X:=x11.X,Pc:=wrap u32 (c.Pc+4),B6:=x11.B6},{B5:=0,D1:=0,E0:=0,Value:=0})))) (.br (i.Op==59) (.an (Qrv c (wrap i64 i.Imm) E4) (.lv (Zdp c (wrap i64 i.Imm) E4) λ(x12:Q04)=> .lf ({X:=x12.X,Pc:=wrap u32 (c.Pc+4),B6:=x12.B6},{B5:=0,D1:=0,E0:=0,Value:=0}))) (.br (i.Op==60) (.lf (E2,{B5:=1,D1:=wrap i64 i.Imm,E0:=i.A,Value:=0})) (.br (i.Op==61) (.lf (E2,{B5:=2,D1:=wrap i64 i.Imm,E0:=0,Value:=List.getD (A16.l c.X) i.A.toNat 0})) (.br (i.Op==62) (.lf (E2,{B5:=3,D1:=0,E0:=0,Value:=0})) (.br (i.Op==63) (.lf (E2,{B5:=5,D1:=0,E0:=0,Value:=0})) (.br (i.Op==64) (.lf (E2,{B5:=4,D1:=0,E0:=0,Value:=0})) (.cn (Nat.blt 0 1&&decide (0<=i.C/\i.C<(↑16:Int))) (.br (decide (i.Op>=16)) (.an (Qpx i.Op E3 (wrap u32 i.Imm)) (.lv (Q3w i.Op E3 (wrap u32 i.Imm)) λ(x13:Int×Bool)=> .an (Q7a c i.A x13.1) (.lv (Qa8 c i.A x13.1) λ(x14:Q04)=> .lf ({X:=x14.X,Pc:=wrap u32 (c.Pc+4),B6:=x14.B6},{B5:=0,D1:=0,E0:=0,Value:=0})))) (let E6:=List.getD (A16.l c.X) i.C.toNat 0; .an (Qpx i.Op E3 E6) (.lv (Q3w i.Op E3 E6) λ(x15:Int×Bool)=> .an (Q7a c i.A x15.1) (.lv (Qa8 c i.A x15.1) λ(x16:Q04)=> .lf ({X:=x16.X,Pc:=wrap u32 (c.Pc+4),B6:=x16.B6},{B5:=0,D1:=0,E0:=0,Value:=0})))))))))))))))))))))))))
def Qkw(c:Q04)(i:Q0i):(Q04×Q11):=(Q4q c i).m
abbrev Qmx(c:Q04)(i:Q0i):Prop:=(Q4q c i).p
def Z8v:Q0c:=mkP 161 [] true [.agg Q04.sig, .agg Q0i.sig] [] (λargs rows=>Qmx (Q04.of (args.getD 0 .dead).cells) (Q0i.of (args.getD 1 .dead).cells)) (λargs rows=>Qkw (Q04.of (args.getD 0 .dead).cells) (Q0i.of (args.getD 1 .dead).cells)) (λX=> .tup [.agg (Q04.cells (X.1)), .agg (Q11.cells (X.2))]) (λX=>[])
theorem Z2a:Q05 Tryz.prog Z8v:=Q0n Q0j Q0k (.cons Z5 (.cons Zdb (.cons Qgx (.cons Z6r (.cons Zaj (.cons Zjm (.nil))))))) Tryz.func161 Tryz.call161 (λargs rows=>Q4q (Q04.of (args.getD 0 .dead).cells) (Q0i.of (args.getD 1 .dead).cells)) [] [] 2 (λ_ _ _=>by kernel_rfl) (λ_ _=>rfl) (λ_ _ h=>h) (λ_ X=>by kernel_rfl)
def Q6w(c:Q04)(m:(List Int)):Tree (Q04×(List Int)×Q11):=
.an (Qks c m) (.lv (Qmy c m) λ(x0:Int×List Int×Int)=> .br (x0.2.2 !=0) (.lv (Q48 c x0.2.2 c.Pc) λ(x1:Q04)=> .lf (x1,x0.2.1,{B5:=0,D1:=0,E0:=0,Value:=0})) (.an (Qj2 x0.1) (.lv (Qg9 x0.1) λ(x2:Q0i×Bool)=> .br (!x2.2) (.lv (Q48 c 1 x0.1) λ(x3:Q04)=> .lf (x3,x0.2.1,{B5:=0,D1:=0,E0:=0,Value:=0})) (.lv (Q83 x2.1.Op) λ(x4:Bool)=>let T1:Tree ((Q04×(List Int)×Q11)):=let T2:Tree ((Q04×(List Int)×Q11)):= .an (Qw5 c x0.2.1 x2.1) (.lv (Q60 c x0.2.1 x2.1) λ(x7:Q04×List Int)=> .lf (x7.1,x7.2,{B5:=0,D1:=0,E0:=0,Value:=0})); .br (x2.1.Op==32) T2 (.br (x2.1.Op==33) T2 (.br (x2.1.Op==34) T2 (let T3:Tree ((Q04×(List Int)×Q11)):= .an (Qt5 c x0.2.1 x2.1) (.lv (Q7o c x0.2.1 x2.1) λ(x10:Q04×List Int)=> .lf (x10.1,x10.2,{B5:=0,D1:=0,E0:=0,Value:=0})); .br (x2.1.Op==35) T3 (.br (x2.1.Op==36) T3 (.an (Qmx c x2.1) (.lv (Qkw c x2.1) λ(x12:Q04×Q11)=> .lf (x12.1,x0.2.1,x12.2))))))); .br x4 (.lv (Q9q c) λ(x5:Bool)=> .br (!x5) (.lv (Q48 c 2 x0.1) λ(x6:Q04)=> .lf (x6,x0.2.1,{B5:=0,D1:=0,E0:=0,Value:=0})) T1) T1))))
def Q4u(c:Q04)(m:(List Int)):(Q04×(List Int)×Q11):=(Q6w c m).m
abbrev Qik(c:Q04)(m:(List Int)):Prop:=(Q6w c m).p
def Zld:Q0c:=mkP 107 [] true [.agg Q04.sig, .one (.ints .u32)] [] (λargs rows=>Qik (Q04.of (args.getD 0 .dead).cells) (argL .u32 args 1)) (λargs rows=>Q4u (Q04.of (args.getD 0 .dead).cells) (argL .u32 args 1)) (λX=> .tup [.agg (Q04.cells (X.1)), .all 0, .agg (Q11.cells (X.2.2))]) (λX=>[⟨false,23,1, .ints .u32 (X.2.1)⟩])
theorem Qzl:Q05 Tryz.prog Zld:=Q0n Q0j Q0k (.cons Zbg (.cons Qgx (.cons Z89 (.cons Qu (.cons Qsy (.cons Zej (.cons Za2 (.cons Z2a (.nil))))))))) Tryz.func107 Tryz.call107 (λargs rows=>Q6w (Q04.of (args.getD 0 .dead).cells) (argL .u32 args 1)) [.row 23 1 (.ints .u32)] [] 2 (λ_ _ _=>by kernel_rfl) (λ_ _=>rfl) (λ_ _ h=>h) (λ_ X=>by kernel_rfl)
end
end Go.Proofs.YtjaifpiopmhmlaaGreat

/-
  Functions of the program: models, and that its calls come to them (by a program: gen3.py).
-/
import Derived.Test.YtpcbkbalabgnlaaGreatRecordPiecesBase
import Derived.Test.YtpcbkbalabgnlaaGreatRecordPiecesYa
set_option linter.unusedVariables false
set_option linter.unusedSimpArgs false
namespace Go.Proofs.YtpcbkbalabgnlaaGreat
open Go Go.GD Go.IntKind
set_option maxRecDepth 100000
noncomputable section
def Qob(status:Int)(from0:Int)(to:Int):Tree Int:=
.br (iand u32 status from0 !=0) (.lf (ior u32 status to)) (.lf (Qgn u32 status to))
def Q9i(status:Int)(from0:Int)(to:Int):Int:=(Qob status from0 to).m
def Zly:Q0c:=mkR 180 [] true [.one (.int .u32), .one (.int .u32), .one (.int .u32)] [] (λargs rows=>Q9i (argI args 0) (argI args 1) (argI args 2)) (λX=> .int .u32 X) (λX=>[])
theorem Qzv:Q05 Tryz.prog Zly:=Q0x Q0i Q0j (.nil) Tryz.func180 Tryz.call180 (λargs rows=>Qob (argI args 0) (argI args 1) (argI args 2)) [] [] 2 (λ_ _ _=>by kernel_rfl) (λ_ _=>rfl) (λ_ _=>Tree.free_ok (by kernel_rfl)) (λ_ X=>by kernel_rfl)
def Ql0(c:Q02)(cause:Int)(bad:Int):Tree Q02:=
.lv (Q9i c.B5.a0 1 8) λ(x0:Int)=> .lv (Q9i x0 2 16) λ(x1:Int)=> .lf ({X:=c.X,Pc:=c.B5.a1,B5:={a0:=Qgn u32 (ior u32 x1 1) 2,a1:=c.B5.a1,a2:=c.Pc,a3:=wrap u32 cause,a4:=bad,a5:=c.B5.a5,a6:=c.B5.a6,a7:=c.B5.a7}})
def Q4v(c:Q02)(cause:Int)(bad:Int):Q02:=(Ql0 c cause bad).m
def Zlq:Q0c:=mkR 129 [] true [.agg Q02.sig, .one (.int .i64), .one (.int .u32)] [] (λargs rows=>Q4v (Q02.of (args.getD 0 .dead).cells) (argI args 1) (argI args 2)) (λX=> .agg (Q02.cells X)) (λX=>[])
theorem Qio:Q05 Tryz.prog Zlq:=Q0x Q0i Q0j (.cons Qzv (.nil)) Tryz.func129 Tryz.call129 (λargs rows=>Ql0 (Q02.of (args.getD 0 .dead).cells) (argI args 1) (argI args 2)) [] [] 2 (λ_ _ _=>by kernel_rfl) (λ_ _=>rfl) (λ_ _=>Tree.free_ok (by kernel_rfl)) (λ_ X=>by kernel_rfl)
def Qsh(access:Int):Tree (Int×Bool):=
.br (access==1) (.lf (4,true)) (.br (access==2) (.lf (5,true)) (.br (access==3) (.lf (6,true)) (.lf (5,false))))
def Qqk(access:Int):(Int×Bool):=(Qsh access).m
def Z9f:Q0c:=mkR 225 [] true [.one (.int .i64)] [] (λargs rows=>Qqk (argI args 0)) (λX=> .tup [.int .i64 (X.1), .bool (X.2)]) (λX=>[])
theorem Z3s:Q05 Tryz.prog Z9f:=Q0x Q0i Q0j (.nil) Tryz.func225 Tryz.call225 (λargs rows=>Qsh (argI args 0)) [] [] 2 (λ_ _ _=>by kernel_rfl) (λ_ _=>rfl) (λ_ _=>Tree.free_ok (by kernel_rfl)) (λ_ X=>by kernel_rfl)
def Qwe(c:Q02):Tree Bool:=
.lf (iand u32 c.B5.a0 (1:Int) !=(0:Int))
def Qad(c:Q02):Bool:=(Qwe c).m
def Z9o:Q0c:=mkR 133 [] true [.agg Q02.sig] [] (λargs rows=>Qad (Q02.of (args.getD 0 .dead).cells)) (λX=> .bool X) (λX=>[])
theorem Qry:Q05 Tryz.prog Z9o:=Q0x Q0i Q0j (.nil) Tryz.func133 Tryz.call133 (λargs rows=>Qwe (Q02.of (args.getD 0 .dead).cells)) [] [] 2 (λ_ _ _=>by kernel_rfl) (λ_ _=>rfl) (λ_ _=>Tree.free_ok (by kernel_rfl)) (λ_ X=>by kernel_rfl)
def Qm7(access:Int):Tree (Int×Bool):=
.br (access==1) (.lf (4,true)) (.br (access==2) (.lf (5,true)) (.br (access==3) (.lf (6,true)) (.lf (5,false))))
def Qjo(access:Int):(Int×Bool):=(Qm7 access).m
def Qxp:Q0c:=mkR 244 [] true [.one (.int .i64)] [] (λargs rows=>Qjo (argI args 0)) (λX=> .tup [.int .i64 (X.1), .bool (X.2)]) (λX=>[])
theorem Qtj:Q05 Tryz.prog Qxp:=Q0x Q0i Q0j (.nil) Tryz.func244 Tryz.call244 (λargs rows=>Qm7 (argI args 0)) [] [] 2 (λ_ _ _=>by kernel_rfl) (λ_ _=>rfl) (λ_ _=>Tree.free_ok (by kernel_rfl)) (λ_ X=>by kernel_rfl)
def Qiv(m:(List Int))(frame:Int):Tree Bool:=
.lv (Q0r m) λ(x0:Int)=> .lf (decide (wrap u64 frame<wrap u64 x0))
def Qam(m:(List Int))(frame:Int):Bool:=(Qiv m frame).m
def Z0j:Q0c:=mkR 245 [] true [.one (.ints .u32), .one (.int .u32)] [] (λargs rows=>Qam (argL .u32 args 0) (argI args 1)) (λX=> .bool X) (λX=>[])
theorem Qxn:Q05 Tryz.prog Z0j:=Q0x Q0i Q0j (.cons Q4t (.nil)) Tryz.func245 Tryz.call245 (λargs rows=>Qiv (argL .u32 args 0) (argI args 1)) [] [] 2 (λ_ _ _=>by kernel_rfl) (λ_ _=>rfl) (λ_ _=>Tree.free_ok (by kernel_rfl)) (λ_ X=>by kernel_rfl)
def Q5k(m:(List Int))(addr:Int)(size:Int):Tree (Int×Bool):=
.an (Q5u m addr size) (.lv (Qgp m addr size) λ(x0:Bool)=> .br (!x0) (.lf (0,false)) (.cn (Nat.beq 1 1&&Nat.blt 0 1&&decide (0≤wrap u32 (Int.tdiv addr 4)∧wrap u32 (Int.tdiv addr 4)<(m.length:Int))) (let E1:=Int.toNat (wrap u32 (Int.tdiv addr 4)); .br (size==1) (let E2:=wrap i64 (wrap i64 (Int.tmod addr 4)*8); .an (Q3h (m.getD E1 0) E2 8) (.lv (Q38 (m.getD E1 0) E2 8) λ(x1:Int)=> .lf (x1,true))) (.lf (m.getD E1 0,true)))))
def Q5(m:(List Int))(addr:Int)(size:Int):(Int×Bool):=(Q5k m addr size).m
abbrev Q2f(m:(List Int))(addr:Int)(size:Int):Prop:=(Q5k m addr size).p
def Z8q:Q0c:=mkP 182 [] true [.one (.ints .u32), .one (.int .u32), .one (.int .i64)] [] (λargs rows=>Q2f (argL .u32 args 0) (argI args 1) (argI args 2)) (λargs rows=>Q5 (argL .u32 args 0) (argI args 1) (argI args 2)) (λX=> .tup [.int .u32 (X.1), .bool (X.2)]) (λX=>[])
theorem Qbo:Q05 Tryz.prog Z8q:=Q0k Q0i Q0j (.cons Qm0 (.cons Qlt (.nil))) Tryz.func182 Tryz.call182 (λargs rows=>Q5k (argL .u32 args 0) (argI args 1) (argI args 2)) [] [] 2 (λ_ _ _=>by kernel_rfl) (λ_ _=>rfl) (λ_ _ h=>h) (λ_ X=>by kernel_rfl)
def Qm2(pte:Int)(access:Int):Tree Bool:=
.br (iand u32 pte (1:Int)==(0:Int)) (.lf false) (.br (access==3) (.lf (iand u32 pte (2:Int) !=(0:Int))) (.br (access==1) (.lf (iand u32 pte (4:Int) !=(0:Int))) (.lf true)))
def Qbf(pte:Int)(access:Int):Bool:=(Qm2 pte access).m
def Qy0:Q0c:=mkR 246 [] true [.one (.int .u32), .one (.int .i64)] [] (λargs rows=>Qbf (argI args 0) (argI args 1)) (λX=> .bool X) (λX=>[])
theorem Qu7:Q05 Tryz.prog Qy0:=Q0x Q0i Q0j (.nil) Tryz.func246 Tryz.call246 (λargs rows=>Qm2 (argI args 0) (argI args 1)) [] [] 2 (λ_ _ _=>by kernel_rfl) (λ_ _=>rfl) (λ_ _=>Tree.free_ok (by kernel_rfl)) (λ_ X=>by kernel_rfl)
def Q3z(pte:Int):Tree Int:=
.an (Q3h pte 8 8) (.lv (Q38 pte 8 8) λ(x0:Int)=> .lf x0)
def Qex(pte:Int):Int:=(Q3z pte).m
abbrev Q4z(pte:Int):Prop:=(Q3z pte).p
def Qxx:Q0c:=mkP 247 [] true [.one (.int .u32)] [] (λargs rows=>Q4z (argI args 0)) (λargs rows=>Qex (argI args 0)) (λX=> .int .u32 X) (λX=>[])
theorem Qtw:Q05 Tryz.prog Qxx:=Q0k Q0i Q0j (.cons Qlt (.nil)) Tryz.func247 Tryz.call247 (λargs rows=>Q3z (argI args 0)) [] [] 2 (λ_ _ _=>by kernel_rfl) (λ_ _=>rfl) (λ_ _ h=>h) (λ_ X=>by kernel_rfl)
def Q5e(m:(List Int))(root:Int)(va:Int)(access:Int):Tree Q19:=
.lv (Qjo access) λ(x0:Int×Bool)=>let E1:=({Addr:=0,F2:=0,F0:=x0.1}:Q19); .br (!x0.2) (.lf (E1)) (.br (decide (va≥4096)) (.lf (E1)) (.lv (Qam m root) λ(x1:Bool)=> .br (!x1) (.lf (E1)) (let E2:=wrap u32 (root*128)+wrap u32 (4*wrap u32 (Int.tdiv va 128)); .an (Q2f m (wrap u32 E2) 4) (.lv (Q5 m (wrap u32 E2) 4) λ(x2:Int×Bool)=> .br (!x2.2) (.lf (E1)) (.lv (Qbf x2.1 access) λ(x3:Bool)=> .br (!x3) (.lf (E1)) (.an (Q4z x2.1) (.lv (Qex x2.1) λ(x4:Int)=> .lv (Qam m x4) λ(x5:Bool)=> .br (!x5) (.lf (E1)) (.an (Q4z x2.1) (.lv (Qex x2.1) λ(x6:Int)=> .lf ({Addr:=wrap u32 (wrap u32 (x6*128)+Int.tmod va 128),F2:=wrap u32 E2,F0:=0}))))))))))
def Qhu(m:(List Int))(root:Int)(va:Int)(access:Int):Q19:=(Q5e m root va access).m
abbrev Q7v(m:(List Int))(root:Int)(va:Int)(access:Int):Prop:=(Q5e m root va access).p
def Z7e:Q0c:=mkP 226 [] true [.one (.ints .u32), .one (.int .u32), .one (.int .u32), .one (.int .i64)] [] (λargs rows=>Q7v (argL .u32 args 0) (argI args 1) (argI args 2) (argI args 3)) (λargs rows=>Qhu (argL .u32 args 0) (argI args 1) (argI args 2) (argI args 3)) (λX=> .agg (Q19.cells X)) (λX=>[])
theorem Z3f:Q05 Tryz.prog Z7e:=Q0k Q0i Q0j (.cons Qtj (.cons Qxn (.cons Qbo (.cons Qu7 (.cons Qtw (.nil)))))) Tryz.func226 Tryz.call226 (λargs rows=>Q5e (argL .u32 args 0) (argI args 1) (argI args 2) (argI args 3)) [] [] 2 (λ_ _ _=>by kernel_rfl) (λ_ _=>rfl) (λ_ _ h=>h) (λ_ X=>by kernel_rfl)
def Q4h(m:(List Int))(entry:Int)(access:Int):Tree (List Int):=
.an (Q2f m entry 4) (.lv (Q5 m entry 4) λ(x0:Int×Bool)=> .br (!x0.2) (.an (Q07 m) (.lv (Q03 m) λ(x1:List Int)=> .lf x1)) (.br (access==3) (.an (Q51 m entry 4 (ior u32 (ior u32 x0.1 8) 16)) (.lv (Qa1 m entry 4 (ior u32 (ior u32 x0.1 8) 16)) λ(x2:List Int×Bool)=> .lf x2.1)) (.an (Q51 m entry 4 (ior u32 x0.1 8)) (.lv (Qa1 m entry 4 (ior u32 x0.1 8)) λ(x3:List Int×Bool)=> .lf x3.1))))
def Qcp(m:(List Int))(entry:Int)(access:Int):(List Int):=(Q4h m entry access).m
abbrev Q6n(m:(List Int))(entry:Int)(access:Int):Prop:=(Q4h m entry access).p
def Z3h:Q0c:=mkP 227 [] true [.one (.ints .u32), .one (.int .u32), .one (.int .i64)] [] (λargs rows=>Q6n (argL .u32 args 0) (argI args 1) (argI args 2)) (λargs rows=>Qcp (argL .u32 args 0) (argI args 1) (argI args 2)) (λX=> .all 0) (λX=>[⟨false,23,1, .ints .u32 X⟩])
theorem Z1g:Q05 Tryz.prog Z3h:=Q0k Q0i Q0j (.cons Qbo (.cons Q0t (.cons Qms (.nil)))) Tryz.func227 Tryz.call227 (λargs rows=>Q4h (argL .u32 args 0) (argI args 1) (argI args 2)) [.row 23 1 (.ints .u32)] [] 2 (λ_ _ _=>by kernel_rfl) (λ_ _=>rfl) (λ_ _ h=>h) (λ_ X=>by kernel_rfl)
def Q5i(c:Q02)(m:(List Int))(va:Int)(size:Int)(access:Int):Tree (Int×(List Int)×Int):=
.lv (Qqk access) λ(x0:Int×Bool)=>let T3:Tree ((Int×(List Int)×Int)):= .an (Q07 m) (.lv (Q03 m) λ(x1:List Int)=> .lf (0,x1,5)); .br (!x0.2) T3 (let T1:Tree ((Int×(List Int)×Int)):= .cn (decide (wrap u32 size≠0)) (.br (Int.tmod va (wrap u32 size) !=0) (.an (Q07 m) (.lv (Q03 m) λ(x3:List Int)=> .lf (0,x3,3))) (.lv (Qad c) λ(x4:Bool)=>let T2:Tree ((Int×(List Int)×Int)):= .an (Q2f m va size) (.lv (Q5 m va size) λ(x8:Int×Bool)=> .br (!x8.2) (.an (Q07 m) (.lv (Q03 m) λ(x9:List Int)=> .lf (0,x9,x0.1))) (.an (Q07 m) (.lv (Q03 m) λ(x10:List Int)=> .lf (va,x10,0)))); .br (!x4) (.br (iand u32 c.B5.a0 (4:Int) !=(0:Int)) (.an (Q7v m c.B5.a6 va access) (.lv (Qhu m c.B5.a6 va access) λ(x5:Q19)=> .br (x5.F0 !=0) (.an (Q07 m) (.lv (Q03 m) λ(x6:List Int)=> .lf (0,x6,x5.F0))) (.an (Q6n m x5.F2 access) (.lv (Qcp m x5.F2 access) λ(x7:List Int)=> .lf (x5.Addr,x7,0))))) T2) T2)); .br (size !=1) (.br (size !=4) T3 T1) T1)
def Q21(c:Q02)(m:(List Int))(va:Int)(size:Int)(access:Int):(Int×(List Int)×Int):=(Q5i c m va size access).m
abbrev Q6(c:Q02)(m:(List Int))(va:Int)(size:Int)(access:Int):Prop:=(Q5i c m va size access).p
def Z9i:Q0c:=mkP 181 [] true [.agg Q02.sig, .one (.ints .u32), .one (.int .u32), .one (.int .i64), .one (.int .i64)] [] (λargs rows=>Q6 (Q02.of (args.getD 0 .dead).cells) (argL .u32 args 1) (argI args 2) (argI args 3) (argI args 4)) (λargs rows=>Q21 (Q02.of (args.getD 0 .dead).cells) (argL .u32 args 1) (argI args 2) (argI args 3) (argI args 4)) (λX=> .tup [.int .u32 (X.1), .all 0, .int .i64 (X.2.2)]) (λX=>[⟨false,23,1, .ints .u32 (X.2.1)⟩])
theorem Qjw:Q05 Tryz.prog Z9i:=Q0k Q0i Q0j (.cons Z3s (.cons Q0t (.cons Qry (.cons Z3f (.cons Z1g (.cons Qbo (.nil))))))) Tryz.func181 Tryz.call181 (λargs rows=>Q5i (Q02.of (args.getD 0 .dead).cells) (argL .u32 args 1) (argI args 2) (argI args 3) (argI args 4)) [.row 23 1 (.ints .u32)] [] 2 (λ_ _ _=>by kernel_rfl) (λ_ _=>rfl) (λ_ _ h=>h) (λ_ X=>by kernel_rfl)
def Qa0(c:Q02)(m:(List Int)):Tree (Int×(List Int)×Int):=
.an (Q6 c m c.Pc 4 1) (.lv (Q21 c m c.Pc 4 1) λ(x0:Int×List Int×Int)=> .br (x0.2.2 !=0) (.lf (0,x0.2.1,x0.2.2)) (.an (Q2f x0.2.1 x0.1 4) (.lv (Q5 x0.2.1 x0.1 4) λ(x1:Int×Bool)=> .lf (x1.1,x0.2.1,0))))
def Qnw(c:Q02)(m:(List Int)):(Int×(List Int)×Int):=(Qa0 c m).m
abbrev Qdc(c:Q02)(m:(List Int)):Prop:=(Qa0 c m).p
def Zgw:Q0c:=mkP 130 [] true [.agg Q02.sig, .one (.ints .u32)] [] (λargs rows=>Qdc (Q02.of (args.getD 0 .dead).cells) (argL .u32 args 1)) (λargs rows=>Qnw (Q02.of (args.getD 0 .dead).cells) (argL .u32 args 1)) (λX=> .tup [.int .u32 (X.1), .all 0, .int .i64 (X.2.2)]) (λX=>[⟨false,23,1, .ints .u32 (X.2.1)⟩])
theorem Zcd:Q05 Tryz.prog Zgw:=Q0k Q0i Q0j (.cons Qjw (.cons Qbo (.nil))) Tryz.func130 Tryz.call130 (λargs rows=>Qa0 (Q02.of (args.getD 0 .dead).cells) (argL .u32 args 1)) [.row 23 1 (.ints .u32)] [] 2 (λ_ _ _=>by kernel_rfl) (λ_ _=>rfl) (λ_ _ h=>h) (λ_ X=>by kernel_rfl)
def Qm5(op:Int):Tree Bool:=
.br (op==57) (.lf true) (.br (op==58) (.lf true) (.br (op==59) (.lf true) (.br (op==60) (.lf true) (.br (op==61) (.lf true) (.br (op==62) (.lf true) (.br (op==63) (.lf true) (.br (op==64) (.lf true) (.lf false))))))))
def Q99(op:Int):Bool:=(Qm5 op).m
def Qxl:Q0c:=mkR 132 [] true [.one (.int .i64)] [] (λargs rows=>Q99 (argI args 0)) (λX=> .bool X) (λX=>[])
theorem Qua:Q05 Tryz.prog Qxl:=Q0x Q0i Q0j (.nil) Tryz.func132 Tryz.call132 (λargs rows=>Qm5 (argI args 0)) [] [] 2 (λ_ _ _=>by kernel_rfl) (λ_ _=>rfl) (λ_ _=>Tree.free_ok (by kernel_rfl)) (λ_ X=>by kernel_rfl)
def Qr3(op:Int):Tree Int:=
.br (op==32) (.lf 4) (.br (op==35) (.lf 4) (.lf 1))
def Qfc(op:Int):Int:=(Qr3 op).m
def Zgk:Q0c:=mkR 187 [] true [.one (.int .i64)] [] (λargs rows=>Qfc (argI args 0)) (λX=> .int .i64 X) (λX=>[])
theorem Qw1:Q05 Tryz.prog Zgk:=Q0x Q0i Q0j (.nil) Tryz.func187 Tryz.call187 (λargs rows=>Qr3 (argI args 0)) [] [] 2 (λ_ _ _=>by kernel_rfl) (λ_ _=>rfl) (λ_ _=>Tree.free_ok (by kernel_rfl)) (λ_ X=>by kernel_rfl)
def Q8w(c:Q02)(register:Int)(v:Int):Tree Q02:=
.br (register !=0) (.cn (Nat.blt 0 1&&decide (0≤register∧register<(↑16:Int))) (.lf ({X:=A16.of 0 (List.set (A16.l c.X) register.toNat v),Pc:=c.Pc,B5:=c.B5}))) (.lf c)
def Qba(c:Q02)(register:Int)(v:Int):Q02:=(Q8w c register v).m
abbrev Q50(c:Q02)(register:Int)(v:Int):Prop:=(Q8w c register v).p
def cpu_set_m:Q0c:=mkP 188 [] true [.agg Q02.sig, .one (.int .i64), .one (.int .u32)] [] (λargs rows=>Q50 (Q02.of (args.getD 0 .dead).cells) (argI args 1) (argI args 2)) (λargs rows=>Qba (Q02.of (args.getD 0 .dead).cells) (argI args 1) (argI args 2)) (λX=> .agg (Q02.cells X)) (λX=>[])
theorem Z62:Q05 Tryz.prog cpu_set_m:=Q0k Q0i Q0j (.nil) Tryz.func188 Tryz.call188 (λargs rows=>Q8w (Q02.of (args.getD 0 .dead).cells) (argI args 1) (argI args 2)) [] [] 2 (λ_ _ _=>by kernel_rfl) (λ_ _=>rfl) (λ_ _ h=>h) (λ_ X=>by kernel_rfl)
def Q97(c:Q02)(m:(List Int))(i:Q0h):Tree (Q02×(List Int)):=
.cn (Nat.blt 0 1&&decide (0≤i.B∧i.B<(↑16:Int))) (.lv (Qfc i.Op) λ(x0:Int)=>let E1:=wrap u32 (List.getD (A16.l c.X) i.B.toNat 0+wrap u32 i.Imm); .an (Q6 c m E1 x0 2) (.lv (Q21 c m E1 x0 2) λ(x1:Int×List Int×Int)=> .br (x1.2.2 !=0) (.lv (Q4v c x1.2.2 E1) λ(x2:Q02)=> .lf (x2,x1.2.1)) (.lv (Qfc i.Op) λ(x3:Int)=> .an (Q2f x1.2.1 x1.1 x3) (.lv (Q5 x1.2.1 x1.1 x3) λ(x4:Int×Bool)=> .br (i.Op==33) (.an (Q43 x4.1 8) (.lv (Q2g x4.1 8) λ(x5:Int)=> .an (Q50 c i.A x5) (.lv (Qba c i.A x5) λ(x6:Q02)=> .lf ({X:=x6.X,Pc:=wrap u32 (x6.Pc+4),B5:=x6.B5},x1.2.1)))) (.an (Q50 c i.A x4.1) (.lv (Qba c i.A x4.1) λ(x7:Q02)=> .lf ({X:=x7.X,Pc:=wrap u32 (x7.Pc+4),B5:=x7.B5},x1.2.1)))))))
def Q7c(c:Q02)(m:(List Int))(i:Q0h):(Q02×(List Int)):=(Q97 c m i).m
abbrev Qf4(c:Q02)(m:(List Int))(i:Q0h):Prop:=(Q97 c m i).p
def Zjq:Q0c:=mkP 134 [] true [.agg Q02.sig, .one (.ints .u32), .agg Q0h.sig] [] (λargs rows=>Qf4 (Q02.of (args.getD 0 .dead).cells) (argL .u32 args 1) (Q0h.of (args.getD 2 .dead).cells)) (λargs rows=>Q7c (Q02.of (args.getD 0 .dead).cells) (argL .u32 args 1) (Q0h.of (args.getD 2 .dead).cells)) (λX=> .tup [.agg (Q02.cells (X.1)), .all 0]) (λX=>[⟨false,23,1, .ints .u32 (X.2)⟩])
theorem Zh2:Q05 Tryz.prog Zjq:=Q0k Q0i Q0j (.cons Qjw (.cons Qw1 (.cons Qio (.cons Qbo (.cons Qje (.cons Z62 (.nil))))))) Tryz.func134 Tryz.call134 (λargs rows=>Q97 (Q02.of (args.getD 0 .dead).cells) (argL .u32 args 1) (Q0h.of (args.getD 2 .dead).cells)) [.row 23 1 (.ints .u32)] [] 2 (λ_ _ _=>by kernel_rfl) (λ_ _=>rfl) (λ_ _ h=>h) (λ_ X=>by kernel_rfl)
def Q7j(c:Q02)(m:(List Int))(i:Q0h):Tree (Q02×(List Int)):=
.cn (Nat.blt 0 1&&decide (0≤i.B∧i.B<(↑16:Int))) (.lv (Qfc i.Op) λ(x0:Int)=>let E1:=wrap u32 (List.getD (A16.l c.X) i.B.toNat 0+wrap u32 i.Imm); .an (Q6 c m E1 x0 3) (.lv (Q21 c m E1 x0 3) λ(x1:Int×List Int×Int)=> .br (x1.2.2 !=0) (.lv (Q4v c x1.2.2 E1) λ(x2:Q02)=> .lf (x2,x1.2.1)) (.lv (Qfc i.Op) λ(x3:Int)=> .cn (Nat.blt 0 1&&decide (0≤i.A∧i.A<(↑16:Int))) (let E2:=List.getD (A16.l c.X) i.A.toNat 0; .an (Q51 x1.2.1 x1.1 x3 E2) (.lv (Qa1 x1.2.1 x1.1 x3 E2) λ(x4:List Int×Bool)=> .lf ({X:=c.X,Pc:=wrap u32 (c.Pc+4),B5:=c.B5},x4.1))))))
def Q91(c:Q02)(m:(List Int))(i:Q0h):(Q02×(List Int)):=(Q7j c m i).m
abbrev Qcw(c:Q02)(m:(List Int))(i:Q0h):Prop:=(Q7j c m i).p
def Zek:Q0c:=mkP 135 [] true [.agg Q02.sig, .one (.ints .u32), .agg Q0h.sig] [] (λargs rows=>Qcw (Q02.of (args.getD 0 .dead).cells) (argL .u32 args 1) (Q0h.of (args.getD 2 .dead).cells)) (λargs rows=>Q91 (Q02.of (args.getD 0 .dead).cells) (argL .u32 args 1) (Q0h.of (args.getD 2 .dead).cells)) (λX=> .tup [.agg (Q02.cells (X.1)), .all 0]) (λX=>[⟨false,23,1, .ints .u32 (X.2)⟩])
theorem Zbh:Q05 Tryz.prog Zek:=Q0k Q0i Q0j (.cons Qjw (.cons Qw1 (.cons Qio (.cons Qms (.nil))))) Tryz.func135 Tryz.call135 (λargs rows=>Q7j (Q02.of (args.getD 0 .dead).cells) (argL .u32 args 1) (Q0h.of (args.getD 2 .dead).cells)) [.row 23 1 (.ints .u32)] [] 2 (λ_ _ _=>by kernel_rfl) (λ_ _=>rfl) (λ_ _ h=>h) (λ_ X=>by kernel_rfl)
def Z0l(op:Int)(a:Int)(b:Int):Tree Bool:=
.br (op==40) (.lf (a==b)) (.br (op==41) (.lf (a !=b)) (.br (op==42) (.lf (decide (wrap i32 a<wrap i32 b))) (.br (op==43) (.lf (decide (wrap i32 a≥wrap i32 b))) (.br (op==44) (.lf (decide (a<b))) (.lf (decide (a≥b)))))))
def Zda(op:Int)(a:Int)(b:Int):Bool:=(Z0l op a b).m
def Zec:Q0c:=mkR 190 [] true [.one (.int .i64), .one (.int .u32), .one (.int .u32)] [] (λargs rows=>Zda (argI args 0) (argI args 1) (argI args 2)) (λX=> .bool X) (λX=>[])
theorem Zbm:Q05 Tryz.prog Zec:=Q0x Q0i Q0j (.nil) Tryz.func190 Tryz.call190 (λargs rows=>Z0l (argI args 0) (argI args 1) (argI args 2)) [] [] 2 (λ_ _ _=>by kernel_rfl) (λ_ _=>rfl) (λ_ _=>Tree.free_ok (by kernel_rfl)) (λ_ X=>by kernel_rfl)
def Qf7(c:Q02):Tree Q02:=
.lv (Q9i c.B5.a0 8 1) λ(x0:Int)=> .lv (Q9i x0 16 2) λ(x1:Int)=> .lf ({X:=c.X,Pc:=c.B5.a2,B5:={a0:=x1,a1:=c.B5.a1,a2:=c.B5.a2,a3:=c.B5.a3,a4:=c.B5.a4,a5:=c.B5.a5,a6:=c.B5.a6,a7:=c.B5.a7}})
def Qec(c:Q02):Q02:=(Qf7 c).m
def Za4:Q0c:=mkR 191 [] true [.agg Q02.sig] [] (λargs rows=>Qec (Q02.of (args.getD 0 .dead).cells)) (λX=> .agg (Q02.cells X)) (λX=>[])
theorem Z94:Q05 Tryz.prog Za4:=Q0x Q0i Q0j (.cons Qzv (.nil)) Tryz.func191 Tryz.call191 (λargs rows=>Qf7 (Q02.of (args.getD 0 .dead).cells)) [] [] 2 (λ_ _ _=>by kernel_rfl) (λ_ _=>rfl) (λ_ _=>Tree.free_ok (by kernel_rfl)) (λ_ X=>by kernel_rfl)
def Q7h(c:Q02)(csr:Int)(v:Int):Tree Q02:=
let E4:=Nat.blt 0 1&&decide (0≤csr∧csr<(↑8:Int));let T2:Tree (Q02):= .cn E4 (.lf ({X:=c.X,Pc:=c.Pc,B5:=A8.of 0 (List.set (A8.l c.B5) csr.toNat (iand u32 v 31))})); .br (csr==0) T2 (.br (csr==7) T2 (.br (csr==6) (.cn E4 (.lf ({X:=c.X,Pc:=c.Pc,B5:=A8.of 0 (List.set (A8.l c.B5) csr.toNat (iand u32 v 255))}))) (let T3:Tree (Q02):= .cn E4 (.lf ({X:=c.X,Pc:=c.Pc,B5:=A8.of 0 (List.set (A8.l c.B5) csr.toNat (Qgn u32 v 3))})); .br (csr==1) T3 (.br (csr==2) T3 (let T1:Tree (Q02):= .cn E4 (.lf ({X:=c.X,Pc:=c.Pc,B5:=A8.of 0 (List.set (A8.l c.B5) csr.toNat v)})); .br (csr==3) T1 (.br (csr==4) T1 (.br (csr==5) T1 (.lf c))))))))
def Zbz(c:Q02)(csr:Int)(v:Int):Q02:=(Q7h c csr v).m
abbrev Qcx(c:Q02)(csr:Int)(v:Int):Prop:=(Q7h c csr v).p
def Zgv:Q0c:=mkP 192 [] true [.agg Q02.sig, .one (.int .i64), .one (.int .u32)] [] (λargs rows=>Qcx (Q02.of (args.getD 0 .dead).cells) (argI args 1) (argI args 2)) (λargs rows=>Zbz (Q02.of (args.getD 0 .dead).cells) (argI args 1) (argI args 2)) (λX=> .agg (Q02.cells X)) (λX=>[])
theorem Zah:Q05 Tryz.prog Zgv:=Q0k Q0i Q0j (.nil) Tryz.func192 Tryz.call192 (λargs rows=>Q7h (Q02.of (args.getD 0 .dead).cells) (argI args 1) (argI args 2)) [] [] 2 (λ_ _ _=>by kernel_rfl) (λ_ _=>rfl) (λ_ _ h=>h) (λ_ X=>by kernel_rfl)
def Q36(c:Q02)(i:Q0h):Tree (Q02×Q10):=
.cn (Nat.blt 0 1&&decide (0≤i.A∧i.A<(↑16:Int))) (.cn (Nat.blt 0 1&&decide (0≤i.B∧i.B<(↑16:Int))) (.br (i.Op==24) (.an (Q50 c i.A (ishl u32 (wrap u32 i.Imm) 16)) (.lv (Qba c i.A (ishl u32 (wrap u32 i.Imm) 16)) λ(x0:Q02)=> .lf ({X:=x0.X,Pc:=wrap u32 (c.Pc+4),B5:=x0.B5},{B7:=0,D0:=0,D9:=0,Value:=0}))) (let E2:=({X:=c.X,Pc:=wrap u32 (c.Pc+4),B5:=c.B5}:Q02);let E3:=List.getD (A16.l c.X) i.B.toNat 0;let E4:=List.getD (A16.l c.X) i.A.toNat 0;let T1:Tree ((Q02×Q10)):= .lv (Zda i.Op E4 E3) λ(x1:Bool)=> .br x1 (.lf ({X:=c.X,Pc:=wrap u32 (c.Pc+wrap u32 (4*wrap u32 i.Imm)),B5:=c.B5},{B7:=0,D0:=0,D9:=0,Value:=0})) (.lf (E2,{B7:=0,D0:=0,D9:=0,Value:=0})); .br (i.Op==40) T1 (.br (i.Op==41) T1 (.br (i.Op==42) T1 (.br (i.Op==43) T1 (.br (i.Op==44) T1 (.br (i.Op==45) T1 (.br (i.Op==48) (.an (Q50 c i.A (wrap u32 (c.Pc+4))) (.lv (Qba c i.A (wrap u32 (c.Pc+4))) λ(x7:Q02)=> .lf ({X:=x7.X,Pc:=wrap u32 (x7.Pc+wrap u32 (4*wrap u32 i.Imm)),B5:=x7.B5},{B7:=0,D0:=0,D9:=0,Value:=0}))) (.br (i.Op==49) (.an (Q50 c i.A (wrap u32 (c.Pc+4))) (.lv (Qba c i.A (wrap u32 (c.Pc+4))) λ(x8:Q02)=> .lf ({X:=x8.X,Pc:=wrap u32 (List.getD (A16.l c.X) i.B.toNat 0+wrap u32 i.Imm),B5:=x8.B5},{B7:=0,D0:=0,D9:=0,Value:=0}))) (.br (i.Op==56) (.lv (Q4v c 7 0) λ(x9:Q02)=> .lf (x9,{B7:=0,D0:=0,D9:=0,Value:=0})) (.br (i.Op==57) (.lv (Qec c) λ(x10:Q02)=> .lf (x10,{B7:=0,D0:=0,D9:=0,Value:=0})) (.br (i.Op==58) (.cn (Nat.blt 0 1&&decide (0≤i.Imm∧i.Imm<(↑8:Int))) (let E5:=List.getD (A8.l c.B5) i.Imm.toNat 0; .an (Q50 c i.A E5) (.lv (Qba c i.A E5) λ(x11:Q02)=> .lf ({X:=x11.X,Pc:=wrap u32 (c.Pc+4),B5:=x11.B5},{B7:=0,D0:=0,D9:=0,Value:=0})))) (.br (i.Op==59) (.an (Qcx c (wrap i64 i.Imm) E4) (.lv (Zbz c (wrap i64 i.Imm) E4) λ(x12:Q02)=> .lf ({X:=x12.X,Pc:=wrap u32 (c.Pc+4),B5:=x12.B5},{B7:=0,D0:=0,D9:=0,Value:=0}))) (.br (i.Op==60) (.lf (E2,{B7:=1,D0:=wrap i64 i.Imm,D9:=i.A,Value:=0})) (.br (i.Op==61) (.lf (E2,{B7:=2,D0:=wrap i64 i.Imm,D9:=0,Value:=List.getD (A16.l c.X) i.A.toNat 0})) (.br (i.Op==62) (.lf (E2,{B7:=3,D0:=0,D9:=0,Value:=0})) (.br (i.Op==63) (.lf (E2,{B7:=5,D0:=0,D9:=0,Value:=0})) (.br (i.Op==64) (.lf (E2,{B7:=4,D0:=0,D9:=0,Value:=0})) (.cn (Nat.blt 0 1&&decide (0≤i.C∧i.C<(↑16:Int))) (.br (decide (i.Op≥16)) (.an (Qef i.Op E3 (wrap u32 i.Imm)) (.lv (Q4j i.Op E3 (wrap u32 i.Imm)) λ(x13:Int×Bool)=> .an (Q50 c i.A x13.1) (.lv (Qba c i.A x13.1) λ(x14:Q02)=> .lf ({X:=x14.X,Pc:=wrap u32 (c.Pc+4),B5:=x14.B5},{B7:=0,D0:=0,D9:=0,Value:=0})))) (let E6:=List.getD (A16.l c.X) i.C.toNat 0; .an (Qef i.Op E3 E6) (.lv (Q4j i.Op E3 E6) λ(x15:Int×Bool)=> .an (Q50 c i.A x15.1) (.lv (Qba c i.A x15.1) λ(x16:Q02)=> .lf ({X:=x16.X,Pc:=wrap u32 (c.Pc+4),B5:=x16.B5},{B7:=0,D0:=0,D9:=0,Value:=0})))))))))))))))))))))))))
def Qlm(c:Q02)(i:Q0h):(Q02×Q10):=(Q36 c i).m
abbrev Qa(c:Q02)(i:Q0h):Prop:=(Q36 c i).p
def Z7:Q0c:=mkP 136 [] true [.agg Q02.sig, .agg Q0h.sig] [] (λargs rows=>Qa (Q02.of (args.getD 0 .dead).cells) (Q0h.of (args.getD 1 .dead).cells)) (λargs rows=>Qlm (Q02.of (args.getD 0 .dead).cells) (Q0h.of (args.getD 1 .dead).cells)) (λX=> .tup [.agg (Q02.cells (X.1)), .agg (Q10.cells (X.2))]) (λX=>[])
theorem Z31:Q05 Tryz.prog Z7:=Q0k Q0i Q0j (.cons Z62 (.cons Zbm (.cons Qio (.cons Z94 (.cons Zah (.cons Zjp (.nil))))))) Tryz.func136 Tryz.call136 (λargs rows=>Q36 (Q02.of (args.getD 0 .dead).cells) (Q0h.of (args.getD 1 .dead).cells)) [] [] 2 (λ_ _ _=>by kernel_rfl) (λ_ _=>rfl) (λ_ _ h=>h) (λ_ X=>by kernel_rfl)
def Q6i(c:Q02)(m:(List Int)):Tree (Q02×(List Int)×Q10):=
.an (Qdc c m) (.lv (Qnw c m) λ(x0:Int×List Int×Int)=> .br (x0.2.2 !=0) (.lv (Q4v c x0.2.2 c.Pc) λ(x1:Q02)=> .lf (x1,x0.2.1,{B7:=0,D0:=0,D9:=0,Value:=0})) (.an (Qbe x0.1) (.lv (Qh2 x0.1) λ(x2:Q0h×Bool)=> .br (!x2.2) (.lv (Q4v c 1 x0.1) λ(x3:Q02)=> .lf (x3,x0.2.1,{B7:=0,D0:=0,D9:=0,Value:=0})) (.lv (Q99 x2.1.Op) λ(x4:Bool)=>let T1:Tree ((Q02×(List Int)×Q10)):=let T2:Tree ((Q02×(List Int)×Q10)):= .an (Qf4 c x0.2.1 x2.1) (.lv (Q7c c x0.2.1 x2.1) λ(x7:Q02×List Int)=> .lf (x7.1,x7.2,{B7:=0,D0:=0,D9:=0,Value:=0})); .br (x2.1.Op==32) T2 (.br (x2.1.Op==33) T2 (.br (x2.1.Op==34) T2 (let T3:Tree ((Q02×(List Int)×Q10)):= .an (Qcw c x0.2.1 x2.1) (.lv (Q91 c x0.2.1 x2.1) λ(x10:Q02×List Int)=> .lf (x10.1,x10.2,{B7:=0,D0:=0,D9:=0,Value:=0})); .br (x2.1.Op==35) T3 (.br (x2.1.Op==36) T3 (.an (Qa c x2.1) (.lv (Qlm c x2.1) λ(x12:Q02×Q10)=> .lf (x12.1,x0.2.1,x12.2))))))); .br x4 (.lv (Qad c) λ(x5:Bool)=> .br (!x5) (.lv (Q4v c 2 x0.1) λ(x6:Q02)=> .lf (x6,x0.2.1,{B7:=0,D0:=0,D9:=0,Value:=0})) T1) T1))))
def Q8k(c:Q02)(m:(List Int)):(Q02×(List Int)×Q10):=(Q6i c m).m
abbrev Qch(c:Q02)(m:(List Int)):Prop:=(Q6i c m).p
def Zjx:Q0c:=mkP 98 [] true [.agg Q02.sig, .one (.ints .u32)] [] (λargs rows=>Qch (Q02.of (args.getD 0 .dead).cells) (argL .u32 args 1)) (λargs rows=>Q8k (Q02.of (args.getD 0 .dead).cells) (argL .u32 args 1)) (λX=> .tup [.agg (Q02.cells (X.1)), .all 0, .agg (Q10.cells (X.2.2))]) (λX=>[⟨false,23,1, .ints .u32 (X.2.1)⟩])
theorem Z0m:Q05 Tryz.prog Zjx:=Q0k Q0i Q0j (.cons Zcd (.cons Qio (.cons Z6t (.cons Qua (.cons Qry (.cons Zh2 (.cons Zbh (.cons Z31 (.nil))))))))) Tryz.func98 Tryz.call98 (λargs rows=>Q6i (Q02.of (args.getD 0 .dead).cells) (argL .u32 args 1)) [.row 23 1 (.ints .u32)] [] 2 (λ_ _ _=>by kernel_rfl) (λ_ _=>rfl) (λ_ _ h=>h) (λ_ X=>by kernel_rfl)
end
end Go.Proofs.YtpcbkbalabgnlaaGreat

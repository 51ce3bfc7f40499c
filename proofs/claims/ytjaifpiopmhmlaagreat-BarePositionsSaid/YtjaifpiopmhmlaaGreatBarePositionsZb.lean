/-
  Functions of the program: models, and that its calls come to them (by a program: gen3.py).
-/
import Derived.Test.YtjaifpiopmhmlaaGreatBarePositionsBase
import Derived.Test.YtjaifpiopmhmlaaGreatBarePositionsZa
import Derived.Test.YtjaifpiopmhmlaaGreatBarePositionsYe
set_option maxRecDepth 100000
set_option linter.unusedVariables false
set_option linter.unusedSimpArgs false
namespace Go.Proofs.YtjaifpiopmhmlaaGreat
open Go Go.GD Go.IntKind
noncomputable section
def Z5l(b:Bool):Tree Int:=
.br b (.lf 1) (.lf 0)
def Qai(b:Bool):Int:=(Z5l b).m
def Zj2:Q0c:=mkR 235 [] true [.one (.bool)] [] (λargs rows=>Qai (argB args 0)) (λX=> .int .u32 X) (λX=>[])
theorem Qq:Q05 Tryz.prog Zj2:=Q0z Q0k Q0l (.nil) Tryz.func235 Tryz.call235 (λargs rows=>Z5l (argB args 0)) [] [] 2 (λ_ _ _=>by kernel_rfl) (λ_ _=>rfl) (λ_ _=>Tree.free_ok (by kernel_rfl)) (λ_ X=>by kernel_rfl)
def Qgi(c:Q04)(cause:Int)(bad:Int):Tree Q04:=
.lv (Qai (iand u32 c.B6.a0 (1:Int) !=(0:Int))) λ(x0:Int)=> .lv (Qai (iand u32 c.B6.a0 (2:Int) !=(0:Int))) λ(x1:Int)=> .lf ({X:=c.X,Pc:=c.B6.a1,B6:={a0:=ior u32 (Qfg u32 (ior u32 (ior u32 (Qfg u32 c.B6.a0 24) (wrap u32 (8*x0))) (wrap u32 (16*x1))) 2) 1,a1:=c.B6.a1,a2:=c.Pc,a3:=wrap u32 cause,a4:=bad,a5:=c.B6.a5,a6:=c.B6.a6,a7:=c.B6.a7}})
def Q2j(c:Q04)(cause:Int)(bad:Int):Q04:=(Qgi c cause bad).m
def Zf0:Q0c:=mkR 188 [] true [.agg Q04.sig, .one (.int .i64), .one (.int .u32)] [] (λargs rows=>Q2j (Q04.of (args.getD 0 .dead).cells) (argI args 1) (argI args 2)) (λX=> .agg (Q04.cells X)) (λX=>[])
theorem Qie:Q05 Tryz.prog Zf0:=Q0z Q0k Q0l (.cons Qq (.nil)) Tryz.func188 Tryz.call188 (λargs rows=>Qgi (Q04.of (args.getD 0 .dead).cells) (argI args 1) (argI args 2)) [] [] 2 (λ_ _ _=>by kernel_rfl) (λ_ _=>rfl) (λ_ _=>Tree.free_ok (by kernel_rfl)) (λ_ X=>by kernel_rfl)
def Q7e(m:(List Int))(addr:Int)(size:Int):Tree Bool:=
let T1:Tree (Bool):= .cn (decide (wrap u32 size≠0)) (.br (Int.tmod addr (wrap u32 size)==0) (.lv (Q3d m) λ(x0:Int)=> .lf (decide (addr<wrap u32 (wrap i64 (128*x0))))) (.lf false)); .br (size !=1) (.br (size !=4) (.lf false) T1) T1
def Q1x(m:(List Int))(addr:Int)(size:Int):Bool:=(Q7e m addr size).m
abbrev Qbw(m:(List Int))(addr:Int)(size:Int):Prop:=(Q7e m addr size).p
def Z73:Q0c:=mkP 189 [] true [.one (.ints .u32), .one (.int .u32), .one (.int .i64)] [] (λargs rows=>Qbw (argL .u32 args 0) (argI args 1) (argI args 2)) (λargs rows=>Q1x (argL .u32 args 0) (argI args 1) (argI args 2)) (λX=> .bool X) (λX=>[])
theorem Qj4:Q05 Tryz.prog Z73:=Q0n Q0k Q0l (.cons Qch (.nil)) Tryz.func189 Tryz.call189 (λargs rows=>Q7e (argL .u32 args 0) (argI args 1) (argI args 2)) [] [] 2 (λ_ _ _=>by kernel_rfl) (λ_ _=>rfl) (λ_ _ h=>h) (λ_ X=>by kernel_rfl)
def Q3g(m:(List Int))(addr:Int)(size:Int):Tree (Int×Bool):=
.an (Qbw m addr size) (.lv (Q1x m addr size) λ(x0:Bool)=> .br (!x0) (.lf (0,false)) (.cn (Nat.beq 1 1&&Nat.blt 0 1&&decide (0≤wrap u32 (Int.tdiv addr 4)∧wrap u32 (Int.tdiv addr 4)<(m.length:Int))) (.br (size==1) (.cn (decide (0≤wrap u32 (8*Int.tmod addr 4))) (.lf (iand u32 (ishr u32 (m.getD (Int.toNat (wrap u32 (Int.tdiv addr 4))) 0) (wrap u32 (8*Int.tmod addr 4))) 255,true))) (.lf (m.getD (Int.toNat (wrap u32 (Int.tdiv addr 4))) 0,true)))))
def Q16(m:(List Int))(addr:Int)(size:Int):(Int×Bool):=(Q3g m addr size).m
abbrev Qbq(m:(List Int))(addr:Int)(size:Int):Prop:=(Q3g m addr size).p
def Zew:Q0c:=mkP 137 [] true [.one (.ints .u32), .one (.int .u32), .one (.int .i64)] [] (λargs rows=>Qbq (argL .u32 args 0) (argI args 1) (argI args 2)) (λargs rows=>Q16 (argL .u32 args 0) (argI args 1) (argI args 2)) (λX=> .tup [.int .u32 (X.1), .bool (X.2)]) (λX=>[])
theorem Qni:Q05 Tryz.prog Zew:=Q0n Q0k Q0l (.cons Qj4 (.nil)) Tryz.func137 Tryz.call137 (λargs rows=>Q3g (argL .u32 args 0) (argI args 1) (argI args 2)) [] [] 2 (λ_ _ _=>by kernel_rfl) (λ_ _=>rfl) (λ_ _ h=>h) (λ_ X=>by kernel_rfl)
def Q5w(w:Int):Tree (Q0i×Bool):=
.lv (Q26 (wrap i64 (ishr u32 w 24))) λ(x0:Int)=>let E5:=({Op:=0,A:=0,B:=0,C:=0,Imm:=0}:Q0i); .br (x0==0) (.lf (E5,false)) (.br (x0==2) (let E3:=({Op:=wrap i64 (ishr u32 w 24),A:=wrap i64 (iand u32 (ishr u32 w 20) 15),B:=wrap i64 (iand u32 (ishr u32 w 16) 15),C:=wrap i64 (iand u32 w 65535),Imm:=0}:Q0i); .lv (Q6m E3) λ(x1:Bool)=> .br (!x1) (.lf (E5,false)) (.lf (E3,true))) (let T1:Tree ((Q0i×Bool)):=let E2:=({Op:=wrap i64 (ishr u32 w 24),A:=wrap i64 (iand u32 (ishr u32 w 20) 15),B:=wrap i64 (iand u32 (ishr u32 w 16) 15),C:=0,Imm:=wrap i32 (wrap i16 (iand u32 w 65535))}:Q0i); .lv (Q6m E2) λ(x2:Bool)=> .br (!x2) (.lf (E5,false)) (.lf (E2,true)); .br (x0==3) T1 (.br (x0==7) T1 (let E4:=({Op:=wrap i64 (ishr u32 w 24),A:=wrap i64 (iand u32 (ishr u32 w 20) 15),B:=wrap i64 (iand u32 (ishr u32 w 16) 15),C:=0,Imm:=wrap i32 (iand u32 w 65535)}:Q0i); .lv (Q6m E4) λ(x4:Bool)=> .br (!x4) (.lf (E5,false)) (.lf (E4,true))))))
def Q1r(w:Int):(Q0i×Bool):=(Q5w w).m
def Z83:Q0c:=mkR 138 [] true [.one (.int .u32)] [] (λargs rows=>Q1r (argI args 0)) (λX=> .tup [.agg (Q0i.cells (X.1)), .bool (X.2)]) (λX=>[])
theorem Qow:Q05 Tryz.prog Z83:=Q0z Q0k Q0l (.cons Qet (.cons Qsk (.nil))) Tryz.func138 Tryz.call138 (λargs rows=>Q5w (argI args 0)) [] [] 2 (λ_ _ _=>by kernel_rfl) (λ_ _=>rfl) (λ_ _=>Tree.free_ok (by kernel_rfl)) (λ_ X=>by kernel_rfl)
def Qvw(access:Int):Tree Bool:=
.br (decide (access≥1)) (.lf (decide (access≤3))) (.lf false)
def Qd4(access:Int):Bool:=(Qvw access).m
def Zbc:Q0c:=mkR 236 [] true [.one (.int .i64)] [] (λargs rows=>Qd4 (argI args 0)) (λX=> .bool X) (λX=>[])
theorem Qr2:Q05 Tryz.prog Zbc:=Q0z Q0k Q0l (.nil) Tryz.func236 Tryz.call236 (λargs rows=>Qvw (argI args 0)) [] [] 2 (λ_ _ _=>by kernel_rfl) (λ_ _=>rfl) (λ_ _=>Tree.free_ok (by kernel_rfl)) (λ_ X=>by kernel_rfl)
def Qvh(c:Q04):Tree Bool:=
.lf (iand u32 c.B6.a0 (5:Int)==(4:Int))
def Qja(c:Q04):Bool:=(Qvh c).m
def Za1:Q0c:=mkR 237 [] true [.agg Q04.sig] [] (λargs rows=>Qja (Q04.of (args.getD 0 .dead).cells)) (λX=> .bool X) (λX=>[])
theorem Z6d:Q05 Tryz.prog Za1:=Q0z Q0k Q0l (.nil) Tryz.func237 Tryz.call237 (λargs rows=>Qvh (Q04.of (args.getD 0 .dead).cells)) [] [] 2 (λ_ _ _=>by kernel_rfl) (λ_ _=>rfl) (λ_ _=>Tree.free_ok (by kernel_rfl)) (λ_ X=>by kernel_rfl)
def Q84(access:Int):Tree Int:=
.br (access==1) (.lf 4) (.br (access==3) (.lf 6) (.lf 5))
def Q1v(access:Int):Int:=(Q84 access).m
def Z39:Q0c:=mkR 238 [] true [.one (.int .i64)] [] (λargs rows=>Q1v (argI args 0)) (λX=> .int .i64 X) (λX=>[])
theorem Qmy:Q05 Tryz.prog Z39:=Q0z Q0k Q0l (.nil) Tryz.func238 Tryz.call238 (λargs rows=>Q84 (argI args 0)) [] [] 2 (λ_ _ _=>by kernel_rfl) (λ_ _=>rfl) (λ_ _=>Tree.free_ok (by kernel_rfl)) (λ_ X=>by kernel_rfl)
def Q8m(m:(List Int))(root:Int)(va:Int)(access:Int):Tree Q14:=
.lv (Q1v access) λ(x0:Int)=> .lv (Q3d m) λ(x1:Int)=> .lv (Qd4 access) λ(x2:Bool)=>let E4:=({Addr:=0,F3:=0,F1:=x0}:Q14); .br (!x2) (.lf (E4)) (.br (decide (va≥4096)) (.lf (E4)) (.br (decide (root≥wrap u32 x1)) (.lf (E4)) (let E6:=wrap u32 (root*128)+wrap u32 (4*wrap u32 (Int.tdiv va 128));let E3:=Int.tdiv (wrap u32 E6) 4; .cn (Nat.beq 1 1&&Nat.blt 0 1&&decide (0≤wrap u32 E3∧wrap u32 E3<(m.length:Int))) (let E5:=m.getD (Int.toNat (wrap u32 E3)) 0; .br (iand u32 E5 (1:Int)==(0:Int)) (.lf (E4)) (let T1:Tree (Q14):= .br (decide (iand u32 (ishr u32 E5 8) 255≥wrap u32 x1)) (.lf (E4)) (.lf ({Addr:=wrap u32 (wrap u32 (iand u32 (ishr u32 E5 8) (255:Int)*(128:Int))+Int.tmod va 128),F3:=wrap u32 E6,F1:=0}));let T2:Tree (Q14):= .br (access==1) (.br (iand u32 E5 (4:Int)==(0:Int)) (.lf (E4)) T1) T1; .br (access==3) (.br (iand u32 E5 (2:Int)==(0:Int)) (.lf (E4)) T2) T2)))))
def Q5x(m:(List Int))(root:Int)(va:Int)(access:Int):Q14:=(Q8m m root va access).m
abbrev Qs(m:(List Int))(root:Int)(va:Int)(access:Int):Prop:=(Q8m m root va access).p
def Zdq:Q0c:=mkP 239 [] true [.one (.ints .u32), .one (.int .u32), .one (.int .u32), .one (.int .i64)] [] (λargs rows=>Qs (argL .u32 args 0) (argI args 1) (argI args 2) (argI args 3)) (λargs rows=>Q5x (argL .u32 args 0) (argI args 1) (argI args 2) (argI args 3)) (λX=> .agg (Q14.cells X)) (λX=>[])
theorem Za8:Q05 Tryz.prog Zdq:=Q0n Q0k Q0l (.cons Qmy (.cons Qch (.cons Qr2 (.nil)))) Tryz.func239 Tryz.call239 (λargs rows=>Q8m (argL .u32 args 0) (argI args 1) (argI args 2) (argI args 3)) [] [] 2 (λ_ _ _=>by kernel_rfl) (λ_ _=>rfl) (λ_ _ h=>h) (λ_ X=>by kernel_rfl)
def Qda(m:(List Int))(entry:Int)(access:Int):Tree (List Int):=
.an (Qbw m entry 4) (.lv (Q1x m entry 4) λ(x0:Bool)=> .br (!x0) (.lf m) (let E3:=Nat.beq 1 1&&Nat.blt 0 1&&decide (0≤wrap u32 (Int.tdiv entry 4)∧wrap u32 (Int.tdiv entry 4)<(m.length:Int)); .cn E3 (.cn E3 (let E4:=Int.toNat (wrap u32 (Int.tdiv entry 4));let E1:=List.set m E4 (ior u32 (m.getD E4 0) 8); .br (access==3) (let E2:=Nat.beq 1 1&&Nat.blt 0 1&&decide (0≤wrap u32 (Int.tdiv entry 4)∧wrap u32 (Int.tdiv entry 4)<(↑(List.length E1):Int)); .cn E2 (.cn E2 (.lf (List.set E1 E4 (ior u32 (List.getD E1 E4 0) 16))))) (.lf E1)))))
def Qmf(m:(List Int))(entry:Int)(access:Int):(List Int):=(Qda m entry access).m
abbrev Qsq(m:(List Int))(entry:Int)(access:Int):Prop:=(Qda m entry access).p
def Zgc:Q0c:=mkP 240 [true,false,false] true [.one (.row 0), .one (.int .u32), .one (.int .i64)] [.arr 23 1 (.ints .u32)] (λargs rows=>Qsq (rowL .u32 rows 0) (argI args 1) (argI args 2)) (λargs rows=>Qmf (rowL .u32 rows 0) (argI args 1) (argI args 2)) (λX=> .tup []) (λX=>[⟨false,23,1, .ints .u32 X⟩])
theorem Zcf:Q05 Tryz.prog Zgc:=Q0n Q0k Q0l (.cons Qj4 (.nil)) Tryz.func240 Tryz.call240 (λargs rows=>Qda (rowL .u32 rows 0) (argI args 1) (argI args 2)) [] [] 2 (λ_ _ _=>by kernel_rfl) (λ_ _=>rfl) (λ_ _ h=>h) (λ_ X=>by kernel_rfl)
def Q71(c:Q04)(m:(List Int))(va:Int)(size:Int)(access:Int):Tree (Int×Int×(List Int)):=
.lv (Qd4 access) λ(x0:Bool)=> .br (!x0) (.lf (0,5,m)) (let T1:Tree ((Int×Int×(List Int))):= .cn (decide (wrap u32 size≠0)) (.br (Int.tmod va (wrap u32 size) !=0) (.lf (0,3,m)) (.lv (Qja c) λ(x1:Bool)=> .br (!x1) (.an (Qbw m va size) (.lv (Q1x m va size) λ(x2:Bool)=> .br (!x2) (.lv (Q1v access) λ(x3:Int)=> .lf (0,x3,m)) (.lf (va,0,m)))) (.an (Qs m c.B6.a6 va access) (.lv (Q5x m c.B6.a6 va access) λ(x4:Q14)=> .br (x4.F1 !=0) (.lf (0,x4.F1,m)) (.an (Qsq m x4.F3 access) (.lv (Qmf m x4.F3 access) λ(x5:List Int)=> .lf (x4.Addr,0,x5))))))); .br (size !=1) (.br (size !=4) (.lf (0,5,m)) T1) T1)
def Q12(c:Q04)(m:(List Int))(va:Int)(size:Int)(access:Int):(Int×Int×(List Int)):=(Q71 c m va size access).m
abbrev Q7z(c:Q04)(m:(List Int))(va:Int)(size:Int)(access:Int):Prop:=(Q71 c m va size access).p
def Z9q:Q0c:=mkP 190 [false,true,false,false,false] true [.agg Q04.sig, .one (.row 0), .one (.int .u32), .one (.int .i64), .one (.int .i64)] [.arr 23 1 (.ints .u32)] (λargs rows=>Q7z (Q04.of (args.getD 0 .dead).cells) (rowL .u32 rows 0) (argI args 2) (argI args 3) (argI args 4)) (λargs rows=>Q12 (Q04.of (args.getD 0 .dead).cells) (rowL .u32 rows 0) (argI args 2) (argI args 3) (argI args 4)) (λX=> .tup [.int .u32 (X.1), .int .i64 (X.2.1)]) (λX=>[⟨false,23,1, .ints .u32 (X.2.2)⟩])
theorem Qst:Q05 Tryz.prog Z9q:=Q0n Q0k Q0l (.cons Qr2 (.cons Z6d (.cons Qj4 (.cons Qmy (.cons Za8 (.cons Zcf (.nil))))))) Tryz.func190 Tryz.call190 (λargs rows=>Q71 (Q04.of (args.getD 0 .dead).cells) (rowL .u32 rows 0) (argI args 2) (argI args 3) (argI args 4)) [] [] 2 (λ_ _ _=>by kernel_rfl) (λ_ _=>rfl) (λ_ _ h=>h) (λ_ X=>by kernel_rfl)
def Qk8(op:Int):Tree Bool:=
.br (decide (op≥57)) (.lf (decide (op≤64))) (.lf false)
def Q2z(op:Int):Bool:=(Qk8 op).m
def Qu:Q0c:=mkR 191 [] true [.one (.int .i64)] [] (λargs rows=>Q2z (argI args 0)) (λX=> .bool X) (λX=>[])
theorem Qqq:Q05 Tryz.prog Qu:=Q0z Q0k Q0l (.nil) Tryz.func191 Tryz.call191 (λargs rows=>Qk8 (argI args 0)) [] [] 2 (λ_ _ _=>by kernel_rfl) (λ_ _=>rfl) (λ_ _=>Tree.free_ok (by kernel_rfl)) (λ_ X=>by kernel_rfl)
def Qbh(c:Q04):Tree Q04:=
.lv (Qai (iand u32 c.B6.a0 (8:Int) !=(0:Int))) λ(x0:Int)=> .lv (Qai (iand u32 c.B6.a0 (16:Int) !=(0:Int))) λ(x1:Int)=> .lf ({X:=c.X,Pc:=c.B6.a2,B6:={a0:=ior u32 (ior u32 (Qfg u32 c.B6.a0 3) (wrap u32 (1*x0))) (wrap u32 (2*x1)),a1:=c.B6.a1,a2:=c.B6.a2,a3:=c.B6.a3,a4:=c.B6.a4,a5:=c.B6.a5,a6:=c.B6.a6,a7:=c.B6.a7}})
def Qgv(c:Q04):Q04:=(Qbh c).m
def Z7r:Q0c:=mkR 241 [] true [.agg Q04.sig] [] (λargs rows=>Qgv (Q04.of (args.getD 0 .dead).cells)) (λX=> .agg (Q04.cells X)) (λX=>[])
theorem Z1i:Q05 Tryz.prog Z7r:=Q0z Q0k Q0l (.cons Qq (.nil)) Tryz.func241 Tryz.call241 (λargs rows=>Qbh (Q04.of (args.getD 0 .dead).cells)) [] [] 2 (λ_ _ _=>by kernel_rfl) (λ_ _=>rfl) (λ_ _=>Tree.free_ok (by kernel_rfl)) (λ_ X=>by kernel_rfl)
def Qd8(c:Q04)(r:Int)(v:Int):Tree Q04:=
.br (decide (r>0)) (.br (decide (r<16)) (.cn (Nat.blt 0 1&&decide (0≤r∧r<(↑16:Int))) (.lf ({X:=A16.of 0 (List.set (A16.l c.X) r.toNat v),Pc:=c.Pc,B6:=c.B6}))) (.lf c)) (.lf c)
def Q1p(c:Q04)(r:Int)(v:Int):Q04:=(Qd8 c r v).m
abbrev Q2r(c:Q04)(r:Int)(v:Int):Prop:=(Qd8 c r v).p
def Zki:Q0c:=mkP 141 [] true [.agg Q04.sig, .one (.int .i64), .one (.int .u32)] [] (λargs rows=>Q2r (Q04.of (args.getD 0 .dead).cells) (argI args 1) (argI args 2)) (λargs rows=>Q1p (Q04.of (args.getD 0 .dead).cells) (argI args 1) (argI args 2)) (λX=> .agg (Q04.cells X)) (λX=>[])
theorem Qdj:Q05 Tryz.prog Zki:=Q0n Q0k Q0l (.nil) Tryz.func141 Tryz.call141 (λargs rows=>Qd8 (Q04.of (args.getD 0 .dead).cells) (argI args 1) (argI args 2)) [] [] 2 (λ_ _ _=>by kernel_rfl) (λ_ _=>rfl) (λ_ _ h=>h) (λ_ X=>by kernel_rfl)
def Qb5(c:Q04)(csr:Int)(v:Int):Tree Q04:=
let E4:=Nat.blt 0 1&&decide (0≤csr∧csr<(↑8:Int));let T2:Tree (Q04):= .cn E4 (.lf ({X:=c.X,Pc:=c.Pc,B6:=A8.of 0 (List.set (A8.l c.B6) csr.toNat (iand u32 v 31))})); .br (csr==0) T2 (.br (csr==7) T2 (.br (csr==6) (.cn E4 (.lf ({X:=c.X,Pc:=c.Pc,B6:=A8.of 0 (List.set (A8.l c.B6) csr.toNat (iand u32 v 255))}))) (let T3:Tree (Q04):= .cn E4 (.lf ({X:=c.X,Pc:=c.Pc,B6:=A8.of 0 (List.set (A8.l c.B6) csr.toNat (Qfg u32 v 3))})); .br (csr==1) T3 (.br (csr==2) T3 (let T1:Tree (Q04):= .cn E4 (.lf ({X:=c.X,Pc:=c.Pc,B6:=A8.of 0 (List.set (A8.l c.B6) csr.toNat v)})); .br (csr==3) T1 (.br (csr==4) T1 (.br (csr==5) T1 (.lf c))))))))
def Qg2(c:Q04)(csr:Int)(v:Int):Q04:=(Qb5 c csr v).m
abbrev Qpf(c:Q04)(csr:Int)(v:Int):Prop:=(Qb5 c csr v).p
def Zdm:Q0c:=mkP 242 [] true [.agg Q04.sig, .one (.int .i64), .one (.int .u32)] [] (λargs rows=>Qpf (Q04.of (args.getD 0 .dead).cells) (argI args 1) (argI args 2)) (λargs rows=>Qg2 (Q04.of (args.getD 0 .dead).cells) (argI args 1) (argI args 2)) (λX=> .agg (Q04.cells X)) (λX=>[])
theorem Z5w:Q05 Tryz.prog Zdm:=Q0n Q0k Q0l (.nil) Tryz.func242 Tryz.call242 (λargs rows=>Qb5 (Q04.of (args.getD 0 .dead).cells) (argI args 1) (argI args 2)) [] [] 2 (λ_ _ _=>by kernel_rfl) (λ_ _=>rfl) (λ_ _ h=>h) (λ_ X=>by kernel_rfl)
def Q7d(c:Q04)(i:Q0i):Tree (Q04×Q11):=
.br (i.Op==56) (.lv (Q2j c 7 0) λ(x0:Q04)=> .lf (x0,{B5:=0,D1:=0,E0:=0,Value:=0})) (.br (i.Op==57) (.lv (Qgv c) λ(x1:Q04)=> .lf (x1,{B5:=0,D1:=0,E0:=0,Value:=0})) (.br (i.Op==58) (.cn (Nat.blt 0 1&&decide (0≤i.Imm∧i.Imm<(↑8:Int))) (let E3:=List.getD (A8.l c.B6) i.Imm.toNat 0; .an (Q2r c i.A E3) (.lv (Q1p c i.A E3) λ(x2:Q04)=> .lf ({X:=x2.X,Pc:=wrap u32 (x2.Pc+4),B6:=x2.B6},{B5:=0,D1:=0,E0:=0,Value:=0})))) (let E2:=Nat.blt 0 1&&decide (0≤i.A∧i.A<(↑16:Int)); .br (i.Op==59) (.cn E2 (let E4:=List.getD (A16.l c.X) i.A.toNat 0; .an (Qpf c (wrap i64 i.Imm) E4) (.lv (Qg2 c (wrap i64 i.Imm) E4) λ(x3:Q04)=> .lf ({X:=x3.X,Pc:=wrap u32 (x3.Pc+4),B6:=x3.B6},{B5:=0,D1:=0,E0:=0,Value:=0})))) (let E1:=({X:=c.X,Pc:=wrap u32 (c.Pc+4),B6:=c.B6}:Q04); .br (i.Op==60) (.lf (E1,{B5:=1,D1:=wrap i64 i.Imm,E0:=i.A,Value:=0})) (.br (i.Op==61) (.cn E2 (.lf (E1,{B5:=2,D1:=wrap i64 i.Imm,E0:=0,Value:=List.getD (A16.l c.X) i.A.toNat 0}))) (.br (i.Op==62) (.lf (E1,{B5:=3,D1:=0,E0:=0,Value:=0})) (.br (i.Op==63) (.lf (E1,{B5:=5,D1:=0,E0:=0,Value:=0})) (.br (i.Op==64) (.lf (E1,{B5:=4,D1:=0,E0:=0,Value:=0})) (.lf (E1,{B5:=0,D1:=0,E0:=0,Value:=0}))))))))))
def Qi0(c:Q04)(i:Q0i):(Q04×Q11):=(Q7d c i).m
abbrev Qm5(c:Q04)(i:Q0i):Prop:=(Q7d c i).p
def Z65:Q0c:=mkP 192 [] true [.agg Q04.sig, .agg Q0i.sig] [] (λargs rows=>Qm5 (Q04.of (args.getD 0 .dead).cells) (Q0i.of (args.getD 1 .dead).cells)) (λargs rows=>Qi0 (Q04.of (args.getD 0 .dead).cells) (Q0i.of (args.getD 1 .dead).cells)) (λX=> .tup [.agg (Q04.cells (X.1)), .agg (Q11.cells (X.2))]) (λX=>[])
theorem Z1j:Q05 Tryz.prog Z65:=Q0n Q0k Q0l (.cons Qie (.cons Z1i (.cons Qdj (.cons Z5w (.nil))))) Tryz.func192 Tryz.call192 (λargs rows=>Q7d (Q04.of (args.getD 0 .dead).cells) (Q0i.of (args.getD 1 .dead).cells)) [] [] 2 (λ_ _ _=>by kernel_rfl) (λ_ _=>rfl) (λ_ _ h=>h) (λ_ X=>by kernel_rfl)
def Qv7(op:Int)(a:Int)(b:Int):Tree Bool:=
.br (op==40) (.lf (a==b)) (.br (op==41) (.lf (a !=b)) (.br (op==42) (.lf (decide (wrap i32 a<wrap i32 b))) (.br (op==43) (.lf (decide (wrap i32 a≥wrap i32 b))) (.br (op==44) (.lf (decide (a<b))) (.lf (decide (a≥b)))))))
def Q22(op:Int)(a:Int)(b:Int):Bool:=(Qv7 op a b).m
def Zbz:Q0c:=mkR 243 [] true [.one (.int .i64), .one (.int .u32), .one (.int .u32)] [] (λargs rows=>Q22 (argI args 0) (argI args 1) (argI args 2)) (λX=> .bool X) (λX=>[])
theorem Z6g:Q05 Tryz.prog Zbz:=Q0z Q0k Q0l (.nil) Tryz.func243 Tryz.call243 (λargs rows=>Qv7 (argI args 0) (argI args 1) (argI args 2)) [] [] 2 (λ_ _ _=>by kernel_rfl) (λ_ _=>rfl) (λ_ _=>Tree.free_ok (by kernel_rfl)) (λ_ X=>by kernel_rfl)
def Qi(c:Q04)(i:Q0i):Tree Q04:=
.br (i.Op==48) (.an (Q2r c i.A (wrap u32 (c.Pc+4))) (.lv (Q1p c i.A (wrap u32 (c.Pc+4))) λ(x0:Q04)=> .lf ({X:=x0.X,Pc:=wrap u32 (c.Pc+wrap u32 (4*wrap u32 i.Imm)),B6:=x0.B6}))) (let E1:=Nat.blt 0 1&&decide (0≤i.B∧i.B<(↑16:Int)); .br (i.Op==49) (.cn E1 (.an (Q2r c i.A (wrap u32 (c.Pc+4))) (.lv (Q1p c i.A (wrap u32 (c.Pc+4))) λ(x1:Q04)=> .lf ({X:=x1.X,Pc:=wrap u32 (List.getD (A16.l c.X) i.B.toNat 0+wrap u32 i.Imm),B6:=x1.B6})))) (.cn (Nat.blt 0 1&&decide (0≤i.A∧i.A<(↑16:Int))) (.cn E1 (.lv (Q22 i.Op (List.getD (A16.l c.X) i.A.toNat 0) (List.getD (A16.l c.X) i.B.toNat 0)) λ(x2:Bool)=> .br x2 (.lf ({X:=c.X,Pc:=wrap u32 (c.Pc+wrap u32 (4*wrap u32 i.Imm)),B6:=c.B6})) (.lf ({X:=c.X,Pc:=wrap u32 (c.Pc+4),B6:=c.B6}))))))
def Qzu(c:Q04)(i:Q0i):Q04:=(Qi c i).m
abbrev Qqw(c:Q04)(i:Q0i):Prop:=(Qi c i).p
def Zeq:Q0c:=mkP 193 [] true [.agg Q04.sig, .agg Q0i.sig] [] (λargs rows=>Qqw (Q04.of (args.getD 0 .dead).cells) (Q0i.of (args.getD 1 .dead).cells)) (λargs rows=>Qzu (Q04.of (args.getD 0 .dead).cells) (Q0i.of (args.getD 1 .dead).cells)) (λX=> .agg (Q04.cells X)) (λX=>[])
theorem Zdl:Q05 Tryz.prog Zeq:=Q0n Q0k Q0l (.cons Qdj (.cons Z6g (.nil))) Tryz.func193 Tryz.call193 (λargs rows=>Qi (Q04.of (args.getD 0 .dead).cells) (Q0i.of (args.getD 1 .dead).cells)) [] [] 2 (λ_ _ _=>by kernel_rfl) (λ_ _=>rfl) (λ_ _ h=>h) (λ_ X=>by kernel_rfl)
def Q6o(x:Int)(n:Int):Tree Int:=
.br (decide (n<1)) (.lf 0) (.br (decide (n≥32)) (.lf x) (.cn (decide (0≤wrap u64 n)) (.cn (decide (0≤wrap u64 (wrap i64 (n-1)))) (let E1:=iand u32 x (wrap u32 (ishl u32 1 (wrap u64 n)-1)); .br (ishr u32 E1 (wrap u64 (wrap i64 (n-1)))==1) (.cn (decide (0≤wrap u64 n)) (.lf (ior u32 E1 (ishl u32 4294967295 (wrap u64 n))))) (.lf E1)))))
def Q2t(x:Int)(n:Int):Int:=(Q6o x n).m
abbrev Qas(x:Int)(n:Int):Prop:=(Q6o x n).p
def Qu0:Q0c:=mkP 244 [] true [.one (.int .u32), .one (.int .i64)] [] (λargs rows=>Qas (argI args 0) (argI args 1)) (λargs rows=>Q2t (argI args 0) (argI args 1)) (λX=> .int .u32 X) (λX=>[])
theorem Qqo:Q05 Tryz.prog Qu0:=Q0n Q0k Q0l (.nil) Tryz.func244 Tryz.call244 (λargs rows=>Q6o (argI args 0) (argI args 1)) [] [] 2 (λ_ _ _=>by kernel_rfl) (λ_ _=>rfl) (λ_ _ h=>h) (λ_ X=>by kernel_rfl)
def Q93(c:Q04)(m:(List Int))(i:Q0i):Tree (Q04×(List Int)):=
.cn (Nat.blt 0 1&&decide (0≤i.B∧i.B<(↑16:Int))) (let E4:=wrap u32 (List.getD (A16.l c.X) i.B.toNat 0+wrap u32 i.Imm);let E5:=List.getD (A16.l c.X) i.A.toNat 0;let E6:=Nat.blt 0 1&&decide (0≤i.A∧i.A<(↑16:Int));let E7:=({X:=c.X,Pc:=wrap u32 (c.Pc+4),B6:=c.B6}:Q04);let T1:Tree ((Q04×(List Int))):=let T3:Tree ((Q04×(List Int))):= .an (Q7z c m E4 4 3) (.lv (Q12 c m E4 4 3) λ(x0:Int×Int×List Int)=> .br (x0.2.1 !=0) (.lv (Q2j c x0.2.1 E4) λ(x1:Q04)=> .lf (x1,x0.2.2)) (.cn E6 (.an (Qdx x0.2.2 x0.1 4 E5) (.lv (Q9f x0.2.2 x0.1 4 E5) λ(x2:List Int)=> .lf (E7,x2))))); .br (i.Op==35) T3 (.br (i.Op==36) T3 (.an (Q7z c m E4 4 2) (.lv (Q12 c m E4 4 2) λ(x6:Int×Int×List Int)=> .br (x6.2.1 !=0) (.lv (Q2j c x6.2.1 E4) λ(x7:Q04)=> .lf (x7,x6.2.2)) (.an (Qbq x6.2.2 x6.1 4) (.lv (Q16 x6.2.2 x6.1 4) λ(x8:Int×Bool)=> .br (i.Op==33) (.an (Qas x8.1 8) (.lv (Q2t x8.1 8) λ(x9:Int)=> .an (Q2r c i.A x9) (.lv (Q1p c i.A x9) λ(x10:Q04)=> .lf ({X:=x10.X,Pc:=wrap u32 (x10.Pc+4),B6:=x10.B6},x6.2.2)))) (.an (Q2r c i.A x8.1) (.lv (Q1p c i.A x8.1) λ(x11:Q04)=> .lf ({X:=x11.X,Pc:=wrap u32 (x11.Pc+4),B6:=x11.B6},x6.2.2)))))))); .br (i.Op==32) T1 (.br (i.Op==35) T1 (let T2:Tree ((Q04×(List Int))):= .an (Q7z c m E4 1 3) (.lv (Q12 c m E4 1 3) λ(x24:Int×Int×List Int)=> .br (x24.2.1 !=0) (.lv (Q2j c x24.2.1 E4) λ(x25:Q04)=> .lf (x25,x24.2.2)) (.cn E6 (.an (Qdx x24.2.2 x24.1 1 E5) (.lv (Q9f x24.2.2 x24.1 1 E5) λ(x26:List Int)=> .lf (E7,x26))))); .br (i.Op==35) T2 (.br (i.Op==36) T2 (.an (Q7z c m E4 1 2) (.lv (Q12 c m E4 1 2) λ(x30:Int×Int×List Int)=> .br (x30.2.1 !=0) (.lv (Q2j c x30.2.1 E4) λ(x31:Q04)=> .lf (x31,x30.2.2)) (.an (Qbq x30.2.2 x30.1 1) (.lv (Q16 x30.2.2 x30.1 1) λ(x32:Int×Bool)=> .br (i.Op==33) (.an (Qas x32.1 8) (.lv (Q2t x32.1 8) λ(x33:Int)=> .an (Q2r c i.A x33) (.lv (Q1p c i.A x33) λ(x34:Q04)=> .lf ({X:=x34.X,Pc:=wrap u32 (x34.Pc+4),B6:=x34.B6},x30.2.2)))) (.an (Q2r c i.A x32.1) (.lv (Q1p c i.A x32.1) λ(x35:Q04)=> .lf ({X:=x35.X,Pc:=wrap u32 (x35.Pc+4),B6:=x35.B6},x30.2.2)))))))))))
def Q4m(c:Q04)(m:(List Int))(i:Q0i):(Q04×(List Int)):=(Q93 c m i).m
abbrev Qj9(c:Q04)(m:(List Int))(i:Q0i):Prop:=(Q93 c m i).p
def Qz8:Q0c:=mkP 194 [false,true,false] true [.agg Q04.sig, .one (.row 0), .agg Q0i.sig] [.arr 23 1 (.ints .u32)] (λargs rows=>Qj9 (Q04.of (args.getD 0 .dead).cells) (rowL .u32 rows 0) (Q0i.of (args.getD 2 .dead).cells)) (λargs rows=>Q4m (Q04.of (args.getD 0 .dead).cells) (rowL .u32 rows 0) (Q0i.of (args.getD 2 .dead).cells)) (λX=> .agg (Q04.cells (X.1))) (λX=>[⟨false,23,1, .ints .u32 (X.2)⟩])
theorem Qwo:Q05 Tryz.prog Qz8:=Q0n Q0k Q0l (.cons Qst (.cons Qie (.cons Z0q (.cons Qni (.cons Qqo (.cons Qdj (.nil))))))) Tryz.func194 Tryz.call194 (λargs rows=>Q93 (Q04.of (args.getD 0 .dead).cells) (rowL .u32 rows 0) (Q0i.of (args.getD 2 .dead).cells)) [] [] 2 (λ_ _ _=>by kernel_rfl) (λ_ _=>rfl) (λ_ _ h=>h) (λ_ X=>by kernel_rfl)
def Qvo(op:Int):Tree Int:=
.br (op==16) (.lf 1) (.br (op==17) (.lf 3) (.br (op==18) (.lf 4) (.br (op==19) (.lf 5) (.br (op==20) (.lf 6) (.br (op==21) (.lf 7) (.br (op==22) (.lf 8) (.br (op==23) (.lf 12) (.lf op))))))))
def Z4f(op:Int):Int:=(Qvo op).m
def Za7:Q0c:=mkR 245 [] true [.one (.int .i64)] [] (λargs rows=>Z4f (argI args 0)) (λX=> .int .i64 X) (λX=>[])
theorem Z7y:Q05 Tryz.prog Za7:=Q0z Q0k Q0l (.nil) Tryz.func245 Tryz.call245 (λargs rows=>Qvo (argI args 0)) [] [] 2 (λ_ _ _=>by kernel_rfl) (λ_ _=>rfl) (λ_ _=>Tree.free_ok (by kernel_rfl)) (λ_ X=>by kernel_rfl)
def Q9q(a:Int)(b:Int):Tree (Int×Int):=
.br (b==0) (.lf (4294967295,a)) (.cn (decide (wrap i64 (wrap i32 b)≠0)) (.cn (decide (wrap i64 (wrap i32 b)≠0)) (.lf (wrap u32 (wrap i64 (Int.tdiv (wrap i64 (wrap i32 a)) (wrap i64 (wrap i32 b)))),wrap u32 (Int.tmod (wrap i64 (wrap i32 a)) (wrap i64 (wrap i32 b)))))))
def Qb2(a:Int)(b:Int):(Int×Int):=(Q9q a b).m
abbrev Qh9(a:Int)(b:Int):Prop:=(Q9q a b).p
def Z7z:Q0c:=mkP 246 [] true [.one (.int .u32), .one (.int .u32)] [] (λargs rows=>Qh9 (argI args 0) (argI args 1)) (λargs rows=>Qb2 (argI args 0) (argI args 1)) (λX=> .tup [.int .u32 (X.1), .int .u32 (X.2)]) (λX=>[])
theorem Z1n:Q05 Tryz.prog Z7z:=Q0n Q0k Q0l (.nil) Tryz.func246 Tryz.call246 (λargs rows=>Q9q (argI args 0) (argI args 1)) [] [] 2 (λ_ _ _=>by kernel_rfl) (λ_ _=>rfl) (λ_ _ h=>h) (λ_ X=>by kernel_rfl)
def Qjg(op:Int)(a:Int)(b:Int):Tree (Int×Bool):=
.lv (Z4f op) λ(x0:Int)=> .br (x0==1) (.lf (wrap u32 (a+b),true)) (.br (x0==2) (.lf (wrap u32 (a-b),true)) (.br (x0==3) (.lf (iand u32 a b,true)) (.br (x0==4) (.lf (ior u32 a b,true)) (.br (x0==5) (.lf (ixor u32 a b,true)) (.br (x0==6) (.lf (ishl u32 a (iand u32 b 31),true)) (.br (x0==7) (.lf (ishr u32 a (iand u32 b 31),true)) (.br (x0==8) (.lf (wrap u32 (ishr i32 (wrap i32 a) (iand u32 b 31)),true)) (.br (x0==9) (.lf (wrap u32 (a*b),true)) (.br (x0==10) (.an (Qh9 a b) (.lv (Qb2 a b) λ(x1:Int×Int)=> .lf (x1.1,true))) (.br (x0==11) (.an (Qh9 a b) (.lv (Qb2 a b) λ(x2:Int×Int)=> .lf (x2.2,true))) (.br (x0==12) (.lv (Qai (decide (wrap i32 a<wrap i32 b))) λ(x3:Int)=> .lf (x3,true)) (.br (x0==13) (.lv (Qai (decide (a<b))) λ(x4:Int)=> .lf (x4,true)) (.lf (0,false))))))))))))))
def Qc5(op:Int)(a:Int)(b:Int):(Int×Bool):=(Qjg op a b).m
abbrev Qnd(op:Int)(a:Int)(b:Int):Prop:=(Qjg op a b).p
def Zjz:Q0c:=mkP 195 [] true [.one (.int .i64), .one (.int .u32), .one (.int .u32)] [] (λargs rows=>Qnd (argI args 0) (argI args 1) (argI args 2)) (λargs rows=>Qc5 (argI args 0) (argI args 1) (argI args 2)) (λX=> .tup [.int .u32 (X.1), .bool (X.2)]) (λX=>[])
theorem Zes:Q05 Tryz.prog Zjz:=Q0n Q0k Q0l (.cons Z7y (.cons Z1n (.cons Qq (.nil)))) Tryz.func195 Tryz.call195 (λargs rows=>Qjg (argI args 0) (argI args 1) (argI args 2)) [] [] 2 (λ_ _ _=>by kernel_rfl) (λ_ _=>rfl) (λ_ _ h=>h) (λ_ X=>by kernel_rfl)
def Qmr(c:Q04)(m:(List Int)):Tree (Q04×Q11×(List Int)):=
.an (Q7z c m c.Pc 4 1) (.lv (Q12 c m c.Pc 4 1) λ(x0:Int×Int×List Int)=> .br (x0.2.1 !=0) (.lv (Q2j c x0.2.1 c.Pc) λ(x1:Q04)=> .lf (x1,{B5:=0,D1:=0,E0:=0,Value:=0},x0.2.2)) (.an (Qbq x0.2.2 x0.1 4) (.lv (Q16 x0.2.2 x0.1 4) λ(x2:Int×Bool)=> .lv (Q1r x2.1) λ(x3:Q0i×Bool)=> .br (!x3.2) (.lv (Q2j c 1 x2.1) λ(x4:Q04)=> .lf (x4,{B5:=0,D1:=0,E0:=0,Value:=0},x0.2.2)) (.lv (Q2z x3.1.Op) λ(x5:Bool)=>let T1:Tree ((Q04×Q11×(List Int))):= .br (decide (x3.1.Op≥56)) (.an (Qm5 c x3.1) (.lv (Qi0 c x3.1) λ(x7:Q04×Q11)=> .lf (x7.1,x7.2,x0.2.2))) (.br (decide (x3.1.Op≥40)) (.an (Qqw c x3.1) (.lv (Qzu c x3.1) λ(x8:Q04)=> .lf (x8,{B5:=0,D1:=0,E0:=0,Value:=0},x0.2.2))) (.br (decide (x3.1.Op≥32)) (.an (Qj9 c x0.2.2 x3.1) (.lv (Q4m c x0.2.2 x3.1) λ(x9:Q04×List Int)=> .lf (x9.1,{B5:=0,D1:=0,E0:=0,Value:=0},x9.2))) (.br (x3.1.Op==24) (.an (Q2r c x3.1.A (ishl u32 (wrap u32 x3.1.Imm) 16)) (.lv (Q1p c x3.1.A (ishl u32 (wrap u32 x3.1.Imm) 16)) λ(x10:Q04)=> .lf ({X:=x10.X,Pc:=wrap u32 (x10.Pc+4),B6:=x10.B6},{B5:=0,D1:=0,E0:=0,Value:=0},x0.2.2))) (let E2:=List.getD (A16.l c.X) x3.1.B.toNat 0;let E3:=Nat.blt 0 1&&decide (0≤x3.1.B∧x3.1.B<(↑16:Int)); .br (decide (x3.1.Op≤13)) (.cn (Nat.blt 0 1&&decide (0≤x3.1.C∧x3.1.C<(↑16:Int))) (.cn E3 (let E4:=List.getD (A16.l c.X) x3.1.C.toNat 0; .an (Qnd x3.1.Op E2 E4) (.lv (Qc5 x3.1.Op E2 E4) λ(x11:Int×Bool)=> .an (Q2r c x3.1.A x11.1) (.lv (Q1p c x3.1.A x11.1) λ(x12:Q04)=> .lf ({X:=x12.X,Pc:=wrap u32 (x12.Pc+4),B6:=x12.B6},{B5:=0,D1:=0,E0:=0,Value:=0},x0.2.2)))))) (.cn E3 (.an (Qnd x3.1.Op E2 (wrap u32 x3.1.Imm)) (.lv (Qc5 x3.1.Op E2 (wrap u32 x3.1.Imm)) λ(x13:Int×Bool)=> .an (Q2r c x3.1.A x13.1) (.lv (Q1p c x3.1.A x13.1) λ(x14:Q04)=> .lf ({X:=x14.X,Pc:=wrap u32 (x14.Pc+4),B6:=x14.B6},{B5:=0,D1:=0,E0:=0,Value:=0},x0.2.2))))))))); .br x5 (.br (iand u32 c.B6.a0 (1:Int)==(0:Int)) (.lv (Q2j c 2 x2.1) λ(x6:Q04)=> .lf (x6,{B5:=0,D1:=0,E0:=0,Value:=0},x0.2.2)) T1) T1))))
def Q6c(c:Q04)(m:(List Int)):(Q04×Q11×(List Int)):=(Qmr c m).m
abbrev Qq8(c:Q04)(m:(List Int)):Prop:=(Qmr c m).p
def ref1_Do_m:Q0c:=mkP 139 [false,true] true [.agg Q04.sig, .one (.row 0)] [.arr 23 1 (.ints .u32)] (λargs rows=>Qq8 (Q04.of (args.getD 0 .dead).cells) (rowL .u32 rows 0)) (λargs rows=>Q6c (Q04.of (args.getD 0 .dead).cells) (rowL .u32 rows 0)) (λX=> .tup [.agg (Q04.cells (X.1)), .agg (Q11.cells (X.2.1))]) (λX=>[⟨false,23,1, .ints .u32 (X.2.2)⟩])
theorem Z55:Q05 Tryz.prog ref1_Do_m:=Q0n Q0k Q0l (.cons Qst (.cons Qie (.cons Qni (.cons Qow (.cons Qqq (.cons Z1j (.cons Zdl (.cons Qwo (.cons Qdj (.cons Zes (.nil))))))))))) Tryz.func139 Tryz.call139 (λargs rows=>Qmr (Q04.of (args.getD 0 .dead).cells) (rowL .u32 rows 0)) [] [] 2 (λ_ _ _=>by kernel_rfl) (λ_ _=>rfl) (λ_ _ h=>h) (λ_ X=>by kernel_rfl)
end
end Go.Proofs.YtjaifpiopmhmlaaGreat

/-
  Functions of the program: models, and that its calls come to them (by a program: gen3.py).
-/
import Derived.Test.YtjaifpiopmhmlaaGreatBareIgnoresBase
import Derived.Test.YtjaifpiopmhmlaaGreatBareIgnoresZa
import Derived.Test.YtjaifpiopmhmlaaGreatBareIgnoresYe
set_option maxRecDepth 100000
set_option linter.all false
namespace Go.Proofs.YtjaifpiopmhmlaaGreat
open Go Go.GD Go.IntKind
noncomputable section
def Z4z(b:Bool):Tree Int:=
.br b (.lf 1) (.lf 0)
def Qan(b:Bool):Int:=(Z4z b).m
def Zlc:Q0c:=mkR 235 [] true [.one (.bool)] [] (λargs rows=>Qan (argB args 0)) (λX=> .int .u32 X) (λX=>[])
theorem Qqi:Q05 Tryz.prog Zlc:=Q0z Q0j Q0k (.nil) Tryz.func235 Tryz.call235 (λargs rows=>Z4z (argB args 0)) [] [] 2 (λ_ _ _=>by kernel_rfl) (λ_ _=>rfl) (λ_ _=>Tree.free_ok (by kernel_rfl)) (λ_ X=>by kernel_rfl)
def Qhp(c:Q04)(cause:Int)(bad:Int):Tree Q04:=
.lv (Qan (iand u32 c.B6.a0 (1:Int) !=(0:Int))) λ(x0:Int)=> .lv (Qan (iand u32 c.B6.a0 (2:Int) !=(0:Int))) λ(x1:Int)=> .lf ({X:=c.X,Pc:=c.B6.a1,B6:={a0:=ior u32 (Qft u32 (ior u32 (ior u32 (Qft u32 c.B6.a0 24) (wrap u32 (8*x0))) (wrap u32 (16*x1))) 2) 1,a1:=c.B6.a1,a2:=c.Pc,a3:=wrap u32 cause,a4:=bad,a5:=c.B6.a5,a6:=c.B6.a6,a7:=c.B6.a7}})
def Q2m(c:Q04)(cause:Int)(bad:Int):Q04:=(Qhp c cause bad).m
def Zgl:Q0c:=mkR 188 [] true [.agg Q04.sig, .one (.int .i64), .one (.int .u32)] [] (λargs rows=>Q2m (Q04.of (args.getD 0 .dead).cells) (argI args 1) (argI args 2)) (λX=> .agg (Q04.cells X)) (λX=>[])
theorem Qj:Q05 Tryz.prog Zgl:=Q0z Q0j Q0k (.cons Qqi (.nil)) Tryz.func188 Tryz.call188 (λargs rows=>Qhp (Q04.of (args.getD 0 .dead).cells) (argI args 1) (argI args 2)) [] [] 2 (λ_ _ _=>by kernel_rfl) (λ_ _=>rfl) (λ_ _=>Tree.free_ok (by kernel_rfl)) (λ_ X=>by kernel_rfl)
def Q7e(m:(List Int))(addr:Int)(size:Int):Tree Bool:=
let T1:Tree (Bool):= .cn (decide (wrap u32 size≠0)) (.br (Int.tmod addr (wrap u32 size)==0) (.lv (Q3p m) λ(x0:Int)=> .lf (decide (addr<wrap u32 (wrap i64 (128*x0))))) (.lf false)); .br (size !=1) (.br (size !=4) (.lf false) T1) T1
def Q1x(m:(List Int))(addr:Int)(size:Int):Bool:=(Q7e m addr size).m
abbrev Qbl(m:(List Int))(addr:Int)(size:Int):Prop:=(Q7e m addr size).p
def Z7t:Q0c:=mkP 189 [] true [.one (.ints .u32), .one (.int .u32), .one (.int .i64)] [] (λargs rows=>Qbl (argL .u32 args 0) (argI args 1) (argI args 2)) (λargs rows=>Q1x (argL .u32 args 0) (argI args 1) (argI args 2)) (λX=> .bool X) (λX=>[])
theorem Qj2:Q05 Tryz.prog Z7t:=Q0n Q0j Q0k (.cons Qc (.nil)) Tryz.func189 Tryz.call189 (λargs rows=>Q7e (argL .u32 args 0) (argI args 1) (argI args 2)) [] [] 2 (λ_ _ _=>by kernel_rfl) (λ_ _=>rfl) (λ_ _ h=>h) (λ_ X=>by kernel_rfl)
def Q3n(m:(List Int))(addr:Int)(size:Int):Tree (Int×Bool):=
.an (Qbl m addr size) (.lv (Q1x m addr size) λ(x0:Bool)=> .br (!x0) (.lf (0,false)) (.cn (Nat.beq 1 1&&Nat.blt 0 1&&decide (0<=wrap u32 (Int.tdiv addr 4)/\wrap u32 (Int.tdiv addr 4)<(m.length:Int))) (.br (size==1) (.cn (decide (0<=wrap u32 (8*Int.tmod addr 4))) (.lf (iand u32 (ishr u32 (m.getD (Int.toNat (wrap u32 (Int.tdiv addr 4))) 0) (wrap u32 (8*Int.tmod addr 4))) 255,true))) (.lf (m.getD (Int.toNat (wrap u32 (Int.tdiv addr 4))) 0,true)))))
def Q16(m:(List Int))(addr:Int)(size:Int):(Int×Bool):=(Q3n m addr size).m
abbrev Qby(m:(List Int))(addr:Int)(size:Int):Prop:=(Q3n m addr size).p
def Zf6:Q0c:=mkP 137 [] true [.one (.ints .u32), .one (.int .u32), .one (.int .i64)] [] (λargs rows=>Qby (argL .u32 args 0) (argI args 1) (argI args 2)) (λargs rows=>Q16 (argL .u32 args 0) (argI args 1) (argI args 2)) (λX=> .tup [.int .u32 (X.1), .bool (X.2)]) (λX=>[])
theorem Qmt:Q05 Tryz.prog Zf6:=Q0n Q0j Q0k (.cons Qj2 (.nil)) Tryz.func137 Tryz.call137 (λargs rows=>Q3n (argL .u32 args 0) (argI args 1) (argI args 2)) [] [] 2 (λ_ _ _=>by kernel_rfl) (λ_ _=>rfl) (λ_ _ h=>h) (λ_ X=>by kernel_rfl)
def Q64(w:Int):Tree (Q0i×Bool):=
.lv (Q25 (wrap i64 (ishr u32 w 24))) λ(x0:Int)=>let E5:=({Op:=0,A:=0,B:=0,C:=0,Imm:=0}:Q0i); .br (x0==0) (.lf (E5,false)) (.br (x0==2) (let E3:=({Op:=wrap i64 (ishr u32 w 24),A:=wrap i64 (iand u32 (ishr u32 w 20) 15),B:=wrap i64 (iand u32 (ishr u32 w 16) 15),C:=wrap i64 (iand u32 w 65535),Imm:=0}:Q0i); .lv (Q6n E3) λ(x1:Bool)=> .br (!x1) (.lf (E5,false)) (.lf (E3,true))) (let T1:Tree ((Q0i×Bool)):=let E2:=({Op:=wrap i64 (ishr u32 w 24),A:=wrap i64 (iand u32 (ishr u32 w 20) 15),B:=wrap i64 (iand u32 (ishr u32 w 16) 15),C:=0,Imm:=wrap i32 (wrap i16 (iand u32 w 65535))}:Q0i); .lv (Q6n E2) λ(x2:Bool)=> .br (!x2) (.lf (E5,false)) (.lf (E2,true)); .br (x0==3) T1 (.br (x0==7) T1 (let E4:=({Op:=wrap i64 (ishr u32 w 24),A:=wrap i64 (iand u32 (ishr u32 w 20) 15),B:=wrap i64 (iand u32 (ishr u32 w 16) 15),C:=0,Imm:=wrap i32 (iand u32 w 65535)}:Q0i); .lv (Q6n E4) λ(x4:Bool)=> .br (!x4) (.lf (E5,false)) (.lf (E4,true))))))
def Q1t(w:Int):(Q0i×Bool):=(Q64 w).m
def Z9m:Q0c:=mkR 138 [] true [.one (.int .u32)] [] (λargs rows=>Q1t (argI args 0)) (λX=> .tup [.agg (Q0i.cells (X.1)), .bool (X.2)]) (λX=>[])
theorem Qpy:Q05 Tryz.prog Z9m:=Q0z Q0j Q0k (.cons Qei (.cons Qt1 (.nil))) Tryz.func138 Tryz.call138 (λargs rows=>Q64 (argI args 0)) [] [] 2 (λ_ _ _=>by kernel_rfl) (λ_ _=>rfl) (λ_ _=>Tree.free_ok (by kernel_rfl)) (λ_ X=>by kernel_rfl)
def Qvu(access:Int):Tree Bool:=
.br (decide (access>=1)) (.lf (decide (access<=3))) (.lf false)
def Qd(access:Int):Bool:=(Qvu access).m
def Zbq:Q0c:=mkR 236 [] true [.one (.int .i64)] [] (λargs rows=>Qd (argI args 0)) (λX=> .bool X) (λX=>[])
theorem Qr7:Q05 Tryz.prog Zbq:=Q0z Q0j Q0k (.nil) Tryz.func236 Tryz.call236 (λargs rows=>Qvu (argI args 0)) [] [] 2 (λ_ _ _=>by kernel_rfl) (λ_ _=>rfl) (λ_ _=>Tree.free_ok (by kernel_rfl)) (λ_ X=>by kernel_rfl)
def Qw9(c:Q04):Tree Bool:=
.lf (iand u32 c.B6.a0 (5:Int)==(4:Int))
def Qkc(c:Q04):Bool:=(Qw9 c).m
def Zcs:Q0c:=mkR 237 [] true [.agg Q04.sig] [] (λargs rows=>Qkc (Q04.of (args.getD 0 .dead).cells)) (λX=> .bool X) (λX=>[])
theorem Z6p:Q05 Tryz.prog Zcs:=Q0z Q0j Q0k (.nil) Tryz.func237 Tryz.call237 (λargs rows=>Qw9 (Q04.of (args.getD 0 .dead).cells)) [] [] 2 (λ_ _ _=>by kernel_rfl) (λ_ _=>rfl) (λ_ _=>Tree.free_ok (by kernel_rfl)) (λ_ X=>by kernel_rfl)
def Q86(access:Int):Tree Int:=
.br (access==1) (.lf 4) (.br (access==3) (.lf 6) (.lf 5))
def Q1u(access:Int):Int:=(Q86 access).m
def Z3u:Q0c:=mkR 238 [] true [.one (.int .i64)] [] (λargs rows=>Q1u (argI args 0)) (λX=> .int .i64 X) (λX=>[])
theorem Qmd:Q05 Tryz.prog Z3u:=Q0z Q0j Q0k (.nil) Tryz.func238 Tryz.call238 (λargs rows=>Q86 (argI args 0)) [] [] 2 (λ_ _ _=>by kernel_rfl) (λ_ _=>rfl) (λ_ _=>Tree.free_ok (by kernel_rfl)) (λ_ X=>by kernel_rfl)
def Q9a(m:(List Int))(root:Int)(va:Int)(access:Int):Tree Q14:=
.lv (Q1u access) λ(x0:Int)=> .lv (Q3p m) λ(x1:Int)=> .lv (Qd access) λ(x2:Bool)=>let E4:=({Addr:=0,F3:=0,F1:=x0}:Q14); .br (!x2) (.lf (E4)) (.br (decide (va>=4096)) (.lf (E4)) (.br (decide (root>=wrap u32 x1)) (.lf (E4)) (let E6:=wrap u32 (root*128)+wrap u32 (4*wrap u32 (Int.tdiv va 128));let E3:=Int.tdiv (wrap u32 E6) 4; .cn (Nat.beq 1 1&&Nat.blt 0 1&&decide (0<=wrap u32 E3/\wrap u32 E3<(m.length:Int))) (let E5:=m.getD (Int.toNat (wrap u32 E3)) 0; .br (iand u32 E5 (1:Int)==(0:Int)) (.lf (E4)) (let T1:Tree (Q14):= .br (decide (iand u32 (ishr u32 E5 8) 255>=wrap u32 x1)) (.lf (E4)) (.lf ({Addr:=wrap u32 (wrap u32 (iand u32 (ishr u32 E5 8) (255:Int)*(128:Int))+Int.tmod va 128),F3:=wrap u32 E6,F1:=0}));let T2:Tree (Q14):= .br (access==1) (.br (iand u32 E5 (4:Int)==(0:Int)) (.lf (E4)) T1) T1; .br (access==3) (.br (iand u32 E5 (2:Int)==(0:Int)) (.lf (E4)) T2) T2)))))
def Q6b(m:(List Int))(root:Int)(va:Int)(access:Int):Q14:=(Q9a m root va access).m
abbrev Qsq(m:(List Int))(root:Int)(va:Int)(access:Int):Prop:=(Q9a m root va access).p
def Zfx:Q0c:=mkP 239 [] true [.one (.ints .u32), .one (.int .u32), .one (.int .u32), .one (.int .i64)] [] (λargs rows=>Qsq (argL .u32 args 0) (argI args 1) (argI args 2) (argI args 3)) (λargs rows=>Q6b (argL .u32 args 0) (argI args 1) (argI args 2) (argI args 3)) (λX=> .agg (Q14.cells X)) (λX=>[])
theorem Zak:Q05 Tryz.prog Zfx:=Q0n Q0j Q0k (.cons Qmd (.cons Qc (.cons Qr7 (.nil)))) Tryz.func239 Tryz.call239 (λargs rows=>Q9a (argL .u32 args 0) (argI args 1) (argI args 2) (argI args 3)) [] [] 2 (λ_ _ _=>by kernel_rfl) (λ_ _=>rfl) (λ_ _ h=>h) (λ_ X=>by kernel_rfl)
def Qdi(m:(List Int))(entry:Int)(access:Int):Tree (List Int):=
.an (Qbl m entry 4) (.lv (Q1x m entry 4) λ(x0:Bool)=> .br (!x0) (.lf m) (let E3:=Nat.beq 1 1&&Nat.blt 0 1&&decide (0<=wrap u32 (Int.tdiv entry 4)/\wrap u32 (Int.tdiv entry 4)<(m.length:Int)); .cn E3 (.cn E3 (let E4:=Int.toNat (wrap u32 (Int.tdiv entry 4));let E1:=List.set m E4 (ior u32 (m.getD E4 0) 8); .br (access==3) (let E2:=Nat.beq 1 1&&Nat.blt 0 1&&decide (0<=wrap u32 (Int.tdiv entry 4)/\wrap u32 (Int.tdiv entry 4)<(↑(List.length E1):Int)); .cn E2 (.cn E2 (.lf (List.set E1 E4 (ior u32 (List.getD E1 E4 0) 16))))) (.lf E1)))))
def Qmn(m:(List Int))(entry:Int)(access:Int):(List Int):=(Qdi m entry access).m
abbrev Qt3(m:(List Int))(entry:Int)(access:Int):Prop:=(Qdi m entry access).p
def Zei:Q0c:=mkP 240 [true,false,false] true [.one (.row 0), .one (.int .u32), .one (.int .i64)] [.arr 23 1 (.ints .u32)] (λargs rows=>Qt3 (rowL .u32 rows 0) (argI args 1) (argI args 2)) (λargs rows=>Qmn (rowL .u32 rows 0) (argI args 1) (argI args 2)) (λX=> .tup []) (λX=>[⟨false,23,1, .ints .u32 X⟩])
theorem Zck:Q05 Tryz.prog Zei:=Q0n Q0j Q0k (.cons Qj2 (.nil)) Tryz.func240 Tryz.call240 (λargs rows=>Qdi (rowL .u32 rows 0) (argI args 1) (argI args 2)) [] [] 2 (λ_ _ _=>by kernel_rfl) (λ_ _=>rfl) (λ_ _ h=>h) (λ_ X=>by kernel_rfl)
def Q72(c:Q04)(m:(List Int))(va:Int)(size:Int)(access:Int):Tree (Int×Int×(List Int)):=
.lv (Qd access) λ(x0:Bool)=> .br (!x0) (.lf (0,5,m)) (let T1:Tree ((Int×Int×(List Int))):= .cn (decide (wrap u32 size≠0)) (.br (Int.tmod va (wrap u32 size) !=0) (.lf (0,3,m)) (.lv (Qkc c) λ(x1:Bool)=> .br (!x1) (.an (Qbl m va size) (.lv (Q1x m va size) λ(x2:Bool)=> .br (!x2) (.lv (Q1u access) λ(x3:Int)=> .lf (0,x3,m)) (.lf (va,0,m)))) (.an (Qsq m c.B6.a6 va access) (.lv (Q6b m c.B6.a6 va access) λ(x4:Q14)=> .br (x4.F1 !=0) (.lf (0,x4.F1,m)) (.an (Qt3 m x4.F3 access) (.lv (Qmn m x4.F3 access) λ(x5:List Int)=> .lf (x4.Addr,0,x5))))))); .br (size !=1) (.br (size !=4) (.lf (0,5,m)) T1) T1)
def Q12(c:Q04)(m:(List Int))(va:Int)(size:Int)(access:Int):(Int×Int×(List Int)):=(Q72 c m va size access).m
abbrev Q8a(c:Q04)(m:(List Int))(va:Int)(size:Int)(access:Int):Prop:=(Q72 c m va size access).p
def Zbh:Q0c:=mkP 190 [false,true,false,false,false] true [.agg Q04.sig, .one (.row 0), .one (.int .u32), .one (.int .i64), .one (.int .i64)] [.arr 23 1 (.ints .u32)] (λargs rows=>Q8a (Q04.of (args.getD 0 .dead).cells) (rowL .u32 rows 0) (argI args 2) (argI args 3) (argI args 4)) (λargs rows=>Q12 (Q04.of (args.getD 0 .dead).cells) (rowL .u32 rows 0) (argI args 2) (argI args 3) (argI args 4)) (λX=> .tup [.int .u32 (X.1), .int .i64 (X.2.1)]) (λX=>[⟨false,23,1, .ints .u32 (X.2.2)⟩])
theorem Qss:Q05 Tryz.prog Zbh:=Q0n Q0j Q0k (.cons Qr7 (.cons Z6p (.cons Qj2 (.cons Qmd (.cons Zak (.cons Zck (.nil))))))) Tryz.func190 Tryz.call190 (λargs rows=>Q72 (Q04.of (args.getD 0 .dead).cells) (rowL .u32 rows 0) (argI args 2) (argI args 3) (argI args 4)) [] [] 2 (λ_ _ _=>by kernel_rfl) (λ_ _=>rfl) (λ_ _ h=>h) (λ_ X=>by kernel_rfl)
def Qk0(op:Int):Tree Bool:=
.br (decide (op>=57)) (.lf (decide (op<=64))) (.lf false)
def Q34(op:Int):Bool:=(Qk0 op).m
def Qu2:Q0c:=mkR 191 [] true [.one (.int .i64)] [] (λargs rows=>Q34 (argI args 0)) (λX=> .bool X) (λX=>[])
theorem Qrm:Q05 Tryz.prog Qu2:=Q0z Q0j Q0k (.nil) Tryz.func191 Tryz.call191 (λargs rows=>Qk0 (argI args 0)) [] [] 2 (λ_ _ _=>by kernel_rfl) (λ_ _=>rfl) (λ_ _=>Tree.free_ok (by kernel_rfl)) (λ_ X=>by kernel_rfl)
def Qc4(c:Q04):Tree Q04:=
.lv (Qan (iand u32 c.B6.a0 (8:Int) !=(0:Int))) λ(x0:Int)=> .lv (Qan (iand u32 c.B6.a0 (16:Int) !=(0:Int))) λ(x1:Int)=> .lf ({X:=c.X,Pc:=c.B6.a2,B6:={a0:=ior u32 (ior u32 (Qft u32 c.B6.a0 3) (wrap u32 (1*x0))) (wrap u32 (2*x1)),a1:=c.B6.a1,a2:=c.B6.a2,a3:=c.B6.a3,a4:=c.B6.a4,a5:=c.B6.a5,a6:=c.B6.a6,a7:=c.B6.a7}})
def Qi3(c:Q04):Q04:=(Qc4 c).m
def Z6m:Q0c:=mkR 241 [] true [.agg Q04.sig] [] (λargs rows=>Qi3 (Q04.of (args.getD 0 .dead).cells)) (λX=> .agg (Q04.cells X)) (λX=>[])
theorem Z26:Q05 Tryz.prog Z6m:=Q0z Q0j Q0k (.cons Qqi (.nil)) Tryz.func241 Tryz.call241 (λargs rows=>Qc4 (Q04.of (args.getD 0 .dead).cells)) [] [] 2 (λ_ _ _=>by kernel_rfl) (λ_ _=>rfl) (λ_ _=>Tree.free_ok (by kernel_rfl)) (λ_ X=>by kernel_rfl)
def Qcu(c:Q04)(r:Int)(v:Int):Tree Q04:=
.br (decide (r>0)) (.br (decide (r<16)) (.cn (Nat.blt 0 1&&decide (0<=r/\r<(↑16:Int))) (.lf ({X:=A16.of 0 (List.set (A16.l c.X) r.toNat v),Pc:=c.Pc,B6:=c.B6}))) (.lf c)) (.lf c)
def Q1p(c:Q04)(r:Int)(v:Int):Q04:=(Qcu c r v).m
abbrev Q2q(c:Q04)(r:Int)(v:Int):Prop:=(Qcu c r v).p
def Zl:Q0c:=mkP 141 [] true [.agg Q04.sig, .one (.int .i64), .one (.int .u32)] [] (λargs rows=>Q2q (Q04.of (args.getD 0 .dead).cells) (argI args 1) (argI args 2)) (λargs rows=>Q1p (Q04.of (args.getD 0 .dead).cells) (argI args 1) (argI args 2)) (λX=> .agg (Q04.cells X)) (λX=>[])
theorem Qcy:Q05 Tryz.prog Zl:=Q0n Q0j Q0k (.nil) Tryz.func141 Tryz.call141 (λargs rows=>Qcu (Q04.of (args.getD 0 .dead).cells) (argI args 1) (argI args 2)) [] [] 2 (λ_ _ _=>by kernel_rfl) (λ_ _=>rfl) (λ_ _ h=>h) (λ_ X=>by kernel_rfl)
def Qbd(c:Q04)(csr:Int)(v:Int):Tree Q04:=
let E4:=Nat.blt 0 1&&decide (0<=csr/\csr<(↑8:Int));let T2:Tree (Q04):= .cn E4 (.lf ({X:=c.X,Pc:=c.Pc,B6:=A8.of 0 (List.set (A8.l c.B6) csr.toNat (iand u32 v 31))})); .br (csr==0) T2 (.br (csr==7) T2 (.br (csr==6) (.cn E4 (.lf ({X:=c.X,Pc:=c.Pc,B6:=A8.of 0 (List.set (A8.l c.B6) csr.toNat (iand u32 v 255))}))) (let T3:Tree (Q04):= .cn E4 (.lf ({X:=c.X,Pc:=c.Pc,B6:=A8.of 0 (List.set (A8.l c.B6) csr.toNat (Qft u32 v 3))})); .br (csr==1) T3 (.br (csr==2) T3 (let T1:Tree (Q04):= .cn E4 (.lf ({X:=c.X,Pc:=c.Pc,B6:=A8.of 0 (List.set (A8.l c.B6) csr.toNat v)})); .br (csr==3) T1 (.br (csr==4) T1 (.br (csr==5) T1 (.lf c))))))))
def Qgd(c:Q04)(csr:Int)(v:Int):Q04:=(Qbd c csr v).m
abbrev Qps(c:Q04)(csr:Int)(v:Int):Prop:=(Qbd c csr v).p
def Zc9:Q0c:=mkP 242 [] true [.agg Q04.sig, .one (.int .i64), .one (.int .u32)] [] (λargs rows=>Qps (Q04.of (args.getD 0 .dead).cells) (argI args 1) (argI args 2)) (λargs rows=>Qgd (Q04.of (args.getD 0 .dead).cells) (argI args 1) (argI args 2)) (λX=> .agg (Q04.cells X)) (λX=>[])
theorem Z7d:Q05 Tryz.prog Zc9:=Q0n Q0j Q0k (.nil) Tryz.func242 Tryz.call242 (λargs rows=>Qbd (Q04.of (args.getD 0 .dead).cells) (argI args 1) (argI args 2)) [] [] 2 (λ_ _ _=>by kernel_rfl) (λ_ _=>rfl) (λ_ _ h=>h) (λ_ X=>by kernel_rfl)
def Q7h(c:Q04)(i:Q0i):Tree (Q04×Q11):=
.br (i.Op==56) (.lv (Q2m c 7 0) λ(x0:Q04)=> .lf (x0,{B5:=0,D1:=0,E0:=0,Value:=0})) (.br (i.Op==57) (.lv (Qi3 c) λ(x1:Q04)=> .lf (x1,{B5:=0,D1:=0,E0:=0,Value:=0})) (.br (i.Op==58) (.cn (Nat.blt 0 1&&decide (0<=i.Imm/\i.Imm<(↑8:Int))) (let E3:=List.getD (A8.l c.B6) i.Imm.toNat 0; .an (Q2q c i.A E3) (.lv (Q1p c i.A E3) λ(x2:Q04)=> .lf ({X:=x2.X,Pc:=wrap u32 (x2.Pc+4),B6:=x2.B6},{B5:=0,D1:=0,E0:=0,Value:=0})))) (let E2:=Nat.blt 0 1&&decide (0<=i.A/\i.A<(↑16:Int)); .br (i.Op==59) (.cn E2 (let E4:=List.getD (A16.l c.X) i.A.toNat 0; .an (Qps c (wrap i64 i.Imm) E4) (.lv (Qgd c (wrap i64 i.Imm) E4) λ(x3:Q04)=> .lf ({X:=x3.X,Pc:=wrap u32 (x3.Pc+4),B6:=x3.B6},{B5:=0,D1:=0,E0:=0,Value:=0})))) (let E1:=({X:=c.X,Pc:=wrap u32 (c.Pc+4),B6:=c.B6}:Q04); .br (i.Op==60) (.lf (E1,{B5:=1,D1:=wrap i64 i.Imm,E0:=i.A,Value:=0})) (.br (i.Op==61) (.cn E2 (.lf (E1,{B5:=2,D1:=wrap i64 i.Imm,E0:=0,Value:=List.getD (A16.l c.X) i.A.toNat 0}))) (.br (i.Op==62) (.lf (E1,{B5:=3,D1:=0,E0:=0,Value:=0})) (.br (i.Op==63) (.lf (E1,{B5:=5,D1:=0,E0:=0,Value:=0})) (.br (i.Op==64) (.lf (E1,{B5:=4,D1:=0,E0:=0,Value:=0})) (.lf (E1,{B5:=0,D1:=0,E0:=0,Value:=0}))))))))))
def Qhz(c:Q04)(i:Q0i):(Q04×Q11):=(Q7h c i).m
abbrev Qne(c:Q04)(i:Q0i):Prop:=(Q7h c i).p
def Z87:Q0c:=mkP 192 [] true [.agg Q04.sig, .agg Q0i.sig] [] (λargs rows=>Qne (Q04.of (args.getD 0 .dead).cells) (Q0i.of (args.getD 1 .dead).cells)) (λargs rows=>Qhz (Q04.of (args.getD 0 .dead).cells) (Q0i.of (args.getD 1 .dead).cells)) (λX=> .tup [.agg (Q04.cells (X.1)), .agg (Q11.cells (X.2))]) (λX=>[])
theorem Z2m:Q05 Tryz.prog Z87:=Q0n Q0j Q0k (.cons Qj (.cons Z26 (.cons Qcy (.cons Z7d (.nil))))) Tryz.func192 Tryz.call192 (λargs rows=>Q7h (Q04.of (args.getD 0 .dead).cells) (Q0i.of (args.getD 1 .dead).cells)) [] [] 2 (λ_ _ _=>by kernel_rfl) (λ_ _=>rfl) (λ_ _ h=>h) (λ_ X=>by kernel_rfl)
def Qvn(op:Int)(a:Int)(b:Int):Tree Bool:=
.br (op==40) (.lf (a==b)) (.br (op==41) (.lf (a !=b)) (.br (op==42) (.lf (decide (wrap i32 a<wrap i32 b))) (.br (op==43) (.lf (decide (wrap i32 a>=wrap i32 b))) (.br (op==44) (.lf (decide (a<b))) (.lf (decide (a>=b)))))))
def Q22(op:Int)(a:Int)(b:Int):Bool:=(Qvn op a b).m
def Ze1:Q0c:=mkR 243 [] true [.one (.int .i64), .one (.int .u32), .one (.int .u32)] [] (λargs rows=>Q22 (argI args 0) (argI args 1) (argI args 2)) (λX=> .bool X) (λX=>[])
theorem Z6s:Q05 Tryz.prog Ze1:=Q0z Q0j Q0k (.nil) Tryz.func243 Tryz.call243 (λargs rows=>Qvn (argI args 0) (argI args 1) (argI args 2)) [] [] 2 (λ_ _ _=>by kernel_rfl) (λ_ _=>rfl) (λ_ _=>Tree.free_ok (by kernel_rfl)) (λ_ X=>by kernel_rfl)
def Qh5(c:Q04)(i:Q0i):Tree Q04:=
.br (i.Op==48) (.an (Q2q c i.A (wrap u32 (c.Pc+4))) (.lv (Q1p c i.A (wrap u32 (c.Pc+4))) λ(x0:Q04)=> .lf ({X:=x0.X,Pc:=wrap u32 (c.Pc+wrap u32 (4*wrap u32 i.Imm)),B6:=x0.B6}))) (let E1:=Nat.blt 0 1&&decide (0<=i.B/\i.B<(↑16:Int)); .br (i.Op==49) (.cn E1 (.an (Q2q c i.A (wrap u32 (c.Pc+4))) (.lv (Q1p c i.A (wrap u32 (c.Pc+4))) λ(x1:Q04)=> .lf ({X:=x1.X,Pc:=wrap u32 (List.getD (A16.l c.X) i.B.toNat 0+wrap u32 i.Imm),B6:=x1.B6})))) (.cn (Nat.blt 0 1&&decide (0<=i.A/\i.A<(↑16:Int))) (.cn E1 (.lv (Q22 i.Op (List.getD (A16.l c.X) i.A.toNat 0) (List.getD (A16.l c.X) i.B.toNat 0)) λ(x2:Bool)=> .br x2 (.lf ({X:=c.X,Pc:=wrap u32 (c.Pc+wrap u32 (4*wrap u32 i.Imm)),B6:=c.B6})) (.lf ({X:=c.X,Pc:=wrap u32 (c.Pc+4),B6:=c.B6}))))))
def Qyx(c:Q04)(i:Q0i):Q04:=(Qh5 c i).m
abbrev Qt6(c:Q04)(i:Q0i):Prop:=(Qh5 c i).p
def Zga:Q0c:=mkP 193 [] true [.agg Q04.sig, .agg Q0i.sig] [] (λargs rows=>Qt6 (Q04.of (args.getD 0 .dead).cells) (Q0i.of (args.getD 1 .dead).cells)) (λargs rows=>Qyx (Q04.of (args.getD 0 .dead).cells) (Q0i.of (args.getD 1 .dead).cells)) (λX=> .agg (Q04.cells X)) (λX=>[])
theorem Zdf:Q05 Tryz.prog Zga:=Q0n Q0j Q0k (.cons Qcy (.cons Z6s (.nil))) Tryz.func193 Tryz.call193 (λargs rows=>Qh5 (Q04.of (args.getD 0 .dead).cells) (Q0i.of (args.getD 1 .dead).cells)) [] [] 2 (λ_ _ _=>by kernel_rfl) (λ_ _=>rfl) (λ_ _ h=>h) (λ_ X=>by kernel_rfl)
def Q6v(x:Int)(n:Int):Tree Int:=
.br (decide (n<1)) (.lf 0) (.br (decide (n>=32)) (.lf x) (.cn (decide (0<=wrap u64 n)) (.cn (decide (0<=wrap u64 (wrap i64 (n-1)))) (let E1:=iand u32 x (wrap u32 (ishl u32 1 (wrap u64 n)-1)); .br (ishr u32 E1 (wrap u64 (wrap i64 (n-1)))==1) (.cn (decide (0<=wrap u64 n)) (.lf (ior u32 E1 (ishl u32 4294967295 (wrap u64 n))))) (.lf E1)))))
def Q2y(x:Int)(n:Int):Int:=(Q6v x n).m
abbrev Qay(x:Int)(n:Int):Prop:=(Q6v x n).p
def Qvf:Q0c:=mkP 244 [] true [.one (.int .u32), .one (.int .i64)] [] (λargs rows=>Qay (argI args 0) (argI args 1)) (λargs rows=>Q2y (argI args 0) (argI args 1)) (λX=> .int .u32 X) (λX=>[])
theorem Qro:Q05 Tryz.prog Qvf:=Q0n Q0j Q0k (.nil) Tryz.func244 Tryz.call244 (λargs rows=>Q6v (argI args 0) (argI args 1)) [] [] 2 (λ_ _ _=>by kernel_rfl) (λ_ _=>rfl) (λ_ _ h=>h) (λ_ X=>by kernel_rfl)
def Q8q(c:Q04)(m:(List Int))(i:Q0i):Tree (Q04×(List Int)):=
.cn (Nat.blt 0 1&&decide (0<=i.B/\i.B<(↑16:Int))) (let E4:=wrap u32 (List.getD (A16.l c.X) i.B.toNat 0+wrap u32 i.Imm);let E5:=List.getD (A16.l c.X) i.A.toNat 0;let E6:=Nat.blt 0 1&&decide (0<=i.A/\i.A<(↑16:Int));let E7:=({X:=c.X,Pc:=wrap u32 (c.Pc+4),B6:=c.B6}:Q04);let T1:Tree ((Q04×(List Int))):=let T3:Tree ((Q04×(List Int))):= .an (Q8a c m E4 4 3) (.lv (Q12 c m E4 4 3) λ(x0:Int×Int×List Int)=> .br (x0.2.1 !=0) (.lv (Q2m c x0.2.1 E4) λ(x1:Q04)=> .lf (x1,x0.2.2)) (.cn E6 (.an (Qec x0.2.2 x0.1 4 E5) (.lv (Q9z x0.2.2 x0.1 4 E5) λ(x2:List Int)=> .lf (E7,x2))))); .br (i.Op==35) T3 (.br (i.Op==36) T3 (.an (Q8a c m E4 4 2) (.lv (Q12 c m E4 4 2) λ(x6:Int×Int×List Int)=> .br (x6.2.1 !=0) (.lv (Q2m c x6.2.1 E4) λ(x7:Q04)=> .lf (x7,x6.2.2)) (.an (Qby x6.2.2 x6.1 4) (.lv (Q16 x6.2.2 x6.1 4) λ(x8:Int×Bool)=> .br (i.Op==33) (.an (Qay x8.1 8) (.lv (Q2y x8.1 8) λ(x9:Int)=> .an (Q2q c i.A x9) (.lv (Q1p c i.A x9) λ(x10:Q04)=> .lf ({X:=x10.X,Pc:=wrap u32 (x10.Pc+4),B6:=x10.B6},x6.2.2)))) (.an (Q2q c i.A x8.1) (.lv (Q1p c i.A x8.1) λ(x11:Q04)=> .lf ({X:=x11.X,Pc:=wrap u32 (x11.Pc+4),B6:=x11.B6},x6.2.2)))))))); .br (i.Op==32) T1 (.br (i.Op==35) T1 (let T2:Tree ((Q04×(List Int))):= .an (Q8a c m E4 1 3) (.lv (Q12 c m E4 1 3) λ(x24:Int×Int×List Int)=> .br (x24.2.1 !=0) (.lv (Q2m c x24.2.1 E4) λ(x25:Q04)=> .lf (x25,x24.2.2)) (.cn E6 (.an (Qec x24.2.2 x24.1 1 E5) (.lv (Q9z x24.2.2 x24.1 1 E5) λ(x26:List Int)=> .lf (E7,x26))))); .br (i.Op==35) T2 (.br (i.Op==36) T2 (.an (Q8a c m E4 1 2) (.lv (Q12 c m E4 1 2) λ(x30:Int×Int×List Int)=> .br (x30.2.1 !=0) (.lv (Q2m c x30.2.1 E4) λ(x31:Q04)=> .lf (x31,x30.2.2)) (.an (Qby x30.2.2 x30.1 1) (.lv (Q16 x30.2.2 x30.1 1) λ(x32:Int×Bool)=> .br (i.Op==33) (.an (Qay x32.1 8) (.lv (Q2y x32.1 8) λ(x33:Int)=> .an (Q2q c i.A x33) (.lv (Q1p c i.A x33) λ(x34:Q04)=> .lf ({X:=x34.X,Pc:=wrap u32 (x34.Pc+4),B6:=x34.B6},x30.2.2)))) (.an (Q2q c i.A x32.1) (.lv (Q1p c i.A x32.1) λ(x35:Q04)=> .lf ({X:=x35.X,Pc:=wrap u32 (x35.Pc+4),B6:=x35.B6},x30.2.2)))))))))))
def Q4w(c:Q04)(m:(List Int))(i:Q0i):(Q04×(List Int)):=(Q8q c m i).m
abbrev Qjt(c:Q04)(m:(List Int))(i:Q0i):Prop:=(Q8q c m i).p
def Qyo:Q0c:=mkP 194 [false,true,false] true [.agg Q04.sig, .one (.row 0), .agg Q0i.sig] [.arr 23 1 (.ints .u32)] (λargs rows=>Qjt (Q04.of (args.getD 0 .dead).cells) (rowL .u32 rows 0) (Q0i.of (args.getD 2 .dead).cells)) (λargs rows=>Q4w (Q04.of (args.getD 0 .dead).cells) (rowL .u32 rows 0) (Q0i.of (args.getD 2 .dead).cells)) (λX=> .agg (Q04.cells (X.1))) (λX=>[⟨false,23,1, .ints .u32 (X.2)⟩])
theorem Qx6:Q05 Tryz.prog Qyo:=Q0n Q0j Q0k (.cons Qss (.cons Qj (.cons Z0r (.cons Qmt (.cons Qro (.cons Qcy (.nil))))))) Tryz.func194 Tryz.call194 (λargs rows=>Q8q (Q04.of (args.getD 0 .dead).cells) (rowL .u32 rows 0) (Q0i.of (args.getD 2 .dead).cells)) [] [] 2 (λ_ _ _=>by kernel_rfl) (λ_ _=>rfl) (λ_ _ h=>h) (λ_ X=>by kernel_rfl)
def Qvi(op:Int):Tree Int:=
.br (op==16) (.lf 1) (.br (op==17) (.lf 3) (.br (op==18) (.lf 4) (.br (op==19) (.lf 5) (.br (op==20) (.lf 6) (.br (op==21) (.lf 7) (.br (op==22) (.lf 8) (.br (op==23) (.lf 12) (.lf op))))))))
def Z5j(op:Int):Int:=(Qvi op).m
def Zd7:Q0c:=mkR 245 [] true [.one (.int .i64)] [] (λargs rows=>Z5j (argI args 0)) (λX=> .int .i64 X) (λX=>[])
theorem Z8a:Q05 Tryz.prog Zd7:=Q0z Q0j Q0k (.nil) Tryz.func245 Tryz.call245 (λargs rows=>Qvi (argI args 0)) [] [] 2 (λ_ _ _=>by kernel_rfl) (λ_ _=>rfl) (λ_ _=>Tree.free_ok (by kernel_rfl)) (λ_ X=>by kernel_rfl)
def Q9o(a:Int)(b:Int):Tree (Int×Int):=
.br (b==0) (.lf (4294967295,a)) (.cn (decide (wrap i64 (wrap i32 b)≠0)) (.cn (decide (wrap i64 (wrap i32 b)≠0)) (.lf (wrap u32 (wrap i64 (Int.tdiv (wrap i64 (wrap i32 a)) (wrap i64 (wrap i32 b)))),wrap u32 (Int.tmod (wrap i64 (wrap i32 a)) (wrap i64 (wrap i32 b)))))))
def Qas(a:Int)(b:Int):(Int×Int):=(Q9o a b).m
abbrev Qhh(a:Int)(b:Int):Prop:=(Q9o a b).p
def Z6e:Q0c:=mkP 246 [] true [.one (.int .u32), .one (.int .u32)] [] (λargs rows=>Qhh (argI args 0) (argI args 1)) (λargs rows=>Qas (argI args 0) (argI args 1)) (λX=> .tup [.int .u32 (X.1), .int .u32 (X.2)]) (λX=>[])
theorem Z3c:Q05 Tryz.prog Z6e:=Q0n Q0j Q0k (.nil) Tryz.func246 Tryz.call246 (λargs rows=>Q9o (argI args 0) (argI args 1)) [] [] 2 (λ_ _ _=>by kernel_rfl) (λ_ _=>rfl) (λ_ _ h=>h) (λ_ X=>by kernel_rfl)
def Qkj(op:Int)(a:Int)(b:Int):Tree (Int×Bool):=
.lv (Z5j op) λ(x0:Int)=> .br (x0==1) (.lf (wrap u32 (a+b),true)) (.br (x0==2) (.lf (wrap u32 (a-b),true)) (.br (x0==3) (.lf (iand u32 a b,true)) (.br (x0==4) (.lf (ior u32 a b,true)) (.br (x0==5) (.lf (ixor u32 a b,true)) (.br (x0==6) (.lf (ishl u32 a (iand u32 b 31),true)) (.br (x0==7) (.lf (ishr u32 a (iand u32 b 31),true)) (.br (x0==8) (.lf (wrap u32 (ishr i32 (wrap i32 a) (iand u32 b 31)),true)) (.br (x0==9) (.lf (wrap u32 (a*b),true)) (.br (x0==10) (.an (Qhh a b) (.lv (Qas a b) λ(x1:Int×Int)=> .lf (x1.1,true))) (.br (x0==11) (.an (Qhh a b) (.lv (Qas a b) λ(x2:Int×Int)=> .lf (x2.2,true))) (.br (x0==12) (.lv (Qan (decide (wrap i32 a<wrap i32 b))) λ(x3:Int)=> .lf (x3,true)) (.br (x0==13) (.lv (Qan (decide (a<b))) λ(x4:Int)=> .lf (x4,true)) (.lf (0,false))))))))))))))
def Qbz(op:Int)(a:Int)(b:Int):(Int×Bool):=(Qkj op a b).m
abbrev Qmj(op:Int)(a:Int)(b:Int):Prop:=(Qkj op a b).p
def Zl8:Q0c:=mkP 195 [] true [.one (.int .i64), .one (.int .u32), .one (.int .u32)] [] (λargs rows=>Qmj (argI args 0) (argI args 1) (argI args 2)) (λargs rows=>Qbz (argI args 0) (argI args 1) (argI args 2)) (λX=> .tup [.int .u32 (X.1), .bool (X.2)]) (λX=>[])
theorem Zfa:Q05 Tryz.prog Zl8:=Q0n Q0j Q0k (.cons Z8a (.cons Z3c (.cons Qqi (.nil)))) Tryz.func195 Tryz.call195 (λargs rows=>Qkj (argI args 0) (argI args 1) (argI args 2)) [] [] 2 (λ_ _ _=>by kernel_rfl) (λ_ _=>rfl) (λ_ _ h=>h) (λ_ X=>by kernel_rfl)
def Qmc(c:Q04)(m:(List Int)):Tree (Q04×Q11×(List Int)):=
.an (Q8a c m c.Pc 4 1) (.lv (Q12 c m c.Pc 4 1) λ(x0:Int×Int×List Int)=> .br (x0.2.1 !=0) (.lv (Q2m c x0.2.1 c.Pc) λ(x1:Q04)=> .lf (x1,{B5:=0,D1:=0,E0:=0,Value:=0},x0.2.2)) (.an (Qby x0.2.2 x0.1 4) (.lv (Q16 x0.2.2 x0.1 4) λ(x2:Int×Bool)=> .lv (Q1t x2.1) λ(x3:Q0i×Bool)=> .br (!x3.2) (.lv (Q2m c 1 x2.1) λ(x4:Q04)=> .lf (x4,{B5:=0,D1:=0,E0:=0,Value:=0},x0.2.2)) (.lv (Q34 x3.1.Op) λ(x5:Bool)=>let T1:Tree ((Q04×Q11×(List Int))):= .br (decide (x3.1.Op>=56)) (.an (Qne c x3.1) (.lv (Qhz c x3.1) λ(x7:Q04×Q11)=> .lf (x7.1,x7.2,x0.2.2))) (.br (decide (x3.1.Op>=40)) (.an (Qt6 c x3.1) (.lv (Qyx c x3.1) λ(x8:Q04)=> .lf (x8,{B5:=0,D1:=0,E0:=0,Value:=0},x0.2.2))) (.br (decide (x3.1.Op>=32)) (.an (Qjt c x0.2.2 x3.1) (.lv (Q4w c x0.2.2 x3.1) λ(x9:Q04×List Int)=> .lf (x9.1,{B5:=0,D1:=0,E0:=0,Value:=0},x9.2))) (.br (x3.1.Op==24) (.an (Q2q c x3.1.A (ishl u32 (wrap u32 x3.1.Imm) 16)) (.lv (Q1p c x3.1.A (ishl u32 (wrap u32 x3.1.Imm) 16)) λ(x10:Q04)=> .lf ({X:=x10.X,Pc:=wrap u32 (x10.Pc+4),B6:=x10.B6},{B5:=0,D1:=0,E0:=0,Value:=0},x0.2.2))) (let E2:=List.getD (A16.l c.X) x3.1.B.toNat 0;let E3:=Nat.blt 0 1&&decide (0<=x3.1.B/\x3.1.B<(↑16:Int)); .br (decide (x3.1.Op<=13)) (.cn (Nat.blt 0 1&&decide (0<=x3.1.C/\x3.1.C<(↑16:Int))) (.cn E3 (let E4:=List.getD (A16.l c.X) x3.1.C.toNat 0; .an (Qmj x3.1.Op E2 E4) (.lv (Qbz x3.1.Op E2 E4) λ(x11:Int×Bool)=> .an (Q2q c x3.1.A x11.1) (.lv (Q1p c x3.1.A x11.1) λ(x12:Q04)=> .lf ({X:=x12.X,Pc:=wrap u32 (x12.Pc+4),B6:=x12.B6},{B5:=0,D1:=0,E0:=0,Value:=0},x0.2.2)))))) (.cn E3 (.an (Qmj x3.1.Op E2 (wrap u32 x3.1.Imm)) (.lv (Qbz x3.1.Op E2 (wrap u32 x3.1.Imm)) λ(x13:Int×Bool)=> .an (Q2q c x3.1.A x13.1) (.lv (Q1p c x3.1.A x13.1) λ(x14:Q04)=> .lf ({X:=x14.X,Pc:=wrap u32 (x14.Pc+4),B6:=x14.B6},{B5:=0,D1:=0,E0:=0,Value:=0},x0.2.2))))))))); .br x5 (.br (iand u32 c.B6.a0 (1:Int)==(0:Int)) (.lv (Q2m c 2 x2.1) λ(x6:Q04)=> .lf (x6,{B5:=0,D1:=0,E0:=0,Value:=0},x0.2.2)) T1) T1))))
def Q6m(c:Q04)(m:(List Int)):(Q04×Q11×(List Int)):=(Qmc c m).m
abbrev Qqq(c:Q04)(m:(List Int)):Prop:=(Qmc c m).p
def vB:Q0c:=mkP 139 [false,true] true [.agg Q04.sig, .one (.row 0)] [.arr 23 1 (.ints .u32)] (λargs rows=>Qqq (Q04.of (args.getD 0 .dead).cells) (rowL .u32 rows 0)) (λargs rows=>Q6m (Q04.of (args.getD 0 .dead).cells) (rowL .u32 rows 0)) (λX=> .tup [.agg (Q04.cells (X.1)), .agg (Q11.cells (X.2.1))]) (λX=>[⟨false,23,1, .ints .u32 (X.2.2)⟩])
theorem Z4y:Q05 Tryz.prog vB:=Q0n Q0j Q0k (.cons Qss (.cons Qj (.cons Qmt (.cons Qpy (.cons Qrm (.cons Z2m (.cons Zdf (.cons Qx6 (.cons Qcy (.cons Zfa (.nil))))))))))) Tryz.func139 Tryz.call139 (λargs rows=>Qmc (Q04.of (args.getD 0 .dead).cells) (rowL .u32 rows 0)) [] [] 2 (λ_ _ _=>by kernel_rfl) (λ_ _=>rfl) (λ_ _ h=>h) (λ_ X=>by kernel_rfl)
end
end Go.Proofs.YtjaifpiopmhmlaaGreat

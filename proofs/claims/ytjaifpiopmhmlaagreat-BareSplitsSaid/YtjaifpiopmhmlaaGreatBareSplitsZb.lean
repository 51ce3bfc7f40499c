/-
  Functions of the program: models, and that its calls come to them (by a program: gen3.py).
-/
import Derived.Test.YtjaifpiopmhmlaaGreatBareSplitsBase
import Derived.Test.YtjaifpiopmhmlaaGreatBareSplitsZa
import Derived.Test.YtjaifpiopmhmlaaGreatBareSplitsYe
set_option maxRecDepth 100000
set_option linter.all false
namespace Go.Proofs.YtjaifpiopmhmlaaGreat
open Go Go.GD Go.IntKind
noncomputable section
def Z5n(b:Bool):Tree Int:=
.br b (.lf 1) (.lf 0)
def Qan(b:Bool):Int:=(Z5n b).m
def Zjo:Q0c:=mkR 235 [] true [.one (.bool)] [] (λargs rows=>Qan (argB args 0)) (λX=> .int .u32 X) (λX=>[])
theorem Qqm:Q05 Tryz.prog Zjo:=Q0z Q0j Q0k (.nil) Tryz.func235 Tryz.call235 (λargs rows=>Z5n (argB args 0)) [] [] 2 (λ_ _ _=>by kernel_rfl) (λ_ _=>rfl) (λ_ _=>Tree.free_ok (by kernel_rfl)) (λ_ X=>by kernel_rfl)
def Qho(c:Q04)(cause:Int)(bad:Int):Tree Q04:=
.lv (Qan (iand u32 c.B6.a0 (1:Int) !=(0:Int))) λ(x0:Int)=> .lv (Qan (iand u32 c.B6.a0 (2:Int) !=(0:Int))) λ(x1:Int)=> .lf ({X:=c.X,Pc:=c.B6.a1,B6:={a0:=ior u32 (Qg1 u32 (ior u32 (ior u32 (Qg1 u32 c.B6.a0 24) (wrap u32 (8*x0))) (wrap u32 (16*x1))) 2) 1,a1:=c.B6.a1,a2:=c.Pc,a3:=wrap u32 cause,a4:=bad,a5:=c.B6.a5,a6:=c.B6.a6,a7:=c.B6.a7}})
def Q2m(c:Q04)(cause:Int)(bad:Int):Q04:=(Qho c cause bad).m
def Zef:Q0c:=mkR 188 [] true [.agg Q04.sig, .one (.int .i64), .one (.int .u32)] [] (λargs rows=>Q2m (Q04.of (args.getD 0 .dead).cells) (argI args 1) (argI args 2)) (λX=> .agg (Q04.cells X)) (λX=>[])
theorem Qih:Q05 Tryz.prog Zef:=Q0z Q0j Q0k (.cons Qqm (.nil)) Tryz.func188 Tryz.call188 (λargs rows=>Qho (Q04.of (args.getD 0 .dead).cells) (argI args 1) (argI args 2)) [] [] 2 (λ_ _ _=>by kernel_rfl) (λ_ _=>rfl) (λ_ _=>Tree.free_ok (by kernel_rfl)) (λ_ X=>by kernel_rfl)
def Q7f(m:(List Int))(addr:Int)(size:Int):Tree Bool:=
let T1:Tree (Bool):= .cn (decide (wrap u32 size≠0)) (.br (Int.tmod addr (wrap u32 size)==0) (.lv (Q3i m) λ(x0:Int)=> .lf (decide (addr<wrap u32 (wrap i64 (128*x0))))) (.lf false)); .br (size !=1) (.br (size !=4) (.lf false) T1) T1
def Q1w(m:(List Int))(addr:Int)(size:Int):Bool:=(Q7f m addr size).m
abbrev Qc3(m:(List Int))(addr:Int)(size:Int):Prop:=(Q7f m addr size).p
def Z9h:Q0c:=mkP 189 [] true [.one (.ints .u32), .one (.int .u32), .one (.int .i64)] [] (λargs rows=>Qc3 (argL .u32 args 0) (argI args 1) (argI args 2)) (λargs rows=>Q1w (argL .u32 args 0) (argI args 1) (argI args 2)) (λX=> .bool X) (λX=>[])
theorem Qje:Q05 Tryz.prog Z9h:=Q0n Q0j Q0k (.cons Qbl (.nil)) Tryz.func189 Tryz.call189 (λargs rows=>Q7f (argL .u32 args 0) (argI args 1) (argI args 2)) [] [] 2 (λ_ _ _=>by kernel_rfl) (λ_ _=>rfl) (λ_ _ h=>h) (λ_ X=>by kernel_rfl)
def Q3h(m:(List Int))(addr:Int)(size:Int):Tree (Int×Bool):=
.an (Qc3 m addr size) (.lv (Q1w m addr size) λ(x0:Bool)=> .br (!x0) (.lf (0,false)) (.cn (Nat.beq 1 1&&Nat.blt 0 1&&decide (0<=wrap u32 (Int.tdiv addr 4)/\wrap u32 (Int.tdiv addr 4)<(m.length:Int))) (.br (size==1) (.cn (decide (0<=wrap u32 (8*Int.tmod addr 4))) (.lf (iand u32 (ishr u32 (m.getD (Int.toNat (wrap u32 (Int.tdiv addr 4))) 0) (wrap u32 (8*Int.tmod addr 4))) 255,true))) (.lf (m.getD (Int.toNat (wrap u32 (Int.tdiv addr 4))) 0,true)))))
def Q16(m:(List Int))(addr:Int)(size:Int):(Int×Bool):=(Q3h m addr size).m
abbrev Qc4(m:(List Int))(addr:Int)(size:Int):Prop:=(Q3h m addr size).p
def Zgn:Q0c:=mkP 137 [] true [.one (.ints .u32), .one (.int .u32), .one (.int .i64)] [] (λargs rows=>Qc4 (argL .u32 args 0) (argI args 1) (argI args 2)) (λargs rows=>Q16 (argL .u32 args 0) (argI args 1) (argI args 2)) (λX=> .tup [.int .u32 (X.1), .bool (X.2)]) (λX=>[])
theorem Qn4:Q05 Tryz.prog Zgn:=Q0n Q0j Q0k (.cons Qje (.nil)) Tryz.func137 Tryz.call137 (λargs rows=>Q3h (argL .u32 args 0) (argI args 1) (argI args 2)) [] [] 2 (λ_ _ _=>by kernel_rfl) (λ_ _=>rfl) (λ_ _ h=>h) (λ_ X=>by kernel_rfl)
def Q66(w:Int):Tree (Q0i×Bool):=
.lv (Q28 (wrap i64 (ishr u32 w 24))) λ(x0:Int)=>let E5:=({Op:=0,A:=0,B:=0,C:=0,Imm:=0}:Q0i); .br (x0==0) (.lf (E5,false)) (.br (x0==2) (let E3:=({Op:=wrap i64 (ishr u32 w 24),A:=wrap i64 (iand u32 (ishr u32 w 20) 15),B:=wrap i64 (iand u32 (ishr u32 w 16) 15),C:=wrap i64 (iand u32 w 65535),Imm:=0}:Q0i); .lv (Q6l E3) λ(x1:Bool)=> .br (!x1) (.lf (E5,false)) (.lf (E3,true))) (let T1:Tree ((Q0i×Bool)):=let E2:=({Op:=wrap i64 (ishr u32 w 24),A:=wrap i64 (iand u32 (ishr u32 w 20) 15),B:=wrap i64 (iand u32 (ishr u32 w 16) 15),C:=0,Imm:=wrap i32 (wrap i16 (iand u32 w 65535))}:Q0i); .lv (Q6l E2) λ(x2:Bool)=> .br (!x2) (.lf (E5,false)) (.lf (E2,true)); .br (x0==3) T1 (.br (x0==7) T1 (let E4:=({Op:=wrap i64 (ishr u32 w 24),A:=wrap i64 (iand u32 (ishr u32 w 20) 15),B:=wrap i64 (iand u32 (ishr u32 w 16) 15),C:=0,Imm:=wrap i32 (iand u32 w 65535)}:Q0i); .lv (Q6l E4) λ(x4:Bool)=> .br (!x4) (.lf (E5,false)) (.lf (E4,true))))))
def Q1s(w:Int):(Q0i×Bool):=(Q66 w).m
def Z9d:Q0c:=mkR 138 [] true [.one (.int .u32)] [] (λargs rows=>Q1s (argI args 0)) (λX=> .tup [.agg (Q0i.cells (X.1)), .bool (X.2)]) (λX=>[])
theorem Qpl:Q05 Tryz.prog Z9d:=Q0z Q0j Q0k (.cons Qe2 (.cons Qqy (.nil))) Tryz.func138 Tryz.call138 (λargs rows=>Q66 (argI args 0)) [] [] 2 (λ_ _ _=>by kernel_rfl) (λ_ _=>rfl) (λ_ _=>Tree.free_ok (by kernel_rfl)) (λ_ X=>by kernel_rfl)
def Qw8(access:Int):Tree Bool:=
.br (decide (access>=1)) (.lf (decide (access<=3))) (.lf false)
def Qda(access:Int):Bool:=(Qw8 access).m
def Zb1:Q0c:=mkR 236 [] true [.one (.int .i64)] [] (λargs rows=>Qda (argI args 0)) (λX=> .bool X) (λX=>[])
theorem Qs5:Q05 Tryz.prog Zb1:=Q0z Q0j Q0k (.nil) Tryz.func236 Tryz.call236 (λargs rows=>Qw8 (argI args 0)) [] [] 2 (λ_ _ _=>by kernel_rfl) (λ_ _=>rfl) (λ_ _=>Tree.free_ok (by kernel_rfl)) (λ_ X=>by kernel_rfl)
def Qwl(c:Q04):Tree Bool:=
.lf (iand u32 c.B6.a0 (5:Int)==(4:Int))
def Qkc(c:Q04):Bool:=(Qwl c).m
def Zat:Q0c:=mkR 237 [] true [.agg Q04.sig] [] (λargs rows=>Qkc (Q04.of (args.getD 0 .dead).cells)) (λX=> .bool X) (λX=>[])
theorem Z94:Q05 Tryz.prog Zat:=Q0z Q0j Q0k (.nil) Tryz.func237 Tryz.call237 (λargs rows=>Qwl (Q04.of (args.getD 0 .dead).cells)) [] [] 2 (λ_ _ _=>by kernel_rfl) (λ_ _=>rfl) (λ_ _=>Tree.free_ok (by kernel_rfl)) (λ_ X=>by kernel_rfl)
def Q86(access:Int):Tree Int:=
.br (access==1) (.lf 4) (.br (access==3) (.lf 6) (.lf 5))
def Q1v(access:Int):Int:=(Q86 access).m
def Z2x:Q0c:=mkR 238 [] true [.one (.int .i64)] [] (λargs rows=>Q1v (argI args 0)) (λX=> .int .i64 X) (λX=>[])
theorem Qmc:Q05 Tryz.prog Z2x:=Q0z Q0j Q0k (.nil) Tryz.func238 Tryz.call238 (λargs rows=>Q86 (argI args 0)) [] [] 2 (λ_ _ _=>by kernel_rfl) (λ_ _=>rfl) (λ_ _=>Tree.free_ok (by kernel_rfl)) (λ_ X=>by kernel_rfl)
def Q8l(m:(List Int))(root:Int)(va:Int)(access:Int):Tree Q14:=
.lv (Q1v access) λ(x0:Int)=> .lv (Q3i m) λ(x1:Int)=> .lv (Qda access) λ(x2:Bool)=>let E4:=({Addr:=0,F3:=0,F1:=x0}:Q14); .br (!x2) (.lf (E4)) (.br (decide (va>=4096)) (.lf (E4)) (.br (decide (root>=wrap u32 x1)) (.lf (E4)) (let E6:=wrap u32 (root*128)+wrap u32 (4*wrap u32 (Int.tdiv va 128));let E3:=Int.tdiv (wrap u32 E6) 4; .cn (Nat.beq 1 1&&Nat.blt 0 1&&decide (0<=wrap u32 E3/\wrap u32 E3<(m.length:Int))) (let E5:=m.getD (Int.toNat (wrap u32 E3)) 0; .br (iand u32 E5 (1:Int)==(0:Int)) (.lf (E4)) (let T1:Tree (Q14):= .br (decide (iand u32 (ishr u32 E5 8) 255>=wrap u32 x1)) (.lf (E4)) (.lf ({Addr:=wrap u32 (wrap u32 (iand u32 (ishr u32 E5 8) (255:Int)*(128:Int))+Int.tmod va 128),F3:=wrap u32 E6,F1:=0}));let T2:Tree (Q14):= .br (access==1) (.br (iand u32 E5 (4:Int)==(0:Int)) (.lf (E4)) T1) T1; .br (access==3) (.br (iand u32 E5 (2:Int)==(0:Int)) (.lf (E4)) T2) T2)))))
def Q68(m:(List Int))(root:Int)(va:Int)(access:Int):Q14:=(Q8l m root va access).m
abbrev Qsl(m:(List Int))(root:Int)(va:Int)(access:Int):Prop:=(Q8l m root va access).p
def Zge:Q0c:=mkP 239 [] true [.one (.ints .u32), .one (.int .u32), .one (.int .u32), .one (.int .i64)] [] (λargs rows=>Qsl (argL .u32 args 0) (argI args 1) (argI args 2) (argI args 3)) (λargs rows=>Q68 (argL .u32 args 0) (argI args 1) (argI args 2) (argI args 3)) (λX=> .agg (Q14.cells X)) (λX=>[])
theorem Zbk:Q05 Tryz.prog Zge:=Q0n Q0j Q0k (.cons Qmc (.cons Qbl (.cons Qs5 (.nil)))) Tryz.func239 Tryz.call239 (λargs rows=>Q8l (argL .u32 args 0) (argI args 1) (argI args 2) (argI args 3)) [] [] 2 (λ_ _ _=>by kernel_rfl) (λ_ _=>rfl) (λ_ _ h=>h) (λ_ X=>by kernel_rfl)
def Qdm(m:(List Int))(entry:Int)(access:Int):Tree (List Int):=
.an (Qc3 m entry 4) (.lv (Q1w m entry 4) λ(x0:Bool)=> .br (!x0) (.lf m) (let E3:=Nat.beq 1 1&&Nat.blt 0 1&&decide (0<=wrap u32 (Int.tdiv entry 4)/\wrap u32 (Int.tdiv entry 4)<(m.length:Int)); .cn E3 (.cn E3 (let E4:=Int.toNat (wrap u32 (Int.tdiv entry 4));let E1:=List.set m E4 (ior u32 (m.getD E4 0) 8); .br (access==3) (let E2:=Nat.beq 1 1&&Nat.blt 0 1&&decide (0<=wrap u32 (Int.tdiv entry 4)/\wrap u32 (Int.tdiv entry 4)<(↑(List.length E1):Int)); .cn E2 (.cn E2 (.lf (List.set E1 E4 (ior u32 (List.getD E1 E4 0) 16))))) (.lf E1)))))
def Qn9(m:(List Int))(entry:Int)(access:Int):(List Int):=(Qdm m entry access).m
abbrev Qsh(m:(List Int))(entry:Int)(access:Int):Prop:=(Qdm m entry access).p
def Zh0:Q0c:=mkP 240 [true,false,false] true [.one (.row 0), .one (.int .u32), .one (.int .i64)] [.arr 23 1 (.ints .u32)] (λargs rows=>Qsh (rowL .u32 rows 0) (argI args 1) (argI args 2)) (λargs rows=>Qn9 (rowL .u32 rows 0) (argI args 1) (argI args 2)) (λX=> .tup []) (λX=>[⟨false,23,1, .ints .u32 X⟩])
theorem Ze1:Q05 Tryz.prog Zh0:=Q0n Q0j Q0k (.cons Qje (.nil)) Tryz.func240 Tryz.call240 (λargs rows=>Qdm (rowL .u32 rows 0) (argI args 1) (argI args 2)) [] [] 2 (λ_ _ _=>by kernel_rfl) (λ_ _=>rfl) (λ_ _ h=>h) (λ_ X=>by kernel_rfl)
def Q72(c:Q04)(m:(List Int))(va:Int)(size:Int)(access:Int):Tree (Int×Int×(List Int)):=
.lv (Qda access) λ(x0:Bool)=> .br (!x0) (.lf (0,5,m)) (let T1:Tree ((Int×Int×(List Int))):= .cn (decide (wrap u32 size≠0)) (.br (Int.tmod va (wrap u32 size) !=0) (.lf (0,3,m)) (.lv (Qkc c) λ(x1:Bool)=> .br (!x1) (.an (Qc3 m va size) (.lv (Q1w m va size) λ(x2:Bool)=> .br (!x2) (.lv (Q1v access) λ(x3:Int)=> .lf (0,x3,m)) (.lf (va,0,m)))) (.an (Qsl m c.B6.a6 va access) (.lv (Q68 m c.B6.a6 va access) λ(x4:Q14)=> .br (x4.F1 !=0) (.lf (0,x4.F1,m)) (.an (Qsh m x4.F3 access) (.lv (Qn9 m x4.F3 access) λ(x5:List Int)=> .lf (x4.Addr,0,x5))))))); .br (size !=1) (.br (size !=4) (.lf (0,5,m)) T1) T1)
def Q12(c:Q04)(m:(List Int))(va:Int)(size:Int)(access:Int):(Int×Int×(List Int)):=(Q72 c m va size access).m
abbrev Q85(c:Q04)(m:(List Int))(va:Int)(size:Int)(access:Int):Prop:=(Q72 c m va size access).p
def Zcq:Q0c:=mkP 190 [false,true,false,false,false] true [.agg Q04.sig, .one (.row 0), .one (.int .u32), .one (.int .i64), .one (.int .i64)] [.arr 23 1 (.ints .u32)] (λargs rows=>Q85 (Q04.of (args.getD 0 .dead).cells) (rowL .u32 rows 0) (argI args 2) (argI args 3) (argI args 4)) (λargs rows=>Q12 (Q04.of (args.getD 0 .dead).cells) (rowL .u32 rows 0) (argI args 2) (argI args 3) (argI args 4)) (λX=> .tup [.int .u32 (X.1), .int .i64 (X.2.1)]) (λX=>[⟨false,23,1, .ints .u32 (X.2.2)⟩])
theorem Qse:Q05 Tryz.prog Zcq:=Q0n Q0j Q0k (.cons Qs5 (.cons Z94 (.cons Qje (.cons Qmc (.cons Zbk (.cons Ze1 (.nil))))))) Tryz.func190 Tryz.call190 (λargs rows=>Q72 (Q04.of (args.getD 0 .dead).cells) (rowL .u32 rows 0) (argI args 2) (argI args 3) (argI args 4)) [] [] 2 (λ_ _ _=>by kernel_rfl) (λ_ _=>rfl) (λ_ _ h=>h) (λ_ X=>by kernel_rfl)
def Qkk(op:Int):Tree Bool:=
.br (decide (op>=57)) (.lf (decide (op<=64))) (.lf false)
def Q2w(op:Int):Bool:=(Qkk op).m
def Qv3:Q0c:=mkR 191 [] true [.one (.int .i64)] [] (λargs rows=>Q2w (argI args 0)) (λX=> .bool X) (λX=>[])
theorem Qs4:Q05 Tryz.prog Qv3:=Q0z Q0j Q0k (.nil) Tryz.func191 Tryz.call191 (λargs rows=>Qkk (argI args 0)) [] [] 2 (λ_ _ _=>by kernel_rfl) (λ_ _=>rfl) (λ_ _=>Tree.free_ok (by kernel_rfl)) (λ_ X=>by kernel_rfl)
def Qc0(c:Q04):Tree Q04:=
.lv (Qan (iand u32 c.B6.a0 (8:Int) !=(0:Int))) λ(x0:Int)=> .lv (Qan (iand u32 c.B6.a0 (16:Int) !=(0:Int))) λ(x1:Int)=> .lf ({X:=c.X,Pc:=c.B6.a2,B6:={a0:=ior u32 (ior u32 (Qg1 u32 c.B6.a0 3) (wrap u32 (1*x0))) (wrap u32 (2*x1)),a1:=c.B6.a1,a2:=c.B6.a2,a3:=c.B6.a3,a4:=c.B6.a4,a5:=c.B6.a5,a6:=c.B6.a6,a7:=c.B6.a7}})
def Qgu(c:Q04):Q04:=(Qc0 c).m
def Z9k:Q0c:=mkR 241 [] true [.agg Q04.sig] [] (λargs rows=>Qgu (Q04.of (args.getD 0 .dead).cells)) (λX=> .agg (Q04.cells X)) (λX=>[])
theorem Z3h:Q05 Tryz.prog Z9k:=Q0z Q0j Q0k (.cons Qqm (.nil)) Tryz.func241 Tryz.call241 (λargs rows=>Qc0 (Q04.of (args.getD 0 .dead).cells)) [] [] 2 (λ_ _ _=>by kernel_rfl) (λ_ _=>rfl) (λ_ _=>Tree.free_ok (by kernel_rfl)) (λ_ X=>by kernel_rfl)
def Qdc(c:Q04)(r:Int)(v:Int):Tree Q04:=
.br (decide (r>0)) (.br (decide (r<16)) (.cn (Nat.blt 0 1&&decide (0<=r/\r<(↑16:Int))) (.lf ({X:=A16.of 0 (List.set (A16.l c.X) r.toNat v),Pc:=c.Pc,B6:=c.B6}))) (.lf c)) (.lf c)
def Q1q(c:Q04)(r:Int)(v:Int):Q04:=(Qdc c r v).m
abbrev Q2o(c:Q04)(r:Int)(v:Int):Prop:=(Qdc c r v).p
def Zli:Q0c:=mkP 141 [] true [.agg Q04.sig, .one (.int .i64), .one (.int .u32)] [] (λargs rows=>Q2o (Q04.of (args.getD 0 .dead).cells) (argI args 1) (argI args 2)) (λargs rows=>Q1q (Q04.of (args.getD 0 .dead).cells) (argI args 1) (argI args 2)) (λX=> .agg (Q04.cells X)) (λX=>[])
theorem Qcp:Q05 Tryz.prog Zli:=Q0n Q0j Q0k (.nil) Tryz.func141 Tryz.call141 (λargs rows=>Qdc (Q04.of (args.getD 0 .dead).cells) (argI args 1) (argI args 2)) [] [] 2 (λ_ _ _=>by kernel_rfl) (λ_ _=>rfl) (λ_ _ h=>h) (λ_ X=>by kernel_rfl)
def Qbh(c:Q04)(csr:Int)(v:Int):Tree Q04:=
let E4:=Nat.blt 0 1&&decide (0<=csr/\csr<(↑8:Int));let T2:Tree (Q04):= .cn E4 (.lf ({X:=c.X,Pc:=c.Pc,B6:=A8.of 0 (List.set (A8.l c.B6) csr.toNat (iand u32 v 31))})); .br (csr==0) T2 (.br (csr==7) T2 (.br (csr==6) (.cn E4 (.lf ({X:=c.X,Pc:=c.Pc,B6:=A8.of 0 (List.set (A8.l c.B6) csr.toNat (iand u32 v 255))}))) (let T3:Tree (Q04):= .cn E4 (.lf ({X:=c.X,Pc:=c.Pc,B6:=A8.of 0 (List.set (A8.l c.B6) csr.toNat (Qg1 u32 v 3))})); .br (csr==1) T3 (.br (csr==2) T3 (let T1:Tree (Q04):= .cn E4 (.lf ({X:=c.X,Pc:=c.Pc,B6:=A8.of 0 (List.set (A8.l c.B6) csr.toNat v)})); .br (csr==3) T1 (.br (csr==4) T1 (.br (csr==5) T1 (.lf c))))))))
def Qgf(c:Q04)(csr:Int)(v:Int):Q04:=(Qbh c csr v).m
abbrev Qp1(c:Q04)(csr:Int)(v:Int):Prop:=(Qbh c csr v).p
def Z9s:Q0c:=mkP 242 [] true [.agg Q04.sig, .one (.int .i64), .one (.int .u32)] [] (λargs rows=>Qp1 (Q04.of (args.getD 0 .dead).cells) (argI args 1) (argI args 2)) (λargs rows=>Qgf (Q04.of (args.getD 0 .dead).cells) (argI args 1) (argI args 2)) (λX=> .agg (Q04.cells X)) (λX=>[])
theorem Z7:Q05 Tryz.prog Z9s:=Q0n Q0j Q0k (.nil) Tryz.func242 Tryz.call242 (λargs rows=>Qbh (Q04.of (args.getD 0 .dead).cells) (argI args 1) (argI args 2)) [] [] 2 (λ_ _ _=>by kernel_rfl) (λ_ _=>rfl) (λ_ _ h=>h) (λ_ X=>by kernel_rfl)
def Q7h(c:Q04)(i:Q0i):Tree (Q04×Q11):=
.br (i.Op==56) (.lv (Q2m c 7 0) λ(x0:Q04)=> .lf (x0,{B5:=0,D1:=0,E0:=0,Value:=0})) (.br (i.Op==57) (.lv (Qgu c) λ(x1:Q04)=> .lf (x1,{B5:=0,D1:=0,E0:=0,Value:=0})) (.br (i.Op==58) (.cn (Nat.blt 0 1&&decide (0<=i.Imm/\i.Imm<(↑8:Int))) (let E3:=List.getD (A8.l c.B6) i.Imm.toNat 0; .an (Q2o c i.A E3) (.lv (Q1q c i.A E3) λ(x2:Q04)=> .lf ({X:=x2.X,Pc:=wrap u32 (x2.Pc+4),B6:=x2.B6},{B5:=0,D1:=0,E0:=0,Value:=0})))) (let E2:=Nat.blt 0 1&&decide (0<=i.A/\i.A<(↑16:Int)); .br (i.Op==59) (.cn E2 (let E4:=List.getD (A16.l c.X) i.A.toNat 0; .an (Qp1 c (wrap i64 i.Imm) E4) (.lv (Qgf c (wrap i64 i.Imm) E4) λ(x3:Q04)=> .lf ({X:=x3.X,Pc:=wrap u32 (x3.Pc+4),B6:=x3.B6},{B5:=0,D1:=0,E0:=0,Value:=0})))) (let E1:=({X:=c.X,Pc:=wrap u32 (c.Pc+4),B6:=c.B6}:Q04); .br (i.Op==60) (.lf (E1,{B5:=1,D1:=wrap i64 i.Imm,E0:=i.A,Value:=0})) (.br (i.Op==61) (.cn E2 (.lf (E1,{B5:=2,D1:=wrap i64 i.Imm,E0:=0,Value:=List.getD (A16.l c.X) i.A.toNat 0}))) (.br (i.Op==62) (.lf (E1,{B5:=3,D1:=0,E0:=0,Value:=0})) (.br (i.Op==63) (.lf (E1,{B5:=5,D1:=0,E0:=0,Value:=0})) (.br (i.Op==64) (.lf (E1,{B5:=4,D1:=0,E0:=0,Value:=0})) (.lf (E1,{B5:=0,D1:=0,E0:=0,Value:=0}))))))))))
def Qh1(c:Q04)(i:Q0i):(Q04×Q11):=(Q7h c i).m
abbrev Qmm(c:Q04)(i:Q0i):Prop:=(Q7h c i).p
def Z6g:Q0c:=mkP 192 [] true [.agg Q04.sig, .agg Q0i.sig] [] (λargs rows=>Qmm (Q04.of (args.getD 0 .dead).cells) (Q0i.of (args.getD 1 .dead).cells)) (λargs rows=>Qh1 (Q04.of (args.getD 0 .dead).cells) (Q0i.of (args.getD 1 .dead).cells)) (λX=> .tup [.agg (Q04.cells (X.1)), .agg (Q11.cells (X.2))]) (λX=>[])
theorem Z3n:Q05 Tryz.prog Z6g:=Q0n Q0j Q0k (.cons Qih (.cons Z3h (.cons Qcp (.cons Z7 (.nil))))) Tryz.func192 Tryz.call192 (λargs rows=>Q7h (Q04.of (args.getD 0 .dead).cells) (Q0i.of (args.getD 1 .dead).cells)) [] [] 2 (λ_ _ _=>by kernel_rfl) (λ_ _=>rfl) (λ_ _ h=>h) (λ_ X=>by kernel_rfl)
def Qvl(op:Int)(a:Int)(b:Int):Tree Bool:=
.br (op==40) (.lf (a==b)) (.br (op==41) (.lf (a !=b)) (.br (op==42) (.lf (decide (wrap i32 a<wrap i32 b))) (.br (op==43) (.lf (decide (wrap i32 a>=wrap i32 b))) (.br (op==44) (.lf (decide (a<b))) (.lf (decide (a>=b)))))))
def Q22(op:Int)(a:Int)(b:Int):Bool:=(Qvl op a b).m
def Zbd:Q0c:=mkR 243 [] true [.one (.int .i64), .one (.int .u32), .one (.int .u32)] [] (λargs rows=>Q22 (argI args 0) (argI args 1) (argI args 2)) (λX=> .bool X) (λX=>[])
theorem Z8r:Q05 Tryz.prog Zbd:=Q0z Q0j Q0k (.nil) Tryz.func243 Tryz.call243 (λargs rows=>Qvl (argI args 0) (argI args 1) (argI args 2)) [] [] 2 (λ_ _ _=>by kernel_rfl) (λ_ _=>rfl) (λ_ _=>Tree.free_ok (by kernel_rfl)) (λ_ X=>by kernel_rfl)
def Qi1(c:Q04)(i:Q0i):Tree Q04:=
.br (i.Op==48) (.an (Q2o c i.A (wrap u32 (c.Pc+4))) (.lv (Q1q c i.A (wrap u32 (c.Pc+4))) λ(x0:Q04)=> .lf ({X:=x0.X,Pc:=wrap u32 (c.Pc+wrap u32 (4*wrap u32 i.Imm)),B6:=x0.B6}))) (let E1:=Nat.blt 0 1&&decide (0<=i.B/\i.B<(↑16:Int)); .br (i.Op==49) (.cn E1 (.an (Q2o c i.A (wrap u32 (c.Pc+4))) (.lv (Q1q c i.A (wrap u32 (c.Pc+4))) λ(x1:Q04)=> .lf ({X:=x1.X,Pc:=wrap u32 (List.getD (A16.l c.X) i.B.toNat 0+wrap u32 i.Imm),B6:=x1.B6})))) (.cn (Nat.blt 0 1&&decide (0<=i.A/\i.A<(↑16:Int))) (.cn E1 (.lv (Q22 i.Op (List.getD (A16.l c.X) i.A.toNat 0) (List.getD (A16.l c.X) i.B.toNat 0)) λ(x2:Bool)=> .br x2 (.lf ({X:=c.X,Pc:=wrap u32 (c.Pc+wrap u32 (4*wrap u32 i.Imm)),B6:=c.B6})) (.lf ({X:=c.X,Pc:=wrap u32 (c.Pc+4),B6:=c.B6}))))))
def Z17(c:Q04)(i:Q0i):Q04:=(Qi1 c i).m
abbrev Qt2(c:Q04)(i:Q0i):Prop:=(Qi1 c i).p
def Zh1:Q0c:=mkP 193 [] true [.agg Q04.sig, .agg Q0i.sig] [] (λargs rows=>Qt2 (Q04.of (args.getD 0 .dead).cells) (Q0i.of (args.getD 1 .dead).cells)) (λargs rows=>Z17 (Q04.of (args.getD 0 .dead).cells) (Q0i.of (args.getD 1 .dead).cells)) (λX=> .agg (Q04.cells X)) (λX=>[])
theorem Zam:Q05 Tryz.prog Zh1:=Q0n Q0j Q0k (.cons Qcp (.cons Z8r (.nil))) Tryz.func193 Tryz.call193 (λargs rows=>Qi1 (Q04.of (args.getD 0 .dead).cells) (Q0i.of (args.getD 1 .dead).cells)) [] [] 2 (λ_ _ _=>by kernel_rfl) (λ_ _=>rfl) (λ_ _ h=>h) (λ_ X=>by kernel_rfl)
def Q6i(x:Int)(n:Int):Tree Int:=
.br (decide (n<1)) (.lf 0) (.br (decide (n>=32)) (.lf x) (.cn (decide (0<=wrap u64 n)) (.cn (decide (0<=wrap u64 (wrap i64 (n-1)))) (let E1:=iand u32 x (wrap u32 (ishl u32 1 (wrap u64 n)-1)); .br (ishr u32 E1 (wrap u64 (wrap i64 (n-1)))==1) (.cn (decide (0<=wrap u64 n)) (.lf (ior u32 E1 (ishl u32 4294967295 (wrap u64 n))))) (.lf E1)))))
def Q32(x:Int)(n:Int):Int:=(Q6i x n).m
abbrev Qav(x:Int)(n:Int):Prop:=(Q6i x n).p
def Quh:Q0c:=mkP 244 [] true [.one (.int .u32), .one (.int .i64)] [] (λargs rows=>Qav (argI args 0) (argI args 1)) (λargs rows=>Q32 (argI args 0) (argI args 1)) (λX=> .int .u32 X) (λX=>[])
theorem Qsv:Q05 Tryz.prog Quh:=Q0n Q0j Q0k (.nil) Tryz.func244 Tryz.call244 (λargs rows=>Q6i (argI args 0) (argI args 1)) [] [] 2 (λ_ _ _=>by kernel_rfl) (λ_ _=>rfl) (λ_ _ h=>h) (λ_ X=>by kernel_rfl)
def Q8m(c:Q04)(m:(List Int))(i:Q0i):Tree (Q04×(List Int)):=
.cn (Nat.blt 0 1&&decide (0<=i.B/\i.B<(↑16:Int))) (let E4:=wrap u32 (List.getD (A16.l c.X) i.B.toNat 0+wrap u32 i.Imm);let E5:=List.getD (A16.l c.X) i.A.toNat 0;let E6:=Nat.blt 0 1&&decide (0<=i.A/\i.A<(↑16:Int));let E7:=({X:=c.X,Pc:=wrap u32 (c.Pc+4),B6:=c.B6}:Q04);let T1:Tree ((Q04×(List Int))):=let T3:Tree ((Q04×(List Int))):= .an (Q85 c m E4 4 3) (.lv (Q12 c m E4 4 3) λ(x0:Int×Int×List Int)=> .br (x0.2.1 !=0) (.lv (Q2m c x0.2.1 E4) λ(x1:Q04)=> .lf (x1,x0.2.2)) (.cn E6 (.an (Qeb x0.2.2 x0.1 4 E5) (.lv (Q9n x0.2.2 x0.1 4 E5) λ(x2:List Int)=> .lf (E7,x2))))); .br (i.Op==35) T3 (.br (i.Op==36) T3 (.an (Q85 c m E4 4 2) (.lv (Q12 c m E4 4 2) λ(x6:Int×Int×List Int)=> .br (x6.2.1 !=0) (.lv (Q2m c x6.2.1 E4) λ(x7:Q04)=> .lf (x7,x6.2.2)) (.an (Qc4 x6.2.2 x6.1 4) (.lv (Q16 x6.2.2 x6.1 4) λ(x8:Int×Bool)=> .br (i.Op==33) (.an (Qav x8.1 8) (.lv (Q32 x8.1 8) λ(x9:Int)=> .an (Q2o c i.A x9) (.lv (Q1q c i.A x9) λ(x10:Q04)=> .lf ({X:=x10.X,Pc:=wrap u32 (x10.Pc+4),B6:=x10.B6},x6.2.2)))) (.an (Q2o c i.A x8.1) (.lv (Q1q c i.A x8.1) λ(x11:Q04)=> .lf ({X:=x11.X,Pc:=wrap u32 (x11.Pc+4),B6:=x11.B6},x6.2.2)))))))); .br (i.Op==32) T1 (.br (i.Op==35) T1 (let T2:Tree ((Q04×(List Int))):= .an (Q85 c m E4 1 3) (.lv (Q12 c m E4 1 3) λ(x24:Int×Int×List Int)=> .br (x24.2.1 !=0) (.lv (Q2m c x24.2.1 E4) λ(x25:Q04)=> .lf (x25,x24.2.2)) (.cn E6 (.an (Qeb x24.2.2 x24.1 1 E5) (.lv (Q9n x24.2.2 x24.1 1 E5) λ(x26:List Int)=> .lf (E7,x26))))); .br (i.Op==35) T2 (.br (i.Op==36) T2 (.an (Q85 c m E4 1 2) (.lv (Q12 c m E4 1 2) λ(x30:Int×Int×List Int)=> .br (x30.2.1 !=0) (.lv (Q2m c x30.2.1 E4) λ(x31:Q04)=> .lf (x31,x30.2.2)) (.an (Qc4 x30.2.2 x30.1 1) (.lv (Q16 x30.2.2 x30.1 1) λ(x32:Int×Bool)=> .br (i.Op==33) (.an (Qav x32.1 8) (.lv (Q32 x32.1 8) λ(x33:Int)=> .an (Q2o c i.A x33) (.lv (Q1q c i.A x33) λ(x34:Q04)=> .lf ({X:=x34.X,Pc:=wrap u32 (x34.Pc+4),B6:=x34.B6},x30.2.2)))) (.an (Q2o c i.A x32.1) (.lv (Q1q c i.A x32.1) λ(x35:Q04)=> .lf ({X:=x35.X,Pc:=wrap u32 (x35.Pc+4),B6:=x35.B6},x30.2.2)))))))))))
def Q4v(c:Q04)(m:(List Int))(i:Q0i):(Q04×(List Int)):=(Q8m c m i).m
abbrev Qjy(c:Q04)(m:(List Int))(i:Q0i):Prop:=(Q8m c m i).p
def Z21:Q0c:=mkP 194 [false,true,false] true [.agg Q04.sig, .one (.row 0), .agg Q0i.sig] [.arr 23 1 (.ints .u32)] (λargs rows=>Qjy (Q04.of (args.getD 0 .dead).cells) (rowL .u32 rows 0) (Q0i.of (args.getD 2 .dead).cells)) (λargs rows=>Q4v (Q04.of (args.getD 0 .dead).cells) (rowL .u32 rows 0) (Q0i.of (args.getD 2 .dead).cells)) (λX=> .agg (Q04.cells (X.1))) (λX=>[⟨false,23,1, .ints .u32 (X.2)⟩])
theorem Qx0:Q05 Tryz.prog Z21:=Q0n Q0j Q0k (.cons Qse (.cons Qih (.cons Qz5 (.cons Qn4 (.cons Qsv (.cons Qcp (.nil))))))) Tryz.func194 Tryz.call194 (λargs rows=>Q8m (Q04.of (args.getD 0 .dead).cells) (rowL .u32 rows 0) (Q0i.of (args.getD 2 .dead).cells)) [] [] 2 (λ_ _ _=>by kernel_rfl) (λ_ _=>rfl) (λ_ _ h=>h) (λ_ X=>by kernel_rfl)
def Qwp(op:Int):Tree Int:=
.br (op==16) (.lf 1) (.br (op==17) (.lf 3) (.br (op==18) (.lf 4) (.br (op==19) (.lf 5) (.br (op==20) (.lf 6) (.br (op==21) (.lf 7) (.br (op==22) (.lf 8) (.br (op==23) (.lf 12) (.lf op))))))))
def Z5j(op:Int):Int:=(Qwp op).m
def Zda:Q0c:=mkR 245 [] true [.one (.int .i64)] [] (λargs rows=>Z5j (argI args 0)) (λX=> .int .i64 X) (λX=>[])
theorem Z6m:Q05 Tryz.prog Zda:=Q0z Q0j Q0k (.nil) Tryz.func245 Tryz.call245 (λargs rows=>Qwp (argI args 0)) [] [] 2 (λ_ _ _=>by kernel_rfl) (λ_ _=>rfl) (λ_ _=>Tree.free_ok (by kernel_rfl)) (λ_ X=>by kernel_rfl)
def Q9y(a:Int)(b:Int):Tree (Int×Int):=
.br (b==0) (.lf (4294967295,a)) (.cn (decide (wrap i64 (wrap i32 b)≠0)) (.cn (decide (wrap i64 (wrap i32 b)≠0)) (.lf (wrap u32 (wrap i64 (Int.tdiv (wrap i64 (wrap i32 a)) (wrap i64 (wrap i32 b)))),wrap u32 (Int.tmod (wrap i64 (wrap i32 a)) (wrap i64 (wrap i32 b)))))))
def Qb3(a:Int)(b:Int):(Int×Int):=(Q9y a b).m
abbrev Qhn(a:Int)(b:Int):Prop:=(Q9y a b).p
def Z75:Q0c:=mkP 246 [] true [.one (.int .u32), .one (.int .u32)] [] (λargs rows=>Qhn (argI args 0) (argI args 1)) (λargs rows=>Qb3 (argI args 0) (argI args 1)) (λX=> .tup [.int .u32 (X.1), .int .u32 (X.2)]) (λX=>[])
theorem Z2l:Q05 Tryz.prog Z75:=Q0n Q0j Q0k (.nil) Tryz.func246 Tryz.call246 (λargs rows=>Q9y (argI args 0) (argI args 1)) [] [] 2 (λ_ _ _=>by kernel_rfl) (λ_ _=>rfl) (λ_ _ h=>h) (λ_ X=>by kernel_rfl)
def Qjw(op:Int)(a:Int)(b:Int):Tree (Int×Bool):=
.lv (Z5j op) λ(x0:Int)=> .br (x0==1) (.lf (wrap u32 (a+b),true)) (.br (x0==2) (.lf (wrap u32 (a-b),true)) (.br (x0==3) (.lf (iand u32 a b,true)) (.br (x0==4) (.lf (ior u32 a b,true)) (.br (x0==5) (.lf (ixor u32 a b,true)) (.br (x0==6) (.lf (ishl u32 a (iand u32 b 31),true)) (.br (x0==7) (.lf (ishr u32 a (iand u32 b 31),true)) (.br (x0==8) (.lf (wrap u32 (ishr i32 (wrap i32 a) (iand u32 b 31)),true)) (.br (x0==9) (.lf (wrap u32 (a*b),true)) (.br (x0==10) (.an (Qhn a b) (.lv (Qb3 a b) λ(x1:Int×Int)=> .lf (x1.1,true))) (.br (x0==11) (.an (Qhn a b) (.lv (Qb3 a b) λ(x2:Int×Int)=> .lf (x2.2,true))) (.br (x0==12) (.lv (Qan (decide (wrap i32 a<wrap i32 b))) λ(x3:Int)=> .lf (x3,true)) (.br (x0==13) (.lv (Qan (decide (a<b))) λ(x4:Int)=> .lf (x4,true)) (.lf (0,false))))))))))))))
def Qca(op:Int)(a:Int)(b:Int):(Int×Bool):=(Qjw op a b).m
abbrev Qn5(op:Int)(a:Int)(b:Int):Prop:=(Qjw op a b).p
def Zk6:Q0c:=mkP 195 [] true [.one (.int .i64), .one (.int .u32), .one (.int .u32)] [] (λargs rows=>Qn5 (argI args 0) (argI args 1) (argI args 2)) (λargs rows=>Qca (argI args 0) (argI args 1) (argI args 2)) (λX=> .tup [.int .u32 (X.1), .bool (X.2)]) (λX=>[])
theorem Zf3:Q05 Tryz.prog Zk6:=Q0n Q0j Q0k (.cons Z6m (.cons Z2l (.cons Qqm (.nil)))) Tryz.func195 Tryz.call195 (λargs rows=>Qjw (argI args 0) (argI args 1) (argI args 2)) [] [] 2 (λ_ _ _=>by kernel_rfl) (λ_ _=>rfl) (λ_ _ h=>h) (λ_ X=>by kernel_rfl)
def Qns(c:Q04)(m:(List Int)):Tree (Q04×Q11×(List Int)):=
.an (Q85 c m c.Pc 4 1) (.lv (Q12 c m c.Pc 4 1) λ(x0:Int×Int×List Int)=> .br (x0.2.1 !=0) (.lv (Q2m c x0.2.1 c.Pc) λ(x1:Q04)=> .lf (x1,{B5:=0,D1:=0,E0:=0,Value:=0},x0.2.2)) (.an (Qc4 x0.2.2 x0.1 4) (.lv (Q16 x0.2.2 x0.1 4) λ(x2:Int×Bool)=> .lv (Q1s x2.1) λ(x3:Q0i×Bool)=> .br (!x3.2) (.lv (Q2m c 1 x2.1) λ(x4:Q04)=> .lf (x4,{B5:=0,D1:=0,E0:=0,Value:=0},x0.2.2)) (.lv (Q2w x3.1.Op) λ(x5:Bool)=>let T1:Tree ((Q04×Q11×(List Int))):= .br (decide (x3.1.Op>=56)) (.an (Qmm c x3.1) (.lv (Qh1 c x3.1) λ(x7:Q04×Q11)=> .lf (x7.1,x7.2,x0.2.2))) (.br (decide (x3.1.Op>=40)) (.an (Qt2 c x3.1) (.lv (Z17 c x3.1) λ(x8:Q04)=> .lf (x8,{B5:=0,D1:=0,E0:=0,Value:=0},x0.2.2))) (.br (decide (x3.1.Op>=32)) (.an (Qjy c x0.2.2 x3.1) (.lv (Q4v c x0.2.2 x3.1) λ(x9:Q04×List Int)=> .lf (x9.1,{B5:=0,D1:=0,E0:=0,Value:=0},x9.2))) (.br (x3.1.Op==24) (.an (Q2o c x3.1.A (ishl u32 (wrap u32 x3.1.Imm) 16)) (.lv (Q1q c x3.1.A (ishl u32 (wrap u32 x3.1.Imm) 16)) λ(x10:Q04)=> .lf ({X:=x10.X,Pc:=wrap u32 (x10.Pc+4),B6:=x10.B6},{B5:=0,D1:=0,E0:=0,Value:=0},x0.2.2))) (let E2:=List.getD (A16.l c.X) x3.1.B.toNat 0;let E3:=Nat.blt 0 1&&decide (0<=x3.1.B/\x3.1.B<(↑16:Int)); .br (decide (x3.1.Op<=13)) (.cn (Nat.blt 0 1&&decide (0<=x3.1.C/\x3.1.C<(↑16:Int))) (.cn E3 (let E4:=List.getD (A16.l c.X) x3.1.C.toNat 0; .an (Qn5 x3.1.Op E2 E4) (.lv (Qca x3.1.Op E2 E4) λ(x11:Int×Bool)=> .an (Q2o c x3.1.A x11.1) (.lv (Q1q c x3.1.A x11.1) λ(x12:Q04)=> .lf ({X:=x12.X,Pc:=wrap u32 (x12.Pc+4),B6:=x12.B6},{B5:=0,D1:=0,E0:=0,Value:=0},x0.2.2)))))) (.cn E3 (.an (Qn5 x3.1.Op E2 (wrap u32 x3.1.Imm)) (.lv (Qca x3.1.Op E2 (wrap u32 x3.1.Imm)) λ(x13:Int×Bool)=> .an (Q2o c x3.1.A x13.1) (.lv (Q1q c x3.1.A x13.1) λ(x14:Q04)=> .lf ({X:=x14.X,Pc:=wrap u32 (x14.Pc+4),B6:=x14.B6},{B5:=0,D1:=0,E0:=0,Value:=0},x0.2.2))))))))); .br x5 (.br (iand u32 c.B6.a0 (1:Int)==(0:Int)) (.lv (Q2m c 2 x2.1) λ(x6:Q04)=> .lf (x6,{B5:=0,D1:=0,E0:=0,Value:=0},x0.2.2)) T1) T1))))
def Q6k(c:Q04)(m:(List Int)):(Q04×Q11×(List Int)):=(Qns c m).m
abbrev Qq6(c:Q04)(m:(List Int)):Prop:=(Qns c m).p
def zB:Q0c:=mkP 139 [false,true] true [.agg Q04.sig, .one (.row 0)] [.arr 23 1 (.ints .u32)] (λargs rows=>Qq6 (Q04.of (args.getD 0 .dead).cells) (rowL .u32 rows 0)) (λargs rows=>Q6k (Q04.of (args.getD 0 .dead).cells) (rowL .u32 rows 0)) (λX=> .tup [.agg (Q04.cells (X.1)), .agg (Q11.cells (X.2.1))]) (λX=>[⟨false,23,1, .ints .u32 (X.2.2)⟩])
theorem Z4g:Q05 Tryz.prog zB:=Q0n Q0j Q0k (.cons Qse (.cons Qih (.cons Qn4 (.cons Qpl (.cons Qs4 (.cons Z3n (.cons Zam (.cons Qx0 (.cons Qcp (.cons Zf3 (.nil))))))))))) Tryz.func139 Tryz.call139 (λargs rows=>Qns (Q04.of (args.getD 0 .dead).cells) (rowL .u32 rows 0)) [] [] 2 (λ_ _ _=>by kernel_rfl) (λ_ _=>rfl) (λ_ _ h=>h) (λ_ X=>by kernel_rfl)
end
end Go.Proofs.YtjaifpiopmhmlaaGreat

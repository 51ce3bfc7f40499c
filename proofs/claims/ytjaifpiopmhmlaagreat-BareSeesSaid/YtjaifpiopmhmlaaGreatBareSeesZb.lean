/-
  Functions of the program: models, and that its calls come to them (by a program: gen3.py).
-/
import Derived.Test.YtjaifpiopmhmlaaGreatBareSeesBase
import Derived.Test.YtjaifpiopmhmlaaGreatBareSeesZa
import Derived.Test.YtjaifpiopmhmlaaGreatBareSeesYe
set_option maxRecDepth 100000
set_option linter.all false
namespace Go.Proofs.YtjaifpiopmhmlaaGreat
open Go Go.GD Go.IntKind
noncomputable section
def Z5r(b:Bool):Tree Int:=
.br b (.lf 1) (.lf 0)
def Qan(b:Bool):Int:=(Z5r b).m
def Zlc:Q0b:=mkR 235 [] true [.one (.bool)] [] (λargs rows=>Qan (argB args 0)) (λX=> .int .u32 X) (λX=>[])
theorem Qqd:Q05 Tryz.prog Zlc:=Q0x Q0j Q0h (.nil) Tryz.func235 Tryz.call235 (λargs rows=>Z5r (argB args 0)) [] [] 2 (λ_ _ _=>by kernel_rfl) (λ_ _=>rfl) (λ_ _=>Tree.free_ok (by kernel_rfl)) (λ_ X=>by kernel_rfl)
def Qi6(c:Q03)(cause:Int)(bad:Int):Tree Q03:=
.lv (Qan (iand u32 c.B7.a0 (1:Int) !=(0:Int))) λ(x0:Int)=> .lv (Qan (iand u32 c.B7.a0 (2:Int) !=(0:Int))) λ(x1:Int)=> .lf ({X:=c.X,Pc:=c.B7.a1,B7:={a0:=ior u32 (Qg5 u32 (ior u32 (ior u32 (Qg5 u32 c.B7.a0 24) (wrap u32 (8*x0))) (wrap u32 (16*x1))) 2) 1,a1:=c.B7.a1,a2:=c.Pc,a3:=wrap u32 cause,a4:=bad,a5:=c.B7.a5,a6:=c.B7.a6,a7:=c.B7.a7}})
def Q2k(c:Q03)(cause:Int)(bad:Int):Q03:=(Qi6 c cause bad).m
def Zgz:Q0b:=mkR 188 [] true [.agg Q03.sig, .one (.int .i64), .one (.int .u32)] [] (λargs rows=>Q2k (Q03.of (args.getD 0 .dead).cells) (argI args 1) (argI args 2)) (λX=> .agg (Q03.cells X)) (λX=>[])
theorem Qiq:Q05 Tryz.prog Zgz:=Q0x Q0j Q0h (.cons Qqd (.nil)) Tryz.func188 Tryz.call188 (λargs rows=>Qi6 (Q03.of (args.getD 0 .dead).cells) (argI args 1) (argI args 2)) [] [] 2 (λ_ _ _=>by kernel_rfl) (λ_ _=>rfl) (λ_ _=>Tree.free_ok (by kernel_rfl)) (λ_ X=>by kernel_rfl)
def Q7t(m:(List Int))(addr:Int)(size:Int):Tree Bool:=
let T1:Tree (Bool):= .cn (decide (wrap u32 size≠0)) (.br (Int.tmod addr (wrap u32 size)==0) (.lv (Q3j m) λ(x0:Int)=> .lf (decide (addr<wrap u32 (wrap i64 (128*x0))))) (.lf false)); .br (size !=1) (.br (size !=4) (.lf false) T1) T1
def Q20(m:(List Int))(addr:Int)(size:Int):Bool:=(Q7t m addr size).m
abbrev Qc3(m:(List Int))(addr:Int)(size:Int):Prop:=(Q7t m addr size).p
def Z8r:Q0b:=mkP 189 [] true [.one (.ints .u32), .one (.int .u32), .one (.int .i64)] [] (λargs rows=>Qc3 (argL .u32 args 0) (argI args 1) (argI args 2)) (λargs rows=>Q20 (argL .u32 args 0) (argI args 1) (argI args 2)) (λX=> .bool X) (λX=>[])
theorem Qj6:Q05 Tryz.prog Z8r:=Q0k Q0j Q0h (.cons Qc0 (.nil)) Tryz.func189 Tryz.call189 (λargs rows=>Q7t (argL .u32 args 0) (argI args 1) (argI args 2)) [] [] 2 (λ_ _ _=>by kernel_rfl) (λ_ _=>rfl) (λ_ _ h=>h) (λ_ X=>by kernel_rfl)
def Q3b(m:(List Int))(addr:Int)(size:Int):Tree (Int×Bool):=
.an (Qc3 m addr size) (.lv (Q20 m addr size) λ(x0:Bool)=> .br (!x0) (.lf (0,false)) (.cn (Nat.beq 1 1&&Nat.blt 0 1&&decide (0<=wrap u32 (Int.tdiv addr 4)/\wrap u32 (Int.tdiv addr 4)<(m.length:Int))) (.br (size==1) (.cn (decide (0<=wrap u32 (8*Int.tmod addr 4))) (.lf (iand u32 (ishr u32 (m.getD (Int.toNat (wrap u32 (Int.tdiv addr 4))) 0) (wrap u32 (8*Int.tmod addr 4))) 255,true))) (.lf (m.getD (Int.toNat (wrap u32 (Int.tdiv addr 4))) 0,true)))))
def Q14(m:(List Int))(addr:Int)(size:Int):(Int×Bool):=(Q3b m addr size).m
abbrev Qbv(m:(List Int))(addr:Int)(size:Int):Prop:=(Q3b m addr size).p
def Zfn:Q0b:=mkP 137 [] true [.one (.ints .u32), .one (.int .u32), .one (.int .i64)] [] (λargs rows=>Qbv (argL .u32 args 0) (argI args 1) (argI args 2)) (λargs rows=>Q14 (argL .u32 args 0) (argI args 1) (argI args 2)) (λX=> .tup [.int .u32 (X.1), .bool (X.2)]) (λX=>[])
theorem Qne:Q05 Tryz.prog Zfn:=Q0k Q0j Q0h (.cons Qj6 (.nil)) Tryz.func137 Tryz.call137 (λargs rows=>Q3b (argL .u32 args 0) (argI args 1) (argI args 2)) [] [] 2 (λ_ _ _=>by kernel_rfl) (λ_ _=>rfl) (λ_ _ h=>h) (λ_ X=>by kernel_rfl)
def Q63(w:Int):Tree (Q0i×Bool):=
.lv (Q26 (wrap i64 (ishr u32 w 24))) λ(x0:Int)=>let E5:=({Op:=0,A:=0,B:=0,C:=0,Imm:=0}:Q0i); .br (x0==0) (.lf (E5,false)) (.br (x0==2) (let E3:=({Op:=wrap i64 (ishr u32 w 24),A:=wrap i64 (iand u32 (ishr u32 w 20) 15),B:=wrap i64 (iand u32 (ishr u32 w 16) 15),C:=wrap i64 (iand u32 w 65535),Imm:=0}:Q0i); .lv (Q71 E3) λ(x1:Bool)=> .br (!x1) (.lf (E5,false)) (.lf (E3,true))) (let T1:Tree ((Q0i×Bool)):=let E2:=({Op:=wrap i64 (ishr u32 w 24),A:=wrap i64 (iand u32 (ishr u32 w 20) 15),B:=wrap i64 (iand u32 (ishr u32 w 16) 15),C:=0,Imm:=wrap i32 (wrap i16 (iand u32 w 65535))}:Q0i); .lv (Q71 E2) λ(x2:Bool)=> .br (!x2) (.lf (E5,false)) (.lf (E2,true)); .br (x0==3) T1 (.br (x0==7) T1 (let E4:=({Op:=wrap i64 (ishr u32 w 24),A:=wrap i64 (iand u32 (ishr u32 w 20) 15),B:=wrap i64 (iand u32 (ishr u32 w 16) 15),C:=0,Imm:=wrap i32 (iand u32 w 65535)}:Q0i); .lv (Q71 E4) λ(x4:Bool)=> .br (!x4) (.lf (E5,false)) (.lf (E4,true))))))
def Q1w(w:Int):(Q0i×Bool):=(Q63 w).m
def Z6w:Q0b:=mkR 138 [] true [.one (.int .u32)] [] (λargs rows=>Q1w (argI args 0)) (λX=> .tup [.agg (Q0i.cells (X.1)), .bool (X.2)]) (λX=>[])
theorem Qpx:Q05 Tryz.prog Z6w:=Q0x Q0j Q0h (.cons Qej (.cons Qte (.nil))) Tryz.func138 Tryz.call138 (λargs rows=>Q63 (argI args 0)) [] [] 2 (λ_ _ _=>by kernel_rfl) (λ_ _=>rfl) (λ_ _=>Tree.free_ok (by kernel_rfl)) (λ_ X=>by kernel_rfl)
def Qwf(access:Int):Tree Bool:=
.br (decide (access>=1)) (.lf (decide (access<=3))) (.lf false)
def Qdt(access:Int):Bool:=(Qwf access).m
def Zab:Q0b:=mkR 236 [] true [.one (.int .i64)] [] (λargs rows=>Qdt (argI args 0)) (λX=> .bool X) (λX=>[])
theorem Qs:Q05 Tryz.prog Zab:=Q0x Q0j Q0h (.nil) Tryz.func236 Tryz.call236 (λargs rows=>Qwf (argI args 0)) [] [] 2 (λ_ _ _=>by kernel_rfl) (λ_ _=>rfl) (λ_ _=>Tree.free_ok (by kernel_rfl)) (λ_ X=>by kernel_rfl)
def Qwl(c:Q03):Tree Bool:=
.lf (iand u32 c.B7.a0 (5:Int)==(4:Int))
def Qka(c:Q03):Bool:=(Qwl c).m
def Zbs:Q0b:=mkR 237 [] true [.agg Q03.sig] [] (λargs rows=>Qka (Q03.of (args.getD 0 .dead).cells)) (λX=> .bool X) (λX=>[])
theorem Z9b:Q05 Tryz.prog Zbs:=Q0x Q0j Q0h (.nil) Tryz.func237 Tryz.call237 (λargs rows=>Qwl (Q03.of (args.getD 0 .dead).cells)) [] [] 2 (λ_ _ _=>by kernel_rfl) (λ_ _=>rfl) (λ_ _=>Tree.free_ok (by kernel_rfl)) (λ_ X=>by kernel_rfl)
def Q81(access:Int):Tree Int:=
.br (access==1) (.lf 4) (.br (access==3) (.lf 6) (.lf 5))
def Q1y(access:Int):Int:=(Q81 access).m
def Z3s:Q0b:=mkR 238 [] true [.one (.int .i64)] [] (λargs rows=>Q1y (argI args 0)) (λX=> .int .i64 X) (λX=>[])
theorem Qo6:Q05 Tryz.prog Z3s:=Q0x Q0j Q0h (.nil) Tryz.func238 Tryz.call238 (λargs rows=>Q81 (argI args 0)) [] [] 2 (λ_ _ _=>by kernel_rfl) (λ_ _=>rfl) (λ_ _=>Tree.free_ok (by kernel_rfl)) (λ_ X=>by kernel_rfl)
def Q8y(m:(List Int))(root:Int)(va:Int)(access:Int):Tree Q13:=
.lv (Q1y access) λ(x0:Int)=> .lv (Q3j m) λ(x1:Int)=> .lv (Qdt access) λ(x2:Bool)=>let E4:=({Addr:=0,F7:=0,F5:=x0}:Q13); .br (!x2) (.lf (E4)) (.br (decide (va>=4096)) (.lf (E4)) (.br (decide (root>=wrap u32 x1)) (.lf (E4)) (let E6:=wrap u32 (root*128)+wrap u32 (4*wrap u32 (Int.tdiv va 128));let E3:=Int.tdiv (wrap u32 E6) 4; .cn (Nat.beq 1 1&&Nat.blt 0 1&&decide (0<=wrap u32 E3/\wrap u32 E3<(m.length:Int))) (let E5:=m.getD (Int.toNat (wrap u32 E3)) 0; .br (iand u32 E5 (1:Int)==(0:Int)) (.lf (E4)) (let T1:Tree (Q13):= .br (decide (iand u32 (ishr u32 E5 8) 255>=wrap u32 x1)) (.lf (E4)) (.lf ({Addr:=wrap u32 (wrap u32 (iand u32 (ishr u32 E5 8) (255:Int)*(128:Int))+Int.tmod va 128),F7:=wrap u32 E6,F5:=0}));let T2:Tree (Q13):= .br (access==1) (.br (iand u32 E5 (4:Int)==(0:Int)) (.lf (E4)) T1) T1; .br (access==3) (.br (iand u32 E5 (2:Int)==(0:Int)) (.lf (E4)) T2) T2)))))
def Q6(m:(List Int))(root:Int)(va:Int)(access:Int):Q13:=(Q8y m root va access).m
abbrev Qt3(m:(List Int))(root:Int)(va:Int)(access:Int):Prop:=(Q8y m root va access).p
def Zga:Q0b:=mkP 239 [] true [.one (.ints .u32), .one (.int .u32), .one (.int .u32), .one (.int .i64)] [] (λargs rows=>Qt3 (argL .u32 args 0) (argI args 1) (argI args 2) (argI args 3)) (λargs rows=>Q6 (argL .u32 args 0) (argI args 1) (argI args 2) (argI args 3)) (λX=> .agg (Q13.cells X)) (λX=>[])
theorem Zbp:Q05 Tryz.prog Zga:=Q0k Q0j Q0h (.cons Qo6 (.cons Qc0 (.cons Qs (.nil)))) Tryz.func239 Tryz.call239 (λargs rows=>Q8y (argL .u32 args 0) (argI args 1) (argI args 2) (argI args 3)) [] [] 2 (λ_ _ _=>by kernel_rfl) (λ_ _=>rfl) (λ_ _ h=>h) (λ_ X=>by kernel_rfl)
def Qd4(m:(List Int))(entry:Int)(access:Int):Tree (List Int):=
.an (Qc3 m entry 4) (.lv (Q20 m entry 4) λ(x0:Bool)=> .br (!x0) (.lf m) (let E3:=Nat.beq 1 1&&Nat.blt 0 1&&decide (0<=wrap u32 (Int.tdiv entry 4)/\wrap u32 (Int.tdiv entry 4)<(m.length:Int)); .cn E3 (.cn E3 (let E4:=Int.toNat (wrap u32 (Int.tdiv entry 4));let E1:=List.set m E4 (ior u32 (m.getD E4 0) 8); .br (access==3) (let E2:=Nat.beq 1 1&&Nat.blt 0 1&&decide (0<=wrap u32 (Int.tdiv entry 4)/\wrap u32 (Int.tdiv entry 4)<(↑(List.length E1):Int)); .cn E2 (.cn E2 (.lf (List.set E1 E4 (ior u32 (List.getD E1 E4 0) 16))))) (.lf E1)))))
def Qnq(m:(List Int))(entry:Int)(access:Int):(List Int):=(Qd4 m entry access).m
abbrev Qr9(m:(List Int))(entry:Int)(access:Int):Prop:=(Qd4 m entry access).p
def Zfv:Q0b:=mkP 240 [true,false,false] true [.one (.row 0), .one (.int .u32), .one (.int .i64)] [.arr 23 1 (.ints .u32)] (λargs rows=>Qr9 (rowL .u32 rows 0) (argI args 1) (argI args 2)) (λargs rows=>Qnq (rowL .u32 rows 0) (argI args 1) (argI args 2)) (λX=> .tup []) (λX=>[⟨false,23,1, .ints .u32 X⟩])
theorem Zbf:Q05 Tryz.prog Zfv:=Q0k Q0j Q0h (.cons Qj6 (.nil)) Tryz.func240 Tryz.call240 (λargs rows=>Qd4 (rowL .u32 rows 0) (argI args 1) (argI args 2)) [] [] 2 (λ_ _ _=>by kernel_rfl) (λ_ _=>rfl) (λ_ _ h=>h) (λ_ X=>by kernel_rfl)
def Q74(c:Q03)(m:(List Int))(va:Int)(size:Int)(access:Int):Tree (Int×Int×(List Int)):=
.lv (Qdt access) λ(x0:Bool)=> .br (!x0) (.lf (0,5,m)) (let T1:Tree ((Int×Int×(List Int))):= .cn (decide (wrap u32 size≠0)) (.br (Int.tmod va (wrap u32 size) !=0) (.lf (0,3,m)) (.lv (Qka c) λ(x1:Bool)=> .br (!x1) (.an (Qc3 m va size) (.lv (Q20 m va size) λ(x2:Bool)=> .br (!x2) (.lv (Q1y access) λ(x3:Int)=> .lf (0,x3,m)) (.lf (va,0,m)))) (.an (Qt3 m c.B7.a6 va access) (.lv (Q6 m c.B7.a6 va access) λ(x4:Q13)=> .br (x4.F5 !=0) (.lf (0,x4.F5,m)) (.an (Qr9 m x4.F7 access) (.lv (Qnq m x4.F7 access) λ(x5:List Int)=> .lf (x4.Addr,0,x5))))))); .br (size !=1) (.br (size !=4) (.lf (0,5,m)) T1) T1)
def Q10(c:Q03)(m:(List Int))(va:Int)(size:Int)(access:Int):(Int×Int×(List Int)):=(Q74 c m va size access).m
abbrev Q87(c:Q03)(m:(List Int))(va:Int)(size:Int)(access:Int):Prop:=(Q74 c m va size access).p
def Zb8:Q0b:=mkP 190 [false,true,false,false,false] true [.agg Q03.sig, .one (.row 0), .one (.int .u32), .one (.int .i64), .one (.int .i64)] [.arr 23 1 (.ints .u32)] (λargs rows=>Q87 (Q03.of (args.getD 0 .dead).cells) (rowL .u32 rows 0) (argI args 2) (argI args 3) (argI args 4)) (λargs rows=>Q10 (Q03.of (args.getD 0 .dead).cells) (rowL .u32 rows 0) (argI args 2) (argI args 3) (argI args 4)) (λX=> .tup [.int .u32 (X.1), .int .i64 (X.2.1)]) (λX=>[⟨false,23,1, .ints .u32 (X.2.2)⟩])
theorem Qs3:Q05 Tryz.prog Zb8:=Q0k Q0j Q0h (.cons Qs (.cons Z9b (.cons Qj6 (.cons Qo6 (.cons Zbp (.cons Zbf (.nil))))))) Tryz.func190 Tryz.call190 (λargs rows=>Q74 (Q03.of (args.getD 0 .dead).cells) (rowL .u32 rows 0) (argI args 2) (argI args 3) (argI args 4)) [] [] 2 (λ_ _ _=>by kernel_rfl) (λ_ _=>rfl) (λ_ _ h=>h) (λ_ X=>by kernel_rfl)
def Qk7(op:Int):Tree Bool:=
.br (decide (op>=57)) (.lf (decide (op<=64))) (.lf false)
def Q2y(op:Int):Bool:=(Qk7 op).m
def Qtr:Q0b:=mkR 191 [] true [.one (.int .i64)] [] (λargs rows=>Q2y (argI args 0)) (λX=> .bool X) (λX=>[])
theorem Qrt:Q05 Tryz.prog Qtr:=Q0x Q0j Q0h (.nil) Tryz.func191 Tryz.call191 (λargs rows=>Qk7 (argI args 0)) [] [] 2 (λ_ _ _=>by kernel_rfl) (λ_ _=>rfl) (λ_ _=>Tree.free_ok (by kernel_rfl)) (λ_ X=>by kernel_rfl)
def Qbq(c:Q03):Tree Q03:=
.lv (Qan (iand u32 c.B7.a0 (8:Int) !=(0:Int))) λ(x0:Int)=> .lv (Qan (iand u32 c.B7.a0 (16:Int) !=(0:Int))) λ(x1:Int)=> .lf ({X:=c.X,Pc:=c.B7.a2,B7:={a0:=ior u32 (ior u32 (Qg5 u32 c.B7.a0 3) (wrap u32 (1*x0))) (wrap u32 (2*x1)),a1:=c.B7.a1,a2:=c.B7.a2,a3:=c.B7.a3,a4:=c.B7.a4,a5:=c.B7.a5,a6:=c.B7.a6,a7:=c.B7.a7}})
def Qgx(c:Q03):Q03:=(Qbq c).m
def Z9j:Q0b:=mkR 241 [] true [.agg Q03.sig] [] (λargs rows=>Qgx (Q03.of (args.getD 0 .dead).cells)) (λX=> .agg (Q03.cells X)) (λX=>[])
theorem Z3i:Q05 Tryz.prog Z9j:=Q0x Q0j Q0h (.cons Qqd (.nil)) Tryz.func241 Tryz.call241 (λargs rows=>Qbq (Q03.of (args.getD 0 .dead).cells)) [] [] 2 (λ_ _ _=>by kernel_rfl) (λ_ _=>rfl) (λ_ _=>Tree.free_ok (by kernel_rfl)) (λ_ X=>by kernel_rfl)
def Qd1(c:Q03)(r:Int)(v:Int):Tree Q03:=
.br (decide (r>0)) (.br (decide (r<16)) (.cn (Nat.blt 0 1&&decide (0<=r/\r<(↑16:Int))) (.lf ({X:=A16.of 0 (List.set (A16.l c.X) r.toNat v),Pc:=c.Pc,B7:=c.B7}))) (.lf c)) (.lf c)
def Q1u(c:Q03)(r:Int)(v:Int):Q03:=(Qd1 c r v).m
abbrev Q2o(c:Q03)(r:Int)(v:Int):Prop:=(Qd1 c r v).p
def Zks:Q0b:=mkP 141 [] true [.agg Q03.sig, .one (.int .i64), .one (.int .u32)] [] (λargs rows=>Q2o (Q03.of (args.getD 0 .dead).cells) (argI args 1) (argI args 2)) (λargs rows=>Q1u (Q03.of (args.getD 0 .dead).cells) (argI args 1) (argI args 2)) (λX=> .agg (Q03.cells X)) (λX=>[])
theorem Qdo:Q05 Tryz.prog Zks:=Q0k Q0j Q0h (.nil) Tryz.func141 Tryz.call141 (λargs rows=>Qd1 (Q03.of (args.getD 0 .dead).cells) (argI args 1) (argI args 2)) [] [] 2 (λ_ _ _=>by kernel_rfl) (λ_ _=>rfl) (λ_ _ h=>h) (λ_ X=>by kernel_rfl)
def Qbb(c:Q03)(csr:Int)(v:Int):Tree Q03:=
let E4:=Nat.blt 0 1&&decide (0<=csr/\csr<(↑8:Int));let T2:Tree (Q03):= .cn E4 (.lf ({X:=c.X,Pc:=c.Pc,B7:=A8.of 0 (List.set (A8.l c.B7) csr.toNat (iand u32 v 31))})); .br (csr==0) T2 (.br (csr==7) T2 (.br (csr==6) (.cn E4 (.lf ({X:=c.X,Pc:=c.Pc,B7:=A8.of 0 (List.set (A8.l c.B7) csr.toNat (iand u32 v 255))}))) (let T3:Tree (Q03):= .cn E4 (.lf ({X:=c.X,Pc:=c.Pc,B7:=A8.of 0 (List.set (A8.l c.B7) csr.toNat (Qg5 u32 v 3))})); .br (csr==1) T3 (.br (csr==2) T3 (let T1:Tree (Q03):= .cn E4 (.lf ({X:=c.X,Pc:=c.Pc,B7:=A8.of 0 (List.set (A8.l c.B7) csr.toNat v)})); .br (csr==3) T1 (.br (csr==4) T1 (.br (csr==5) T1 (.lf c))))))))
def Qgu(c:Q03)(csr:Int)(v:Int):Q03:=(Qbb c csr v).m
abbrev Qq(c:Q03)(csr:Int)(v:Int):Prop:=(Qbb c csr v).p
def Zbo:Q0b:=mkP 242 [] true [.agg Q03.sig, .one (.int .i64), .one (.int .u32)] [] (λargs rows=>Qq (Q03.of (args.getD 0 .dead).cells) (argI args 1) (argI args 2)) (λargs rows=>Qgu (Q03.of (args.getD 0 .dead).cells) (argI args 1) (argI args 2)) (λX=> .agg (Q03.cells X)) (λX=>[])
theorem Za2:Q05 Tryz.prog Zbo:=Q0k Q0j Q0h (.nil) Tryz.func242 Tryz.call242 (λargs rows=>Qbb (Q03.of (args.getD 0 .dead).cells) (argI args 1) (argI args 2)) [] [] 2 (λ_ _ _=>by kernel_rfl) (λ_ _=>rfl) (λ_ _ h=>h) (λ_ X=>by kernel_rfl)
def Q7l(c:Q03)(i:Q0i):Tree (Q03×Q1):=
.br (i.Op==56) (.lv (Q2k c 7 0) λ(x0:Q03)=> .lf (x0,{B5:=0,D3:=0,F3:=0,Value:=0})) (.br (i.Op==57) (.lv (Qgx c) λ(x1:Q03)=> .lf (x1,{B5:=0,D3:=0,F3:=0,Value:=0})) (.br (i.Op==58) (.cn (Nat.blt 0 1&&decide (0<=i.Imm/\i.Imm<(↑8:Int))) (let E3:=List.getD (A8.l c.B7) i.Imm.toNat 0; .an (Q2o c i.A E3) (.lv (Q1u c i.A E3) λ(x2:Q03)=> .lf ({X:=x2.X,Pc:=wrap u32 (x2.Pc+4),B7:=x2.B7},{B5:=0,D3:=0,F3:=0,Value:=0})))) (let E2:=Nat.blt 0 1&&decide (0<=i.A/\i.A<(↑16:Int)); .br (i.Op==59) (.cn E2 (let E4:=List.getD (A16.l c.X) i.A.toNat 0; .an (Qq c (wrap i64 i.Imm) E4) (.lv (Qgu c (wrap i64 i.Imm) E4) λ(x3:Q03)=> .lf ({X:=x3.X,Pc:=wrap u32 (x3.Pc+4),B7:=x3.B7},{B5:=0,D3:=0,F3:=0,Value:=0})))) (let E1:=({X:=c.X,Pc:=wrap u32 (c.Pc+4),B7:=c.B7}:Q03); .br (i.Op==60) (.lf (E1,{B5:=1,D3:=wrap i64 i.Imm,F3:=i.A,Value:=0})) (.br (i.Op==61) (.cn E2 (.lf (E1,{B5:=2,D3:=wrap i64 i.Imm,F3:=0,Value:=List.getD (A16.l c.X) i.A.toNat 0}))) (.br (i.Op==62) (.lf (E1,{B5:=3,D3:=0,F3:=0,Value:=0})) (.br (i.Op==63) (.lf (E1,{B5:=5,D3:=0,F3:=0,Value:=0})) (.br (i.Op==64) (.lf (E1,{B5:=4,D3:=0,F3:=0,Value:=0})) (.lf (E1,{B5:=0,D3:=0,F3:=0,Value:=0}))))))))))
def Qih(c:Q03)(i:Q0i):(Q03×Q1):=(Q7l c i).m
abbrev Qnb(c:Q03)(i:Q0i):Prop:=(Q7l c i).p
def Z8c:Q0b:=mkP 192 [] true [.agg Q03.sig, .agg Q0i.sig] [] (λargs rows=>Qnb (Q03.of (args.getD 0 .dead).cells) (Q0i.of (args.getD 1 .dead).cells)) (λargs rows=>Qih (Q03.of (args.getD 0 .dead).cells) (Q0i.of (args.getD 1 .dead).cells)) (λX=> .tup [.agg (Q03.cells (X.1)), .agg (Q1.cells (X.2))]) (λX=>[])
theorem Z3a:Q05 Tryz.prog Z8c:=Q0k Q0j Q0h (.cons Qiq (.cons Z3i (.cons Qdo (.cons Za2 (.nil))))) Tryz.func192 Tryz.call192 (λargs rows=>Q7l (Q03.of (args.getD 0 .dead).cells) (Q0i.of (args.getD 1 .dead).cells)) [] [] 2 (λ_ _ _=>by kernel_rfl) (λ_ _=>rfl) (λ_ _ h=>h) (λ_ X=>by kernel_rfl)
def Qvx(op:Int)(a:Int)(b:Int):Tree Bool:=
.br (op==40) (.lf (a==b)) (.br (op==41) (.lf (a !=b)) (.br (op==42) (.lf (decide (wrap i32 a<wrap i32 b))) (.br (op==43) (.lf (decide (wrap i32 a>=wrap i32 b))) (.br (op==44) (.lf (decide (a<b))) (.lf (decide (a>=b)))))))
def Q24(op:Int)(a:Int)(b:Int):Bool:=(Qvx op a b).m
def Zas:Q0b:=mkR 243 [] true [.one (.int .i64), .one (.int .u32), .one (.int .u32)] [] (λargs rows=>Q24 (argI args 0) (argI args 1) (argI args 2)) (λX=> .bool X) (λX=>[])
theorem Z8u:Q05 Tryz.prog Zas:=Q0x Q0j Q0h (.nil) Tryz.func243 Tryz.call243 (λargs rows=>Qvx (argI args 0) (argI args 1) (argI args 2)) [] [] 2 (λ_ _ _=>by kernel_rfl) (λ_ _=>rfl) (λ_ _=>Tree.free_ok (by kernel_rfl)) (λ_ X=>by kernel_rfl)
def Qic(c:Q03)(i:Q0i):Tree Q03:=
.br (i.Op==48) (.an (Q2o c i.A (wrap u32 (c.Pc+4))) (.lv (Q1u c i.A (wrap u32 (c.Pc+4))) λ(x0:Q03)=> .lf ({X:=x0.X,Pc:=wrap u32 (c.Pc+wrap u32 (4*wrap u32 i.Imm)),B7:=x0.B7}))) (let E1:=Nat.blt 0 1&&decide (0<=i.B/\i.B<(↑16:Int)); .br (i.Op==49) (.cn E1 (.an (Q2o c i.A (wrap u32 (c.Pc+4))) (.lv (Q1u c i.A (wrap u32 (c.Pc+4))) λ(x1:Q03)=> .lf ({X:=x1.X,Pc:=wrap u32 (List.getD (A16.l c.X) i.B.toNat 0+wrap u32 i.Imm),B7:=x1.B7})))) (.cn (Nat.blt 0 1&&decide (0<=i.A/\i.A<(↑16:Int))) (.cn E1 (.lv (Q24 i.Op (List.getD (A16.l c.X) i.A.toNat 0) (List.getD (A16.l c.X) i.B.toNat 0)) λ(x2:Bool)=> .br x2 (.lf ({X:=c.X,Pc:=wrap u32 (c.Pc+wrap u32 (4*wrap u32 i.Imm)),B7:=c.B7})) (.lf ({X:=c.X,Pc:=wrap u32 (c.Pc+4),B7:=c.B7}))))))
def Z0a(c:Q03)(i:Q0i):Q03:=(Qic c i).m
abbrev Qst(c:Q03)(i:Q0i):Prop:=(Qic c i).p
def Zh8:Q0b:=mkP 193 [] true [.agg Q03.sig, .agg Q0i.sig] [] (λargs rows=>Qst (Q03.of (args.getD 0 .dead).cells) (Q0i.of (args.getD 1 .dead).cells)) (λargs rows=>Z0a (Q03.of (args.getD 0 .dead).cells) (Q0i.of (args.getD 1 .dead).cells)) (λX=> .agg (Q03.cells X)) (λX=>[])
theorem Zaa:Q05 Tryz.prog Zh8:=Q0k Q0j Q0h (.cons Qdo (.cons Z8u (.nil))) Tryz.func193 Tryz.call193 (λargs rows=>Qic (Q03.of (args.getD 0 .dead).cells) (Q0i.of (args.getD 1 .dead).cells)) [] [] 2 (λ_ _ _=>by kernel_rfl) (λ_ _=>rfl) (λ_ _ h=>h) (λ_ X=>by kernel_rfl)
def Q6s(x:Int)(n:Int):Tree Int:=
.br (decide (n<1)) (.lf 0) (.br (decide (n>=32)) (.lf x) (.cn (decide (0<=wrap u64 n)) (.cn (decide (0<=wrap u64 (wrap i64 (n-1)))) (let E1:=iand u32 x (wrap u32 (ishl u32 1 (wrap u64 n)-1)); .br (ishr u32 E1 (wrap u64 (wrap i64 (n-1)))==1) (.cn (decide (0<=wrap u64 n)) (.lf (ior u32 E1 (ishl u32 4294967295 (wrap u64 n))))) (.lf E1)))))
def Q2t(x:Int)(n:Int):Int:=(Q6s x n).m
abbrev Qax(x:Int)(n:Int):Prop:=(Q6s x n).p
def Qtz:Q0b:=mkP 244 [] true [.one (.int .u32), .one (.int .i64)] [] (λargs rows=>Qax (argI args 0) (argI args 1)) (λargs rows=>Q2t (argI args 0) (argI args 1)) (λX=> .int .u32 X) (λX=>[])
theorem Qry:Q05 Tryz.prog Qtz:=Q0k Q0j Q0h (.nil) Tryz.func244 Tryz.call244 (λargs rows=>Q6s (argI args 0) (argI args 1)) [] [] 2 (λ_ _ _=>by kernel_rfl) (λ_ _=>rfl) (λ_ _ h=>h) (λ_ X=>by kernel_rfl)
def Q8v(c:Q03)(m:(List Int))(i:Q0i):Tree (Q03×(List Int)):=
.cn (Nat.blt 0 1&&decide (0<=i.B/\i.B<(↑16:Int))) (let E4:=wrap u32 (List.getD (A16.l c.X) i.B.toNat 0+wrap u32 i.Imm);let E5:=List.getD (A16.l c.X) i.A.toNat 0;let E6:=Nat.blt 0 1&&decide (0<=i.A/\i.A<(↑16:Int));let E7:=({X:=c.X,Pc:=wrap u32 (c.Pc+4),B7:=c.B7}:Q03);let T1:Tree ((Q03×(List Int))):=let T3:Tree ((Q03×(List Int))):= .an (Q87 c m E4 4 3) (.lv (Q10 c m E4 4 3) λ(x0:Int×Int×List Int)=> .br (x0.2.1 !=0) (.lv (Q2k c x0.2.1 E4) λ(x1:Q03)=> .lf (x1,x0.2.2)) (.cn E6 (.an (Qei x0.2.2 x0.1 4 E5) (.lv (Q9m x0.2.2 x0.1 4 E5) λ(x2:List Int)=> .lf (E7,x2))))); .br (i.Op==35) T3 (.br (i.Op==36) T3 (.an (Q87 c m E4 4 2) (.lv (Q10 c m E4 4 2) λ(x6:Int×Int×List Int)=> .br (x6.2.1 !=0) (.lv (Q2k c x6.2.1 E4) λ(x7:Q03)=> .lf (x7,x6.2.2)) (.an (Qbv x6.2.2 x6.1 4) (.lv (Q14 x6.2.2 x6.1 4) λ(x8:Int×Bool)=> .br (i.Op==33) (.an (Qax x8.1 8) (.lv (Q2t x8.1 8) λ(x9:Int)=> .an (Q2o c i.A x9) (.lv (Q1u c i.A x9) λ(x10:Q03)=> .lf ({X:=x10.X,Pc:=wrap u32 (x10.Pc+4),B7:=x10.B7},x6.2.2)))) (.an (Q2o c i.A x8.1) (.lv (Q1u c i.A x8.1) λ(x11:Q03)=> .lf ({X:=x11.X,Pc:=wrap u32 (x11.Pc+4),B7:=x11.B7},x6.2.2)))))))); .br (i.Op==32) T1 (.br (i.Op==35) T1 (let T2:Tree ((Q03×(List Int))):= .an (Q87 c m E4 1 3) (.lv (Q10 c m E4 1 3) λ(x24:Int×Int×List Int)=> .br (x24.2.1 !=0) (.lv (Q2k c x24.2.1 E4) λ(x25:Q03)=> .lf (x25,x24.2.2)) (.cn E6 (.an (Qei x24.2.2 x24.1 1 E5) (.lv (Q9m x24.2.2 x24.1 1 E5) λ(x26:List Int)=> .lf (E7,x26))))); .br (i.Op==35) T2 (.br (i.Op==36) T2 (.an (Q87 c m E4 1 2) (.lv (Q10 c m E4 1 2) λ(x30:Int×Int×List Int)=> .br (x30.2.1 !=0) (.lv (Q2k c x30.2.1 E4) λ(x31:Q03)=> .lf (x31,x30.2.2)) (.an (Qbv x30.2.2 x30.1 1) (.lv (Q14 x30.2.2 x30.1 1) λ(x32:Int×Bool)=> .br (i.Op==33) (.an (Qax x32.1 8) (.lv (Q2t x32.1 8) λ(x33:Int)=> .an (Q2o c i.A x33) (.lv (Q1u c i.A x33) λ(x34:Q03)=> .lf ({X:=x34.X,Pc:=wrap u32 (x34.Pc+4),B7:=x34.B7},x30.2.2)))) (.an (Q2o c i.A x32.1) (.lv (Q1u c i.A x32.1) λ(x35:Q03)=> .lf ({X:=x35.X,Pc:=wrap u32 (x35.Pc+4),B7:=x35.B7},x30.2.2)))))))))))
def Q4q(c:Q03)(m:(List Int))(i:Q0i):(Q03×(List Int)):=(Q8v c m i).m
abbrev Qkf(c:Q03)(m:(List Int))(i:Q0i):Prop:=(Q8v c m i).p
def Z1p:Q0b:=mkP 194 [false,true,false] true [.agg Q03.sig, .one (.row 0), .agg Q0i.sig] [.arr 23 1 (.ints .u32)] (λargs rows=>Qkf (Q03.of (args.getD 0 .dead).cells) (rowL .u32 rows 0) (Q0i.of (args.getD 2 .dead).cells)) (λargs rows=>Q4q (Q03.of (args.getD 0 .dead).cells) (rowL .u32 rows 0) (Q0i.of (args.getD 2 .dead).cells)) (λX=> .agg (Q03.cells (X.1))) (λX=>[⟨false,23,1, .ints .u32 (X.2)⟩])
theorem Qx1:Q05 Tryz.prog Z1p:=Q0k Q0j Q0h (.cons Qs3 (.cons Qiq (.cons Qzq (.cons Qne (.cons Qry (.cons Qdo (.nil))))))) Tryz.func194 Tryz.call194 (λargs rows=>Q8v (Q03.of (args.getD 0 .dead).cells) (rowL .u32 rows 0) (Q0i.of (args.getD 2 .dead).cells)) [] [] 2 (λ_ _ _=>by kernel_rfl) (λ_ _=>rfl) (λ_ _ h=>h) (λ_ X=>by kernel_rfl)
def Qwc(op:Int):Tree Int:=
.br (op==16) (.lf 1) (.br (op==17) (.lf 3) (.br (op==18) (.lf 4) (.br (op==19) (.lf 5) (.br (op==20) (.lf 6) (.br (op==21) (.lf 7) (.br (op==22) (.lf 8) (.br (op==23) (.lf 12) (.lf op))))))))
def Z4v(op:Int):Int:=(Qwc op).m
def Zdu:Q0b:=mkR 245 [] true [.one (.int .i64)] [] (λargs rows=>Z4v (argI args 0)) (λX=> .int .i64 X) (λX=>[])
theorem Za3:Q05 Tryz.prog Zdu:=Q0x Q0j Q0h (.nil) Tryz.func245 Tryz.call245 (λargs rows=>Qwc (argI args 0)) [] [] 2 (λ_ _ _=>by kernel_rfl) (λ_ _=>rfl) (λ_ _=>Tree.free_ok (by kernel_rfl)) (λ_ X=>by kernel_rfl)
def Q9w(a:Int)(b:Int):Tree (Int×Int):=
.br (b==0) (.lf (4294967295,a)) (.cn (decide (wrap i64 (wrap i32 b)≠0)) (.cn (decide (wrap i64 (wrap i32 b)≠0)) (.lf (wrap u32 (wrap i64 (Int.tdiv (wrap i64 (wrap i32 a)) (wrap i64 (wrap i32 b)))),wrap u32 (Int.tmod (wrap i64 (wrap i32 a)) (wrap i64 (wrap i32 b)))))))
def Qau(a:Int)(b:Int):(Int×Int):=(Q9w a b).m
abbrev Qi8(a:Int)(b:Int):Prop:=(Q9w a b).p
def Z97:Q0b:=mkP 246 [] true [.one (.int .u32), .one (.int .u32)] [] (λargs rows=>Qi8 (argI args 0) (argI args 1)) (λargs rows=>Qau (argI args 0) (argI args 1)) (λX=> .tup [.int .u32 (X.1), .int .u32 (X.2)]) (λX=>[])
theorem Z4a:Q05 Tryz.prog Z97:=Q0k Q0j Q0h (.nil) Tryz.func246 Tryz.call246 (λargs rows=>Q9w (argI args 0) (argI args 1)) [] [] 2 (λ_ _ _=>by kernel_rfl) (λ_ _=>rfl) (λ_ _ h=>h) (λ_ X=>by kernel_rfl)
def Qk9(op:Int)(a:Int)(b:Int):Tree (Int×Bool):=
.lv (Z4v op) λ(x0:Int)=> .br (x0==1) (.lf (wrap u32 (a+b),true)) (.br (x0==2) (.lf (wrap u32 (a-b),true)) (.br (x0==3) (.lf (iand u32 a b,true)) (.br (x0==4) (.lf (ior u32 a b,true)) (.br (x0==5) (.lf (ixor u32 a b,true)) (.br (x0==6) (.lf (ishl u32 a (iand u32 b 31),true)) (.br (x0==7) (.lf (ishr u32 a (iand u32 b 31),true)) (.br (x0==8) (.lf (wrap u32 (ishr i32 (wrap i32 a) (iand u32 b 31)),true)) (.br (x0==9) (.lf (wrap u32 (a*b),true)) (.br (x0==10) (.an (Qi8 a b) (.lv (Qau a b) λ(x1:Int×Int)=> .lf (x1.1,true))) (.br (x0==11) (.an (Qi8 a b) (.lv (Qau a b) λ(x2:Int×Int)=> .lf (x2.2,true))) (.br (x0==12) (.lv (Qan (decide (wrap i32 a<wrap i32 b))) λ(x3:Int)=> .lf (x3,true)) (.br (x0==13) (.lv (Qan (decide (a<b))) λ(x4:Int)=> .lf (x4,true)) (.lf (0,false))))))))))))))
def Qca(op:Int)(a:Int)(b:Int):(Int×Bool):=(Qk9 op a b).m
abbrev Qn3(op:Int)(a:Int)(b:Int):Prop:=(Qk9 op a b).p
def Zl3:Q0b:=mkP 195 [] true [.one (.int .i64), .one (.int .u32), .one (.int .u32)] [] (λargs rows=>Qn3 (argI args 0) (argI args 1) (argI args 2)) (λargs rows=>Qca (argI args 0) (argI args 1) (argI args 2)) (λX=> .tup [.int .u32 (X.1), .bool (X.2)]) (λX=>[])
theorem Zf6:Q05 Tryz.prog Zl3:=Q0k Q0j Q0h (.cons Za3 (.cons Z4a (.cons Qqd (.nil)))) Tryz.func195 Tryz.call195 (λargs rows=>Qk9 (argI args 0) (argI args 1) (argI args 2)) [] [] 2 (λ_ _ _=>by kernel_rfl) (λ_ _=>rfl) (λ_ _ h=>h) (λ_ X=>by kernel_rfl)
def Qnn(c:Q03)(m:(List Int)):Tree (Q03×Q1×(List Int)):=
.an (Q87 c m c.Pc 4 1) (.lv (Q10 c m c.Pc 4 1) λ(x0:Int×Int×List Int)=> .br (x0.2.1 !=0) (.lv (Q2k c x0.2.1 c.Pc) λ(x1:Q03)=> .lf (x1,{B5:=0,D3:=0,F3:=0,Value:=0},x0.2.2)) (.an (Qbv x0.2.2 x0.1 4) (.lv (Q14 x0.2.2 x0.1 4) λ(x2:Int×Bool)=> .lv (Q1w x2.1) λ(x3:Q0i×Bool)=> .br (!x3.2) (.lv (Q2k c 1 x2.1) λ(x4:Q03)=> .lf (x4,{B5:=0,D3:=0,F3:=0,Value:=0},x0.2.2)) (.lv (Q2y x3.1.Op) λ(x5:Bool)=>let T1:Tree ((Q03×Q1×(List Int))):= .br (decide (x3.1.Op>=56)) (.an (Qnb c x3.1) (.lv (Qih c x3.1) λ(x7:Q03×Q1)=> .lf (x7.1,x7.2,x0.2.2))) (.br (decide (x3.1.Op>=40)) (.an (Qst c x3.1) (.lv (Z0a c x3.1) λ(x8:Q03)=> .lf (x8,{B5:=0,D3:=0,F3:=0,Value:=0},x0.2.2))) (.br (decide (x3.1.Op>=32)) (.an (Qkf c x0.2.2 x3.1) (.lv (Q4q c x0.2.2 x3.1) λ(x9:Q03×List Int)=> .lf (x9.1,{B5:=0,D3:=0,F3:=0,Value:=0},x9.2))) (.br (x3.1.Op==24) (.an (Q2o c x3.1.A (ishl u32 (wrap u32 x3.1.Imm) 16)) (.lv (Q1u c x3.1.A (ishl u32 (wrap u32 x3.1.Imm) 16)) λ(x10:Q03)=> .lf ({X:=x10.X,Pc:=wrap u32 (x10.Pc+4),B7:=x10.B7},{B5:=0,D3:=0,F3:=0,Value:=0},x0.2.2))) (let E2:=List.getD (A16.l c.X) x3.1.B.toNat 0;let E3:=Nat.blt 0 1&&decide (0<=x3.1.B/\x3.1.B<(↑16:Int)); .br (decide (x3.1.Op<=13)) (.cn (Nat.blt 0 1&&decide (0<=x3.1.C/\x3.1.C<(↑16:Int))) (.cn E3 (let E4:=List.getD (A16.l c.X) x3.1.C.toNat 0; .an (Qn3 x3.1.Op E2 E4) (.lv (Qca x3.1.Op E2 E4) λ(x11:Int×Bool)=> .an (Q2o c x3.1.A x11.1) (.lv (Q1u c x3.1.A x11.1) λ(x12:Q03)=> .lf ({X:=x12.X,Pc:=wrap u32 (x12.Pc+4),B7:=x12.B7},{B5:=0,D3:=0,F3:=0,Value:=0},x0.2.2)))))) (.cn E3 (.an (Qn3 x3.1.Op E2 (wrap u32 x3.1.Imm)) (.lv (Qca x3.1.Op E2 (wrap u32 x3.1.Imm)) λ(x13:Int×Bool)=> .an (Q2o c x3.1.A x13.1) (.lv (Q1u c x3.1.A x13.1) λ(x14:Q03)=> .lf ({X:=x14.X,Pc:=wrap u32 (x14.Pc+4),B7:=x14.B7},{B5:=0,D3:=0,F3:=0,Value:=0},x0.2.2))))))))); .br x5 (.br (iand u32 c.B7.a0 (1:Int)==(0:Int)) (.lv (Q2k c 2 x2.1) λ(x6:Q03)=> .lf (x6,{B5:=0,D3:=0,F3:=0,Value:=0},x0.2.2)) T1) T1))))
def Q6f(c:Q03)(m:(List Int)):(Q03×Q1×(List Int)):=(Qnn c m).m
abbrev Qr2(c:Q03)(m:(List Int)):Prop:=(Qnn c m).p
def qC:Q0b:=mkP 139 [false,true] true [.agg Q03.sig, .one (.row 0)] [.arr 23 1 (.ints .u32)] (λargs rows=>Qr2 (Q03.of (args.getD 0 .dead).cells) (rowL .u32 rows 0)) (λargs rows=>Q6f (Q03.of (args.getD 0 .dead).cells) (rowL .u32 rows 0)) (λX=> .tup [.agg (Q03.cells (X.1)), .agg (Q1.cells (X.2.1))]) (λX=>[⟨false,23,1, .ints .u32 (X.2.2)⟩])
theorem Z4q:Q05 Tryz.prog qC:=Q0k Q0j Q0h (.cons Qs3 (.cons Qiq (.cons Qne (.cons Qpx (.cons Qrt (.cons Z3a (.cons Zaa (.cons Qx1 (.cons Qdo (.cons Zf6 (.nil))))))))))) Tryz.func139 Tryz.call139 (λargs rows=>Qnn (Q03.of (args.getD 0 .dead).cells) (rowL .u32 rows 0)) [] [] 2 (λ_ _ _=>by kernel_rfl) (λ_ _=>rfl) (λ_ _ h=>h) (λ_ X=>by kernel_rfl)
end
end Go.Proofs.YtjaifpiopmhmlaaGreat

/-
  Functions of the program: models, and that its calls come to them (by a program: gen3.py).
-/
import Derived.Test.YtpcbkbalabgnlaaGreatRecordPiecesBase
import Derived.Test.YtpcbkbalabgnlaaGreatRecordPiecesZa
import Derived.Test.YtpcbkbalabgnlaaGreatRecordPiecesYe
set_option linter.unusedVariables false
set_option linter.unusedSimpArgs false
namespace Go.Proofs.YtpcbkbalabgnlaaGreat
open Go Go.GD Go.IntKind
set_option maxRecDepth 100000
noncomputable section
def Z5u(b:Bool):Tree Int:=
.br b (.lf 1) (.lf 0)
def Qby(b:Bool):Int:=(Z5u b).m
def Zlw:Q0c:=mkR 198 [] true [.one (.bool)] [] (λargs rows=>Qby (argB args 0)) (λX=> .int .u32 X) (λX=>[])
theorem Qr1:Q05 Tryz.prog Zlw:=Q0x Q0i Q0j (.nil) Tryz.func198 Tryz.call198 (λargs rows=>Z5u (argB args 0)) [] [] 2 (λ_ _ _=>by kernel_rfl) (λ_ _=>rfl) (λ_ _=>Tree.free_ok (by kernel_rfl)) (λ_ X=>by kernel_rfl)
def Qig(c:Q02)(cause:Int)(bad:Int):Tree Q02:=
.lv (Qby (iand u32 c.B5.a0 (1:Int) !=(0:Int))) λ(x0:Int)=> .lv (Qby (iand u32 c.B5.a0 (2:Int) !=(0:Int))) λ(x1:Int)=> .lf ({X:=c.X,Pc:=c.B5.a1,B5:={a0:=ior u32 (Qgn u32 (ior u32 (ior u32 (Qgn u32 c.B5.a0 24) (wrap u32 (8*x0))) (wrap u32 (16*x1))) 2) 1,a1:=c.B5.a1,a2:=c.Pc,a3:=wrap u32 cause,a4:=bad,a5:=c.B5.a5,a6:=c.B5.a6,a7:=c.B5.a7}})
def Q30(c:Q02)(cause:Int)(bad:Int):Q02:=(Qig c cause bad).m
def Zgc:Q0c:=mkR 146 [] true [.agg Q02.sig, .one (.int .i64), .one (.int .u32)] [] (λargs rows=>Q30 (Q02.of (args.getD 0 .dead).cells) (argI args 1) (argI args 2)) (λX=> .agg (Q02.cells X)) (λX=>[])
theorem Qjc:Q05 Tryz.prog Zgc:=Q0x Q0i Q0j (.cons Qr1 (.nil)) Tryz.func146 Tryz.call146 (λargs rows=>Qig (Q02.of (args.getD 0 .dead).cells) (argI args 1) (argI args 2)) [] [] 2 (λ_ _ _=>by kernel_rfl) (λ_ _=>rfl) (λ_ _=>Tree.free_ok (by kernel_rfl)) (λ_ X=>by kernel_rfl)
def Q8l(m:(List Int))(addr:Int)(size:Int):Tree Bool:=
let T1:Tree (Bool):= .cn (decide (wrap u32 size≠0)) (.br (Int.tmod addr (wrap u32 size)==0) (.lv (Q48 m) λ(x0:Int)=> .lf (decide (addr<wrap u32 (wrap i64 (128*x0))))) (.lf false)); .br (size !=1) (.br (size !=4) (.lf false) T1) T1
def Q23(m:(List Int))(addr:Int)(size:Int):Bool:=(Q8l m addr size).m
abbrev Qdt(m:(List Int))(addr:Int)(size:Int):Prop:=(Q8l m addr size).p
def Z7h:Q0c:=mkP 170 [] true [.one (.ints .u32), .one (.int .u32), .one (.int .i64)] [] (λargs rows=>Qdt (argL .u32 args 0) (argI args 1) (argI args 2)) (λargs rows=>Q23 (argL .u32 args 0) (argI args 1) (argI args 2)) (λX=> .bool X) (λX=>[])
theorem Qjv:Q05 Tryz.prog Z7h:=Q0k Q0i Q0j (.cons Qd8 (.nil)) Tryz.func170 Tryz.call170 (λargs rows=>Q8l (argL .u32 args 0) (argI args 1) (argI args 2)) [] [] 2 (λ_ _ _=>by kernel_rfl) (λ_ _=>rfl) (λ_ _ h=>h) (λ_ X=>by kernel_rfl)
def Q49(m:(List Int))(addr:Int)(size:Int):Tree (Int×Bool):=
.an (Qdt m addr size) (.lv (Q23 m addr size) λ(x0:Bool)=> .br (!x0) (.lf (0,false)) (.cn (Nat.beq 1 1&&Nat.blt 0 1&&decide (0≤wrap u32 (Int.tdiv addr 4)∧wrap u32 (Int.tdiv addr 4)<(m.length:Int))) (.br (size==1) (.cn (decide (0≤wrap u32 (8*Int.tmod addr 4))) (.lf (iand u32 (ishr u32 (m.getD (Int.toNat (wrap u32 (Int.tdiv addr 4))) 0) (wrap u32 (8*Int.tmod addr 4))) 255,true))) (.lf (m.getD (Int.toNat (wrap u32 (Int.tdiv addr 4))) 0,true)))))
def Q1b(m:(List Int))(addr:Int)(size:Int):(Int×Bool):=(Q49 m addr size).m
abbrev Qd1(m:(List Int))(addr:Int)(size:Int):Prop:=(Q49 m addr size).p
def Zgx:Q0c:=mkP 116 [] true [.one (.ints .u32), .one (.int .u32), .one (.int .i64)] [] (λargs rows=>Qd1 (argL .u32 args 0) (argI args 1) (argI args 2)) (λargs rows=>Q1b (argL .u32 args 0) (argI args 1) (argI args 2)) (λX=> .tup [.int .u32 (X.1), .bool (X.2)]) (λX=>[])
theorem Qmz:Q05 Tryz.prog Zgx:=Q0k Q0i Q0j (.cons Qjv (.nil)) Tryz.func116 Tryz.call116 (λargs rows=>Q49 (argL .u32 args 0) (argI args 1) (argI args 2)) [] [] 2 (λ_ _ _=>by kernel_rfl) (λ_ _=>rfl) (λ_ _ h=>h) (λ_ X=>by kernel_rfl)
def Q7b(w:Int):Tree (Q0h×Bool):=
.lv (Q2j (wrap i64 (ishr u32 w 24))) λ(x0:Int)=>let E5:=({Op:=0,A:=0,B:=0,C:=0,Imm:=0}:Q0h); .br (x0==0) (.lf (E5,false)) (.br (x0==2) (let E3:=({Op:=wrap i64 (ishr u32 w 24),A:=wrap i64 (iand u32 (ishr u32 w 20) 15),B:=wrap i64 (iand u32 (ishr u32 w 16) 15),C:=wrap i64 (iand u32 w 65535),Imm:=0}:Q0h); .lv (Q80 E3) λ(x1:Bool)=> .br (!x1) (.lf (E5,false)) (.lf (E3,true))) (let T1:Tree ((Q0h×Bool)):=let E2:=({Op:=wrap i64 (ishr u32 w 24),A:=wrap i64 (iand u32 (ishr u32 w 20) 15),B:=wrap i64 (iand u32 (ishr u32 w 16) 15),C:=0,Imm:=wrap i32 (wrap i16 (iand u32 w 65535))}:Q0h); .lv (Q80 E2) λ(x2:Bool)=> .br (!x2) (.lf (E5,false)) (.lf (E2,true)); .br (x0==3) T1 (.br (x0==7) T1 (let E4:=({Op:=wrap i64 (ishr u32 w 24),A:=wrap i64 (iand u32 (ishr u32 w 20) 15),B:=wrap i64 (iand u32 (ishr u32 w 16) 15),C:=0,Imm:=wrap i32 (iand u32 w 65535)}:Q0h); .lv (Q80 E4) λ(x4:Bool)=> .br (!x4) (.lf (E5,false)) (.lf (E4,true))))))
def Q1x(w:Int):(Q0h×Bool):=(Q7b w).m
def Z81:Q0c:=mkR 117 [] true [.one (.int .u32)] [] (λargs rows=>Q1x (argI args 0)) (λX=> .tup [.agg (Q0h.cells (X.1)), .bool (X.2)]) (λX=>[])
theorem Qpm:Q05 Tryz.prog Z81:=Q0x Q0i Q0j (.cons Qfs (.cons Qra (.nil))) Tryz.func117 Tryz.call117 (λargs rows=>Q7b (argI args 0)) [] [] 2 (λ_ _ _=>by kernel_rfl) (λ_ _=>rfl) (λ_ _=>Tree.free_ok (by kernel_rfl)) (λ_ X=>by kernel_rfl)
def Qwc(access:Int):Tree Bool:=
.br (decide (access≥1)) (.lf (decide (access≤3))) (.lf false)
def Qe3(access:Int):Bool:=(Qwc access).m
def Zdk:Q0c:=mkR 199 [] true [.one (.int .i64)] [] (λargs rows=>Qe3 (argI args 0)) (λX=> .bool X) (λX=>[])
theorem Qsy:Q05 Tryz.prog Zdk:=Q0x Q0i Q0j (.nil) Tryz.func199 Tryz.call199 (λargs rows=>Qwc (argI args 0)) [] [] 2 (λ_ _ _=>by kernel_rfl) (λ_ _=>rfl) (λ_ _=>Tree.free_ok (by kernel_rfl)) (λ_ X=>by kernel_rfl)
def Qvq(c:Q02):Tree Bool:=
.lf (iand u32 c.B5.a0 (5:Int)==(4:Int))
def Qk9(c:Q02):Bool:=(Qvq c).m
def Ze2:Q0c:=mkR 200 [] true [.agg Q02.sig] [] (λargs rows=>Qk9 (Q02.of (args.getD 0 .dead).cells)) (λX=> .bool X) (λX=>[])
theorem Z7o:Q05 Tryz.prog Ze2:=Q0x Q0i Q0j (.nil) Tryz.func200 Tryz.call200 (λargs rows=>Qvq (Q02.of (args.getD 0 .dead).cells)) [] [] 2 (λ_ _ _=>by kernel_rfl) (λ_ _=>rfl) (λ_ _=>Tree.free_ok (by kernel_rfl)) (λ_ X=>by kernel_rfl)
def Q9b(access:Int):Tree Int:=
.br (access==1) (.lf 4) (.br (access==3) (.lf 6) (.lf 5))
def Q1z(access:Int):Int:=(Q9b access).m
def Z3p:Q0c:=mkR 201 [] true [.one (.int .i64)] [] (λargs rows=>Q1z (argI args 0)) (λX=> .int .i64 X) (λX=>[])
theorem Qnm:Q05 Tryz.prog Z3p:=Q0x Q0i Q0j (.nil) Tryz.func201 Tryz.call201 (λargs rows=>Q9b (argI args 0)) [] [] 2 (λ_ _ _=>by kernel_rfl) (λ_ _=>rfl) (λ_ _=>Tree.free_ok (by kernel_rfl)) (λ_ X=>by kernel_rfl)
def Qa9(m:(List Int))(root:Int)(va:Int)(access:Int):Tree Q19:=
.lv (Q1z access) λ(x0:Int)=> .lv (Q48 m) λ(x1:Int)=> .lv (Qe3 access) λ(x2:Bool)=>let E4:=({Addr:=0,F2:=0,F0:=x0}:Q19); .br (!x2) (.lf (E4)) (.br (decide (va≥4096)) (.lf (E4)) (.br (decide (root≥wrap u32 x1)) (.lf (E4)) (let E6:=wrap u32 (root*128)+wrap u32 (4*wrap u32 (Int.tdiv va 128));let E3:=Int.tdiv (wrap u32 E6) 4; .cn (Nat.beq 1 1&&Nat.blt 0 1&&decide (0≤wrap u32 E3∧wrap u32 E3<(m.length:Int))) (let E5:=m.getD (Int.toNat (wrap u32 E3)) 0; .br (iand u32 E5 (1:Int)==(0:Int)) (.lf (E4)) (let T1:Tree (Q19):= .br (decide (iand u32 (ishr u32 E5 8) 255≥wrap u32 x1)) (.lf (E4)) (.lf ({Addr:=wrap u32 (wrap u32 (iand u32 (ishr u32 E5 8) (255:Int)*(128:Int))+Int.tmod va 128),F2:=wrap u32 E6,F0:=0}));let T2:Tree (Q19):= .br (access==1) (.br (iand u32 E5 (4:Int)==(0:Int)) (.lf (E4)) T1) T1; .br (access==3) (.br (iand u32 E5 (2:Int)==(0:Int)) (.lf (E4)) T2) T2)))))
def Q6t(m:(List Int))(root:Int)(va:Int)(access:Int):Q19:=(Qa9 m root va access).m
abbrev Qrv(m:(List Int))(root:Int)(va:Int)(access:Int):Prop:=(Qa9 m root va access).p
def Zf1:Q0c:=mkP 202 [] true [.one (.ints .u32), .one (.int .u32), .one (.int .u32), .one (.int .i64)] [] (λargs rows=>Qrv (argL .u32 args 0) (argI args 1) (argI args 2) (argI args 3)) (λargs rows=>Q6t (argL .u32 args 0) (argI args 1) (argI args 2) (argI args 3)) (λX=> .agg (Q19.cells X)) (λX=>[])
theorem Zdx:Q05 Tryz.prog Zf1:=Q0k Q0i Q0j (.cons Qnm (.cons Qd8 (.cons Qsy (.nil)))) Tryz.func202 Tryz.call202 (λargs rows=>Qa9 (argL .u32 args 0) (argI args 1) (argI args 2) (argI args 3)) [] [] 2 (λ_ _ _=>by kernel_rfl) (λ_ _=>rfl) (λ_ _ h=>h) (λ_ X=>by kernel_rfl)
def Qea(m:(List Int))(entry:Int)(access:Int):Tree (List Int):=
.an (Qdt m entry 4) (.lv (Q23 m entry 4) λ(x0:Bool)=> .br (!x0) (.lf m) (let E3:=Nat.beq 1 1&&Nat.blt 0 1&&decide (0≤wrap u32 (Int.tdiv entry 4)∧wrap u32 (Int.tdiv entry 4)<(m.length:Int)); .cn E3 (.cn E3 (let E4:=Int.toNat (wrap u32 (Int.tdiv entry 4));let E1:=List.set m E4 (ior u32 (m.getD E4 0) 8); .br (access==3) (let E2:=Nat.beq 1 1&&Nat.blt 0 1&&decide (0≤wrap u32 (Int.tdiv entry 4)∧wrap u32 (Int.tdiv entry 4)<(↑(List.length E1):Int)); .cn E2 (.cn E2 (.lf (List.set E1 E4 (ior u32 (List.getD E1 E4 0) 16))))) (.lf E1)))))
def Qmr(m:(List Int))(entry:Int)(access:Int):(List Int):=(Qea m entry access).m
abbrev Qsg(m:(List Int))(entry:Int)(access:Int):Prop:=(Qea m entry access).p
def Zfi:Q0c:=mkP 203 [true,false,false] true [.one (.row 0), .one (.int .u32), .one (.int .i64)] [.arr 23 1 (.ints .u32)] (λargs rows=>Qsg (rowL .u32 rows 0) (argI args 1) (argI args 2)) (λargs rows=>Qmr (rowL .u32 rows 0) (argI args 1) (argI args 2)) (λX=> .tup []) (λX=>[⟨false,23,1, .ints .u32 X⟩])
theorem Zck:Q05 Tryz.prog Zfi:=Q0k Q0i Q0j (.cons Qjv (.nil)) Tryz.func203 Tryz.call203 (λargs rows=>Qea (rowL .u32 rows 0) (argI args 1) (argI args 2)) [] [] 2 (λ_ _ _=>by kernel_rfl) (λ_ _=>rfl) (λ_ _ h=>h) (λ_ X=>by kernel_rfl)
def Q8b(c:Q02)(m:(List Int))(va:Int)(size:Int)(access:Int):Tree (Int×Int×(List Int)):=
.lv (Qe3 access) λ(x0:Bool)=> .br (!x0) (.lf (0,5,m)) (let T1:Tree ((Int×Int×(List Int))):= .cn (decide (wrap u32 size≠0)) (.br (Int.tmod va (wrap u32 size) !=0) (.lf (0,3,m)) (.lv (Qk9 c) λ(x1:Bool)=> .br (!x1) (.an (Qdt m va size) (.lv (Q23 m va size) λ(x2:Bool)=> .br (!x2) (.lv (Q1z access) λ(x3:Int)=> .lf (0,x3,m)) (.lf (va,0,m)))) (.an (Qrv m c.B5.a6 va access) (.lv (Q6t m c.B5.a6 va access) λ(x4:Q19)=> .br (x4.F0 !=0) (.lf (0,x4.F0,m)) (.an (Qsg m x4.F2 access) (.lv (Qmr m x4.F2 access) λ(x5:List Int)=> .lf (x4.Addr,0,x5))))))); .br (size !=1) (.br (size !=4) (.lf (0,5,m)) T1) T1)
def Q12(c:Q02)(m:(List Int))(va:Int)(size:Int)(access:Int):(Int×Int×(List Int)):=(Q8b c m va size access).m
abbrev Q9c(c:Q02)(m:(List Int))(va:Int)(size:Int)(access:Int):Prop:=(Q8b c m va size access).p
def Zay:Q0c:=mkP 147 [false,true,false,false,false] true [.agg Q02.sig, .one (.row 0), .one (.int .u32), .one (.int .i64), .one (.int .i64)] [.arr 23 1 (.ints .u32)] (λargs rows=>Q9c (Q02.of (args.getD 0 .dead).cells) (rowL .u32 rows 0) (argI args 2) (argI args 3) (argI args 4)) (λargs rows=>Q12 (Q02.of (args.getD 0 .dead).cells) (rowL .u32 rows 0) (argI args 2) (argI args 3) (argI args 4)) (λX=> .tup [.int .u32 (X.1), .int .i64 (X.2.1)]) (λX=>[⟨false,23,1, .ints .u32 (X.2.2)⟩])
theorem Qrz:Q05 Tryz.prog Zay:=Q0k Q0i Q0j (.cons Qsy (.cons Z7o (.cons Qjv (.cons Qnm (.cons Zdx (.cons Zck (.nil))))))) Tryz.func147 Tryz.call147 (λargs rows=>Q8b (Q02.of (args.getD 0 .dead).cells) (rowL .u32 rows 0) (argI args 2) (argI args 3) (argI args 4)) [] [] 2 (λ_ _ _=>by kernel_rfl) (λ_ _=>rfl) (λ_ _ h=>h) (λ_ X=>by kernel_rfl)
def Qko(op:Int):Tree Bool:=
.br (decide (op≥57)) (.lf (decide (op≤64))) (.lf false)
def Q3v(op:Int):Bool:=(Qko op).m
def Qv:Q0c:=mkR 148 [] true [.one (.int .i64)] [] (λargs rows=>Q3v (argI args 0)) (λX=> .bool X) (λX=>[])
theorem Qs8:Q05 Tryz.prog Qv:=Q0x Q0i Q0j (.nil) Tryz.func148 Tryz.call148 (λargs rows=>Qko (argI args 0)) [] [] 2 (λ_ _ _=>by kernel_rfl) (λ_ _=>rfl) (λ_ _=>Tree.free_ok (by kernel_rfl)) (λ_ X=>by kernel_rfl)
def Qd7(c:Q02):Tree Q02:=
.lv (Qby (iand u32 c.B5.a0 (8:Int) !=(0:Int))) λ(x0:Int)=> .lv (Qby (iand u32 c.B5.a0 (16:Int) !=(0:Int))) λ(x1:Int)=> .lf ({X:=c.X,Pc:=c.B5.a2,B5:={a0:=ior u32 (ior u32 (Qgn u32 c.B5.a0 3) (wrap u32 (1*x0))) (wrap u32 (2*x1)),a1:=c.B5.a1,a2:=c.B5.a2,a3:=c.B5.a3,a4:=c.B5.a4,a5:=c.B5.a5,a6:=c.B5.a6,a7:=c.B5.a7}})
def Qiw(c:Q02):Q02:=(Qd7 c).m
def Z9j:Q0c:=mkR 204 [] true [.agg Q02.sig] [] (λargs rows=>Qiw (Q02.of (args.getD 0 .dead).cells)) (λX=> .agg (Q02.cells X)) (λX=>[])
theorem Z28:Q05 Tryz.prog Z9j:=Q0x Q0i Q0j (.cons Qr1 (.nil)) Tryz.func204 Tryz.call204 (λargs rows=>Qd7 (Q02.of (args.getD 0 .dead).cells)) [] [] 2 (λ_ _ _=>by kernel_rfl) (λ_ _=>rfl) (λ_ _=>Tree.free_ok (by kernel_rfl)) (λ_ X=>by kernel_rfl)
def Qe8(c:Q02)(r:Int)(v:Int):Tree Q02:=
.br (decide (r>0)) (.br (decide (r<16)) (.cn (Nat.blt 0 1&&decide (0≤r∧r<(↑16:Int))) (.lf ({X:=A16.of 0 (List.set (A16.l c.X) r.toNat v),Pc:=c.Pc,B5:=c.B5}))) (.lf c)) (.lf c)
def Q1r(c:Q02)(r:Int)(v:Int):Q02:=(Qe8 c r v).m
abbrev Q3d(c:Q02)(r:Int)(v:Int):Prop:=(Qe8 c r v).p
def Zks:Q0c:=mkP 105 [] true [.agg Q02.sig, .one (.int .i64), .one (.int .u32)] [] (λargs rows=>Q3d (Q02.of (args.getD 0 .dead).cells) (argI args 1) (argI args 2)) (λargs rows=>Q1r (Q02.of (args.getD 0 .dead).cells) (argI args 1) (argI args 2)) (λX=> .agg (Q02.cells X)) (λX=>[])
theorem Qeu:Q05 Tryz.prog Zks:=Q0k Q0i Q0j (.nil) Tryz.func105 Tryz.call105 (λargs rows=>Qe8 (Q02.of (args.getD 0 .dead).cells) (argI args 1) (argI args 2)) [] [] 2 (λ_ _ _=>by kernel_rfl) (λ_ _=>rfl) (λ_ _ h=>h) (λ_ X=>by kernel_rfl)
def Qcr(c:Q02)(csr:Int)(v:Int):Tree Q02:=
let E4:=Nat.blt 0 1&&decide (0≤csr∧csr<(↑8:Int));let T2:Tree (Q02):= .cn E4 (.lf ({X:=c.X,Pc:=c.Pc,B5:=A8.of 0 (List.set (A8.l c.B5) csr.toNat (iand u32 v 31))})); .br (csr==0) T2 (.br (csr==7) T2 (.br (csr==6) (.cn E4 (.lf ({X:=c.X,Pc:=c.Pc,B5:=A8.of 0 (List.set (A8.l c.B5) csr.toNat (iand u32 v 255))}))) (let T3:Tree (Q02):= .cn E4 (.lf ({X:=c.X,Pc:=c.Pc,B5:=A8.of 0 (List.set (A8.l c.B5) csr.toNat (Qgn u32 v 3))})); .br (csr==1) T3 (.br (csr==2) T3 (let T1:Tree (Q02):= .cn E4 (.lf ({X:=c.X,Pc:=c.Pc,B5:=A8.of 0 (List.set (A8.l c.B5) csr.toNat v)})); .br (csr==3) T1 (.br (csr==4) T1 (.br (csr==5) T1 (.lf c))))))))
def Qh4(c:Q02)(csr:Int)(v:Int):Q02:=(Qcr c csr v).m
abbrev Qpu(c:Q02)(csr:Int)(v:Int):Prop:=(Qcr c csr v).p
def Zd4:Q0c:=mkP 205 [] true [.agg Q02.sig, .one (.int .i64), .one (.int .u32)] [] (λargs rows=>Qpu (Q02.of (args.getD 0 .dead).cells) (argI args 1) (argI args 2)) (λargs rows=>Qh4 (Q02.of (args.getD 0 .dead).cells) (argI args 1) (argI args 2)) (λX=> .agg (Q02.cells X)) (λX=>[])
theorem Z8o:Q05 Tryz.prog Zd4:=Q0k Q0i Q0j (.nil) Tryz.func205 Tryz.call205 (λargs rows=>Qcr (Q02.of (args.getD 0 .dead).cells) (argI args 1) (argI args 2)) [] [] 2 (λ_ _ _=>by kernel_rfl) (λ_ _=>rfl) (λ_ _ h=>h) (λ_ X=>by kernel_rfl)
def Q8h(c:Q02)(i:Q0h):Tree (Q02×Q10):=
.br (i.Op==56) (.lv (Q30 c 7 0) λ(x0:Q02)=> .lf (x0,{B7:=0,D0:=0,D9:=0,Value:=0})) (.br (i.Op==57) (.lv (Qiw c) λ(x1:Q02)=> .lf (x1,{B7:=0,D0:=0,D9:=0,Value:=0})) (.br (i.Op==58) (.cn (Nat.blt 0 1&&decide (0≤i.Imm∧i.Imm<(↑8:Int))) (let E3:=List.getD (A8.l c.B5) i.Imm.toNat 0; .an (Q3d c i.A E3) (.lv (Q1r c i.A E3) λ(x2:Q02)=> .lf ({X:=x2.X,Pc:=wrap u32 (x2.Pc+4),B5:=x2.B5},{B7:=0,D0:=0,D9:=0,Value:=0})))) (let E2:=Nat.blt 0 1&&decide (0≤i.A∧i.A<(↑16:Int)); .br (i.Op==59) (.cn E2 (let E4:=List.getD (A16.l c.X) i.A.toNat 0; .an (Qpu c (wrap i64 i.Imm) E4) (.lv (Qh4 c (wrap i64 i.Imm) E4) λ(x3:Q02)=> .lf ({X:=x3.X,Pc:=wrap u32 (x3.Pc+4),B5:=x3.B5},{B7:=0,D0:=0,D9:=0,Value:=0})))) (let E1:=({X:=c.X,Pc:=wrap u32 (c.Pc+4),B5:=c.B5}:Q02); .br (i.Op==60) (.lf (E1,{B7:=1,D0:=wrap i64 i.Imm,D9:=i.A,Value:=0})) (.br (i.Op==61) (.cn E2 (.lf (E1,{B7:=2,D0:=wrap i64 i.Imm,D9:=0,Value:=List.getD (A16.l c.X) i.A.toNat 0}))) (.br (i.Op==62) (.lf (E1,{B7:=3,D0:=0,D9:=0,Value:=0})) (.br (i.Op==63) (.lf (E1,{B7:=5,D0:=0,D9:=0,Value:=0})) (.br (i.Op==64) (.lf (E1,{B7:=4,D0:=0,D9:=0,Value:=0})) (.lf (E1,{B7:=0,D0:=0,D9:=0,Value:=0}))))))))))
def Qik(c:Q02)(i:Q0h):(Q02×Q10):=(Q8h c i).m
abbrev Qnx(c:Q02)(i:Q0h):Prop:=(Q8h c i).p
def Z74:Q0c:=mkP 149 [] true [.agg Q02.sig, .agg Q0h.sig] [] (λargs rows=>Qnx (Q02.of (args.getD 0 .dead).cells) (Q0h.of (args.getD 1 .dead).cells)) (λargs rows=>Qik (Q02.of (args.getD 0 .dead).cells) (Q0h.of (args.getD 1 .dead).cells)) (λX=> .tup [.agg (Q02.cells (X.1)), .agg (Q10.cells (X.2))]) (λX=>[])
theorem Z34:Q05 Tryz.prog Z74:=Q0k Q0i Q0j (.cons Qjc (.cons Z28 (.cons Qeu (.cons Z8o (.nil))))) Tryz.func149 Tryz.call149 (λargs rows=>Q8h (Q02.of (args.getD 0 .dead).cells) (Q0h.of (args.getD 1 .dead).cells)) [] [] 2 (λ_ _ _=>by kernel_rfl) (λ_ _=>rfl) (λ_ _ h=>h) (λ_ X=>by kernel_rfl)
def Qwk(op:Int)(a:Int)(b:Int):Tree Bool:=
.br (op==40) (.lf (a==b)) (.br (op==41) (.lf (a !=b)) (.br (op==42) (.lf (decide (wrap i32 a<wrap i32 b))) (.br (op==43) (.lf (decide (wrap i32 a≥wrap i32 b))) (.br (op==44) (.lf (decide (a<b))) (.lf (decide (a≥b)))))))
def Q2d(op:Int)(a:Int)(b:Int):Bool:=(Qwk op a b).m
def Zd9:Q0c:=mkR 206 [] true [.one (.int .i64), .one (.int .u32), .one (.int .u32)] [] (λargs rows=>Q2d (argI args 0) (argI args 1) (argI args 2)) (λX=> .bool X) (λX=>[])
theorem Z7l:Q05 Tryz.prog Zd9:=Q0x Q0i Q0j (.nil) Tryz.func206 Tryz.call206 (λargs rows=>Qwk (argI args 0) (argI args 1) (argI args 2)) [] [] 2 (λ_ _ _=>by kernel_rfl) (λ_ _=>rfl) (λ_ _=>Tree.free_ok (by kernel_rfl)) (λ_ X=>by kernel_rfl)
def Qhc(c:Q02)(i:Q0h):Tree Q02:=
.br (i.Op==48) (.an (Q3d c i.A (wrap u32 (c.Pc+4))) (.lv (Q1r c i.A (wrap u32 (c.Pc+4))) λ(x0:Q02)=> .lf ({X:=x0.X,Pc:=wrap u32 (c.Pc+wrap u32 (4*wrap u32 i.Imm)),B5:=x0.B5}))) (let E1:=Nat.blt 0 1&&decide (0≤i.B∧i.B<(↑16:Int)); .br (i.Op==49) (.cn E1 (.an (Q3d c i.A (wrap u32 (c.Pc+4))) (.lv (Q1r c i.A (wrap u32 (c.Pc+4))) λ(x1:Q02)=> .lf ({X:=x1.X,Pc:=wrap u32 (List.getD (A16.l c.X) i.B.toNat 0+wrap u32 i.Imm),B5:=x1.B5})))) (.cn (Nat.blt 0 1&&decide (0≤i.A∧i.A<(↑16:Int))) (.cn E1 (.lv (Q2d i.Op (List.getD (A16.l c.X) i.A.toNat 0) (List.getD (A16.l c.X) i.B.toNat 0)) λ(x2:Bool)=> .br x2 (.lf ({X:=c.X,Pc:=wrap u32 (c.Pc+wrap u32 (4*wrap u32 i.Imm)),B5:=c.B5})) (.lf ({X:=c.X,Pc:=wrap u32 (c.Pc+4),B5:=c.B5}))))))
def Qz0(c:Q02)(i:Q0h):Q02:=(Qhc c i).m
abbrev Qt4(c:Q02)(i:Q0h):Prop:=(Qhc c i).p
def Zfs:Q0c:=mkP 150 [] true [.agg Q02.sig, .agg Q0h.sig] [] (λargs rows=>Qt4 (Q02.of (args.getD 0 .dead).cells) (Q0h.of (args.getD 1 .dead).cells)) (λargs rows=>Qz0 (Q02.of (args.getD 0 .dead).cells) (Q0h.of (args.getD 1 .dead).cells)) (λX=> .agg (Q02.cells X)) (λX=>[])
theorem Zbo:Q05 Tryz.prog Zfs:=Q0k Q0i Q0j (.cons Qeu (.cons Z7l (.nil))) Tryz.func150 Tryz.call150 (λargs rows=>Qhc (Q02.of (args.getD 0 .dead).cells) (Q0h.of (args.getD 1 .dead).cells)) [] [] 2 (λ_ _ _=>by kernel_rfl) (λ_ _=>rfl) (λ_ _ h=>h) (λ_ X=>by kernel_rfl)
def Q86(x:Int)(n:Int):Tree Int:=
.br (decide (n<1)) (.lf 0) (.br (decide (n≥32)) (.lf x) (.cn (decide (0≤wrap u64 n)) (.cn (decide (0≤wrap u64 (wrap i64 (n-1)))) (let E1:=iand u32 x (wrap u32 (ishl u32 1 (wrap u64 n)-1)); .br (ishr u32 E1 (wrap u64 (wrap i64 (n-1)))==1) (.cn (decide (0≤wrap u64 n)) (.lf (ior u32 E1 (ishl u32 4294967295 (wrap u64 n))))) (.lf E1)))))
def Q3p(x:Int)(n:Int):Int:=(Q86 x n).m
abbrev Qc7(x:Int)(n:Int):Prop:=(Q86 x n).p
def Qvo:Q0c:=mkP 208 [] true [.one (.int .u32), .one (.int .i64)] [] (λargs rows=>Qc7 (argI args 0) (argI args 1)) (λargs rows=>Q3p (argI args 0) (argI args 1)) (λX=> .int .u32 X) (λX=>[])
theorem Qt:Q05 Tryz.prog Qvo:=Q0k Q0i Q0j (.nil) Tryz.func208 Tryz.call208 (λargs rows=>Q86 (argI args 0) (argI args 1)) [] [] 2 (λ_ _ _=>by kernel_rfl) (λ_ _=>rfl) (λ_ _ h=>h) (λ_ X=>by kernel_rfl)
def Q9x(c:Q02)(m:(List Int))(i:Q0h):Tree (Q02×(List Int)):=
.cn (Nat.blt 0 1&&decide (0≤i.B∧i.B<(↑16:Int))) (let E4:=wrap u32 (List.getD (A16.l c.X) i.B.toNat 0+wrap u32 i.Imm);let E5:=List.getD (A16.l c.X) i.A.toNat 0;let E6:=Nat.blt 0 1&&decide (0≤i.A∧i.A<(↑16:Int));let E7:=({X:=c.X,Pc:=wrap u32 (c.Pc+4),B5:=c.B5}:Q02);let T1:Tree ((Q02×(List Int))):=let T3:Tree ((Q02×(List Int))):= .an (Q9c c m E4 4 3) (.lv (Q12 c m E4 4 3) λ(x0:Int×Int×List Int)=> .br (x0.2.1 !=0) (.lv (Q30 c x0.2.1 E4) λ(x1:Q02)=> .lf (x1,x0.2.2)) (.cn E6 (.an (Qft x0.2.2 x0.1 4 E5) (.lv (Qag x0.2.2 x0.1 4 E5) λ(x2:List Int)=> .lf (E7,x2))))); .br (i.Op==35) T3 (.br (i.Op==36) T3 (.an (Q9c c m E4 4 2) (.lv (Q12 c m E4 4 2) λ(x6:Int×Int×List Int)=> .br (x6.2.1 !=0) (.lv (Q30 c x6.2.1 E4) λ(x7:Q02)=> .lf (x7,x6.2.2)) (.an (Qd1 x6.2.2 x6.1 4) (.lv (Q1b x6.2.2 x6.1 4) λ(x8:Int×Bool)=> .br (i.Op==33) (.an (Qc7 x8.1 8) (.lv (Q3p x8.1 8) λ(x9:Int)=> .an (Q3d c i.A x9) (.lv (Q1r c i.A x9) λ(x10:Q02)=> .lf ({X:=x10.X,Pc:=wrap u32 (x10.Pc+4),B5:=x10.B5},x6.2.2)))) (.an (Q3d c i.A x8.1) (.lv (Q1r c i.A x8.1) λ(x11:Q02)=> .lf ({X:=x11.X,Pc:=wrap u32 (x11.Pc+4),B5:=x11.B5},x6.2.2)))))))); .br (i.Op==32) T1 (.br (i.Op==35) T1 (let T2:Tree ((Q02×(List Int))):= .an (Q9c c m E4 1 3) (.lv (Q12 c m E4 1 3) λ(x24:Int×Int×List Int)=> .br (x24.2.1 !=0) (.lv (Q30 c x24.2.1 E4) λ(x25:Q02)=> .lf (x25,x24.2.2)) (.cn E6 (.an (Qft x24.2.2 x24.1 1 E5) (.lv (Qag x24.2.2 x24.1 1 E5) λ(x26:List Int)=> .lf (E7,x26))))); .br (i.Op==35) T2 (.br (i.Op==36) T2 (.an (Q9c c m E4 1 2) (.lv (Q12 c m E4 1 2) λ(x30:Int×Int×List Int)=> .br (x30.2.1 !=0) (.lv (Q30 c x30.2.1 E4) λ(x31:Q02)=> .lf (x31,x30.2.2)) (.an (Qd1 x30.2.2 x30.1 1) (.lv (Q1b x30.2.2 x30.1 1) λ(x32:Int×Bool)=> .br (i.Op==33) (.an (Qc7 x32.1 8) (.lv (Q3p x32.1 8) λ(x33:Int)=> .an (Q3d c i.A x33) (.lv (Q1r c i.A x33) λ(x34:Q02)=> .lf ({X:=x34.X,Pc:=wrap u32 (x34.Pc+4),B5:=x34.B5},x30.2.2)))) (.an (Q3d c i.A x32.1) (.lv (Q1r c i.A x32.1) λ(x35:Q02)=> .lf ({X:=x35.X,Pc:=wrap u32 (x35.Pc+4),B5:=x35.B5},x30.2.2)))))))))))
def Q5d(c:Q02)(m:(List Int))(i:Q0h):(Q02×(List Int)):=(Q9x c m i).m
abbrev Qk6(c:Q02)(m:(List Int))(i:Q0h):Prop:=(Q9x c m i).p
def Qyn:Q0c:=mkP 151 [false,true,false] true [.agg Q02.sig, .one (.row 0), .agg Q0h.sig] [.arr 23 1 (.ints .u32)] (λargs rows=>Qk6 (Q02.of (args.getD 0 .dead).cells) (rowL .u32 rows 0) (Q0h.of (args.getD 2 .dead).cells)) (λargs rows=>Q5d (Q02.of (args.getD 0 .dead).cells) (rowL .u32 rows 0) (Q0h.of (args.getD 2 .dead).cells)) (λX=> .agg (Q02.cells (X.1))) (λX=>[⟨false,23,1, .ints .u32 (X.2)⟩])
theorem Qxd:Q05 Tryz.prog Qyn:=Q0k Q0i Q0j (.cons Qrz (.cons Qjc (.cons Qzn (.cons Qmz (.cons Qt (.cons Qeu (.nil))))))) Tryz.func151 Tryz.call151 (λargs rows=>Q9x (Q02.of (args.getD 0 .dead).cells) (rowL .u32 rows 0) (Q0h.of (args.getD 2 .dead).cells)) [] [] 2 (λ_ _ _=>by kernel_rfl) (λ_ _=>rfl) (λ_ _ h=>h) (λ_ X=>by kernel_rfl)
def Qw(op:Int):Tree Int:=
.br (op==16) (.lf 1) (.br (op==17) (.lf 3) (.br (op==18) (.lf 4) (.br (op==19) (.lf 5) (.br (op==20) (.lf 6) (.br (op==21) (.lf 7) (.br (op==22) (.lf 8) (.br (op==23) (.lf 12) (.lf op))))))))
def Z49(op:Int):Int:=(Qw op).m
def Zan:Q0c:=mkR 209 [] true [.one (.int .i64)] [] (λargs rows=>Z49 (argI args 0)) (λX=> .int .i64 X) (λX=>[])
theorem Z7n:Q05 Tryz.prog Zan:=Q0x Q0i Q0j (.nil) Tryz.func209 Tryz.call209 (λargs rows=>Qw (argI args 0)) [] [] 2 (λ_ _ _=>by kernel_rfl) (λ_ _=>rfl) (λ_ _=>Tree.free_ok (by kernel_rfl)) (λ_ X=>by kernel_rfl)
def Qal(a:Int)(b:Int):Tree (Int×Int):=
.br (b==0) (.lf (4294967295,a)) (.cn (decide (wrap i64 (wrap i32 b)≠0)) (.cn (decide (wrap i64 (wrap i32 b)≠0)) (.lf (wrap u32 (wrap i64 (Int.tdiv (wrap i64 (wrap i32 a)) (wrap i64 (wrap i32 b)))),wrap u32 (Int.tmod (wrap i64 (wrap i32 a)) (wrap i64 (wrap i32 b)))))))
def Qc0(a:Int)(b:Int):(Int×Int):=(Qal a b).m
abbrev Qhh(a:Int)(b:Int):Prop:=(Qal a b).p
def Z9e:Q0c:=mkP 210 [] true [.one (.int .u32), .one (.int .u32)] [] (λargs rows=>Qhh (argI args 0) (argI args 1)) (λargs rows=>Qc0 (argI args 0) (argI args 1)) (λX=> .tup [.int .u32 (X.1), .int .u32 (X.2)]) (λX=>[])
theorem Z3c:Q05 Tryz.prog Z9e:=Q0k Q0i Q0j (.nil) Tryz.func210 Tryz.call210 (λargs rows=>Qal (argI args 0) (argI args 1)) [] [] 2 (λ_ _ _=>by kernel_rfl) (λ_ _=>rfl) (λ_ _ h=>h) (λ_ X=>by kernel_rfl)
def Qkp(op:Int)(a:Int)(b:Int):Tree (Int×Bool):=
.lv (Z49 op) λ(x0:Int)=> .br (x0==1) (.lf (wrap u32 (a+b),true)) (.br (x0==2) (.lf (wrap u32 (a-b),true)) (.br (x0==3) (.lf (iand u32 a b,true)) (.br (x0==4) (.lf (ior u32 a b,true)) (.br (x0==5) (.lf (ixor u32 a b,true)) (.br (x0==6) (.lf (ishl u32 a (iand u32 b 31),true)) (.br (x0==7) (.lf (ishr u32 a (iand u32 b 31),true)) (.br (x0==8) (.lf (wrap u32 (ishr i32 (wrap i32 a) (iand u32 b 31)),true)) (.br (x0==9) (.lf (wrap u32 (a*b),true)) (.br (x0==10) (.an (Qhh a b) (.lv (Qc0 a b) λ(x1:Int×Int)=> .lf (x1.1,true))) (.br (x0==11) (.an (Qhh a b) (.lv (Qc0 a b) λ(x2:Int×Int)=> .lf (x2.2,true))) (.br (x0==12) (.lv (Qby (decide (wrap i32 a<wrap i32 b))) λ(x3:Int)=> .lf (x3,true)) (.br (x0==13) (.lv (Qby (decide (a<b))) λ(x4:Int)=> .lf (x4,true)) (.lf (0,false))))))))))))))
def Qdo(op:Int)(a:Int)(b:Int):(Int×Bool):=(Qkp op a b).m
abbrev Qmv(op:Int)(a:Int)(b:Int):Prop:=(Qkp op a b).p
def Zkj:Q0c:=mkP 152 [] true [.one (.int .i64), .one (.int .u32), .one (.int .u32)] [] (λargs rows=>Qmv (argI args 0) (argI args 1) (argI args 2)) (λargs rows=>Qdo (argI args 0) (argI args 1) (argI args 2)) (λX=> .tup [.int .u32 (X.1), .bool (X.2)]) (λX=>[])
theorem Zeg:Q05 Tryz.prog Zkj:=Q0k Q0i Q0j (.cons Z7n (.cons Z3c (.cons Qr1 (.nil)))) Tryz.func152 Tryz.call152 (λargs rows=>Qkp (argI args 0) (argI args 1) (argI args 2)) [] [] 2 (λ_ _ _=>by kernel_rfl) (λ_ _=>rfl) (λ_ _ h=>h) (λ_ X=>by kernel_rfl)
def Qo1(c:Q02)(m:(List Int)):Tree (Q02×Q10×(List Int)):=
.an (Q9c c m c.Pc 4 1) (.lv (Q12 c m c.Pc 4 1) λ(x0:Int×Int×List Int)=> .br (x0.2.1 !=0) (.lv (Q30 c x0.2.1 c.Pc) λ(x1:Q02)=> .lf (x1,{B7:=0,D0:=0,D9:=0,Value:=0},x0.2.2)) (.an (Qd1 x0.2.2 x0.1 4) (.lv (Q1b x0.2.2 x0.1 4) λ(x2:Int×Bool)=> .lv (Q1x x2.1) λ(x3:Q0h×Bool)=> .br (!x3.2) (.lv (Q30 c 1 x2.1) λ(x4:Q02)=> .lf (x4,{B7:=0,D0:=0,D9:=0,Value:=0},x0.2.2)) (.lv (Q3v x3.1.Op) λ(x5:Bool)=>let T1:Tree ((Q02×Q10×(List Int))):= .br (decide (x3.1.Op≥56)) (.an (Qnx c x3.1) (.lv (Qik c x3.1) λ(x7:Q02×Q10)=> .lf (x7.1,x7.2,x0.2.2))) (.br (decide (x3.1.Op≥40)) (.an (Qt4 c x3.1) (.lv (Qz0 c x3.1) λ(x8:Q02)=> .lf (x8,{B7:=0,D0:=0,D9:=0,Value:=0},x0.2.2))) (.br (decide (x3.1.Op≥32)) (.an (Qk6 c x0.2.2 x3.1) (.lv (Q5d c x0.2.2 x3.1) λ(x9:Q02×List Int)=> .lf (x9.1,{B7:=0,D0:=0,D9:=0,Value:=0},x9.2))) (.br (x3.1.Op==24) (.an (Q3d c x3.1.A (ishl u32 (wrap u32 x3.1.Imm) 16)) (.lv (Q1r c x3.1.A (ishl u32 (wrap u32 x3.1.Imm) 16)) λ(x10:Q02)=> .lf ({X:=x10.X,Pc:=wrap u32 (x10.Pc+4),B5:=x10.B5},{B7:=0,D0:=0,D9:=0,Value:=0},x0.2.2))) (let E2:=List.getD (A16.l c.X) x3.1.B.toNat 0;let E3:=Nat.blt 0 1&&decide (0≤x3.1.B∧x3.1.B<(↑16:Int)); .br (decide (x3.1.Op≤13)) (.cn (Nat.blt 0 1&&decide (0≤x3.1.C∧x3.1.C<(↑16:Int))) (.cn E3 (let E4:=List.getD (A16.l c.X) x3.1.C.toNat 0; .an (Qmv x3.1.Op E2 E4) (.lv (Qdo x3.1.Op E2 E4) λ(x11:Int×Bool)=> .an (Q3d c x3.1.A x11.1) (.lv (Q1r c x3.1.A x11.1) λ(x12:Q02)=> .lf ({X:=x12.X,Pc:=wrap u32 (x12.Pc+4),B5:=x12.B5},{B7:=0,D0:=0,D9:=0,Value:=0},x0.2.2)))))) (.cn E3 (.an (Qmv x3.1.Op E2 (wrap u32 x3.1.Imm)) (.lv (Qdo x3.1.Op E2 (wrap u32 x3.1.Imm)) λ(x13:Int×Bool)=> .an (Q3d c x3.1.A x13.1) (.lv (Q1r c x3.1.A x13.1) λ(x14:Q02)=> .lf ({X:=x14.X,Pc:=wrap u32 (x14.Pc+4),B5:=x14.B5},{B7:=0,D0:=0,D9:=0,Value:=0},x0.2.2))))))))); .br x5 (.br (iand u32 c.B5.a0 (1:Int)==(0:Int)) (.lv (Q30 c 2 x2.1) λ(x6:Q02)=> .lf (x6,{B7:=0,D0:=0,D9:=0,Value:=0},x0.2.2)) T1) T1))))
def Q8r(c:Q02)(m:(List Int)):(Q02×Q10×(List Int)):=(Qo1 c m).m
abbrev Qqh(c:Q02)(m:(List Int)):Prop:=(Qo1 c m).p
def ref1_Do_m:Q0c:=mkP 103 [false,true] true [.agg Q02.sig, .one (.row 0)] [.arr 23 1 (.ints .u32)] (λargs rows=>Qqh (Q02.of (args.getD 0 .dead).cells) (rowL .u32 rows 0)) (λargs rows=>Q8r (Q02.of (args.getD 0 .dead).cells) (rowL .u32 rows 0)) (λX=> .tup [.agg (Q02.cells (X.1)), .agg (Q10.cells (X.2.1))]) (λX=>[⟨false,23,1, .ints .u32 (X.2.2)⟩])
theorem Z54:Q05 Tryz.prog ref1_Do_m:=Q0k Q0i Q0j (.cons Qrz (.cons Qjc (.cons Qmz (.cons Qpm (.cons Qs8 (.cons Z34 (.cons Zbo (.cons Qxd (.cons Qeu (.cons Zeg (.nil))))))))))) Tryz.func103 Tryz.call103 (λargs rows=>Qo1 (Q02.of (args.getD 0 .dead).cells) (rowL .u32 rows 0)) [] [] 2 (λ_ _ _=>by kernel_rfl) (λ_ _=>rfl) (λ_ _ h=>h) (λ_ X=>by kernel_rfl)
end
end Go.Proofs.YtpcbkbalabgnlaaGreat

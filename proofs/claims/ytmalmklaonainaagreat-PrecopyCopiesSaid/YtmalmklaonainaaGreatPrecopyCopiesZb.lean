/-
  Functions of the program: models, and that its calls come to them (by a program: gen3.py).
-/
import Derived.Test.YtmalmklaonainaaGreatPrecopyCopiesBase
import Derived.Test.YtmalmklaonainaaGreatPrecopyCopiesZa
import Derived.Test.YtmalmklaonainaaGreatPrecopyCopiesYe
set_option maxRecDepth 100000
set_option linter.unusedVariables false
set_option linter.unusedSimpArgs false
namespace Go.Proofs.YtmalmklaonainaaGreat
open Go Go.GD Go.IntKind
noncomputable section
def Z1g(b:Bool):Tree Int:=
.br b (.lf 1) (.lf 0)
def Qe6(b:Bool):Int:=(Z1g b).m
def Zgc:Q09:=mkR 281 [] true [.one (.bool)] [] (λargs rows=>Qe6 (argB args 0)) (λX=> .int .u32 X) (λX=>[])
theorem Qm4:Q01 Tryz.prog Zgc:=Q0p drawn Q0g (.nil) Tryz.func281 Tryz.call281 (λargs rows=>Z1g (argB args 0)) [] [] 2 (λ_ _ _=>by kernel_rfl) (λ_ _=>rfl) (λ_ _=>Tree.free_ok (by kernel_rfl)) (λ_ X=>by kernel_rfl)
def Qgu(c:Q02)(cause:Int)(bad:Int):Tree Q02:=
.lv (Qe6 (iand u32 c.B5.a0 (1:Int) !=(0:Int))) λ(x0:Int)=> .lv (Qe6 (iand u32 c.B5.a0 (2:Int) !=(0:Int))) λ(x1:Int)=> .lf ({X:=c.X,Pc:=c.B5.a1,B5:={a0:=ior u32 (Ql9 u32 (ior u32 (ior u32 (Ql9 u32 c.B5.a0 24) (wrap u32 (8*x0))) (wrap u32 (16*x1))) 2) 1,a1:=c.B5.a1,a2:=c.Pc,a3:=wrap u32 cause,a4:=bad,a5:=c.B5.a5,a6:=c.B5.a6,a7:=c.B5.a7}})
def Q5l(c:Q02)(cause:Int)(bad:Int):Q02:=(Qgu c cause bad).m
def Zbn:Q09:=mkR 244 [] true [.agg Q02.sig, .one (.int .i64), .one (.int .u32)] [] (λargs rows=>Q5l (Q02.of (args.getD 0 .dead).cells) (argI args 1) (argI args 2)) (λX=> .agg (Q02.cells X)) (λX=>[])
theorem Qe5:Q01 Tryz.prog Zbn:=Q0p drawn Q0g (.cons Qm4 (.nil)) Tryz.func244 Tryz.call244 (λargs rows=>Qgu (Q02.of (args.getD 0 .dead).cells) (argI args 1) (argI args 2)) [] [] 2 (λ_ _ _=>by kernel_rfl) (λ_ _=>rfl) (λ_ _=>Tree.free_ok (by kernel_rfl)) (λ_ X=>by kernel_rfl)
def Q8t(m:(List Int))(addr:Int)(size:Int):Tree Bool:=
let T1:Tree (Bool):= .cn (decide (wrap u32 size≠0)) (.br (Int.tmod addr (wrap u32 size)==0) (.lv (Q6a m) λ(x0:Int)=> .lf (decide (addr<wrap u32 (wrap i64 (128*x0))))) (.lf false)); .br (size !=1) (.br (size !=4) (.lf false) T1) T1
def Qgn(m:(List Int))(addr:Int)(size:Int):Bool:=(Q8t m addr size).m
abbrev Q80(m:(List Int))(addr:Int)(size:Int):Prop:=(Q8t m addr size).p
def Z4z:Q09:=mkP 245 [] true [.one (.ints .u32), .one (.int .u32), .one (.int .i64)] [] (λargs rows=>Q80 (argL .u32 args 0) (argI args 1) (argI args 2)) (λargs rows=>Qgn (argL .u32 args 0) (argI args 1) (argI args 2)) (λX=> .bool X) (λX=>[])
theorem Qew:Q01 Tryz.prog Z4z:=Q0j drawn Q0g (.cons Q8m (.nil)) Tryz.func245 Tryz.call245 (λargs rows=>Q8t (argL .u32 args 0) (argI args 1) (argI args 2)) [] [] 2 (λ_ _ _=>by kernel_rfl) (λ_ _=>rfl) (λ_ _ h=>h) (λ_ X=>by kernel_rfl)
def Qcs(m:(List Int))(addr:Int)(size:Int):Tree (Int×Bool):=
.an (Q80 m addr size) (.lv (Qgn m addr size) λ(x0:Bool)=> .br (!x0) (.lf (0,false)) (.cn (Nat.beq 1 1&&Nat.blt 0 1&&decide (0≤wrap u32 (Int.tdiv addr 4)∧wrap u32 (Int.tdiv addr 4)<(m.length:Int))) (.br (size==1) (.cn (decide (0≤wrap u32 (8*Int.tmod addr 4))) (.lf (iand u32 (ishr u32 (m.getD (Int.toNat (wrap u32 (Int.tdiv addr 4))) 0) (wrap u32 (8*Int.tmod addr 4))) 255,true))) (.lf (m.getD (Int.toNat (wrap u32 (Int.tdiv addr 4))) 0,true)))))
def Qj5(m:(List Int))(addr:Int)(size:Int):(Int×Bool):=(Qcs m addr size).m
abbrev Q8r(m:(List Int))(addr:Int)(size:Int):Prop:=(Qcs m addr size).p
def Za:Q09:=mkP 187 [] true [.one (.ints .u32), .one (.int .u32), .one (.int .i64)] [] (λargs rows=>Q8r (argL .u32 args 0) (argI args 1) (argI args 2)) (λargs rows=>Qj5 (argL .u32 args 0) (argI args 1) (argI args 2)) (λX=> .tup [.int .u32 (X.1), .bool (X.2)]) (λX=>[])
theorem Qjg:Q01 Tryz.prog Za:=Q0j drawn Q0g (.cons Qew (.nil)) Tryz.func187 Tryz.call187 (λargs rows=>Qcs (argL .u32 args 0) (argI args 1) (argI args 2)) [] [] 2 (λ_ _ _=>by kernel_rfl) (λ_ _=>rfl) (λ_ _ h=>h) (λ_ X=>by kernel_rfl)
def Qc2(w:Int):Tree (Q0h×Bool):=
.lv (Qg9 (wrap i64 (ishr u32 w 24))) λ(x0:Int)=>let E5:=({Op:=0,A:=0,B:=0,C:=0,D3:=0}:Q0h); .br (x0==0) (.lf (E5,false)) (.br (x0==2) (let E3:=({Op:=wrap i64 (ishr u32 w 24),A:=wrap i64 (iand u32 (ishr u32 w 20) 15),B:=wrap i64 (iand u32 (ishr u32 w 16) 15),C:=wrap i64 (iand u32 w 65535),D3:=0}:Q0h); .lv (Q7q E3) λ(x1:Bool)=> .br (!x1) (.lf (E5,false)) (.lf (E3,true))) (let T1:Tree ((Q0h×Bool)):=let E2:=({Op:=wrap i64 (ishr u32 w 24),A:=wrap i64 (iand u32 (ishr u32 w 20) 15),B:=wrap i64 (iand u32 (ishr u32 w 16) 15),C:=0,D3:=wrap i32 (wrap i16 (iand u32 w 65535))}:Q0h); .lv (Q7q E2) λ(x2:Bool)=> .br (!x2) (.lf (E5,false)) (.lf (E2,true)); .br (x0==3) T1 (.br (x0==7) T1 (let E4:=({Op:=wrap i64 (ishr u32 w 24),A:=wrap i64 (iand u32 (ishr u32 w 20) 15),B:=wrap i64 (iand u32 (ishr u32 w 16) 15),C:=0,D3:=wrap i32 (iand u32 w 65535)}:Q0h); .lv (Q7q E4) λ(x4:Bool)=> .br (!x4) (.lf (E5,false)) (.lf (E4,true))))))
def Qm(w:Int):(Q0h×Bool):=(Qc2 w).m
def Z3y:Q09:=mkR 188 [] true [.one (.int .u32)] [] (λargs rows=>Qm (argI args 0)) (λX=> .tup [.agg (Q0h.cells (X.1)), .bool (X.2)]) (λX=>[])
theorem Qlu:Q01 Tryz.prog Z3y:=Q0p drawn Q0g (.cons Qau (.cons Qof (.nil))) Tryz.func188 Tryz.call188 (λargs rows=>Qc2 (argI args 0)) [] [] 2 (λ_ _ _=>by kernel_rfl) (λ_ _=>rfl) (λ_ _=>Tree.free_ok (by kernel_rfl)) (λ_ X=>by kernel_rfl)
def Qsa(access:Int):Tree Bool:=
.br (decide (access≥1)) (.lf (decide (access≤3))) (.lf false)
def Qqz(access:Int):Bool:=(Qsa access).m
def Z6r:Q09:=mkR 292 [] true [.one (.int .i64)] [] (λargs rows=>Qqz (argI args 0)) (λX=> .bool X) (λX=>[])
theorem Qp:Q01 Tryz.prog Z6r:=Q0p drawn Q0g (.nil) Tryz.func292 Tryz.call292 (λargs rows=>Qsa (argI args 0)) [] [] 2 (λ_ _ _=>by kernel_rfl) (λ_ _=>rfl) (λ_ _=>Tree.free_ok (by kernel_rfl)) (λ_ X=>by kernel_rfl)
def Qs0(c:Q02):Tree Bool:=
.lf (iand u32 c.B5.a0 (5:Int)==(4:Int))
def Z1x(c:Q02):Bool:=(Qs0 c).m
def Z8k:Q09:=mkR 293 [] true [.agg Q02.sig] [] (λargs rows=>Z1x (Q02.of (args.getD 0 .dead).cells)) (λX=> .bool X) (λX=>[])
theorem Z3n:Q01 Tryz.prog Z8k:=Q0p drawn Q0g (.nil) Tryz.func293 Tryz.call293 (λargs rows=>Qs0 (Q02.of (args.getD 0 .dead).cells)) [] [] 2 (λ_ _ _=>by kernel_rfl) (λ_ _=>rfl) (λ_ _=>Tree.free_ok (by kernel_rfl)) (λ_ X=>by kernel_rfl)
def Qa6(access:Int):Tree Int:=
.br (access==1) (.lf 4) (.br (access==3) (.lf 6) (.lf 5))
def Q7v(access:Int):Int:=(Qa6 access).m
def Z02:Q09:=mkR 294 [] true [.one (.int .i64)] [] (λargs rows=>Q7v (argI args 0)) (λX=> .int .i64 X) (λX=>[])
theorem Qje:Q01 Tryz.prog Z02:=Q0p drawn Q0g (.nil) Tryz.func294 Tryz.call294 (λargs rows=>Qa6 (argI args 0)) [] [] 2 (λ_ _ _=>by kernel_rfl) (λ_ _=>rfl) (λ_ _=>Tree.free_ok (by kernel_rfl)) (λ_ X=>by kernel_rfl)
def Q9s(m:(List Int))(root:Int)(va:Int)(access:Int):Tree Q0s:=
.lv (Q7v access) λ(x0:Int)=> .lv (Q6a m) λ(x1:Int)=> .lv (Qqz access) λ(x2:Bool)=>let E4:=({Addr:=0,F0:=0,Cause:=x0}:Q0s); .br (!x2) (.lf (E4)) (.br (decide (va≥4096)) (.lf (E4)) (.br (decide (root≥wrap u32 x1)) (.lf (E4)) (let E6:=wrap u32 (root*128)+wrap u32 (4*wrap u32 (Int.tdiv va 128));let E3:=Int.tdiv (wrap u32 E6) 4; .cn (Nat.beq 1 1&&Nat.blt 0 1&&decide (0≤wrap u32 E3∧wrap u32 E3<(m.length:Int))) (let E5:=m.getD (Int.toNat (wrap u32 E3)) 0; .br (iand u32 E5 (1:Int)==(0:Int)) (.lf (E4)) (let T1:Tree (Q0s):= .br (decide (iand u32 (ishr u32 E5 8) 255≥wrap u32 x1)) (.lf (E4)) (.lf ({Addr:=wrap u32 (wrap u32 (iand u32 (ishr u32 E5 8) (255:Int)*(128:Int))+Int.tmod va 128),F0:=wrap u32 E6,Cause:=0}));let T2:Tree (Q0s):= .br (access==1) (.br (iand u32 E5 (4:Int)==(0:Int)) (.lf (E4)) T1) T1; .br (access==3) (.br (iand u32 E5 (2:Int)==(0:Int)) (.lf (E4)) T2) T2)))))
def Z5r(m:(List Int))(root:Int)(va:Int)(access:Int):Q0s:=(Q9s m root va access).m
abbrev Qnm(m:(List Int))(root:Int)(va:Int)(access:Int):Prop:=(Q9s m root va access).p
def Zc1:Q09:=mkP 295 [] true [.one (.ints .u32), .one (.int .u32), .one (.int .u32), .one (.int .i64)] [] (λargs rows=>Qnm (argL .u32 args 0) (argI args 1) (argI args 2) (argI args 3)) (λargs rows=>Z5r (argL .u32 args 0) (argI args 1) (argI args 2) (argI args 3)) (λX=> .agg (Q0s.cells X)) (λX=>[])
theorem Z81:Q01 Tryz.prog Zc1:=Q0j drawn Q0g (.cons Qje (.cons Q8m (.cons Qp (.nil)))) Tryz.func295 Tryz.call295 (λargs rows=>Q9s (argL .u32 args 0) (argI args 1) (argI args 2) (argI args 3)) [] [] 2 (λ_ _ _=>by kernel_rfl) (λ_ _=>rfl) (λ_ _ h=>h) (λ_ X=>by kernel_rfl)
def Qdp(m:(List Int))(entry:Int)(access:Int):Tree (List Int):=
.an (Q80 m entry 4) (.lv (Qgn m entry 4) λ(x0:Bool)=> .br (!x0) (.lf m) (let E3:=Nat.beq 1 1&&Nat.blt 0 1&&decide (0≤wrap u32 (Int.tdiv entry 4)∧wrap u32 (Int.tdiv entry 4)<(m.length:Int)); .cn E3 (.cn E3 (let E4:=Int.toNat (wrap u32 (Int.tdiv entry 4));let E1:=List.set m E4 (ior u32 (m.getD E4 0) 8); .br (access==3) (let E2:=Nat.beq 1 1&&Nat.blt 0 1&&decide (0≤wrap u32 (Int.tdiv entry 4)∧wrap u32 (Int.tdiv entry 4)<(↑(List.length E1):Int)); .cn E2 (.cn E2 (.lf (List.set E1 E4 (ior u32 (List.getD E1 E4 0) 16))))) (.lf E1)))))
def Z7f(m:(List Int))(entry:Int)(access:Int):(List Int):=(Qdp m entry access).m
abbrev Qo0(m:(List Int))(entry:Int)(access:Int):Prop:=(Qdp m entry access).p
def Zc0:Q09:=mkP 296 [true,false,false] true [.one (.row 0), .one (.int .u32), .one (.int .i64)] [.arr 25 1 (.ints .u32)] (λargs rows=>Qo0 (rowL .u32 rows 0) (argI args 1) (argI args 2)) (λargs rows=>Z7f (rowL .u32 rows 0) (argI args 1) (argI args 2)) (λX=> .tup []) (λX=>[⟨false,25,1, .ints .u32 X⟩])
theorem Z9p:Q01 Tryz.prog Zc0:=Q0j drawn Q0g (.cons Qew (.nil)) Tryz.func296 Tryz.call296 (λargs rows=>Qdp (rowL .u32 rows 0) (argI args 1) (argI args 2)) [] [] 2 (λ_ _ _=>by kernel_rfl) (λ_ _=>rfl) (λ_ _ h=>h) (λ_ X=>by kernel_rfl)
def Qaw(c:Q02)(m:(List Int))(va:Int)(size:Int)(access:Int):Tree (Int×Int×(List Int)):=
.lv (Qqz access) λ(x0:Bool)=> .br (!x0) (.lf (0,5,m)) (let T1:Tree ((Int×Int×(List Int))):= .cn (decide (wrap u32 size≠0)) (.br (Int.tmod va (wrap u32 size) !=0) (.lf (0,3,m)) (.lv (Z1x c) λ(x1:Bool)=> .br (!x1) (.an (Q80 m va size) (.lv (Qgn m va size) λ(x2:Bool)=> .br (!x2) (.lv (Q7v access) λ(x3:Int)=> .lf (0,x3,m)) (.lf (va,0,m)))) (.an (Qnm m c.B5.a6 va access) (.lv (Z5r m c.B5.a6 va access) λ(x4:Q0s)=> .br (x4.Cause !=0) (.lf (0,x4.Cause,m)) (.an (Qo0 m x4.F0 access) (.lv (Z7f m x4.F0 access) λ(x5:List Int)=> .lf (x4.Addr,0,x5))))))); .br (size !=1) (.br (size !=4) (.lf (0,5,m)) T1) T1)
def Qcb(c:Q02)(m:(List Int))(va:Int)(size:Int)(access:Int):(Int×Int×(List Int)):=(Qaw c m va size access).m
abbrev Q5(c:Q02)(m:(List Int))(va:Int)(size:Int)(access:Int):Prop:=(Qaw c m va size access).p
def Z69:Q09:=mkP 254 [false,true,false,false,false] true [.agg Q02.sig, .one (.row 0), .one (.int .u32), .one (.int .i64), .one (.int .i64)] [.arr 25 1 (.ints .u32)] (λargs rows=>Q5 (Q02.of (args.getD 0 .dead).cells) (rowL .u32 rows 0) (argI args 2) (argI args 3) (argI args 4)) (λargs rows=>Qcb (Q02.of (args.getD 0 .dead).cells) (rowL .u32 rows 0) (argI args 2) (argI args 3) (argI args 4)) (λX=> .tup [.int .u32 (X.1), .int .i64 (X.2.1)]) (λX=>[⟨false,25,1, .ints .u32 (X.2.2)⟩])
theorem Qnz:Q01 Tryz.prog Z69:=Q0j drawn Q0g (.cons Qp (.cons Z3n (.cons Qew (.cons Qje (.cons Z81 (.cons Z9p (.nil))))))) Tryz.func254 Tryz.call254 (λargs rows=>Qaw (Q02.of (args.getD 0 .dead).cells) (rowL .u32 rows 0) (argI args 2) (argI args 3) (argI args 4)) [] [] 2 (λ_ _ _=>by kernel_rfl) (λ_ _=>rfl) (λ_ _ h=>h) (λ_ X=>by kernel_rfl)
def Qg0(op:Int):Tree Bool:=
.br (decide (op≥57)) (.lf (decide (op≤64))) (.lf false)
def Qjm(op:Int):Bool:=(Qg0 op).m
def Qq:Q09:=mkR 255 [] true [.one (.int .i64)] [] (λargs rows=>Qjm (argI args 0)) (λX=> .bool X) (λX=>[])
theorem Qp4:Q01 Tryz.prog Qq:=Q0p drawn Q0g (.nil) Tryz.func255 Tryz.call255 (λargs rows=>Qg0 (argI args 0)) [] [] 2 (λ_ _ _=>by kernel_rfl) (λ_ _=>rfl) (λ_ _=>Tree.free_ok (by kernel_rfl)) (λ_ X=>by kernel_rfl)
def Qbx(c:Q02):Tree Q02:=
.lv (Qe6 (iand u32 c.B5.a0 (8:Int) !=(0:Int))) λ(x0:Int)=> .lv (Qe6 (iand u32 c.B5.a0 (16:Int) !=(0:Int))) λ(x1:Int)=> .lf ({X:=c.X,Pc:=c.B5.a2,B5:={a0:=ior u32 (ior u32 (Ql9 u32 c.B5.a0 3) (wrap u32 (1*x0))) (wrap u32 (2*x1)),a1:=c.B5.a1,a2:=c.B5.a2,a3:=c.B5.a3,a4:=c.B5.a4,a5:=c.B5.a5,a6:=c.B5.a6,a7:=c.B5.a7}})
def Qma(c:Q02):Q02:=(Qbx c).m
def Z41:Q09:=mkR 297 [] true [.agg Q02.sig] [] (λargs rows=>Qma (Q02.of (args.getD 0 .dead).cells)) (λX=> .agg (Q02.cells X)) (λX=>[])
theorem Z08:Q01 Tryz.prog Z41:=Q0p drawn Q0g (.cons Qm4 (.nil)) Tryz.func297 Tryz.call297 (λargs rows=>Qbx (Q02.of (args.getD 0 .dead).cells)) [] [] 2 (λ_ _ _=>by kernel_rfl) (λ_ _=>rfl) (λ_ _=>Tree.free_ok (by kernel_rfl)) (λ_ X=>by kernel_rfl)
def Qg(c:Q02)(r:Int)(v:Int):Tree Q02:=
.br (decide (r>0)) (.br (decide (r<16)) (.cn (Nat.blt 0 1&&decide (0≤r∧r<(↑16:Int))) (.lf ({X:=A16.of 0 (List.set (A16.l c.X) r.toNat v),Pc:=c.Pc,B5:=c.B5}))) (.lf c)) (.lf c)
def Q79(c:Q02)(r:Int)(v:Int):Q02:=(Qg c r v).m
abbrev Q2(c:Q02)(r:Int)(v:Int):Prop:=(Qg c r v).p
def Zeu:Q09:=mkP 219 [] true [.agg Q02.sig, .one (.int .i64), .one (.int .u32)] [] (λargs rows=>Q2 (Q02.of (args.getD 0 .dead).cells) (argI args 1) (argI args 2)) (λargs rows=>Q79 (Q02.of (args.getD 0 .dead).cells) (argI args 1) (argI args 2)) (λX=> .agg (Q02.cells X)) (λX=>[])
theorem Qcq:Q01 Tryz.prog Zeu:=Q0j drawn Q0g (.nil) Tryz.func219 Tryz.call219 (λargs rows=>Qg (Q02.of (args.getD 0 .dead).cells) (argI args 1) (argI args 2)) [] [] 2 (λ_ _ _=>by kernel_rfl) (λ_ _=>rfl) (λ_ _ h=>h) (λ_ X=>by kernel_rfl)
def Qb5(c:Q02)(csr:Int)(v:Int):Tree Q02:=
let E4:=Nat.blt 0 1&&decide (0≤csr∧csr<(↑8:Int));let T2:Tree (Q02):= .cn E4 (.lf ({X:=c.X,Pc:=c.Pc,B5:=A8.of 0 (List.set (A8.l c.B5) csr.toNat (iand u32 v 31))})); .br (csr==0) T2 (.br (csr==7) T2 (.br (csr==6) (.cn E4 (.lf ({X:=c.X,Pc:=c.Pc,B5:=A8.of 0 (List.set (A8.l c.B5) csr.toNat (iand u32 v 255))}))) (let T3:Tree (Q02):= .cn E4 (.lf ({X:=c.X,Pc:=c.Pc,B5:=A8.of 0 (List.set (A8.l c.B5) csr.toNat (Ql9 u32 v 3))})); .br (csr==1) T3 (.br (csr==2) T3 (let T1:Tree (Q02):= .cn E4 (.lf ({X:=c.X,Pc:=c.Pc,B5:=A8.of 0 (List.set (A8.l c.B5) csr.toNat v)})); .br (csr==3) T1 (.br (csr==4) T1 (.br (csr==5) T1 (.lf c))))))))
def Z29(c:Q02)(csr:Int)(v:Int):Q02:=(Qb5 c csr v).m
abbrev Qls(c:Q02)(csr:Int)(v:Int):Prop:=(Qb5 c csr v).p
def Z6z:Q09:=mkP 298 [] true [.agg Q02.sig, .one (.int .i64), .one (.int .u32)] [] (λargs rows=>Qls (Q02.of (args.getD 0 .dead).cells) (argI args 1) (argI args 2)) (λargs rows=>Z29 (Q02.of (args.getD 0 .dead).cells) (argI args 1) (argI args 2)) (λX=> .agg (Q02.cells X)) (λX=>[])
theorem Z44:Q01 Tryz.prog Z6z:=Q0j drawn Q0g (.nil) Tryz.func298 Tryz.call298 (λargs rows=>Qb5 (Q02.of (args.getD 0 .dead).cells) (argI args 1) (argI args 2)) [] [] 2 (λ_ _ _=>by kernel_rfl) (λ_ _=>rfl) (λ_ _ h=>h) (λ_ X=>by kernel_rfl)
def Q8l(c:Q02)(i:Q0h):Tree (Q02×Q16):=
.br (i.Op==56) (.lv (Q5l c 7 0) λ(x0:Q02)=> .lf (x0,{C6:=0,D2:=0,D8:=0,Value:=0})) (.br (i.Op==57) (.lv (Qma c) λ(x1:Q02)=> .lf (x1,{C6:=0,D2:=0,D8:=0,Value:=0})) (.br (i.Op==58) (.cn (Nat.blt 0 1&&decide (0≤i.D3∧i.D3<(↑8:Int))) (let E3:=List.getD (A8.l c.B5) i.D3.toNat 0; .an (Q2 c i.A E3) (.lv (Q79 c i.A E3) λ(x2:Q02)=> .lf ({X:=x2.X,Pc:=wrap u32 (x2.Pc+4),B5:=x2.B5},{C6:=0,D2:=0,D8:=0,Value:=0})))) (let E2:=Nat.blt 0 1&&decide (0≤i.A∧i.A<(↑16:Int)); .br (i.Op==59) (.cn E2 (let E4:=List.getD (A16.l c.X) i.A.toNat 0; .an (Qls c (wrap i64 i.D3) E4) (.lv (Z29 c (wrap i64 i.D3) E4) λ(x3:Q02)=> .lf ({X:=x3.X,Pc:=wrap u32 (x3.Pc+4),B5:=x3.B5},{C6:=0,D2:=0,D8:=0,Value:=0})))) (let E1:=({X:=c.X,Pc:=wrap u32 (c.Pc+4),B5:=c.B5}:Q02); .br (i.Op==60) (.lf (E1,{C6:=1,D2:=wrap i64 i.D3,D8:=i.A,Value:=0})) (.br (i.Op==61) (.cn E2 (.lf (E1,{C6:=2,D2:=wrap i64 i.D3,D8:=0,Value:=List.getD (A16.l c.X) i.A.toNat 0}))) (.br (i.Op==62) (.lf (E1,{C6:=3,D2:=0,D8:=0,Value:=0})) (.br (i.Op==63) (.lf (E1,{C6:=5,D2:=0,D8:=0,Value:=0})) (.br (i.Op==64) (.lf (E1,{C6:=4,D2:=0,D8:=0,Value:=0})) (.lf (E1,{C6:=0,D2:=0,D8:=0,Value:=0}))))))))))
def Qvh(c:Q02)(i:Q0h):(Q02×Q16):=(Q8l c i).m
abbrev Qj6(c:Q02)(i:Q0h):Prop:=(Q8l c i).p
def Z5g:Q09:=mkP 256 [] true [.agg Q02.sig, .agg Q0h.sig] [] (λargs rows=>Qj6 (Q02.of (args.getD 0 .dead).cells) (Q0h.of (args.getD 1 .dead).cells)) (λargs rows=>Qvh (Q02.of (args.getD 0 .dead).cells) (Q0h.of (args.getD 1 .dead).cells)) (λX=> .tup [.agg (Q02.cells (X.1)), .agg (Q16.cells (X.2))]) (λX=>[])
theorem Qz8:Q01 Tryz.prog Z5g:=Q0j drawn Q0g (.cons Qe5 (.cons Z08 (.cons Qcq (.cons Z44 (.nil))))) Tryz.func256 Tryz.call256 (λargs rows=>Q8l (Q02.of (args.getD 0 .dead).cells) (Q0h.of (args.getD 1 .dead).cells)) [] [] 2 (λ_ _ _=>by kernel_rfl) (λ_ _=>rfl) (λ_ _ h=>h) (λ_ X=>by kernel_rfl)
def Qsr(op:Int)(a:Int)(b:Int):Tree Bool:=
.br (op==40) (.lf (a==b)) (.br (op==41) (.lf (a !=b)) (.br (op==42) (.lf (decide (wrap i32 a<wrap i32 b))) (.br (op==43) (.lf (decide (wrap i32 a≥wrap i32 b))) (.br (op==44) (.lf (decide (a<b))) (.lf (decide (a≥b)))))))
def Z2m(op:Int)(a:Int)(b:Int):Bool:=(Qsr op a b).m
def Z8e:Q09:=mkR 299 [] true [.one (.int .i64), .one (.int .u32), .one (.int .u32)] [] (λargs rows=>Z2m (argI args 0) (argI args 1) (argI args 2)) (λX=> .bool X) (λX=>[])
theorem Z35:Q01 Tryz.prog Z8e:=Q0p drawn Q0g (.nil) Tryz.func299 Tryz.call299 (λargs rows=>Qsr (argI args 0) (argI args 1) (argI args 2)) [] [] 2 (λ_ _ _=>by kernel_rfl) (λ_ _=>rfl) (λ_ _=>Tree.free_ok (by kernel_rfl)) (λ_ X=>by kernel_rfl)
def Qck(c:Q02)(i:Q0h):Tree Q02:=
.br (i.Op==48) (.an (Q2 c i.A (wrap u32 (c.Pc+4))) (.lv (Q79 c i.A (wrap u32 (c.Pc+4))) λ(x0:Q02)=> .lf ({X:=x0.X,Pc:=wrap u32 (c.Pc+wrap u32 (4*wrap u32 i.D3)),B5:=x0.B5}))) (let E1:=Nat.blt 0 1&&decide (0≤i.B∧i.B<(↑16:Int)); .br (i.Op==49) (.cn E1 (.an (Q2 c i.A (wrap u32 (c.Pc+4))) (.lv (Q79 c i.A (wrap u32 (c.Pc+4))) λ(x1:Q02)=> .lf ({X:=x1.X,Pc:=wrap u32 (List.getD (A16.l c.X) i.B.toNat 0+wrap u32 i.D3),B5:=x1.B5})))) (.cn (Nat.blt 0 1&&decide (0≤i.A∧i.A<(↑16:Int))) (.cn E1 (.lv (Z2m i.Op (List.getD (A16.l c.X) i.A.toNat 0) (List.getD (A16.l c.X) i.B.toNat 0)) λ(x2:Bool)=> .br x2 (.lf ({X:=c.X,Pc:=wrap u32 (c.Pc+wrap u32 (4*wrap u32 i.D3)),B5:=c.B5})) (.lf ({X:=c.X,Pc:=wrap u32 (c.Pc+4),B5:=c.B5}))))))
def Z9t(c:Q02)(i:Q0h):Q02:=(Qck c i).m
abbrev Qns(c:Q02)(i:Q0h):Prop:=(Qck c i).p
def Zbg:Q09:=mkP 257 [] true [.agg Q02.sig, .agg Q0h.sig] [] (λargs rows=>Qns (Q02.of (args.getD 0 .dead).cells) (Q0h.of (args.getD 1 .dead).cells)) (λargs rows=>Z9t (Q02.of (args.getD 0 .dead).cells) (Q0h.of (args.getD 1 .dead).cells)) (λX=> .agg (Q02.cells X)) (λX=>[])
theorem Z7w:Q01 Tryz.prog Zbg:=Q0j drawn Q0g (.cons Qcq (.cons Z35 (.nil))) Tryz.func257 Tryz.call257 (λargs rows=>Qck (Q02.of (args.getD 0 .dead).cells) (Q0h.of (args.getD 1 .dead).cells)) [] [] 2 (λ_ _ _=>by kernel_rfl) (λ_ _=>rfl) (λ_ _ h=>h) (λ_ X=>by kernel_rfl)
def Q44(x:Int)(n:Int):Tree Int:=
.br (decide (n<1)) (.lf 0) (.br (decide (n≥32)) (.lf x) (.cn (decide (0≤wrap u64 n)) (.cn (decide (0≤wrap u64 (wrap i64 (n-1)))) (let E1:=iand u32 x (wrap u32 (ishl u32 1 (wrap u64 n)-1)); .br (ishr u32 E1 (wrap u64 (wrap i64 (n-1)))==1) (.cn (decide (0≤wrap u64 n)) (.lf (ior u32 E1 (ishl u32 4294967295 (wrap u64 n))))) (.lf E1)))))
def Qcr(x:Int)(n:Int):Int:=(Q44 x n).m
abbrev Q7d(x:Int)(n:Int):Prop:=(Q44 x n).p
def Qqq:Q09:=mkP 301 [] true [.one (.int .u32), .one (.int .i64)] [] (λargs rows=>Q7d (argI args 0) (argI args 1)) (λargs rows=>Qcr (argI args 0) (argI args 1)) (λX=> .int .u32 X) (λX=>[])
theorem Qni:Q01 Tryz.prog Qqq:=Q0j drawn Q0g (.nil) Tryz.func301 Tryz.call301 (λargs rows=>Q44 (argI args 0) (argI args 1)) [] [] 2 (λ_ _ _=>by kernel_rfl) (λ_ _=>rfl) (λ_ _ h=>h) (λ_ X=>by kernel_rfl)
def Q5q(c:Q02)(m:(List Int))(i:Q0h):Tree (Q02×(List Int)):=
.cn (Nat.blt 0 1&&decide (0≤i.B∧i.B<(↑16:Int))) (let E4:=wrap u32 (List.getD (A16.l c.X) i.B.toNat 0+wrap u32 i.D3);let E5:=List.getD (A16.l c.X) i.A.toNat 0;let E6:=Nat.blt 0 1&&decide (0≤i.A∧i.A<(↑16:Int));let E7:=({X:=c.X,Pc:=wrap u32 (c.Pc+4),B5:=c.B5}:Q02);let T1:Tree ((Q02×(List Int))):=let T3:Tree ((Q02×(List Int))):= .an (Q5 c m E4 4 3) (.lv (Qcb c m E4 4 3) λ(x0:Int×Int×List Int)=> .br (x0.2.1 !=0) (.lv (Q5l c x0.2.1 E4) λ(x1:Q02)=> .lf (x1,x0.2.2)) (.cn E6 (.an (Qeg x0.2.2 x0.1 4 E5) (.lv (Quh x0.2.2 x0.1 4 E5) λ(x2:List Int)=> .lf (E7,x2))))); .br (i.Op==35) T3 (.br (i.Op==36) T3 (.an (Q5 c m E4 4 2) (.lv (Qcb c m E4 4 2) λ(x6:Int×Int×List Int)=> .br (x6.2.1 !=0) (.lv (Q5l c x6.2.1 E4) λ(x7:Q02)=> .lf (x7,x6.2.2)) (.an (Q8r x6.2.2 x6.1 4) (.lv (Qj5 x6.2.2 x6.1 4) λ(x8:Int×Bool)=> .br (i.Op==33) (.an (Q7d x8.1 8) (.lv (Qcr x8.1 8) λ(x9:Int)=> .an (Q2 c i.A x9) (.lv (Q79 c i.A x9) λ(x10:Q02)=> .lf ({X:=x10.X,Pc:=wrap u32 (x10.Pc+4),B5:=x10.B5},x6.2.2)))) (.an (Q2 c i.A x8.1) (.lv (Q79 c i.A x8.1) λ(x11:Q02)=> .lf ({X:=x11.X,Pc:=wrap u32 (x11.Pc+4),B5:=x11.B5},x6.2.2)))))))); .br (i.Op==32) T1 (.br (i.Op==35) T1 (let T2:Tree ((Q02×(List Int))):= .an (Q5 c m E4 1 3) (.lv (Qcb c m E4 1 3) λ(x24:Int×Int×List Int)=> .br (x24.2.1 !=0) (.lv (Q5l c x24.2.1 E4) λ(x25:Q02)=> .lf (x25,x24.2.2)) (.cn E6 (.an (Qeg x24.2.2 x24.1 1 E5) (.lv (Quh x24.2.2 x24.1 1 E5) λ(x26:List Int)=> .lf (E7,x26))))); .br (i.Op==35) T2 (.br (i.Op==36) T2 (.an (Q5 c m E4 1 2) (.lv (Qcb c m E4 1 2) λ(x30:Int×Int×List Int)=> .br (x30.2.1 !=0) (.lv (Q5l c x30.2.1 E4) λ(x31:Q02)=> .lf (x31,x30.2.2)) (.an (Q8r x30.2.2 x30.1 1) (.lv (Qj5 x30.2.2 x30.1 1) λ(x32:Int×Bool)=> .br (i.Op==33) (.an (Q7d x32.1 8) (.lv (Qcr x32.1 8) λ(x33:Int)=> .an (Q2 c i.A x33) (.lv (Q79 c i.A x33) λ(x34:Q02)=> .lf ({X:=x34.X,Pc:=wrap u32 (x34.Pc+4),B5:=x34.B5},x30.2.2)))) (.an (Q2 c i.A x32.1) (.lv (Q79 c i.A x32.1) λ(x35:Q02)=> .lf ({X:=x35.X,Pc:=wrap u32 (x35.Pc+4),B5:=x35.B5},x30.2.2)))))))))))
def Qou(c:Q02)(m:(List Int))(i:Q0h):(Q02×(List Int)):=(Q5q c m i).m
abbrev Qfp(c:Q02)(m:(List Int))(i:Q0h):Prop:=(Q5q c m i).p
def Qvc:Q09:=mkP 258 [false,true,false] true [.agg Q02.sig, .one (.row 0), .agg Q0h.sig] [.arr 25 1 (.ints .u32)] (λargs rows=>Qfp (Q02.of (args.getD 0 .dead).cells) (rowL .u32 rows 0) (Q0h.of (args.getD 2 .dead).cells)) (λargs rows=>Qou (Q02.of (args.getD 0 .dead).cells) (rowL .u32 rows 0) (Q0h.of (args.getD 2 .dead).cells)) (λX=> .agg (Q02.cells (X.1))) (λX=>[⟨false,25,1, .ints .u32 (X.2)⟩])
theorem Qtq:Q01 Tryz.prog Qvc:=Q0j drawn Q0g (.cons Qnz (.cons Qe5 (.cons Qvt (.cons Qjg (.cons Qni (.cons Qcq (.nil))))))) Tryz.func258 Tryz.call258 (λargs rows=>Q5q (Q02.of (args.getD 0 .dead).cells) (rowL .u32 rows 0) (Q0h.of (args.getD 2 .dead).cells)) [] [] 2 (λ_ _ _=>by kernel_rfl) (λ_ _=>rfl) (λ_ _ h=>h) (λ_ X=>by kernel_rfl)
def Qsw(op:Int):Tree Int:=
.br (op==16) (.lf 1) (.br (op==17) (.lf 3) (.br (op==18) (.lf 4) (.br (op==19) (.lf 5) (.br (op==20) (.lf 6) (.br (op==21) (.lf 7) (.br (op==22) (.lf 8) (.br (op==23) (.lf 12) (.lf op))))))))
def Z2g(op:Int):Int:=(Qsw op).m
def Z5u:Q09:=mkR 302 [] true [.one (.int .i64)] [] (λargs rows=>Z2g (argI args 0)) (λX=> .int .i64 X) (λX=>[])
theorem Z3q:Q01 Tryz.prog Z5u:=Q0p drawn Q0g (.nil) Tryz.func302 Tryz.call302 (λargs rows=>Qsw (argI args 0)) [] [] 2 (λ_ _ _=>by kernel_rfl) (λ_ _=>rfl) (λ_ _=>Tree.free_ok (by kernel_rfl)) (λ_ X=>by kernel_rfl)
def Q83(a:Int)(b:Int):Tree (Int×Int):=
.br (b==0) (.lf (4294967295,a)) (.cn (decide (wrap i64 (wrap i32 b)≠0)) (.cn (decide (wrap i64 (wrap i32 b)≠0)) (.lf (wrap u32 (wrap i64 (Int.tdiv (wrap i64 (wrap i32 a)) (wrap i64 (wrap i32 b)))),wrap u32 (Int.tmod (wrap i64 (wrap i32 a)) (wrap i64 (wrap i32 b)))))))
def Qmm(a:Int)(b:Int):(Int×Int):=(Q83 a b).m
abbrev Qd8(a:Int)(b:Int):Prop:=(Q83 a b).p
def Z4t:Q09:=mkP 303 [] true [.one (.int .u32), .one (.int .u32)] [] (λargs rows=>Qd8 (argI args 0) (argI args 1)) (λargs rows=>Qmm (argI args 0) (argI args 1)) (λX=> .tup [.int .u32 (X.1), .int .u32 (X.2)]) (λX=>[])
theorem Qyn:Q01 Tryz.prog Z4t:=Q0j drawn Q0g (.nil) Tryz.func303 Tryz.call303 (λargs rows=>Q83 (argI args 0) (argI args 1)) [] [] 2 (λ_ _ _=>by kernel_rfl) (λ_ _=>rfl) (λ_ _ h=>h) (λ_ X=>by kernel_rfl)
def Qfo(op:Int)(a:Int)(b:Int):Tree (Int×Bool):=
.lv (Z2g op) λ(x0:Int)=> .br (x0==1) (.lf (wrap u32 (a+b),true)) (.br (x0==2) (.lf (wrap u32 (a-b),true)) (.br (x0==3) (.lf (iand u32 a b,true)) (.br (x0==4) (.lf (ior u32 a b,true)) (.br (x0==5) (.lf (ixor u32 a b,true)) (.br (x0==6) (.lf (ishl u32 a (iand u32 b 31),true)) (.br (x0==7) (.lf (ishr u32 a (iand u32 b 31),true)) (.br (x0==8) (.lf (wrap u32 (ishr i32 (wrap i32 a) (iand u32 b 31)),true)) (.br (x0==9) (.lf (wrap u32 (a*b),true)) (.br (x0==10) (.an (Qd8 a b) (.lv (Qmm a b) λ(x1:Int×Int)=> .lf (x1.1,true))) (.br (x0==11) (.an (Qd8 a b) (.lv (Qmm a b) λ(x2:Int×Int)=> .lf (x2.2,true))) (.br (x0==12) (.lv (Qe6 (decide (wrap i32 a<wrap i32 b))) λ(x3:Int)=> .lf (x3,true)) (.br (x0==13) (.lv (Qe6 (decide (a<b))) λ(x4:Int)=> .lf (x4,true)) (.lf (0,false))))))))))))))
def Z4g(op:Int)(a:Int)(b:Int):(Int×Bool):=(Qfo op a b).m
abbrev Qid(op:Int)(a:Int)(b:Int):Prop:=(Qfo op a b).p
def Zfj:Q09:=mkP 259 [] true [.one (.int .i64), .one (.int .u32), .one (.int .u32)] [] (λargs rows=>Qid (argI args 0) (argI args 1) (argI args 2)) (λargs rows=>Z4g (argI args 0) (argI args 1) (argI args 2)) (λX=> .tup [.int .u32 (X.1), .bool (X.2)]) (λX=>[])
theorem Zbf:Q01 Tryz.prog Zfj:=Q0j drawn Q0g (.cons Z3q (.cons Qyn (.cons Qm4 (.nil)))) Tryz.func259 Tryz.call259 (λargs rows=>Qfo (argI args 0) (argI args 1) (argI args 2)) [] [] 2 (λ_ _ _=>by kernel_rfl) (λ_ _=>rfl) (λ_ _ h=>h) (λ_ X=>by kernel_rfl)
def Qj9(c:Q02)(m:(List Int)):Tree (Q02×Q16×(List Int)):=
.an (Q5 c m c.Pc 4 1) (.lv (Qcb c m c.Pc 4 1) λ(x0:Int×Int×List Int)=> .br (x0.2.1 !=0) (.lv (Q5l c x0.2.1 c.Pc) λ(x1:Q02)=> .lf (x1,{C6:=0,D2:=0,D8:=0,Value:=0},x0.2.2)) (.an (Q8r x0.2.2 x0.1 4) (.lv (Qj5 x0.2.2 x0.1 4) λ(x2:Int×Bool)=> .lv (Qm x2.1) λ(x3:Q0h×Bool)=> .br (!x3.2) (.lv (Q5l c 1 x2.1) λ(x4:Q02)=> .lf (x4,{C6:=0,D2:=0,D8:=0,Value:=0},x0.2.2)) (.lv (Qjm x3.1.Op) λ(x5:Bool)=>let T1:Tree ((Q02×Q16×(List Int))):= .br (decide (x3.1.Op≥56)) (.an (Qj6 c x3.1) (.lv (Qvh c x3.1) λ(x7:Q02×Q16)=> .lf (x7.1,x7.2,x0.2.2))) (.br (decide (x3.1.Op≥40)) (.an (Qns c x3.1) (.lv (Z9t c x3.1) λ(x8:Q02)=> .lf (x8,{C6:=0,D2:=0,D8:=0,Value:=0},x0.2.2))) (.br (decide (x3.1.Op≥32)) (.an (Qfp c x0.2.2 x3.1) (.lv (Qou c x0.2.2 x3.1) λ(x9:Q02×List Int)=> .lf (x9.1,{C6:=0,D2:=0,D8:=0,Value:=0},x9.2))) (.br (x3.1.Op==24) (.an (Q2 c x3.1.A (ishl u32 (wrap u32 x3.1.D3) 16)) (.lv (Q79 c x3.1.A (ishl u32 (wrap u32 x3.1.D3) 16)) λ(x10:Q02)=> .lf ({X:=x10.X,Pc:=wrap u32 (x10.Pc+4),B5:=x10.B5},{C6:=0,D2:=0,D8:=0,Value:=0},x0.2.2))) (let E2:=List.getD (A16.l c.X) x3.1.B.toNat 0;let E3:=Nat.blt 0 1&&decide (0≤x3.1.B∧x3.1.B<(↑16:Int)); .br (decide (x3.1.Op≤13)) (.cn (Nat.blt 0 1&&decide (0≤x3.1.C∧x3.1.C<(↑16:Int))) (.cn E3 (let E4:=List.getD (A16.l c.X) x3.1.C.toNat 0; .an (Qid x3.1.Op E2 E4) (.lv (Z4g x3.1.Op E2 E4) λ(x11:Int×Bool)=> .an (Q2 c x3.1.A x11.1) (.lv (Q79 c x3.1.A x11.1) λ(x12:Q02)=> .lf ({X:=x12.X,Pc:=wrap u32 (x12.Pc+4),B5:=x12.B5},{C6:=0,D2:=0,D8:=0,Value:=0},x0.2.2)))))) (.cn E3 (.an (Qid x3.1.Op E2 (wrap u32 x3.1.D3)) (.lv (Z4g x3.1.Op E2 (wrap u32 x3.1.D3)) λ(x13:Int×Bool)=> .an (Q2 c x3.1.A x13.1) (.lv (Q79 c x3.1.A x13.1) λ(x14:Q02)=> .lf ({X:=x14.X,Pc:=wrap u32 (x14.Pc+4),B5:=x14.B5},{C6:=0,D2:=0,D8:=0,Value:=0},x0.2.2))))))))); .br x5 (.br (iand u32 c.B5.a0 (1:Int)==(0:Int)) (.lv (Q5l c 2 x2.1) λ(x6:Q02)=> .lf (x6,{C6:=0,D2:=0,D8:=0,Value:=0},x0.2.2)) T1) T1))))
def ref1_Do(c:Q02)(m:(List Int)):(Q02×Q16×(List Int)):=(Qj9 c m).m
abbrev Qxn(c:Q02)(m:(List Int)):Prop:=(Qj9 c m).p
def ref1_Do_m:Q09:=mkP 217 [false,true] true [.agg Q02.sig, .one (.row 0)] [.arr 25 1 (.ints .u32)] (λargs rows=>Qxn (Q02.of (args.getD 0 .dead).cells) (rowL .u32 rows 0)) (λargs rows=>ref1_Do (Q02.of (args.getD 0 .dead).cells) (rowL .u32 rows 0)) (λX=> .tup [.agg (Q02.cells (X.1)), .agg (Q16.cells (X.2.1))]) (λX=>[⟨false,25,1, .ints .u32 (X.2.2)⟩])
theorem Zg:Q01 Tryz.prog ref1_Do_m:=Q0j drawn Q0g (.cons Qnz (.cons Qe5 (.cons Qjg (.cons Qlu (.cons Qp4 (.cons Qz8 (.cons Z7w (.cons Qtq (.cons Qcq (.cons Zbf (.nil))))))))))) Tryz.func217 Tryz.call217 (λargs rows=>Qj9 (Q02.of (args.getD 0 .dead).cells) (rowL .u32 rows 0)) [] [] 2 (λ_ _ _=>by kernel_rfl) (λ_ _=>rfl) (λ_ _ h=>h) (λ_ X=>by kernel_rfl)
end
end Go.Proofs.YtmalmklaonainaaGreat

/-
  Functions of the program: models, and that its calls come to them (by a program: gen3.py).
-/
import Derived.Test.YtdkiadhigcfmkaaGreatMachineInterruptsBase
import Derived.Test.YtdkiadhigcfmkaaGreatMachineInterruptsZa
import Derived.Test.YtdkiadhigcfmkaaGreatMachineInterruptsYe
namespace Go.Proofs.YtdkiadhigcfmkaaGreat
open Go Go.GD Go.IntKind
set_option linter.unusedVariables false
set_option linter.unusedSimpArgs false
set_option maxRecDepth 100000
noncomputable section
def Z2y(b:Bool):Tree Int:=
.br b (.lf 1) (.lf 0)
def Qaa(b:Bool):Int:=(Z2y b).m
def Zfy:Q0b:=mkR 228 [] true [.one (.bool)] [] (fun args rows=>Qaa (argB args 0)) (fun X=> .int .u32 X) (fun X=>[])
theorem Qol:Q04 Tryz.prog Zfy:=Q0v Q0i Q0j (.nil) Tryz.func228 Tryz.call228 (fun args rows=>Z2y (argB args 0)) [] [] 2 (fun _ _ _=>by kernel_rfl) (fun _ _=>rfl) (fun _ _=>Tree.free_ok (by kernel_rfl)) (fun _ X=>by kernel_rfl)
def Qgm(c:Q03)(cause:Int)(bad:Int):Tree Q03:=
.lv (Qaa (iand u32 c.Csr.a0 (1:Int) !=(0:Int))) fun(x0:Int)=> .lv (Qaa (iand u32 c.Csr.a0 (2:Int) !=(0:Int))) fun(x1:Int)=> .lf ({X:=c.X,Pc:=c.Csr.a1,Csr:={a0:=ior u32 (Qey u32 (ior u32 (ior u32 (Qey u32 c.Csr.a0 24) (wrap u32 (8*x0))) (wrap u32 (16*x1))) 2) 1,a1:=c.Csr.a1,a2:=c.Pc,a3:=wrap u32 cause,a4:=bad,a5:=c.Csr.a5,a6:=c.Csr.a6,a7:=c.Csr.a7}})
def Q24(c:Q03)(cause:Int)(bad:Int):Q03:=(Qgm c cause bad).m
def Zch:Q0b:=mkR 183 [] true [.agg Q03.sig, .one (.int .i64), .one (.int .u32)] [] (fun args rows=>Q24 (Q03.of (args.getD 0 .dead).cells) (argI args 1) (argI args 2)) (fun X=> .agg (Q03.cells X)) (fun X=>[])
theorem Qhp:Q04 Tryz.prog Zch:=Q0v Q0i Q0j (.cons Qol (.nil)) Tryz.func183 Tryz.call183 (fun args rows=>Qgm (Q03.of (args.getD 0 .dead).cells) (argI args 1) (argI args 2)) [] [] 2 (fun _ _ _=>by kernel_rfl) (fun _ _=>rfl) (fun _ _=>Tree.free_ok (by kernel_rfl)) (fun _ X=>by kernel_rfl)
def Q7d(m:(List Int))(addr:Int)(size:Int):Tree Bool:=
let T1:Tree (Bool):= .cn (decide (wrap u32 size≠0)) (.br (Int.tmod addr (wrap u32 size)==0) (.lv (Q3c m) fun(x0:Int)=> .lf (decide (addr<wrap u32 (wrap i64 (128*x0))))) (.lf false)); .br (size !=1) (.br (size !=4) (.lf false) T1) T1
def Q25(m:(List Int))(addr:Int)(size:Int):Bool:=(Q7d m addr size).m
abbrev Qb9(m:(List Int))(addr:Int)(size:Int):Prop:=(Q7d m addr size).p
def Z56:Q0b:=mkP 206 [] true [.one (.ints .u32), .one (.int .u32), .one (.int .i64)] [] (fun args rows=>Qb9 (argL .u32 args 0) (argI args 1) (argI args 2)) (fun args rows=>Q25 (argL .u32 args 0) (argI args 1) (argI args 2)) (fun X=> .bool X) (fun X=>[])
theorem Qia:Q04 Tryz.prog Z56:=Q0k Q0i Q0j (.cons Qbf (.nil)) Tryz.func206 Tryz.call206 (fun args rows=>Q7d (argL .u32 args 0) (argI args 1) (argI args 2)) [] [] 2 (fun _ _ _=>by kernel_rfl) (fun _ _=>rfl) (fun _ _ h=>h) (fun _ X=>by kernel_rfl)
def Q4z(m:(List Int))(addr:Int)(size:Int):Tree (Int×Bool):=
.an (Qb9 m addr size) (.lv (Q25 m addr size) fun(x0:Bool)=> .br (!x0) (.lf (0,false)) (.cn (Nat.beq 1 1&&Nat.blt 0 1&&decide (0≤wrap u32 (Int.tdiv addr 4)∧wrap u32 (Int.tdiv addr 4)<(↑(List.length m):Int))) (.br (size==1) (.cn (decide (0≤wrap u32 (8*Int.tmod addr 4))) (.lf (iand u32 (ishr u32 (List.getD m (Int.toNat (wrap u32 (Int.tdiv addr 4))) 0) (wrap u32 (8*Int.tmod addr 4))) 255,true))) (.lf (List.getD m (Int.toNat (wrap u32 (Int.tdiv addr 4))) 0,true)))))
def Q1b(m:(List Int))(addr:Int)(size:Int):(Int×Bool):=(Q4z m addr size).m
abbrev Qb4(m:(List Int))(addr:Int)(size:Int):Prop:=(Q4z m addr size).p
def Zc3:Q0b:=mkP 156 [] true [.one (.ints .u32), .one (.int .u32), .one (.int .i64)] [] (fun args rows=>Qb4 (argL .u32 args 0) (argI args 1) (argI args 2)) (fun args rows=>Q1b (argL .u32 args 0) (argI args 1) (argI args 2)) (fun X=> .tup [.int .u32 (X.1), .bool (X.2)]) (fun X=>[])
theorem Ql7:Q04 Tryz.prog Zc3:=Q0k Q0i Q0j (.cons Qia (.nil)) Tryz.func156 Tryz.call156 (fun args rows=>Q4z (argL .u32 args 0) (argI args 1) (argI args 2)) [] [] 2 (fun _ _ _=>by kernel_rfl) (fun _ _=>rfl) (fun _ _ h=>h) (fun _ X=>by kernel_rfl)
def Q9l(w:Int):Tree (Q0g×Bool):=
.lv (Q29 (wrap i64 (ishr u32 w 24))) fun(x0:Int)=>let E5:=({Op:=0,A:=0,B:=0,C:=0,Imm:=0}:Q0g); .br (x0==0) (.lf (E5,false)) (.br (x0==2) (let E3:=({Op:=wrap i64 (ishr u32 w 24),A:=wrap i64 (iand u32 (ishr u32 w 20) 15),B:=wrap i64 (iand u32 (ishr u32 w 16) 15),C:=wrap i64 (iand u32 w 65535),Imm:=0}:Q0g); .lv (Q7z E3) fun(x1:Bool)=> .br (!x1) (.lf (E5,false)) (.lf (E3,true))) (let T1:Tree ((Q0g×Bool)):=let E2:=({Op:=wrap i64 (ishr u32 w 24),A:=wrap i64 (iand u32 (ishr u32 w 20) 15),B:=wrap i64 (iand u32 (ishr u32 w 16) 15),C:=0,Imm:=wrap i32 (wrap i16 (iand u32 w 65535))}:Q0g); .lv (Q7z E2) fun(x2:Bool)=> .br (!x2) (.lf (E5,false)) (.lf (E2,true)); .br (x0==3) T1 (.br (x0==7) T1 (let E4:=({Op:=wrap i64 (ishr u32 w 24),A:=wrap i64 (iand u32 (ishr u32 w 20) 15),B:=wrap i64 (iand u32 (ishr u32 w 16) 15),C:=0,Imm:=wrap i32 (iand u32 w 65535)}:Q0g); .lv (Q7z E4) fun(x4:Bool)=> .br (!x4) (.lf (E5,false)) (.lf (E4,true))))))
def Q28(w:Int):(Q0g×Bool):=(Q9l w).m
def Z3s:Q0b:=mkR 157 [] true [.one (.int .u32)] [] (fun args rows=>Q28 (argI args 0)) (fun X=> .tup [.agg (Q0g.cells (X.1)), .bool (X.2)]) (fun X=>[])
theorem Qnc:Q04 Tryz.prog Z3s:=Q0v Q0i Q0j (.cons Qe1 (.cons Qq7 (.nil))) Tryz.func157 Tryz.call157 (fun args rows=>Q9l (argI args 0)) [] [] 2 (fun _ _ _=>by kernel_rfl) (fun _ _=>rfl) (fun _ _=>Tree.free_ok (by kernel_rfl)) (fun _ X=>by kernel_rfl)
def Qtr(access:Int):Tree Bool:=
.br (decide (access≥1)) (.lf (decide (access≤3))) (.lf false)
def Qc7(access:Int):Bool:=(Qtr access).m
def Z8p:Q0b:=mkR 229 [] true [.one (.int .i64)] [] (fun args rows=>Qc7 (argI args 0)) (fun X=> .bool X) (fun X=>[])
theorem Qpu:Q04 Tryz.prog Z8p:=Q0v Q0i Q0j (.nil) Tryz.func229 Tryz.call229 (fun args rows=>Qtr (argI args 0)) [] [] 2 (fun _ _ _=>by kernel_rfl) (fun _ _=>rfl) (fun _ _=>Tree.free_ok (by kernel_rfl)) (fun _ X=>by kernel_rfl)
def Qtu(c:Q03):Tree Bool:=
.lf (iand u32 c.Csr.a0 (5:Int)==(4:Int))
def Qiq(c:Q03):Bool:=(Qtu c).m
def Z6x:Q0b:=mkR 230 [] true [.agg Q03.sig] [] (fun args rows=>Qiq (Q03.of (args.getD 0 .dead).cells)) (fun X=> .bool X) (fun X=>[])
theorem Z5a:Q04 Tryz.prog Z6x:=Q0v Q0i Q0j (.nil) Tryz.func230 Tryz.call230 (fun args rows=>Qtu (Q03.of (args.getD 0 .dead).cells)) [] [] 2 (fun _ _ _=>by kernel_rfl) (fun _ _=>rfl) (fun _ _=>Tree.free_ok (by kernel_rfl)) (fun _ X=>by kernel_rfl)
def Q7x(access:Int):Tree Int:=
.br (access==1) (.lf 4) (.br (access==3) (.lf 6) (.lf 5))
def Q32(access:Int):Int:=(Q7x access).m
def Z0v:Q0b:=mkR 231 [] true [.one (.int .i64)] [] (fun args rows=>Q32 (argI args 0)) (fun X=> .int .i64 X) (fun X=>[])
theorem Qle:Q04 Tryz.prog Z0v:=Q0v Q0i Q0j (.nil) Tryz.func231 Tryz.call231 (fun args rows=>Q7x (argI args 0)) [] [] 2 (fun _ _ _=>by kernel_rfl) (fun _ _=>rfl) (fun _ _=>Tree.free_ok (by kernel_rfl)) (fun _ X=>by kernel_rfl)
def Q91(m:(List Int))(root:Int)(va:Int)(access:Int):Tree Q10:=
.lv (Q32 access) fun(x0:Int)=> .lv (Q3c m) fun(x1:Int)=> .lv (Qc7 access) fun(x2:Bool)=>let E4:=({Addr:=0,Entry:=0,Cause:=x0}:Q10); .br (!x2) (.lf (E4)) (.br (decide (va≥4096)) (.lf (E4)) (.br (decide (root≥wrap u32 x1)) (.lf (E4)) (let E6:=wrap u32 (root*128)+wrap u32 (4*wrap u32 (Int.tdiv va 128));let E3:=Int.tdiv (wrap u32 E6) 4; .cn (Nat.beq 1 1&&Nat.blt 0 1&&decide (0≤wrap u32 E3∧wrap u32 E3<(↑(List.length m):Int))) (let E5:=List.getD m (Int.toNat (wrap u32 E3)) 0; .br (iand u32 E5 (1:Int)==(0:Int)) (.lf (E4)) (let T1:Tree (Q10):= .br (decide (iand u32 (ishr u32 E5 8) 255≥wrap u32 x1)) (.lf (E4)) (.lf ({Addr:=wrap u32 (wrap u32 (iand u32 (ishr u32 E5 8) (255:Int)*(128:Int))+Int.tmod va 128),Entry:=wrap u32 E6,Cause:=0}));let T2:Tree (Q10):= .br (access==1) (.br (iand u32 E5 (4:Int)==(0:Int)) (.lf (E4)) T1) T1; .br (access==3) (.br (iand u32 E5 (2:Int)==(0:Int)) (.lf (E4)) T2) T2)))))
def Q5s(m:(List Int))(root:Int)(va:Int)(access:Int):Q10:=(Q91 m root va access).m
abbrev Qp(m:(List Int))(root:Int)(va:Int)(access:Int):Prop:=(Q91 m root va access).p
def Zbb:Q0b:=mkP 232 [] true [.one (.ints .u32), .one (.int .u32), .one (.int .u32), .one (.int .i64)] [] (fun args rows=>Qp (argL .u32 args 0) (argI args 1) (argI args 2) (argI args 3)) (fun args rows=>Q5s (argL .u32 args 0) (argI args 1) (argI args 2) (argI args 3)) (fun X=> .agg (Q10.cells X)) (fun X=>[])
theorem Z80:Q04 Tryz.prog Zbb:=Q0k Q0i Q0j (.cons Qle (.cons Qbf (.cons Qpu (.nil)))) Tryz.func232 Tryz.call232 (fun args rows=>Q91 (argL .u32 args 0) (argI args 1) (argI args 2) (argI args 3)) [] [] 2 (fun _ _ _=>by kernel_rfl) (fun _ _=>rfl) (fun _ _ h=>h) (fun _ X=>by kernel_rfl)
def Qc5(m:(List Int))(entry:Int)(access:Int):Tree (List Int):=
.an (Qb9 m entry 4) (.lv (Q25 m entry 4) fun(x0:Bool)=> .br (!x0) (.lf m) (let E3:=Nat.beq 1 1&&Nat.blt 0 1&&decide (0≤wrap u32 (Int.tdiv entry 4)∧wrap u32 (Int.tdiv entry 4)<(↑(List.length m):Int)); .cn E3 (.cn E3 (let E4:=Int.toNat (wrap u32 (Int.tdiv entry 4));let E1:=List.set m E4 (ior u32 (List.getD m E4 0) 8); .br (access==3) (let E2:=Nat.beq 1 1&&Nat.blt 0 1&&decide (0≤wrap u32 (Int.tdiv entry 4)∧wrap u32 (Int.tdiv entry 4)<(↑(List.length E1):Int)); .cn E2 (.cn E2 (.lf (List.set E1 E4 (ior u32 (List.getD E1 E4 0) 16))))) (.lf E1)))))
def Qm3(m:(List Int))(entry:Int)(access:Int):(List Int):=(Qc5 m entry access).m
abbrev Qpk(m:(List Int))(entry:Int)(access:Int):Prop:=(Qc5 m entry access).p
def Zbq:Q0b:=mkP 233 [true,false,false] true [.one (.row 0), .one (.int .u32), .one (.int .i64)] [.arr 27 1 (.ints .u32)] (fun args rows=>Qpk (rowL .u32 rows 0) (argI args 1) (argI args 2)) (fun args rows=>Qm3 (rowL .u32 rows 0) (argI args 1) (argI args 2)) (fun X=> .tup []) (fun X=>[⟨false,27,1, .ints .u32 X⟩])
theorem Za0:Q04 Tryz.prog Zbq:=Q0k Q0i Q0j (.cons Qia (.nil)) Tryz.func233 Tryz.call233 (fun args rows=>Qc5 (rowL .u32 rows 0) (argI args 1) (argI args 2)) [] [] 2 (fun _ _ _=>by kernel_rfl) (fun _ _=>rfl) (fun _ _ h=>h) (fun _ X=>by kernel_rfl)
def Q6x(c:Q03)(m:(List Int))(va:Int)(size:Int)(access:Int):Tree (Int×Int×(List Int)):=
.lv (Qc7 access) fun(x0:Bool)=> .br (!x0) (.lf (0,5,m)) (let T1:Tree ((Int×Int×(List Int))):= .cn (decide (wrap u32 size≠0)) (.br (Int.tmod va (wrap u32 size) !=0) (.lf (0,3,m)) (.lv (Qiq c) fun(x1:Bool)=> .br (!x1) (.an (Qb9 m va size) (.lv (Q25 m va size) fun(x2:Bool)=> .br (!x2) (.lv (Q32 access) fun(x3:Int)=> .lf (0,x3,m)) (.lf (va,0,m)))) (.an (Qp m c.Csr.a6 va access) (.lv (Q5s m c.Csr.a6 va access) fun(x4:Q10)=> .br (x4.Cause !=0) (.lf (0,x4.Cause,m)) (.an (Qpk m x4.Entry access) (.lv (Qm3 m x4.Entry access) fun(x5:List Int)=> .lf (x4.Addr,0,x5))))))); .br (size !=1) (.br (size !=4) (.lf (0,5,m)) T1) T1)
def Q0w(c:Q03)(m:(List Int))(va:Int)(size:Int)(access:Int):(Int×Int×(List Int)):=(Q6x c m va size access).m
abbrev Q7p(c:Q03)(m:(List Int))(va:Int)(size:Int)(access:Int):Prop:=(Q6x c m va size access).p
def Z86:Q0b:=mkP 184 [false,true,false,false,false] true [.agg Q03.sig, .one (.row 0), .one (.int .u32), .one (.int .i64), .one (.int .i64)] [.arr 27 1 (.ints .u32)] (fun args rows=>Q7p (Q03.of (args.getD 0 .dead).cells) (rowL .u32 rows 0) (argI args 2) (argI args 3) (argI args 4)) (fun args rows=>Q0w (Q03.of (args.getD 0 .dead).cells) (rowL .u32 rows 0) (argI args 2) (argI args 3) (argI args 4)) (fun X=> .tup [.int .u32 (X.1), .int .i64 (X.2.1)]) (fun X=>[⟨false,27,1, .ints .u32 (X.2.2)⟩])
theorem Qqf:Q04 Tryz.prog Z86:=Q0k Q0i Q0j (.cons Qpu (.cons Z5a (.cons Qia (.cons Qle (.cons Z80 (.cons Za0 (.nil))))))) Tryz.func184 Tryz.call184 (fun args rows=>Q6x (Q03.of (args.getD 0 .dead).cells) (rowL .u32 rows 0) (argI args 2) (argI args 3) (argI args 4)) [] [] 2 (fun _ _ _=>by kernel_rfl) (fun _ _=>rfl) (fun _ _ h=>h) (fun _ X=>by kernel_rfl)
def Qit(op:Int):Tree Bool:=
.br (decide (op≥57)) (.lf (decide (op≤64))) (.lf false)
def Q4t(op:Int):Bool:=(Qit op).m
def Qrx:Q0b:=mkR 185 [] true [.one (.int .i64)] [] (fun args rows=>Q4t (argI args 0)) (fun X=> .bool X) (fun X=>[])
theorem Qqo:Q04 Tryz.prog Qrx:=Q0v Q0i Q0j (.nil) Tryz.func185 Tryz.call185 (fun args rows=>Qit (argI args 0)) [] [] 2 (fun _ _ _=>by kernel_rfl) (fun _ _=>rfl) (fun _ _=>Tree.free_ok (by kernel_rfl)) (fun _ X=>by kernel_rfl)
def Qbb(c:Q03):Tree Q03:=
.lv (Qaa (iand u32 c.Csr.a0 (8:Int) !=(0:Int))) fun(x0:Int)=> .lv (Qaa (iand u32 c.Csr.a0 (16:Int) !=(0:Int))) fun(x1:Int)=> .lf ({X:=c.X,Pc:=c.Csr.a2,Csr:={a0:=ior u32 (ior u32 (Qey u32 c.Csr.a0 3) (wrap u32 (1*x0))) (wrap u32 (2*x1)),a1:=c.Csr.a1,a2:=c.Csr.a2,a3:=c.Csr.a3,a4:=c.Csr.a4,a5:=c.Csr.a5,a6:=c.Csr.a6,a7:=c.Csr.a7}})
def Qfi(c:Q03):Q03:=(Qbb c).m
def Z4s:Q0b:=mkR 234 [] true [.agg Q03.sig] [] (fun args rows=>Qfi (Q03.of (args.getD 0 .dead).cells)) (fun X=> .agg (Q03.cells X)) (fun X=>[])
theorem Qzy:Q04 Tryz.prog Z4s:=Q0v Q0i Q0j (.cons Qol (.nil)) Tryz.func234 Tryz.call234 (fun args rows=>Qbb (Q03.of (args.getD 0 .dead).cells)) [] [] 2 (fun _ _ _=>by kernel_rfl) (fun _ _=>rfl) (fun _ _=>Tree.free_ok (by kernel_rfl)) (fun _ X=>by kernel_rfl)
def Qcr(c:Q03)(r:Int)(v:Int):Tree Q03:=
.br (decide (r>0)) (.br (decide (r<16)) (.cn (Nat.blt 0 1&&decide (0≤r∧r<(↑16:Int))) (.lf ({X:=A16.of 0 (List.set (A16.l c.X) (Int.toNat r) v),Pc:=c.Pc,Csr:=c.Csr}))) (.lf c)) (.lf c)
def Q1i(c:Q03)(r:Int)(v:Int):Q03:=(Qcr c r v).m
abbrev Q2u(c:Q03)(r:Int)(v:Int):Prop:=(Qcr c r v).p
def Zfn:Q0b:=mkP 139 [] true [.agg Q03.sig, .one (.int .i64), .one (.int .u32)] [] (fun args rows=>Q2u (Q03.of (args.getD 0 .dead).cells) (argI args 1) (argI args 2)) (fun args rows=>Q1i (Q03.of (args.getD 0 .dead).cells) (argI args 1) (argI args 2)) (fun X=> .agg (Q03.cells X)) (fun X=>[])
theorem Qc8:Q04 Tryz.prog Zfn:=Q0k Q0i Q0j (.nil) Tryz.func139 Tryz.call139 (fun args rows=>Qcr (Q03.of (args.getD 0 .dead).cells) (argI args 1) (argI args 2)) [] [] 2 (fun _ _ _=>by kernel_rfl) (fun _ _=>rfl) (fun _ _ h=>h) (fun _ X=>by kernel_rfl)
def Qau(c:Q03)(csr:Int)(v:Int):Tree Q03:=
let E4:=Nat.blt 0 1&&decide (0≤csr∧csr<(↑8:Int));let T2:Tree (Q03):= .cn E4 (.lf ({X:=c.X,Pc:=c.Pc,Csr:=A8.of 0 (List.set (A8.l c.Csr) (Int.toNat csr) (iand u32 v 31))})); .br (csr==0) T2 (.br (csr==7) T2 (.br (csr==6) (.cn E4 (.lf ({X:=c.X,Pc:=c.Pc,Csr:=A8.of 0 (List.set (A8.l c.Csr) (Int.toNat csr) (iand u32 v 255))}))) (let T3:Tree (Q03):= .cn E4 (.lf ({X:=c.X,Pc:=c.Pc,Csr:=A8.of 0 (List.set (A8.l c.Csr) (Int.toNat csr) (Qey u32 v 3))})); .br (csr==1) T3 (.br (csr==2) T3 (let T1:Tree (Q03):= .cn E4 (.lf ({X:=c.X,Pc:=c.Pc,Csr:=A8.of 0 (List.set (A8.l c.Csr) (Int.toNat csr) v)})); .br (csr==3) T1 (.br (csr==4) T1 (.br (csr==5) T1 (.lf c))))))))
def Qfb(c:Q03)(csr:Int)(v:Int):Q03:=(Qau c csr v).m
abbrev Qnf(c:Q03)(csr:Int)(v:Int):Prop:=(Qau c csr v).p
def Z6u:Q0b:=mkP 235 [] true [.agg Q03.sig, .one (.int .i64), .one (.int .u32)] [] (fun args rows=>Qnf (Q03.of (args.getD 0 .dead).cells) (argI args 1) (argI args 2)) (fun args rows=>Qfb (Q03.of (args.getD 0 .dead).cells) (argI args 1) (argI args 2)) (fun X=> .agg (Q03.cells X)) (fun X=>[])
theorem Z45:Q04 Tryz.prog Z6u:=Q0k Q0i Q0j (.nil) Tryz.func235 Tryz.call235 (fun args rows=>Qau (Q03.of (args.getD 0 .dead).cells) (argI args 1) (argI args 2)) [] [] 2 (fun _ _ _=>by kernel_rfl) (fun _ _=>rfl) (fun _ _ h=>h) (fun _ X=>by kernel_rfl)
def Qb2(c:Q03)(i:Q0g):Tree (Q03×Q1):=
.br (i.Op==56) (.lv (Q24 c 7 0) fun(x0:Q03)=> .lf (x0,{Kind:=0,Port:=0,Reg:=0,Value:=0})) (.br (i.Op==57) (.lv (Qfi c) fun(x1:Q03)=> .lf (x1,{Kind:=0,Port:=0,Reg:=0,Value:=0})) (.br (i.Op==58) (.cn (Nat.blt 0 1&&decide (0≤i.Imm∧i.Imm<(↑8:Int))) (let E3:=List.getD (A8.l c.Csr) (Int.toNat i.Imm) 0; .an (Q2u c i.A E3) (.lv (Q1i c i.A E3) fun(x2:Q03)=> .lf ({X:=x2.X,Pc:=wrap u32 (x2.Pc+4),Csr:=x2.Csr},{Kind:=0,Port:=0,Reg:=0,Value:=0})))) (let E2:=Nat.blt 0 1&&decide (0≤i.A∧i.A<(↑16:Int)); .br (i.Op==59) (.cn E2 (let E4:=List.getD (A16.l c.X) (Int.toNat i.A) 0; .an (Qnf c (wrap i64 i.Imm) E4) (.lv (Qfb c (wrap i64 i.Imm) E4) fun(x3:Q03)=> .lf ({X:=x3.X,Pc:=wrap u32 (x3.Pc+4),Csr:=x3.Csr},{Kind:=0,Port:=0,Reg:=0,Value:=0})))) (let E1:=({X:=c.X,Pc:=wrap u32 (c.Pc+4),Csr:=c.Csr}:Q03); .br (i.Op==60) (.lf (E1,{Kind:=1,Port:=wrap i64 i.Imm,Reg:=i.A,Value:=0})) (.br (i.Op==61) (.cn E2 (.lf (E1,{Kind:=2,Port:=wrap i64 i.Imm,Reg:=0,Value:=List.getD (A16.l c.X) (Int.toNat i.A) 0}))) (.br (i.Op==62) (.lf (E1,{Kind:=3,Port:=0,Reg:=0,Value:=0})) (.br (i.Op==63) (.lf (E1,{Kind:=5,Port:=0,Reg:=0,Value:=0})) (.br (i.Op==64) (.lf (E1,{Kind:=4,Port:=0,Reg:=0,Value:=0})) (.lf (E1,{Kind:=0,Port:=0,Reg:=0,Value:=0}))))))))))
def Qja(c:Q03)(i:Q0g):(Q03×Q1):=(Qb2 c i).m
abbrev Qm0(c:Q03)(i:Q0g):Prop:=(Qb2 c i).p
def Z3k:Q0b:=mkP 186 [] true [.agg Q03.sig, .agg Q0g.sig] [] (fun args rows=>Qm0 (Q03.of (args.getD 0 .dead).cells) (Q0g.of (args.getD 1 .dead).cells)) (fun args rows=>Qja (Q03.of (args.getD 0 .dead).cells) (Q0g.of (args.getD 1 .dead).cells)) (fun X=> .tup [.agg (Q03.cells (X.1)), .agg (Q1.cells (X.2))]) (fun X=>[])
theorem Qzv:Q04 Tryz.prog Z3k:=Q0k Q0i Q0j (.cons Qhp (.cons Qzy (.cons Qc8 (.cons Z45 (.nil))))) Tryz.func186 Tryz.call186 (fun args rows=>Qb2 (Q03.of (args.getD 0 .dead).cells) (Q0g.of (args.getD 1 .dead).cells)) [] [] 2 (fun _ _ _=>by kernel_rfl) (fun _ _=>rfl) (fun _ _ h=>h) (fun _ X=>by kernel_rfl)
def Qt(op:Int)(a:Int)(b:Int):Tree Bool:=
.br (op==40) (.lf (a==b)) (.br (op==41) (.lf (a !=b)) (.br (op==42) (.lf (decide (wrap i32 a<wrap i32 b))) (.br (op==43) (.lf (decide (wrap i32 a≥wrap i32 b))) (.br (op==44) (.lf (decide (a<b))) (.lf (decide (a≥b)))))))
def Q20(op:Int)(a:Int)(b:Int):Bool:=(Qt op a b).m
def Z73:Q0b:=mkR 236 [] true [.one (.int .i64), .one (.int .u32), .one (.int .u32)] [] (fun args rows=>Q20 (argI args 0) (argI args 1) (argI args 2)) (fun X=> .bool X) (fun X=>[])
theorem Z5v:Q04 Tryz.prog Z73:=Q0v Q0i Q0j (.nil) Tryz.func236 Tryz.call236 (fun args rows=>Qt (argI args 0) (argI args 1) (argI args 2)) [] [] 2 (fun _ _ _=>by kernel_rfl) (fun _ _=>rfl) (fun _ _=>Tree.free_ok (by kernel_rfl)) (fun _ X=>by kernel_rfl)
def Qgv(c:Q03)(i:Q0g):Tree Q03:=
.br (i.Op==48) (.an (Q2u c i.A (wrap u32 (c.Pc+4))) (.lv (Q1i c i.A (wrap u32 (c.Pc+4))) fun(x0:Q03)=> .lf ({X:=x0.X,Pc:=wrap u32 (c.Pc+wrap u32 (4*wrap u32 i.Imm)),Csr:=x0.Csr}))) (let E1:=Nat.blt 0 1&&decide (0≤i.B∧i.B<(↑16:Int)); .br (i.Op==49) (.cn E1 (.an (Q2u c i.A (wrap u32 (c.Pc+4))) (.lv (Q1i c i.A (wrap u32 (c.Pc+4))) fun(x1:Q03)=> .lf ({X:=x1.X,Pc:=wrap u32 (List.getD (A16.l c.X) (Int.toNat i.B) 0+wrap u32 i.Imm),Csr:=x1.Csr})))) (.cn (Nat.blt 0 1&&decide (0≤i.A∧i.A<(↑16:Int))) (.cn E1 (.lv (Q20 i.Op (List.getD (A16.l c.X) (Int.toNat i.A) 0) (List.getD (A16.l c.X) (Int.toNat i.B) 0)) fun(x2:Bool)=> .br x2 (.lf ({X:=c.X,Pc:=wrap u32 (c.Pc+wrap u32 (4*wrap u32 i.Imm)),Csr:=c.Csr})) (.lf ({X:=c.X,Pc:=wrap u32 (c.Pc+4),Csr:=c.Csr}))))))
def Qyl(c:Q03)(i:Q0g):Q03:=(Qgv c i).m
abbrev Qp3(c:Q03)(i:Q0g):Prop:=(Qgv c i).p
def Zbn:Q0b:=mkP 187 [] true [.agg Q03.sig, .agg Q0g.sig] [] (fun args rows=>Qp3 (Q03.of (args.getD 0 .dead).cells) (Q0g.of (args.getD 1 .dead).cells)) (fun args rows=>Qyl (Q03.of (args.getD 0 .dead).cells) (Q0g.of (args.getD 1 .dead).cells)) (fun X=> .agg (Q03.cells X)) (fun X=>[])
theorem Z9:Q04 Tryz.prog Zbn:=Q0k Q0i Q0j (.cons Qc8 (.cons Z5v (.nil))) Tryz.func187 Tryz.call187 (fun args rows=>Qgv (Q03.of (args.getD 0 .dead).cells) (Q0g.of (args.getD 1 .dead).cells)) [] [] 2 (fun _ _ _=>by kernel_rfl) (fun _ _=>rfl) (fun _ _ h=>h) (fun _ X=>by kernel_rfl)
def Q6o(x:Int)(n:Int):Tree Int:=
.br (decide (n<1)) (.lf 0) (.br (decide (n≥32)) (.lf x) (.cn (decide (0≤wrap u64 n)) (.cn (decide (0≤wrap u64 (wrap i64 (n-1)))) (let E1:=iand u32 x (wrap u32 (ishl u32 1 (wrap u64 n)-1)); .br (ishr u32 E1 (wrap u64 (wrap i64 (n-1)))==1) (.cn (decide (0≤wrap u64 n)) (.lf (ior u32 E1 (ishl u32 4294967295 (wrap u64 n))))) (.lf E1)))))
def Q2x(x:Int)(n:Int):Int:=(Q6o x n).m
abbrev Qag(x:Int)(n:Int):Prop:=(Q6o x n).p
def Qrl:Q0b:=mkP 238 [] true [.one (.int .u32), .one (.int .i64)] [] (fun args rows=>Qag (argI args 0) (argI args 1)) (fun args rows=>Q2x (argI args 0) (argI args 1)) (fun X=> .int .u32 X) (fun X=>[])
theorem Qq8:Q04 Tryz.prog Qrl:=Q0k Q0i Q0j (.nil) Tryz.func238 Tryz.call238 (fun args rows=>Q6o (argI args 0) (argI args 1)) [] [] 2 (fun _ _ _=>by kernel_rfl) (fun _ _=>rfl) (fun _ _ h=>h) (fun _ X=>by kernel_rfl)
def Q8m(c:Q03)(m:(List Int))(i:Q0g):Tree (Q03×(List Int)):=
.cn (Nat.blt 0 1&&decide (0≤i.B∧i.B<(↑16:Int))) (let E4:=wrap u32 (List.getD (A16.l c.X) (Int.toNat i.B) 0+wrap u32 i.Imm);let E5:=List.getD (A16.l c.X) (Int.toNat i.A) 0;let E6:=Nat.blt 0 1&&decide (0≤i.A∧i.A<(↑16:Int));let E7:=({X:=c.X,Pc:=wrap u32 (c.Pc+4),Csr:=c.Csr}:Q03);let T1:Tree ((Q03×(List Int))):=let T3:Tree ((Q03×(List Int))):= .an (Q7p c m E4 4 3) (.lv (Q0w c m E4 4 3) fun(x0:Int×Int×List Int)=> .br (x0.snd.fst !=0) (.lv (Q24 c x0.snd.fst E4) fun(x1:Q03)=> .lf (x1,x0.snd.snd)) (.cn E6 (.an (Qdp x0.snd.snd x0.fst 4 E5) (.lv (Q9m x0.snd.snd x0.fst 4 E5) fun(x2:List Int)=> .lf (E7,x2))))); .br (i.Op==35) T3 (.br (i.Op==36) T3 (.an (Q7p c m E4 4 2) (.lv (Q0w c m E4 4 2) fun(x6:Int×Int×List Int)=> .br (x6.snd.fst !=0) (.lv (Q24 c x6.snd.fst E4) fun(x7:Q03)=> .lf (x7,x6.snd.snd)) (.an (Qb4 x6.snd.snd x6.fst 4) (.lv (Q1b x6.snd.snd x6.fst 4) fun(x8:Int×Bool)=> .br (i.Op==33) (.an (Qag x8.fst 8) (.lv (Q2x x8.fst 8) fun(x9:Int)=> .an (Q2u c i.A x9) (.lv (Q1i c i.A x9) fun(x10:Q03)=> .lf ({X:=x10.X,Pc:=wrap u32 (x10.Pc+4),Csr:=x10.Csr},x6.snd.snd)))) (.an (Q2u c i.A x8.fst) (.lv (Q1i c i.A x8.fst) fun(x11:Q03)=> .lf ({X:=x11.X,Pc:=wrap u32 (x11.Pc+4),Csr:=x11.Csr},x6.snd.snd)))))))); .br (i.Op==32) T1 (.br (i.Op==35) T1 (let T2:Tree ((Q03×(List Int))):= .an (Q7p c m E4 1 3) (.lv (Q0w c m E4 1 3) fun(x24:Int×Int×List Int)=> .br (x24.snd.fst !=0) (.lv (Q24 c x24.snd.fst E4) fun(x25:Q03)=> .lf (x25,x24.snd.snd)) (.cn E6 (.an (Qdp x24.snd.snd x24.fst 1 E5) (.lv (Q9m x24.snd.snd x24.fst 1 E5) fun(x26:List Int)=> .lf (E7,x26))))); .br (i.Op==35) T2 (.br (i.Op==36) T2 (.an (Q7p c m E4 1 2) (.lv (Q0w c m E4 1 2) fun(x30:Int×Int×List Int)=> .br (x30.snd.fst !=0) (.lv (Q24 c x30.snd.fst E4) fun(x31:Q03)=> .lf (x31,x30.snd.snd)) (.an (Qb4 x30.snd.snd x30.fst 1) (.lv (Q1b x30.snd.snd x30.fst 1) fun(x32:Int×Bool)=> .br (i.Op==33) (.an (Qag x32.fst 8) (.lv (Q2x x32.fst 8) fun(x33:Int)=> .an (Q2u c i.A x33) (.lv (Q1i c i.A x33) fun(x34:Q03)=> .lf ({X:=x34.X,Pc:=wrap u32 (x34.Pc+4),Csr:=x34.Csr},x30.snd.snd)))) (.an (Q2u c i.A x32.fst) (.lv (Q1i c i.A x32.fst) fun(x35:Q03)=> .lf ({X:=x35.X,Pc:=wrap u32 (x35.Pc+4),Csr:=x35.Csr},x30.snd.snd)))))))))))
def Q49(c:Q03)(m:(List Int))(i:Q0g):(Q03×(List Int)):=(Q8m c m i).m
abbrev Qj3(c:Q03)(m:(List Int))(i:Q0g):Prop:=(Q8m c m i).p
def Qxz:Q0b:=mkP 188 [false,true,false] true [.agg Q03.sig, .one (.row 0), .agg Q0g.sig] [.arr 27 1 (.ints .u32)] (fun args rows=>Qj3 (Q03.of (args.getD 0 .dead).cells) (rowL .u32 rows 0) (Q0g.of (args.getD 2 .dead).cells)) (fun args rows=>Q49 (Q03.of (args.getD 0 .dead).cells) (rowL .u32 rows 0) (Q0g.of (args.getD 2 .dead).cells)) (fun X=> .agg (Q03.cells (X.1))) (fun X=>[⟨false,27,1, .ints .u32 (X.2)⟩])
theorem Quh:Q04 Tryz.prog Qxz:=Q0k Q0i Q0j (.cons Qqf (.cons Qhp (.cons Qw6 (.cons Ql7 (.cons Qq8 (.cons Qc8 (.nil))))))) Tryz.func188 Tryz.call188 (fun args rows=>Q8m (Q03.of (args.getD 0 .dead).cells) (rowL .u32 rows 0) (Q0g.of (args.getD 2 .dead).cells)) [] [] 2 (fun _ _ _=>by kernel_rfl) (fun _ _=>rfl) (fun _ _ h=>h) (fun _ X=>by kernel_rfl)
def Qsx(op:Int):Tree Int:=
.br (op==16) (.lf 1) (.br (op==17) (.lf 3) (.br (op==18) (.lf 4) (.br (op==19) (.lf 5) (.br (op==20) (.lf 6) (.br (op==21) (.lf 7) (.br (op==22) (.lf 8) (.br (op==23) (.lf 12) (.lf op))))))))
def Z1w(op:Int):Int:=(Qsx op).m
def Z7h:Q0b:=mkR 239 [] true [.one (.int .i64)] [] (fun args rows=>Z1w (argI args 0)) (fun X=> .int .i64 X) (fun X=>[])
theorem Z3a:Q04 Tryz.prog Z7h:=Q0v Q0i Q0j (.nil) Tryz.func239 Tryz.call239 (fun args rows=>Qsx (argI args 0)) [] [] 2 (fun _ _ _=>by kernel_rfl) (fun _ _=>rfl) (fun _ _=>Tree.free_ok (by kernel_rfl)) (fun _ X=>by kernel_rfl)
def Q9o(a:Int)(b:Int):Tree (Int×Int):=
.br (b==0) (.lf (4294967295,a)) (.cn (decide (wrap i64 (wrap i32 b)≠0)) (.cn (decide (wrap i64 (wrap i32 b)≠0)) (.lf (wrap u32 (wrap i64 (Int.tdiv (wrap i64 (wrap i32 a)) (wrap i64 (wrap i32 b)))),wrap u32 (Int.tmod (wrap i64 (wrap i32 a)) (wrap i64 (wrap i32 b)))))))
def Qam(a:Int)(b:Int):(Int×Int):=(Q9o a b).m
abbrev Qgr(a:Int)(b:Int):Prop:=(Q9o a b).p
def Z5e:Q0b:=mkP 240 [] true [.one (.int .u32), .one (.int .u32)] [] (fun args rows=>Qgr (argI args 0) (argI args 1)) (fun args rows=>Qam (argI args 0) (argI args 1)) (fun X=> .tup [.int .u32 (X.1), .int .u32 (X.2)]) (fun X=>[])
theorem Qzf:Q04 Tryz.prog Z5e:=Q0k Q0i Q0j (.nil) Tryz.func240 Tryz.call240 (fun args rows=>Q9o (argI args 0) (argI args 1)) [] [] 2 (fun _ _ _=>by kernel_rfl) (fun _ _=>rfl) (fun _ _ h=>h) (fun _ X=>by kernel_rfl)
def Qii(op:Int)(a:Int)(b:Int):Tree (Int×Bool):=
.lv (Z1w op) fun(x0:Int)=> .br (x0==1) (.lf (wrap u32 (a+b),true)) (.br (x0==2) (.lf (wrap u32 (a-b),true)) (.br (x0==3) (.lf (iand u32 a b,true)) (.br (x0==4) (.lf (ior u32 a b,true)) (.br (x0==5) (.lf (ixor u32 a b,true)) (.br (x0==6) (.lf (ishl u32 a (iand u32 b 31),true)) (.br (x0==7) (.lf (ishr u32 a (iand u32 b 31),true)) (.br (x0==8) (.lf (wrap u32 (ishr i32 (wrap i32 a) (iand u32 b 31)),true)) (.br (x0==9) (.lf (wrap u32 (a*b),true)) (.br (x0==10) (.an (Qgr a b) (.lv (Qam a b) fun(x1:Int×Int)=> .lf (x1.fst,true))) (.br (x0==11) (.an (Qgr a b) (.lv (Qam a b) fun(x2:Int×Int)=> .lf (x2.snd,true))) (.br (x0==12) (.lv (Qaa (decide (wrap i32 a<wrap i32 b))) fun(x3:Int)=> .lf (x3,true)) (.br (x0==13) (.lv (Qaa (decide (a<b))) fun(x4:Int)=> .lf (x4,true)) (.lf (0,false))))))))))))))
def Qbl(op:Int)(a:Int)(b:Int):(Int×Bool):=(Qii op a b).m
abbrev Qla(op:Int)(a:Int)(b:Int):Prop:=(Qii op a b).p
def Zf0:Q0b:=mkP 189 [] true [.one (.int .i64), .one (.int .u32), .one (.int .u32)] [] (fun args rows=>Qla (argI args 0) (argI args 1) (argI args 2)) (fun args rows=>Qbl (argI args 0) (argI args 1) (argI args 2)) (fun X=> .tup [.int .u32 (X.1), .bool (X.2)]) (fun X=>[])
theorem Zag:Q04 Tryz.prog Zf0:=Q0k Q0i Q0j (.cons Z3a (.cons Qzf (.cons Qol (.nil)))) Tryz.func189 Tryz.call189 (fun args rows=>Qii (argI args 0) (argI args 1) (argI args 2)) [] [] 2 (fun _ _ _=>by kernel_rfl) (fun _ _=>rfl) (fun _ _ h=>h) (fun _ X=>by kernel_rfl)
def Ql8(c:Q03)(m:(List Int)):Tree (Q03×Q1×(List Int)):=
.an (Q7p c m c.Pc 4 1) (.lv (Q0w c m c.Pc 4 1) fun(x0:Int×Int×List Int)=> .br (x0.snd.fst !=0) (.lv (Q24 c x0.snd.fst c.Pc) fun(x1:Q03)=> .lf (x1,{Kind:=0,Port:=0,Reg:=0,Value:=0},x0.snd.snd)) (.an (Qb4 x0.snd.snd x0.fst 4) (.lv (Q1b x0.snd.snd x0.fst 4) fun(x2:Int×Bool)=> .lv (Q28 x2.fst) fun(x3:Q0g×Bool)=> .br (!x3.snd) (.lv (Q24 c 1 x2.fst) fun(x4:Q03)=> .lf (x4,{Kind:=0,Port:=0,Reg:=0,Value:=0},x0.snd.snd)) (.lv (Q4t x3.fst.Op) fun(x5:Bool)=>let T1:Tree ((Q03×Q1×(List Int))):= .br (decide (x3.fst.Op≥56)) (.an (Qm0 c x3.fst) (.lv (Qja c x3.fst) fun(x7:Q03×Q1)=> .lf (x7.fst,x7.snd,x0.snd.snd))) (.br (decide (x3.fst.Op≥40)) (.an (Qp3 c x3.fst) (.lv (Qyl c x3.fst) fun(x8:Q03)=> .lf (x8,{Kind:=0,Port:=0,Reg:=0,Value:=0},x0.snd.snd))) (.br (decide (x3.fst.Op≥32)) (.an (Qj3 c x0.snd.snd x3.fst) (.lv (Q49 c x0.snd.snd x3.fst) fun(x9:Q03×List Int)=> .lf (x9.fst,{Kind:=0,Port:=0,Reg:=0,Value:=0},x9.snd))) (.br (x3.fst.Op==24) (.an (Q2u c x3.fst.A (ishl u32 (wrap u32 x3.fst.Imm) 16)) (.lv (Q1i c x3.fst.A (ishl u32 (wrap u32 x3.fst.Imm) 16)) fun(x10:Q03)=> .lf ({X:=x10.X,Pc:=wrap u32 (x10.Pc+4),Csr:=x10.Csr},{Kind:=0,Port:=0,Reg:=0,Value:=0},x0.snd.snd))) (let E2:=List.getD (A16.l c.X) (Int.toNat x3.fst.B) 0;let E3:=Nat.blt 0 1&&decide (0≤x3.fst.B∧x3.fst.B<(↑16:Int)); .br (decide (x3.fst.Op≤13)) (.cn (Nat.blt 0 1&&decide (0≤x3.fst.C∧x3.fst.C<(↑16:Int))) (.cn E3 (let E4:=List.getD (A16.l c.X) (Int.toNat x3.fst.C) 0; .an (Qla x3.fst.Op E2 E4) (.lv (Qbl x3.fst.Op E2 E4) fun(x11:Int×Bool)=> .an (Q2u c x3.fst.A x11.fst) (.lv (Q1i c x3.fst.A x11.fst) fun(x12:Q03)=> .lf ({X:=x12.X,Pc:=wrap u32 (x12.Pc+4),Csr:=x12.Csr},{Kind:=0,Port:=0,Reg:=0,Value:=0},x0.snd.snd)))))) (.cn E3 (.an (Qla x3.fst.Op E2 (wrap u32 x3.fst.Imm)) (.lv (Qbl x3.fst.Op E2 (wrap u32 x3.fst.Imm)) fun(x13:Int×Bool)=> .an (Q2u c x3.fst.A x13.fst) (.lv (Q1i c x3.fst.A x13.fst) fun(x14:Q03)=> .lf ({X:=x14.X,Pc:=wrap u32 (x14.Pc+4),Csr:=x14.Csr},{Kind:=0,Port:=0,Reg:=0,Value:=0},x0.snd.snd))))))))); .br x5 (.br (iand u32 c.Csr.a0 (1:Int)==(0:Int)) (.lv (Q24 c 2 x2.fst) fun(x6:Q03)=> .lf (x6,{Kind:=0,Port:=0,Reg:=0,Value:=0},x0.snd.snd)) T1) T1))))
def Q2w(c:Q03)(m:(List Int)):(Q03×Q1×(List Int)):=(Ql8 c m).m
abbrev Qoa(c:Q03)(m:(List Int)):Prop:=(Ql8 c m).p
def ref1_Do_m:Q0b:=mkP 137 [false,true] true [.agg Q03.sig, .one (.row 0)] [.arr 27 1 (.ints .u32)] (fun args rows=>Qoa (Q03.of (args.getD 0 .dead).cells) (rowL .u32 rows 0)) (fun args rows=>Q2w (Q03.of (args.getD 0 .dead).cells) (rowL .u32 rows 0)) (fun X=> .tup [.agg (Q03.cells (X.1)), .agg (Q1.cells (X.2.1))]) (fun X=>[⟨false,27,1, .ints .u32 (X.2.2)⟩])
theorem Z1y:Q04 Tryz.prog ref1_Do_m:=Q0k Q0i Q0j (.cons Qqf (.cons Qhp (.cons Ql7 (.cons Qnc (.cons Qqo (.cons Qzv (.cons Z9 (.cons Quh (.cons Qc8 (.cons Zag (.nil))))))))))) Tryz.func137 Tryz.call137 (fun args rows=>Ql8 (Q03.of (args.getD 0 .dead).cells) (rowL .u32 rows 0)) [] [] 2 (fun _ _ _=>by kernel_rfl) (fun _ _=>rfl) (fun _ _ h=>h) (fun _ X=>by kernel_rfl)
end
end Go.Proofs.YtdkiadhigcfmkaaGreat

/-
  Functions of the program: models, and that its calls come to them (by a program: gen3.py).
-/
import Derived.Test.YtdkiadhigcfmkaaGreatMachineStepsBase
import Derived.Test.YtdkiadhigcfmkaaGreatMachineStepsZa
import Derived.Test.YtdkiadhigcfmkaaGreatMachineStepsYe
namespace Go.Proofs.YtdkiadhigcfmkaaGreat
open Go Go.GD Go.IntKind
set_option linter.unusedVariables false
set_option linter.unusedSimpArgs false
set_option maxRecDepth 100000
noncomputable section
def Z1h(b:Bool):Tree Int:=
.br b (.lf 1) (.lf 0)
def Q9k(b:Bool):Int:=(Z1h b).m
def Zfr:Q0a:=mkR 228 [] true [.one (.bool)] [] (fun args rows=>Q9k (argB args 0)) (fun X=> .int .u32 X) (fun X=>[])
theorem Qnq:Q03 Tryz.prog Zfr:=Q0t Q0g Q0h (.nil) Tryz.func228 Tryz.call228 (fun args rows=>Z1h (argB args 0)) [] [] 2 (fun _ _ _=>by kernel_rfl) (fun _ _=>rfl) (fun _ _=>Tree.free_ok (by kernel_rfl)) (fun _ X=>by kernel_rfl)
def Qg1(c:Q02)(cause:Int)(bad:Int):Tree Q02:=
.lv (Q9k (iand u32 c.Csr.a0 (1:Int) !=(0:Int))) fun(x0:Int)=> .lv (Q9k (iand u32 c.Csr.a0 (2:Int) !=(0:Int))) fun(x1:Int)=> .lf ({X:=c.X,Pc:=c.Csr.a1,Csr:={a0:=ior u32 (Qgh u32 (ior u32 (ior u32 (Qgh u32 c.Csr.a0 24) (wrap u32 (8*x0))) (wrap u32 (16*x1))) 2) 1,a1:=c.Csr.a1,a2:=c.Pc,a3:=wrap u32 cause,a4:=bad,a5:=c.Csr.a5,a6:=c.Csr.a6,a7:=c.Csr.a7}})
def Q20(c:Q02)(cause:Int)(bad:Int):Q02:=(Qg1 c cause bad).m
def Z9s:Q0a:=mkR 183 [] true [.agg Q02.sig, .one (.int .i64), .one (.int .u32)] [] (fun args rows=>Q20 (Q02.of (args.getD 0 .dead).cells) (argI args 1) (argI args 2)) (fun X=> .agg (Q02.cells X)) (fun X=>[])
theorem Qh0:Q03 Tryz.prog Z9s:=Q0t Q0g Q0h (.cons Qnq (.nil)) Tryz.func183 Tryz.call183 (fun args rows=>Qg1 (Q02.of (args.getD 0 .dead).cells) (argI args 1) (argI args 2)) [] [] 2 (fun _ _ _=>by kernel_rfl) (fun _ _=>rfl) (fun _ _=>Tree.free_ok (by kernel_rfl)) (fun _ X=>by kernel_rfl)
def Q6b(m:(List Int))(addr:Int)(size:Int):Tree Bool:=
let T1:Tree (Bool):= .cn (decide (wrap u32 size≠0)) (.br (Int.tmod addr (wrap u32 size)==0) (.lv (Q2p m) fun(x0:Int)=> .lf (decide (addr<wrap u32 (wrap i64 (128*x0))))) (.lf false)); .br (size !=1) (.br (size !=4) (.lf false) T1) T1
def Q2(m:(List Int))(addr:Int)(size:Int):Bool:=(Q6b m addr size).m
abbrev Qa9(m:(List Int))(addr:Int)(size:Int):Prop:=(Q6b m addr size).p
def Z42:Q0a:=mkP 206 [] true [.one (.ints .u32), .one (.int .u32), .one (.int .i64)] [] (fun args rows=>Qa9 (argL .u32 args 0) (argI args 1) (argI args 2)) (fun args rows=>Q2 (argL .u32 args 0) (argI args 1) (argI args 2)) (fun X=> .bool X) (fun X=>[])
theorem Qhh:Q03 Tryz.prog Z42:=Q0j Q0g Q0h (.cons Qay (.nil)) Tryz.func206 Tryz.call206 (fun args rows=>Q6b (argL .u32 args 0) (argI args 1) (argI args 2)) [] [] 2 (fun _ _ _=>by kernel_rfl) (fun _ _=>rfl) (fun _ _ h=>h) (fun _ X=>by kernel_rfl)
def Q5j(m:(List Int))(addr:Int)(size:Int):Tree (Int×Bool):=
.an (Qa9 m addr size) (.lv (Q2 m addr size) fun(x0:Bool)=> .br (!x0) (.lf (0,false)) (.cn (Nat.beq 1 1&&Nat.blt 0 1&&decide (0≤wrap u32 (Int.tdiv addr 4)∧wrap u32 (Int.tdiv addr 4)<(↑(List.length m):Int))) (.br (size==1) (.cn (decide (0≤wrap u32 (8*Int.tmod addr 4))) (.lf (iand u32 (ishr u32 (List.getD m (Int.toNat (wrap u32 (Int.tdiv addr 4))) 0) (wrap u32 (8*Int.tmod addr 4))) 255,true))) (.lf (List.getD m (Int.toNat (wrap u32 (Int.tdiv addr 4))) 0,true)))))
def Q1r(m:(List Int))(addr:Int)(size:Int):(Int×Bool):=(Q5j m addr size).m
abbrev Qa8(m:(List Int))(addr:Int)(size:Int):Prop:=(Q5j m addr size).p
def Zb1:Q0a:=mkP 156 [] true [.one (.ints .u32), .one (.int .u32), .one (.int .i64)] [] (fun args rows=>Qa8 (argL .u32 args 0) (argI args 1) (argI args 2)) (fun args rows=>Q1r (argL .u32 args 0) (argI args 1) (argI args 2)) (fun X=> .tup [.int .u32 (X.1), .bool (X.2)]) (fun X=>[])
theorem Qlj:Q03 Tryz.prog Zb1:=Q0j Q0g Q0h (.cons Qhh (.nil)) Tryz.func156 Tryz.call156 (fun args rows=>Q5j (argL .u32 args 0) (argI args 1) (argI args 2)) [] [] 2 (fun _ _ _=>by kernel_rfl) (fun _ _=>rfl) (fun _ _ h=>h) (fun _ X=>by kernel_rfl)
def Q8q(w:Int):Tree (Q0f×Bool):=
.lv (Q1q (wrap i64 (ishr u32 w 24))) fun(x0:Int)=>let E5:=({Op:=0,A:=0,B:=0,C:=0,Imm:=0}:Q0f); .br (x0==0) (.lf (E5,false)) (.br (x0==2) (let E3:=({Op:=wrap i64 (ishr u32 w 24),A:=wrap i64 (iand u32 (ishr u32 w 20) 15),B:=wrap i64 (iand u32 (ishr u32 w 16) 15),C:=wrap i64 (iand u32 w 65535),Imm:=0}:Q0f); .lv (Q72 E3) fun(x1:Bool)=> .br (!x1) (.lf (E5,false)) (.lf (E3,true))) (let T1:Tree ((Q0f×Bool)):=let E2:=({Op:=wrap i64 (ishr u32 w 24),A:=wrap i64 (iand u32 (ishr u32 w 20) 15),B:=wrap i64 (iand u32 (ishr u32 w 16) 15),C:=0,Imm:=wrap i32 (wrap i16 (iand u32 w 65535))}:Q0f); .lv (Q72 E2) fun(x2:Bool)=> .br (!x2) (.lf (E5,false)) (.lf (E2,true)); .br (x0==3) T1 (.br (x0==7) T1 (let E4:=({Op:=wrap i64 (ishr u32 w 24),A:=wrap i64 (iand u32 (ishr u32 w 20) 15),B:=wrap i64 (iand u32 (ishr u32 w 16) 15),C:=0,Imm:=wrap i32 (iand u32 w 65535)}:Q0f); .lv (Q72 E4) fun(x4:Bool)=> .br (!x4) (.lf (E5,false)) (.lf (E4,true))))))
def Q2t(w:Int):(Q0f×Bool):=(Q8q w).m
def Z3s:Q0a:=mkR 157 [] true [.one (.int .u32)] [] (fun args rows=>Q2t (argI args 0)) (fun X=> .tup [.agg (Q0f.cells (X.1)), .bool (X.2)]) (fun X=>[])
theorem Qmp:Q03 Tryz.prog Z3s:=Q0t Q0g Q0h (.cons Qcs (.cons Qot (.nil))) Tryz.func157 Tryz.call157 (fun args rows=>Q8q (argI args 0)) [] [] 2 (fun _ _ _=>by kernel_rfl) (fun _ _=>rfl) (fun _ _=>Tree.free_ok (by kernel_rfl)) (fun _ X=>by kernel_rfl)
def Qso(access:Int):Tree Bool:=
.br (decide (access≥1)) (.lf (decide (access≤3))) (.lf false)
def Qei(access:Int):Bool:=(Qso access).m
def Z9c:Q0a:=mkR 229 [] true [.one (.int .i64)] [] (fun args rows=>Qei (argI args 0)) (fun X=> .bool X) (fun X=>[])
theorem Qph:Q03 Tryz.prog Z9c:=Q0t Q0g Q0h (.nil) Tryz.func229 Tryz.call229 (fun args rows=>Qso (argI args 0)) [] [] 2 (fun _ _ _=>by kernel_rfl) (fun _ _=>rfl) (fun _ _=>Tree.free_ok (by kernel_rfl)) (fun _ X=>by kernel_rfl)
def Qta(c:Q02):Tree Bool:=
.lf (iand u32 c.Csr.a0 (5:Int)==(4:Int))
def Qm6(c:Q02):Bool:=(Qta c).m
def Z6u:Q0a:=mkR 230 [] true [.agg Q02.sig] [] (fun args rows=>Qm6 (Q02.of (args.getD 0 .dead).cells)) (fun X=> .bool X) (fun X=>[])
theorem Z4q:Q03 Tryz.prog Z6u:=Q0t Q0g Q0h (.nil) Tryz.func230 Tryz.call230 (fun args rows=>Qta (Q02.of (args.getD 0 .dead).cells)) [] [] 2 (fun _ _ _=>by kernel_rfl) (fun _ _=>rfl) (fun _ _=>Tree.free_ok (by kernel_rfl)) (fun _ X=>by kernel_rfl)
def Q79(access:Int):Tree Int:=
.br (access==1) (.lf 4) (.br (access==3) (.lf 6) (.lf 5))
def Q2m(access:Int):Int:=(Q79 access).m
def Qzz:Q0a:=mkR 231 [] true [.one (.int .i64)] [] (fun args rows=>Q2m (argI args 0)) (fun X=> .int .i64 X) (fun X=>[])
theorem Qkz:Q03 Tryz.prog Qzz:=Q0t Q0g Q0h (.nil) Tryz.func231 Tryz.call231 (fun args rows=>Q79 (argI args 0)) [] [] 2 (fun _ _ _=>by kernel_rfl) (fun _ _=>rfl) (fun _ _=>Tree.free_ok (by kernel_rfl)) (fun _ X=>by kernel_rfl)
def Q8a(m:(List Int))(root:Int)(va:Int)(access:Int):Tree Q0w:=
.lv (Q2m access) fun(x0:Int)=> .lv (Q2p m) fun(x1:Int)=> .lv (Qei access) fun(x2:Bool)=>let E4:=({Addr:=0,Entry:=0,Cause:=x0}:Q0w); .br (!x2) (.lf (E4)) (.br (decide (va≥4096)) (.lf (E4)) (.br (decide (root≥wrap u32 x1)) (.lf (E4)) (let E6:=wrap u32 (root*128)+wrap u32 (4*wrap u32 (Int.tdiv va 128));let E3:=Int.tdiv (wrap u32 E6) 4; .cn (Nat.beq 1 1&&Nat.blt 0 1&&decide (0≤wrap u32 E3∧wrap u32 E3<(↑(List.length m):Int))) (let E5:=List.getD m (Int.toNat (wrap u32 E3)) 0; .br (iand u32 E5 (1:Int)==(0:Int)) (.lf (E4)) (let T1:Tree (Q0w):= .br (decide (iand u32 (ishr u32 E5 8) 255≥wrap u32 x1)) (.lf (E4)) (.lf ({Addr:=wrap u32 (wrap u32 (iand u32 (ishr u32 E5 8) (255:Int)*(128:Int))+Int.tmod va 128),Entry:=wrap u32 E6,Cause:=0}));let T2:Tree (Q0w):= .br (access==1) (.br (iand u32 E5 (4:Int)==(0:Int)) (.lf (E4)) T1) T1; .br (access==3) (.br (iand u32 E5 (2:Int)==(0:Int)) (.lf (E4)) T2) T2)))))
def Q53(m:(List Int))(root:Int)(va:Int)(access:Int):Q0w:=(Q8a m root va access).m
abbrev Qon(m:(List Int))(root:Int)(va:Int)(access:Int):Prop:=(Q8a m root va access).p
def Zb2:Q0a:=mkP 232 [] true [.one (.ints .u32), .one (.int .u32), .one (.int .u32), .one (.int .i64)] [] (fun args rows=>Qon (argL .u32 args 0) (argI args 1) (argI args 2) (argI args 3)) (fun args rows=>Q53 (argL .u32 args 0) (argI args 1) (argI args 2) (argI args 3)) (fun X=> .agg (Q0w.cells X)) (fun X=>[])
theorem Z5t:Q03 Tryz.prog Zb2:=Q0j Q0g Q0h (.cons Qkz (.cons Qay (.cons Qph (.nil)))) Tryz.func232 Tryz.call232 (fun args rows=>Q8a (argL .u32 args 0) (argI args 1) (argI args 2) (argI args 3)) [] [] 2 (fun _ _ _=>by kernel_rfl) (fun _ _=>rfl) (fun _ _ h=>h) (fun _ X=>by kernel_rfl)
def Qbe(m:(List Int))(entry:Int)(access:Int):Tree (List Int):=
.an (Qa9 m entry 4) (.lv (Q2 m entry 4) fun(x0:Bool)=> .br (!x0) (.lf m) (let E3:=Nat.beq 1 1&&Nat.blt 0 1&&decide (0≤wrap u32 (Int.tdiv entry 4)∧wrap u32 (Int.tdiv entry 4)<(↑(List.length m):Int)); .cn E3 (.cn E3 (let E4:=Int.toNat (wrap u32 (Int.tdiv entry 4));let E1:=List.set m E4 (ior u32 (List.getD m E4 0) 8); .br (access==3) (let E2:=Nat.beq 1 1&&Nat.blt 0 1&&decide (0≤wrap u32 (Int.tdiv entry 4)∧wrap u32 (Int.tdiv entry 4)<(↑(List.length E1):Int)); .cn E2 (.cn E2 (.lf (List.set E1 E4 (ior u32 (List.getD E1 E4 0) 16))))) (.lf E1)))))
def Qkx(m:(List Int))(entry:Int)(access:Int):(List Int):=(Qbe m entry access).m
abbrev Qoj(m:(List Int))(entry:Int)(access:Int):Prop:=(Qbe m entry access).p
def Zbq:Q0a:=mkP 233 [true,false,false] true [.one (.row 0), .one (.int .u32), .one (.int .i64)] [.arr 27 1 (.ints .u32)] (fun args rows=>Qoj (rowL .u32 rows 0) (argI args 1) (argI args 2)) (fun args rows=>Qkx (rowL .u32 rows 0) (argI args 1) (argI args 2)) (fun X=> .tup []) (fun X=>[⟨false,27,1, .ints .u32 X⟩])
theorem Z7a:Q03 Tryz.prog Zbq:=Q0j Q0g Q0h (.cons Qhh (.nil)) Tryz.func233 Tryz.call233 (fun args rows=>Qbe (rowL .u32 rows 0) (argI args 1) (argI args 2)) [] [] 2 (fun _ _ _=>by kernel_rfl) (fun _ _=>rfl) (fun _ _ h=>h) (fun _ X=>by kernel_rfl)
def Q7m(c:Q02)(m:(List Int))(va:Int)(size:Int)(access:Int):Tree (Int×Int×(List Int)):=
.lv (Qei access) fun(x0:Bool)=> .br (!x0) (.lf (0,5,m)) (let T1:Tree ((Int×Int×(List Int))):= .cn (decide (wrap u32 size≠0)) (.br (Int.tmod va (wrap u32 size) !=0) (.lf (0,3,m)) (.lv (Qm6 c) fun(x1:Bool)=> .br (!x1) (.an (Qa9 m va size) (.lv (Q2 m va size) fun(x2:Bool)=> .br (!x2) (.lv (Q2m access) fun(x3:Int)=> .lf (0,x3,m)) (.lf (va,0,m)))) (.an (Qon m c.Csr.a6 va access) (.lv (Q53 m c.Csr.a6 va access) fun(x4:Q0w)=> .br (x4.Cause !=0) (.lf (0,x4.Cause,m)) (.an (Qoj m x4.Entry access) (.lv (Qkx m x4.Entry access) fun(x5:List Int)=> .lf (x4.Addr,0,x5))))))); .br (size !=1) (.br (size !=4) (.lf (0,5,m)) T1) T1)
def Q0x(c:Q02)(m:(List Int))(va:Int)(size:Int)(access:Int):(Int×Int×(List Int)):=(Q7m c m va size access).m
abbrev Q71(c:Q02)(m:(List Int))(va:Int)(size:Int)(access:Int):Prop:=(Q7m c m va size access).p
def Z8c:Q0a:=mkP 184 [false,true,false,false,false] true [.agg Q02.sig, .one (.row 0), .one (.int .u32), .one (.int .i64), .one (.int .i64)] [.arr 27 1 (.ints .u32)] (fun args rows=>Q71 (Q02.of (args.getD 0 .dead).cells) (rowL .u32 rows 0) (argI args 2) (argI args 3) (argI args 4)) (fun args rows=>Q0x (Q02.of (args.getD 0 .dead).cells) (rowL .u32 rows 0) (argI args 2) (argI args 3) (argI args 4)) (fun X=> .tup [.int .u32 (X.1), .int .i64 (X.2.1)]) (fun X=>[⟨false,27,1, .ints .u32 (X.2.2)⟩])
theorem Qpy:Q03 Tryz.prog Z8c:=Q0j Q0g Q0h (.cons Qph (.cons Z4q (.cons Qhh (.cons Qkz (.cons Z5t (.cons Z7a (.nil))))))) Tryz.func184 Tryz.call184 (fun args rows=>Q7m (Q02.of (args.getD 0 .dead).cells) (rowL .u32 rows 0) (argI args 2) (argI args 3) (argI args 4)) [] [] 2 (fun _ _ _=>by kernel_rfl) (fun _ _=>rfl) (fun _ _ h=>h) (fun _ X=>by kernel_rfl)
def Qi2(op:Int):Tree Bool:=
.br (decide (op≥57)) (.lf (decide (op≤64))) (.lf false)
def Q49(op:Int):Bool:=(Qi2 op).m
def Qql:Q0a:=mkR 185 [] true [.one (.int .i64)] [] (fun args rows=>Q49 (argI args 0)) (fun X=> .bool X) (fun X=>[])
theorem Qpn:Q03 Tryz.prog Qql:=Q0t Q0g Q0h (.nil) Tryz.func185 Tryz.call185 (fun args rows=>Qi2 (argI args 0)) [] [] 2 (fun _ _ _=>by kernel_rfl) (fun _ _=>rfl) (fun _ _=>Tree.free_ok (by kernel_rfl)) (fun _ X=>by kernel_rfl)
def Qae(c:Q02):Tree Q02:=
.lv (Q9k (iand u32 c.Csr.a0 (8:Int) !=(0:Int))) fun(x0:Int)=> .lv (Q9k (iand u32 c.Csr.a0 (16:Int) !=(0:Int))) fun(x1:Int)=> .lf ({X:=c.X,Pc:=c.Csr.a2,Csr:={a0:=ior u32 (ior u32 (Qgh u32 c.Csr.a0 3) (wrap u32 (1*x0))) (wrap u32 (2*x1)),a1:=c.Csr.a1,a2:=c.Csr.a2,a3:=c.Csr.a3,a4:=c.Csr.a4,a5:=c.Csr.a5,a6:=c.Csr.a6,a7:=c.Csr.a7}})
def Qes(c:Q02):Q02:=(Qae c).m
def Z50:Q0a:=mkR 234 [] true [.agg Q02.sig] [] (fun args rows=>Qes (Q02.of (args.getD 0 .dead).cells)) (fun X=> .agg (Q02.cells X)) (fun X=>[])
theorem Qyw:Q03 Tryz.prog Z50:=Q0t Q0g Q0h (.cons Qnq (.nil)) Tryz.func234 Tryz.call234 (fun args rows=>Qae (Q02.of (args.getD 0 .dead).cells)) [] [] 2 (fun _ _ _=>by kernel_rfl) (fun _ _=>rfl) (fun _ _=>Tree.free_ok (by kernel_rfl)) (fun _ X=>by kernel_rfl)
def Qb9(c:Q02)(r:Int)(v:Int):Tree Q02:=
.br (decide (r>0)) (.br (decide (r<16)) (.cn (Nat.blt 0 1&&decide (0≤r∧r<(↑16:Int))) (.lf ({X:=A16.of 0 (List.set (A16.l c.X) (Int.toNat r) v),Pc:=c.Pc,Csr:=c.Csr}))) (.lf c)) (.lf c)
def Q1c(c:Q02)(r:Int)(v:Int):Q02:=(Qb9 c r v).m
abbrev Q27(c:Q02)(r:Int)(v:Int):Prop:=(Qb9 c r v).p
def Zec:Q0a:=mkP 139 [] true [.agg Q02.sig, .one (.int .i64), .one (.int .u32)] [] (fun args rows=>Q27 (Q02.of (args.getD 0 .dead).cells) (argI args 1) (argI args 2)) (fun args rows=>Q1c (Q02.of (args.getD 0 .dead).cells) (argI args 1) (argI args 2)) (fun X=> .agg (Q02.cells X)) (fun X=>[])
theorem Qbq:Q03 Tryz.prog Zec:=Q0j Q0g Q0h (.nil) Tryz.func139 Tryz.call139 (fun args rows=>Qb9 (Q02.of (args.getD 0 .dead).cells) (argI args 1) (argI args 2)) [] [] 2 (fun _ _ _=>by kernel_rfl) (fun _ _=>rfl) (fun _ _ h=>h) (fun _ X=>by kernel_rfl)
def Q9y(c:Q02)(csr:Int)(v:Int):Tree Q02:=
let E4:=Nat.blt 0 1&&decide (0≤csr∧csr<(↑8:Int));let T2:Tree (Q02):= .cn E4 (.lf ({X:=c.X,Pc:=c.Pc,Csr:=A8.of 0 (List.set (A8.l c.Csr) (Int.toNat csr) (iand u32 v 31))})); .br (csr==0) T2 (.br (csr==7) T2 (.br (csr==6) (.cn E4 (.lf ({X:=c.X,Pc:=c.Pc,Csr:=A8.of 0 (List.set (A8.l c.Csr) (Int.toNat csr) (iand u32 v 255))}))) (let T3:Tree (Q02):= .cn E4 (.lf ({X:=c.X,Pc:=c.Pc,Csr:=A8.of 0 (List.set (A8.l c.Csr) (Int.toNat csr) (Qgh u32 v 3))})); .br (csr==1) T3 (.br (csr==2) T3 (let T1:Tree (Q02):= .cn E4 (.lf ({X:=c.X,Pc:=c.Pc,Csr:=A8.of 0 (List.set (A8.l c.Csr) (Int.toNat csr) v)})); .br (csr==3) T1 (.br (csr==4) T1 (.br (csr==5) T1 (.lf c))))))))
def Qek(c:Q02)(csr:Int)(v:Int):Q02:=(Q9y c csr v).m
abbrev Qmx(c:Q02)(csr:Int)(v:Int):Prop:=(Q9y c csr v).p
def Z6x:Q0a:=mkP 235 [] true [.agg Q02.sig, .one (.int .i64), .one (.int .u32)] [] (fun args rows=>Qmx (Q02.of (args.getD 0 .dead).cells) (argI args 1) (argI args 2)) (fun args rows=>Qek (Q02.of (args.getD 0 .dead).cells) (argI args 1) (argI args 2)) (fun X=> .agg (Q02.cells X)) (fun X=>[])
theorem Z3y:Q03 Tryz.prog Z6x:=Q0j Q0g Q0h (.nil) Tryz.func235 Tryz.call235 (fun args rows=>Q9y (Q02.of (args.getD 0 .dead).cells) (argI args 1) (argI args 2)) [] [] 2 (fun _ _ _=>by kernel_rfl) (fun _ _=>rfl) (fun _ _ h=>h) (fun _ X=>by kernel_rfl)
def Qan(c:Q02)(i:Q0f):Tree (Q02×Q0v):=
.br (i.Op==56) (.lv (Q20 c 7 0) fun(x0:Q02)=> .lf (x0,{Kind:=0,Port:=0,Reg:=0,Value:=0})) (.br (i.Op==57) (.lv (Qes c) fun(x1:Q02)=> .lf (x1,{Kind:=0,Port:=0,Reg:=0,Value:=0})) (.br (i.Op==58) (.cn (Nat.blt 0 1&&decide (0≤i.Imm∧i.Imm<(↑8:Int))) (let E3:=List.getD (A8.l c.Csr) (Int.toNat i.Imm) 0; .an (Q27 c i.A E3) (.lv (Q1c c i.A E3) fun(x2:Q02)=> .lf ({X:=x2.X,Pc:=wrap u32 (x2.Pc+4),Csr:=x2.Csr},{Kind:=0,Port:=0,Reg:=0,Value:=0})))) (let E2:=Nat.blt 0 1&&decide (0≤i.A∧i.A<(↑16:Int)); .br (i.Op==59) (.cn E2 (let E4:=List.getD (A16.l c.X) (Int.toNat i.A) 0; .an (Qmx c (wrap i64 i.Imm) E4) (.lv (Qek c (wrap i64 i.Imm) E4) fun(x3:Q02)=> .lf ({X:=x3.X,Pc:=wrap u32 (x3.Pc+4),Csr:=x3.Csr},{Kind:=0,Port:=0,Reg:=0,Value:=0})))) (let E1:=({X:=c.X,Pc:=wrap u32 (c.Pc+4),Csr:=c.Csr}:Q02); .br (i.Op==60) (.lf (E1,{Kind:=1,Port:=wrap i64 i.Imm,Reg:=i.A,Value:=0})) (.br (i.Op==61) (.cn E2 (.lf (E1,{Kind:=2,Port:=wrap i64 i.Imm,Reg:=0,Value:=List.getD (A16.l c.X) (Int.toNat i.A) 0}))) (.br (i.Op==62) (.lf (E1,{Kind:=3,Port:=0,Reg:=0,Value:=0})) (.br (i.Op==63) (.lf (E1,{Kind:=5,Port:=0,Reg:=0,Value:=0})) (.br (i.Op==64) (.lf (E1,{Kind:=4,Port:=0,Reg:=0,Value:=0})) (.lf (E1,{Kind:=0,Port:=0,Reg:=0,Value:=0}))))))))))
def Qja(c:Q02)(i:Q0f):(Q02×Q0v):=(Qan c i).m
abbrev Qkc(c:Q02)(i:Q0f):Prop:=(Qan c i).p
def Z48:Q0a:=mkP 186 [] true [.agg Q02.sig, .agg Q0f.sig] [] (fun args rows=>Qkc (Q02.of (args.getD 0 .dead).cells) (Q0f.of (args.getD 1 .dead).cells)) (fun args rows=>Qja (Q02.of (args.getD 0 .dead).cells) (Q0f.of (args.getD 1 .dead).cells)) (fun X=> .tup [.agg (Q02.cells (X.1)), .agg (Q0v.cells (X.2))]) (fun X=>[])
theorem Qyy:Q03 Tryz.prog Z48:=Q0j Q0g Q0h (.cons Qh0 (.cons Qyw (.cons Qbq (.cons Z3y (.nil))))) Tryz.func186 Tryz.call186 (fun args rows=>Qan (Q02.of (args.getD 0 .dead).cells) (Q0f.of (args.getD 1 .dead).cells)) [] [] 2 (fun _ _ _=>by kernel_rfl) (fun _ _=>rfl) (fun _ _ h=>h) (fun _ X=>by kernel_rfl)
def Qsn(op:Int)(a:Int)(b:Int):Tree Bool:=
.br (op==40) (.lf (a==b)) (.br (op==41) (.lf (a !=b)) (.br (op==42) (.lf (decide (wrap i32 a<wrap i32 b))) (.br (op==43) (.lf (decide (wrap i32 a≥wrap i32 b))) (.br (op==44) (.lf (decide (a<b))) (.lf (decide (a≥b)))))))
def Q1o(op:Int)(a:Int)(b:Int):Bool:=(Qsn op a b).m
def Z8v:Q0a:=mkR 236 [] true [.one (.int .i64), .one (.int .u32), .one (.int .u32)] [] (fun args rows=>Q1o (argI args 0) (argI args 1) (argI args 2)) (fun X=> .bool X) (fun X=>[])
theorem Z2i:Q03 Tryz.prog Z8v:=Q0t Q0g Q0h (.nil) Tryz.func236 Tryz.call236 (fun args rows=>Qsn (argI args 0) (argI args 1) (argI args 2)) [] [] 2 (fun _ _ _=>by kernel_rfl) (fun _ _=>rfl) (fun _ _=>Tree.free_ok (by kernel_rfl)) (fun _ X=>by kernel_rfl)
def Qf2(c:Q02)(i:Q0f):Tree Q02:=
.br (i.Op==48) (.an (Q27 c i.A (wrap u32 (c.Pc+4))) (.lv (Q1c c i.A (wrap u32 (c.Pc+4))) fun(x0:Q02)=> .lf ({X:=x0.X,Pc:=wrap u32 (c.Pc+wrap u32 (4*wrap u32 i.Imm)),Csr:=x0.Csr}))) (let E1:=Nat.blt 0 1&&decide (0≤i.B∧i.B<(↑16:Int)); .br (i.Op==49) (.cn E1 (.an (Q27 c i.A (wrap u32 (c.Pc+4))) (.lv (Q1c c i.A (wrap u32 (c.Pc+4))) fun(x1:Q02)=> .lf ({X:=x1.X,Pc:=wrap u32 (List.getD (A16.l c.X) (Int.toNat i.B) 0+wrap u32 i.Imm),Csr:=x1.Csr})))) (.cn (Nat.blt 0 1&&decide (0≤i.A∧i.A<(↑16:Int))) (.cn E1 (.lv (Q1o i.Op (List.getD (A16.l c.X) (Int.toNat i.A) 0) (List.getD (A16.l c.X) (Int.toNat i.B) 0)) fun(x2:Bool)=> .br x2 (.lf ({X:=c.X,Pc:=wrap u32 (c.Pc+wrap u32 (4*wrap u32 i.Imm)),Csr:=c.Csr})) (.lf ({X:=c.X,Pc:=wrap u32 (c.Pc+4),Csr:=c.Csr}))))))
def Qwi(c:Q02)(i:Q0f):Q02:=(Qf2 c i).m
abbrev Qpu(c:Q02)(i:Q0f):Prop:=(Qf2 c i).p
def Zbt:Q0a:=mkP 187 [] true [.agg Q02.sig, .agg Q0f.sig] [] (fun args rows=>Qpu (Q02.of (args.getD 0 .dead).cells) (Q0f.of (args.getD 1 .dead).cells)) (fun args rows=>Qwi (Q02.of (args.getD 0 .dead).cells) (Q0f.of (args.getD 1 .dead).cells)) (fun X=> .agg (Q02.cells X)) (fun X=>[])
theorem Z60:Q03 Tryz.prog Zbt:=Q0j Q0g Q0h (.cons Qbq (.cons Z2i (.nil))) Tryz.func187 Tryz.call187 (fun args rows=>Qf2 (Q02.of (args.getD 0 .dead).cells) (Q0f.of (args.getD 1 .dead).cells)) [] [] 2 (fun _ _ _=>by kernel_rfl) (fun _ _=>rfl) (fun _ _ h=>h) (fun _ X=>by kernel_rfl)
def Q5y(x:Int)(n:Int):Tree Int:=
.br (decide (n<1)) (.lf 0) (.br (decide (n≥32)) (.lf x) (.cn (decide (0≤wrap u64 n)) (.cn (decide (0≤wrap u64 (wrap i64 (n-1)))) (let E1:=iand u32 x (wrap u32 (ishl u32 1 (wrap u64 n)-1)); .br (ishr u32 E1 (wrap u64 (wrap i64 (n-1)))==1) (.cn (decide (0≤wrap u64 n)) (.lf (ior u32 E1 (ishl u32 4294967295 (wrap u64 n))))) (.lf E1)))))
def Q2h(x:Int)(n:Int):Int:=(Q5y x n).m
abbrev Q9q(x:Int)(n:Int):Prop:=(Q5y x n).p
def Qrk:Q0a:=mkP 238 [] true [.one (.int .u32), .one (.int .i64)] [] (fun args rows=>Q9q (argI args 0) (argI args 1)) (fun args rows=>Q2h (argI args 0) (argI args 1)) (fun X=> .int .u32 X) (fun X=>[])
theorem Qo6:Q03 Tryz.prog Qrk:=Q0j Q0g Q0h (.nil) Tryz.func238 Tryz.call238 (fun args rows=>Q5y (argI args 0) (argI args 1)) [] [] 2 (fun _ _ _=>by kernel_rfl) (fun _ _=>rfl) (fun _ _ h=>h) (fun _ X=>by kernel_rfl)
def Q7y(c:Q02)(m:(List Int))(i:Q0f):Tree (Q02×(List Int)):=
.cn (Nat.blt 0 1&&decide (0≤i.B∧i.B<(↑16:Int))) (let E4:=wrap u32 (List.getD (A16.l c.X) (Int.toNat i.B) 0+wrap u32 i.Imm);let E5:=List.getD (A16.l c.X) (Int.toNat i.A) 0;let E6:=Nat.blt 0 1&&decide (0≤i.A∧i.A<(↑16:Int));let E7:=({X:=c.X,Pc:=wrap u32 (c.Pc+4),Csr:=c.Csr}:Q02);let T1:Tree ((Q02×(List Int))):=let T3:Tree ((Q02×(List Int))):= .an (Q71 c m E4 4 3) (.lv (Q0x c m E4 4 3) fun(x0:Int×Int×List Int)=> .br (x0.snd.fst !=0) (.lv (Q20 c x0.snd.fst E4) fun(x1:Q02)=> .lf (x1,x0.snd.snd)) (.cn E6 (.an (Qh6 x0.snd.snd x0.fst 4 E5) (.lv (Qh5 x0.snd.snd x0.fst 4 E5) fun(x2:List Int)=> .lf (E7,x2))))); .br (i.Op==35) T3 (.br (i.Op==36) T3 (.an (Q71 c m E4 4 2) (.lv (Q0x c m E4 4 2) fun(x6:Int×Int×List Int)=> .br (x6.snd.fst !=0) (.lv (Q20 c x6.snd.fst E4) fun(x7:Q02)=> .lf (x7,x6.snd.snd)) (.an (Qa8 x6.snd.snd x6.fst 4) (.lv (Q1r x6.snd.snd x6.fst 4) fun(x8:Int×Bool)=> .br (i.Op==33) (.an (Q9q x8.fst 8) (.lv (Q2h x8.fst 8) fun(x9:Int)=> .an (Q27 c i.A x9) (.lv (Q1c c i.A x9) fun(x10:Q02)=> .lf ({X:=x10.X,Pc:=wrap u32 (x10.Pc+4),Csr:=x10.Csr},x6.snd.snd)))) (.an (Q27 c i.A x8.fst) (.lv (Q1c c i.A x8.fst) fun(x11:Q02)=> .lf ({X:=x11.X,Pc:=wrap u32 (x11.Pc+4),Csr:=x11.Csr},x6.snd.snd)))))))); .br (i.Op==32) T1 (.br (i.Op==35) T1 (let T2:Tree ((Q02×(List Int))):= .an (Q71 c m E4 1 3) (.lv (Q0x c m E4 1 3) fun(x24:Int×Int×List Int)=> .br (x24.snd.fst !=0) (.lv (Q20 c x24.snd.fst E4) fun(x25:Q02)=> .lf (x25,x24.snd.snd)) (.cn E6 (.an (Qh6 x24.snd.snd x24.fst 1 E5) (.lv (Qh5 x24.snd.snd x24.fst 1 E5) fun(x26:List Int)=> .lf (E7,x26))))); .br (i.Op==35) T2 (.br (i.Op==36) T2 (.an (Q71 c m E4 1 2) (.lv (Q0x c m E4 1 2) fun(x30:Int×Int×List Int)=> .br (x30.snd.fst !=0) (.lv (Q20 c x30.snd.fst E4) fun(x31:Q02)=> .lf (x31,x30.snd.snd)) (.an (Qa8 x30.snd.snd x30.fst 1) (.lv (Q1r x30.snd.snd x30.fst 1) fun(x32:Int×Bool)=> .br (i.Op==33) (.an (Q9q x32.fst 8) (.lv (Q2h x32.fst 8) fun(x33:Int)=> .an (Q27 c i.A x33) (.lv (Q1c c i.A x33) fun(x34:Q02)=> .lf ({X:=x34.X,Pc:=wrap u32 (x34.Pc+4),Csr:=x34.Csr},x30.snd.snd)))) (.an (Q27 c i.A x32.fst) (.lv (Q1c c i.A x32.fst) fun(x35:Q02)=> .lf ({X:=x35.X,Pc:=wrap u32 (x35.Pc+4),Csr:=x35.Csr},x30.snd.snd)))))))))))
def Q3s(c:Q02)(m:(List Int))(i:Q0f):(Q02×(List Int)):=(Q7y c m i).m
abbrev Qi7(c:Q02)(m:(List Int))(i:Q0f):Prop:=(Q7y c m i).p
def Qxd:Q0a:=mkP 188 [false,true,false] true [.agg Q02.sig, .one (.row 0), .agg Q0f.sig] [.arr 27 1 (.ints .u32)] (fun args rows=>Qi7 (Q02.of (args.getD 0 .dead).cells) (rowL .u32 rows 0) (Q0f.of (args.getD 2 .dead).cells)) (fun args rows=>Q3s (Q02.of (args.getD 0 .dead).cells) (rowL .u32 rows 0) (Q0f.of (args.getD 2 .dead).cells)) (fun X=> .agg (Q02.cells (X.1))) (fun X=>[⟨false,27,1, .ints .u32 (X.2)⟩])
theorem Qu4:Q03 Tryz.prog Qxd:=Q0j Q0g Q0h (.cons Qpy (.cons Qh0 (.cons Qxg (.cons Qlj (.cons Qo6 (.cons Qbq (.nil))))))) Tryz.func188 Tryz.call188 (fun args rows=>Q7y (Q02.of (args.getD 0 .dead).cells) (rowL .u32 rows 0) (Q0f.of (args.getD 2 .dead).cells)) [] [] 2 (fun _ _ _=>by kernel_rfl) (fun _ _=>rfl) (fun _ _ h=>h) (fun _ X=>by kernel_rfl)
def Qsv(op:Int):Tree Int:=
.br (op==16) (.lf 1) (.br (op==17) (.lf 3) (.br (op==18) (.lf 4) (.br (op==19) (.lf 5) (.br (op==20) (.lf 6) (.br (op==21) (.lf 7) (.br (op==22) (.lf 8) (.br (op==23) (.lf 12) (.lf op))))))))
def Z11(op:Int):Int:=(Qsv op).m
def Z7:Q0a:=mkR 239 [] true [.one (.int .i64)] [] (fun args rows=>Z11 (argI args 0)) (fun X=> .int .i64 X) (fun X=>[])
theorem Z37:Q03 Tryz.prog Z7:=Q0t Q0g Q0h (.nil) Tryz.func239 Tryz.call239 (fun args rows=>Qsv (argI args 0)) [] [] 2 (fun _ _ _=>by kernel_rfl) (fun _ _=>rfl) (fun _ _=>Tree.free_ok (by kernel_rfl)) (fun _ X=>by kernel_rfl)
def Q8i(a:Int)(b:Int):Tree (Int×Int):=
.br (b==0) (.lf (4294967295,a)) (.cn (decide (wrap i64 (wrap i32 b)≠0)) (.cn (decide (wrap i64 (wrap i32 b)≠0)) (.lf (wrap u32 (wrap i64 (Int.tdiv (wrap i64 (wrap i32 a)) (wrap i64 (wrap i32 b)))),wrap u32 (Int.tmod (wrap i64 (wrap i32 a)) (wrap i64 (wrap i32 b)))))))
def Q9l(a:Int)(b:Int):(Int×Int):=(Q8i a b).m
abbrev Qga(a:Int)(b:Int):Prop:=(Q8i a b).p
def Z5:Q0a:=mkP 240 [] true [.one (.int .u32), .one (.int .u32)] [] (fun args rows=>Qga (argI args 0) (argI args 1)) (fun args rows=>Q9l (argI args 0) (argI args 1)) (fun X=> .tup [.int .u32 (X.1), .int .u32 (X.2)]) (fun X=>[])
theorem Qzr:Q03 Tryz.prog Z5:=Q0j Q0g Q0h (.nil) Tryz.func240 Tryz.call240 (fun args rows=>Q8i (argI args 0) (argI args 1)) [] [] 2 (fun _ _ _=>by kernel_rfl) (fun _ _=>rfl) (fun _ _ h=>h) (fun _ X=>by kernel_rfl)
def Qhu(op:Int)(a:Int)(b:Int):Tree (Int×Bool):=
.lv (Z11 op) fun(x0:Int)=> .br (x0==1) (.lf (wrap u32 (a+b),true)) (.br (x0==2) (.lf (wrap u32 (a-b),true)) (.br (x0==3) (.lf (iand u32 a b,true)) (.br (x0==4) (.lf (ior u32 a b,true)) (.br (x0==5) (.lf (ixor u32 a b,true)) (.br (x0==6) (.lf (ishl u32 a (iand u32 b 31),true)) (.br (x0==7) (.lf (ishr u32 a (iand u32 b 31),true)) (.br (x0==8) (.lf (wrap u32 (ishr i32 (wrap i32 a) (iand u32 b 31)),true)) (.br (x0==9) (.lf (wrap u32 (a*b),true)) (.br (x0==10) (.an (Qga a b) (.lv (Q9l a b) fun(x1:Int×Int)=> .lf (x1.fst,true))) (.br (x0==11) (.an (Qga a b) (.lv (Q9l a b) fun(x2:Int×Int)=> .lf (x2.snd,true))) (.br (x0==12) (.lv (Q9k (decide (wrap i32 a<wrap i32 b))) fun(x3:Int)=> .lf (x3,true)) (.br (x0==13) (.lv (Q9k (decide (a<b))) fun(x4:Int)=> .lf (x4,true)) (.lf (0,false))))))))))))))
def Qaz(op:Int)(a:Int)(b:Int):(Int×Bool):=(Qhu op a b).m
abbrev Qk7(op:Int)(a:Int)(b:Int):Prop:=(Qhu op a b).p
def Zft:Q0a:=mkP 189 [] true [.one (.int .i64), .one (.int .u32), .one (.int .u32)] [] (fun args rows=>Qk7 (argI args 0) (argI args 1) (argI args 2)) (fun args rows=>Qaz (argI args 0) (argI args 1) (argI args 2)) (fun X=> .tup [.int .u32 (X.1), .bool (X.2)]) (fun X=>[])
theorem Zbc:Q03 Tryz.prog Zft:=Q0j Q0g Q0h (.cons Z37 (.cons Qzr (.cons Qnq (.nil)))) Tryz.func189 Tryz.call189 (fun args rows=>Qhu (argI args 0) (argI args 1) (argI args 2)) [] [] 2 (fun _ _ _=>by kernel_rfl) (fun _ _=>rfl) (fun _ _ h=>h) (fun _ X=>by kernel_rfl)
def Qk8(c:Q02)(m:(List Int)):Tree (Q02×Q0v×(List Int)):=
.an (Q71 c m c.Pc 4 1) (.lv (Q0x c m c.Pc 4 1) fun(x0:Int×Int×List Int)=> .br (x0.snd.fst !=0) (.lv (Q20 c x0.snd.fst c.Pc) fun(x1:Q02)=> .lf (x1,{Kind:=0,Port:=0,Reg:=0,Value:=0},x0.snd.snd)) (.an (Qa8 x0.snd.snd x0.fst 4) (.lv (Q1r x0.snd.snd x0.fst 4) fun(x2:Int×Bool)=> .lv (Q2t x2.fst) fun(x3:Q0f×Bool)=> .br (!x3.snd) (.lv (Q20 c 1 x2.fst) fun(x4:Q02)=> .lf (x4,{Kind:=0,Port:=0,Reg:=0,Value:=0},x0.snd.snd)) (.lv (Q49 x3.fst.Op) fun(x5:Bool)=>let T1:Tree ((Q02×Q0v×(List Int))):= .br (decide (x3.fst.Op≥56)) (.an (Qkc c x3.fst) (.lv (Qja c x3.fst) fun(x7:Q02×Q0v)=> .lf (x7.fst,x7.snd,x0.snd.snd))) (.br (decide (x3.fst.Op≥40)) (.an (Qpu c x3.fst) (.lv (Qwi c x3.fst) fun(x8:Q02)=> .lf (x8,{Kind:=0,Port:=0,Reg:=0,Value:=0},x0.snd.snd))) (.br (decide (x3.fst.Op≥32)) (.an (Qi7 c x0.snd.snd x3.fst) (.lv (Q3s c x0.snd.snd x3.fst) fun(x9:Q02×List Int)=> .lf (x9.fst,{Kind:=0,Port:=0,Reg:=0,Value:=0},x9.snd))) (.br (x3.fst.Op==24) (.an (Q27 c x3.fst.A (ishl u32 (wrap u32 x3.fst.Imm) 16)) (.lv (Q1c c x3.fst.A (ishl u32 (wrap u32 x3.fst.Imm) 16)) fun(x10:Q02)=> .lf ({X:=x10.X,Pc:=wrap u32 (x10.Pc+4),Csr:=x10.Csr},{Kind:=0,Port:=0,Reg:=0,Value:=0},x0.snd.snd))) (let E2:=List.getD (A16.l c.X) (Int.toNat x3.fst.B) 0;let E3:=Nat.blt 0 1&&decide (0≤x3.fst.B∧x3.fst.B<(↑16:Int)); .br (decide (x3.fst.Op≤13)) (.cn (Nat.blt 0 1&&decide (0≤x3.fst.C∧x3.fst.C<(↑16:Int))) (.cn E3 (let E4:=List.getD (A16.l c.X) (Int.toNat x3.fst.C) 0; .an (Qk7 x3.fst.Op E2 E4) (.lv (Qaz x3.fst.Op E2 E4) fun(x11:Int×Bool)=> .an (Q27 c x3.fst.A x11.fst) (.lv (Q1c c x3.fst.A x11.fst) fun(x12:Q02)=> .lf ({X:=x12.X,Pc:=wrap u32 (x12.Pc+4),Csr:=x12.Csr},{Kind:=0,Port:=0,Reg:=0,Value:=0},x0.snd.snd)))))) (.cn E3 (.an (Qk7 x3.fst.Op E2 (wrap u32 x3.fst.Imm)) (.lv (Qaz x3.fst.Op E2 (wrap u32 x3.fst.Imm)) fun(x13:Int×Bool)=> .an (Q27 c x3.fst.A x13.fst) (.lv (Q1c c x3.fst.A x13.fst) fun(x14:Q02)=> .lf ({X:=x14.X,Pc:=wrap u32 (x14.Pc+4),Csr:=x14.Csr},{Kind:=0,Port:=0,Reg:=0,Value:=0},x0.snd.snd))))))))); .br x5 (.br (iand u32 c.Csr.a0 (1:Int)==(0:Int)) (.lv (Q20 c 2 x2.fst) fun(x6:Q02)=> .lf (x6,{Kind:=0,Port:=0,Reg:=0,Value:=0},x0.snd.snd)) T1) T1))))
def Qad(c:Q02)(m:(List Int)):(Q02×Q0v×(List Int)):=(Qk8 c m).m
abbrev Qnt(c:Q02)(m:(List Int)):Prop:=(Qk8 c m).p
def ref1_Do_m:Q0a:=mkP 137 [false,true] true [.agg Q02.sig, .one (.row 0)] [.arr 27 1 (.ints .u32)] (fun args rows=>Qnt (Q02.of (args.getD 0 .dead).cells) (rowL .u32 rows 0)) (fun args rows=>Qad (Q02.of (args.getD 0 .dead).cells) (rowL .u32 rows 0)) (fun X=> .tup [.agg (Q02.cells (X.1)), .agg (Q0v.cells (X.2.1))]) (fun X=>[⟨false,27,1, .ints .u32 (X.2.2)⟩])
theorem Z2d:Q03 Tryz.prog ref1_Do_m:=Q0j Q0g Q0h (.cons Qpy (.cons Qh0 (.cons Qlj (.cons Qmp (.cons Qpn (.cons Qyy (.cons Z60 (.cons Qu4 (.cons Qbq (.cons Zbc (.nil))))))))))) Tryz.func137 Tryz.call137 (fun args rows=>Qk8 (Q02.of (args.getD 0 .dead).cells) (rowL .u32 rows 0)) [] [] 2 (fun _ _ _=>by kernel_rfl) (fun _ _=>rfl) (fun _ _ h=>h) (fun _ X=>by kernel_rfl)
end
end Go.Proofs.YtdkiadhigcfmkaaGreat

/-
  Functions of the program: models, and that its calls come to them (by a program: gen3.py).
-/
import Derived.Test.YtdkiadhigcfmkaaGreatMachineAppliesBase
import Derived.Test.YtdkiadhigcfmkaaGreatMachineAppliesZa
import Derived.Test.YtdkiadhigcfmkaaGreatMachineAppliesYe
namespace Go.Proofs.YtdkiadhigcfmkaaGreat
open Go Go.GD Go.IntKind
set_option linter.unusedVariables false
set_option linter.unusedSimpArgs false
set_option maxRecDepth 100000
noncomputable section
def Qzq(b:Bool):Tree Int:=
.br b (.lf 1) (.lf 0)
def Qe3(b:Bool):Int:=(Qzq b).m
def Zcn:Q08:=mkR 228 [] true [.one (.bool)] [] (fun args rows=>Qe3 (argB args 0)) (fun X=> .int .u32 X) (fun X=>[])
theorem Qm8:Q02 Tryz.prog Zcn:=Q0q Q0f Q0g (.nil) Tryz.func228 Tryz.call228 (fun args rows=>Qzq (argB args 0)) [] [] 2 (fun _ _ _=>by kernel_rfl) (fun _ _=>rfl) (fun _ _=>Tree.free_ok (by kernel_rfl)) (fun _ X=>by kernel_rfl)
def Qg9(c:Q03)(cause:Int)(bad:Int):Tree Q03:=
.lv (Qe3 (iand u32 c.Csr.a0 (1:Int) !=(0:Int))) fun(x0:Int)=> .lv (Qe3 (iand u32 c.Csr.a0 (2:Int) !=(0:Int))) fun(x1:Int)=> .lf ({X:=c.X,Pc:=c.Csr.a1,Csr:={a0:=ior u32 (Qka u32 (ior u32 (ior u32 (Qka u32 c.Csr.a0 24) (wrap u32 (8*x0))) (wrap u32 (16*x1))) 2) 1,a1:=c.Csr.a1,a2:=c.Pc,a3:=wrap u32 cause,a4:=bad,a5:=c.Csr.a5,a6:=c.Csr.a6,a7:=c.Csr.a7}})
def Q5n(c:Q03)(cause:Int)(bad:Int):Q03:=(Qg9 c cause bad).m
def Zag:Q08:=mkR 183 [] true [.agg Q03.sig, .one (.int .i64), .one (.int .u32)] [] (fun args rows=>Q5n (Q03.of (args.getD 0 .dead).cells) (argI args 1) (argI args 2)) (fun X=> .agg (Q03.cells X)) (fun X=>[])
theorem Qe1:Q02 Tryz.prog Zag:=Q0q Q0f Q0g (.cons Qm8 (.nil)) Tryz.func183 Tryz.call183 (fun args rows=>Qg9 (Q03.of (args.getD 0 .dead).cells) (argI args 1) (argI args 2)) [] [] 2 (fun _ _ _=>by kernel_rfl) (fun _ _=>rfl) (fun _ _=>Tree.free_ok (by kernel_rfl)) (fun _ X=>by kernel_rfl)
def Q8n(m:(List Int))(addr:Int)(size:Int):Tree Bool:=
let T1:Tree (Bool):= .cn (decide (wrap u32 size≠0)) (.br (Int.tmod addr (wrap u32 size)==0) (.lv (Q2j m) fun(x0:Int)=> .lf (decide (addr<wrap u32 (wrap i64 (128*x0))))) (.lf false)); .br (size !=1) (.br (size !=4) (.lf false) T1) T1
def Qh6(m:(List Int))(addr:Int)(size:Int):Bool:=(Q8n m addr size).m
abbrev Q84(m:(List Int))(addr:Int)(size:Int):Prop:=(Q8n m addr size).p
def Z3k:Q08:=mkP 206 [] true [.one (.ints .u32), .one (.int .u32), .one (.int .i64)] [] (fun args rows=>Q84 (argL .u32 args 0) (argI args 1) (argI args 2)) (fun args rows=>Qh6 (argL .u32 args 0) (argI args 1) (argI args 2)) (fun X=> .bool X) (fun X=>[])
theorem Qf3:Q02 Tryz.prog Z3k:=Q0j Q0f Q0g (.cons Q86 (.nil)) Tryz.func206 Tryz.call206 (fun args rows=>Q8n (argL .u32 args 0) (argI args 1) (argI args 2)) [] [] 2 (fun _ _ _=>by kernel_rfl) (fun _ _=>rfl) (fun _ _ h=>h) (fun _ X=>by kernel_rfl)
def Qc8(m:(List Int))(addr:Int)(size:Int):Tree (Int×Bool):=
.an (Q84 m addr size) (.lv (Qh6 m addr size) fun(x0:Bool)=> .br (!x0) (.lf (0,false)) (.cn (Nat.beq 1 1&&Nat.blt 0 1&&decide (0≤wrap u32 (Int.tdiv addr 4)∧wrap u32 (Int.tdiv addr 4)<(↑(List.length m):Int))) (.br (size==1) (.cn (decide (0≤wrap u32 (8*Int.tmod addr 4))) (.lf (iand u32 (ishr u32 (List.getD m (Int.toNat (wrap u32 (Int.tdiv addr 4))) 0) (wrap u32 (8*Int.tmod addr 4))) 255,true))) (.lf (List.getD m (Int.toNat (wrap u32 (Int.tdiv addr 4))) 0,true)))))
def Qio(m:(List Int))(addr:Int)(size:Int):(Int×Bool):=(Qc8 m addr size).m
abbrev Q8o(m:(List Int))(addr:Int)(size:Int):Prop:=(Qc8 m addr size).p
def Zai:Q08:=mkP 156 [] true [.one (.ints .u32), .one (.int .u32), .one (.int .i64)] [] (fun args rows=>Q8o (argL .u32 args 0) (argI args 1) (argI args 2)) (fun args rows=>Qio (argL .u32 args 0) (argI args 1) (argI args 2)) (fun X=> .tup [.int .u32 (X.1), .bool (X.2)]) (fun X=>[])
theorem Qiy:Q02 Tryz.prog Zai:=Q0j Q0f Q0g (.cons Qf3 (.nil)) Tryz.func156 Tryz.call156 (fun args rows=>Qc8 (argL .u32 args 0) (argI args 1) (argI args 2)) [] [] 2 (fun _ _ _=>by kernel_rfl) (fun _ _=>rfl) (fun _ _ h=>h) (fun _ X=>by kernel_rfl)
def Qb9(w:Int):Tree (Q0i×Bool):=
.lv (Qg6 (wrap i64 (ishr u32 w 24))) fun(x0:Int)=>let E5:=({Op:=0,A:=0,B:=0,C:=0,Imm:=0}:Q0i); .br (x0==0) (.lf (E5,false)) (.br (x0==2) (let E3:=({Op:=wrap i64 (ishr u32 w 24),A:=wrap i64 (iand u32 (ishr u32 w 20) 15),B:=wrap i64 (iand u32 (ishr u32 w 16) 15),C:=wrap i64 (iand u32 w 65535),Imm:=0}:Q0i); .lv (Q7n E3) fun(x1:Bool)=> .br (!x1) (.lf (E5,false)) (.lf (E3,true))) (let T1:Tree ((Q0i×Bool)):=let E2:=({Op:=wrap i64 (ishr u32 w 24),A:=wrap i64 (iand u32 (ishr u32 w 20) 15),B:=wrap i64 (iand u32 (ishr u32 w 16) 15),C:=0,Imm:=wrap i32 (wrap i16 (iand u32 w 65535))}:Q0i); .lv (Q7n E2) fun(x2:Bool)=> .br (!x2) (.lf (E5,false)) (.lf (E2,true)); .br (x0==3) T1 (.br (x0==7) T1 (let E4:=({Op:=wrap i64 (ishr u32 w 24),A:=wrap i64 (iand u32 (ishr u32 w 20) 15),B:=wrap i64 (iand u32 (ishr u32 w 16) 15),C:=0,Imm:=wrap i32 (iand u32 w 65535)}:Q0i); .lv (Q7n E4) fun(x4:Bool)=> .br (!x4) (.lf (E5,false)) (.lf (E4,true))))))
def Qlp(w:Int):(Q0i×Bool):=(Qb9 w).m
def Z3f:Q08:=mkR 157 [] true [.one (.int .u32)] [] (fun args rows=>Qlp (argI args 0)) (fun X=> .tup [.agg (Q0i.cells (X.1)), .bool (X.2)]) (fun X=>[])
theorem Ql0:Q02 Tryz.prog Z3f:=Q0q Q0f Q0g (.cons Qar (.cons Qnq (.nil))) Tryz.func157 Tryz.call157 (fun args rows=>Qb9 (argI args 0)) [] [] 2 (fun _ _ _=>by kernel_rfl) (fun _ _=>rfl) (fun _ _=>Tree.free_ok (by kernel_rfl)) (fun _ X=>by kernel_rfl)
def Qr9(access:Int):Tree Bool:=
.br (decide (access≥1)) (.lf (decide (access≤3))) (.lf false)
def Qpl(access:Int):Bool:=(Qr9 access).m
def Z6d:Q08:=mkR 229 [] true [.one (.int .i64)] [] (fun args rows=>Qpl (argI args 0)) (fun X=> .bool X) (fun X=>[])
theorem Qo1:Q02 Tryz.prog Z6d:=Q0q Q0f Q0g (.nil) Tryz.func229 Tryz.call229 (fun args rows=>Qr9 (argI args 0)) [] [] 2 (fun _ _ _=>by kernel_rfl) (fun _ _=>rfl) (fun _ _=>Tree.free_ok (by kernel_rfl)) (fun _ X=>by kernel_rfl)
def Qs(c:Q03):Tree Bool:=
.lf (iand u32 c.Csr.a0 (5:Int)==(4:Int))
def Z09(c:Q03):Bool:=(Qs c).m
def Z5g:Q08:=mkR 230 [] true [.agg Q03.sig] [] (fun args rows=>Z09 (Q03.of (args.getD 0 .dead).cells)) (fun X=> .bool X) (fun X=>[])
theorem Z3v:Q02 Tryz.prog Z5g:=Q0q Q0f Q0g (.nil) Tryz.func230 Tryz.call230 (fun args rows=>Qs (Q03.of (args.getD 0 .dead).cells)) [] [] 2 (fun _ _ _=>by kernel_rfl) (fun _ _=>rfl) (fun _ _=>Tree.free_ok (by kernel_rfl)) (fun _ X=>by kernel_rfl)
def Q9s(access:Int):Tree Int:=
.br (access==1) (.lf 4) (.br (access==3) (.lf 6) (.lf 5))
def Q7k(access:Int):Int:=(Q9s access).m
def Qy2:Q08:=mkR 231 [] true [.one (.int .i64)] [] (fun args rows=>Q7k (argI args 0)) (fun X=> .int .i64 X) (fun X=>[])
theorem Qj1:Q02 Tryz.prog Qy2:=Q0q Q0f Q0g (.nil) Tryz.func231 Tryz.call231 (fun args rows=>Q9s (argI args 0)) [] [] 2 (fun _ _ _=>by kernel_rfl) (fun _ _=>rfl) (fun _ _=>Tree.free_ok (by kernel_rfl)) (fun _ X=>by kernel_rfl)
def Q9d(m:(List Int))(root:Int)(va:Int)(access:Int):Tree Q0w:=
.lv (Q7k access) fun(x0:Int)=> .lv (Q2j m) fun(x1:Int)=> .lv (Qpl access) fun(x2:Bool)=>let E4:=({Addr:=0,Entry:=0,Cause:=x0}:Q0w); .br (!x2) (.lf (E4)) (.br (decide (va≥4096)) (.lf (E4)) (.br (decide (root≥wrap u32 x1)) (.lf (E4)) (let E6:=wrap u32 (root*128)+wrap u32 (4*wrap u32 (Int.tdiv va 128));let E3:=Int.tdiv (wrap u32 E6) 4; .cn (Nat.beq 1 1&&Nat.blt 0 1&&decide (0≤wrap u32 E3∧wrap u32 E3<(↑(List.length m):Int))) (let E5:=List.getD m (Int.toNat (wrap u32 E3)) 0; .br (iand u32 E5 (1:Int)==(0:Int)) (.lf (E4)) (let T1:Tree (Q0w):= .br (decide (iand u32 (ishr u32 E5 8) 255≥wrap u32 x1)) (.lf (E4)) (.lf ({Addr:=wrap u32 (wrap u32 (iand u32 (ishr u32 E5 8) (255:Int)*(128:Int))+Int.tmod va 128),Entry:=wrap u32 E6,Cause:=0}));let T2:Tree (Q0w):= .br (access==1) (.br (iand u32 E5 (4:Int)==(0:Int)) (.lf (E4)) T1) T1; .br (access==3) (.br (iand u32 E5 (2:Int)==(0:Int)) (.lf (E4)) T2) T2)))))
def Z5t(m:(List Int))(root:Int)(va:Int)(access:Int):Q0w:=(Q9d m root va access).m
abbrev Qmb(m:(List Int))(root:Int)(va:Int)(access:Int):Prop:=(Q9d m root va access).p
def Z9e:Q08:=mkP 232 [] true [.one (.ints .u32), .one (.int .u32), .one (.int .u32), .one (.int .i64)] [] (fun args rows=>Qmb (argL .u32 args 0) (argI args 1) (argI args 2) (argI args 3)) (fun args rows=>Z5t (argL .u32 args 0) (argI args 1) (argI args 2) (argI args 3)) (fun X=> .agg (Q0w.cells X)) (fun X=>[])
theorem Z4j:Q02 Tryz.prog Z9e:=Q0j Q0f Q0g (.cons Qj1 (.cons Q86 (.cons Qo1 (.nil)))) Tryz.func232 Tryz.call232 (fun args rows=>Q9d (argL .u32 args 0) (argI args 1) (argI args 2) (argI args 3)) [] [] 2 (fun _ _ _=>by kernel_rfl) (fun _ _=>rfl) (fun _ _ h=>h) (fun _ X=>by kernel_rfl)
def Qco(m:(List Int))(entry:Int)(access:Int):Tree (List Int):=
.an (Q84 m entry 4) (.lv (Qh6 m entry 4) fun(x0:Bool)=> .br (!x0) (.lf m) (let E3:=Nat.beq 1 1&&Nat.blt 0 1&&decide (0≤wrap u32 (Int.tdiv entry 4)∧wrap u32 (Int.tdiv entry 4)<(↑(List.length m):Int)); .cn E3 (.cn E3 (let E4:=Int.toNat (wrap u32 (Int.tdiv entry 4));let E1:=List.set m E4 (ior u32 (List.getD m E4 0) 8); .br (access==3) (let E2:=Nat.beq 1 1&&Nat.blt 0 1&&decide (0≤wrap u32 (Int.tdiv entry 4)∧wrap u32 (Int.tdiv entry 4)<(↑(List.length E1):Int)); .cn E2 (.cn E2 (.lf (List.set E1 E4 (ior u32 (List.getD E1 E4 0) 16))))) (.lf E1)))))
def Z7s(m:(List Int))(entry:Int)(access:Int):(List Int):=(Qco m entry access).m
abbrev Qnr(m:(List Int))(entry:Int)(access:Int):Prop:=(Qco m entry access).p
def Z86:Q08:=mkP 233 [true,false,false] true [.one (.row 0), .one (.int .u32), .one (.int .i64)] [.arr 27 1 (.ints .u32)] (fun args rows=>Qnr (rowL .u32 rows 0) (argI args 1) (argI args 2)) (fun args rows=>Z7s (rowL .u32 rows 0) (argI args 1) (argI args 2)) (fun X=> .tup []) (fun X=>[⟨false,27,1, .ints .u32 X⟩])
theorem Z42:Q02 Tryz.prog Z86:=Q0j Q0f Q0g (.cons Qf3 (.nil)) Tryz.func233 Tryz.call233 (fun args rows=>Qco (rowL .u32 rows 0) (argI args 1) (argI args 2)) [] [] 2 (fun _ _ _=>by kernel_rfl) (fun _ _=>rfl) (fun _ _ h=>h) (fun _ X=>by kernel_rfl)
def Qaf(c:Q03)(m:(List Int))(va:Int)(size:Int)(access:Int):Tree (Int×Int×(List Int)):=
.lv (Qpl access) fun(x0:Bool)=> .br (!x0) (.lf (0,5,m)) (let T1:Tree ((Int×Int×(List Int))):= .cn (decide (wrap u32 size≠0)) (.br (Int.tmod va (wrap u32 size) !=0) (.lf (0,3,m)) (.lv (Z09 c) fun(x1:Bool)=> .br (!x1) (.an (Q84 m va size) (.lv (Qh6 m va size) fun(x2:Bool)=> .br (!x2) (.lv (Q7k access) fun(x3:Int)=> .lf (0,x3,m)) (.lf (va,0,m)))) (.an (Qmb m c.Csr.a6 va access) (.lv (Z5t m c.Csr.a6 va access) fun(x4:Q0w)=> .br (x4.Cause !=0) (.lf (0,x4.Cause,m)) (.an (Qnr m x4.Entry access) (.lv (Z7s m x4.Entry access) fun(x5:List Int)=> .lf (x4.Addr,0,x5))))))); .br (size !=1) (.br (size !=4) (.lf (0,5,m)) T1) T1)
def Qbx(c:Q03)(m:(List Int))(va:Int)(size:Int)(access:Int):(Int×Int×(List Int)):=(Qaf c m va size access).m
abbrev Q57(c:Q03)(m:(List Int))(va:Int)(size:Int)(access:Int):Prop:=(Qaf c m va size access).p
def Z7w:Q08:=mkP 184 [false,true,false,false,false] true [.agg Q03.sig, .one (.row 0), .one (.int .u32), .one (.int .i64), .one (.int .i64)] [.arr 27 1 (.ints .u32)] (fun args rows=>Q57 (Q03.of (args.getD 0 .dead).cells) (rowL .u32 rows 0) (argI args 2) (argI args 3) (argI args 4)) (fun args rows=>Qbx (Q03.of (args.getD 0 .dead).cells) (rowL .u32 rows 0) (argI args 2) (argI args 3) (argI args 4)) (fun X=> .tup [.int .u32 (X.1), .int .i64 (X.2.1)]) (fun X=>[⟨false,27,1, .ints .u32 (X.2.2)⟩])
theorem Qnl:Q02 Tryz.prog Z7w:=Q0j Q0f Q0g (.cons Qo1 (.cons Z3v (.cons Qf3 (.cons Qj1 (.cons Z4j (.cons Z42 (.nil))))))) Tryz.func184 Tryz.call184 (fun args rows=>Qaf (Q03.of (args.getD 0 .dead).cells) (rowL .u32 rows 0) (argI args 2) (argI args 3) (argI args 4)) [] [] 2 (fun _ _ _=>by kernel_rfl) (fun _ _=>rfl) (fun _ _ h=>h) (fun _ X=>by kernel_rfl)
def Qg2(op:Int):Tree Bool:=
.br (decide (op≥57)) (.lf (decide (op≤64))) (.lf false)
def Qir(op:Int):Bool:=(Qg2 op).m
def Qqh:Q08:=mkR 185 [] true [.one (.int .i64)] [] (fun args rows=>Qir (argI args 0)) (fun X=> .bool X) (fun X=>[])
theorem Qne:Q02 Tryz.prog Qqh:=Q0q Q0f Q0g (.nil) Tryz.func185 Tryz.call185 (fun args rows=>Qg2 (argI args 0)) [] [] 2 (fun _ _ _=>by kernel_rfl) (fun _ _=>rfl) (fun _ _=>Tree.free_ok (by kernel_rfl)) (fun _ X=>by kernel_rfl)
def Qbw(c:Q03):Tree Q03:=
.lv (Qe3 (iand u32 c.Csr.a0 (8:Int) !=(0:Int))) fun(x0:Int)=> .lv (Qe3 (iand u32 c.Csr.a0 (16:Int) !=(0:Int))) fun(x1:Int)=> .lf ({X:=c.X,Pc:=c.Csr.a2,Csr:={a0:=ior u32 (ior u32 (Qka u32 c.Csr.a0 3) (wrap u32 (1*x0))) (wrap u32 (2*x1)),a1:=c.Csr.a1,a2:=c.Csr.a2,a3:=c.Csr.a3,a4:=c.Csr.a4,a5:=c.Csr.a5,a6:=c.Csr.a6,a7:=c.Csr.a7}})
def Qlg(c:Q03):Q03:=(Qbw c).m
def Z3t:Q08:=mkR 234 [] true [.agg Q03.sig] [] (fun args rows=>Qlg (Q03.of (args.getD 0 .dead).cells)) (fun X=> .agg (Q03.cells X)) (fun X=>[])
theorem Qyl:Q02 Tryz.prog Z3t:=Q0q Q0f Q0g (.cons Qm8 (.nil)) Tryz.func234 Tryz.call234 (fun args rows=>Qbw (Q03.of (args.getD 0 .dead).cells)) [] [] 2 (fun _ _ _=>by kernel_rfl) (fun _ _=>rfl) (fun _ _=>Tree.free_ok (by kernel_rfl)) (fun _ X=>by kernel_rfl)
def Qfd(c:Q03)(r:Int)(v:Int):Tree Q03:=
.br (decide (r>0)) (.br (decide (r<16)) (.cn (Nat.blt 0 1&&decide (0≤r∧r<(↑16:Int))) (.lf ({X:=A16.of 0 (List.set (A16.l c.X) (Int.toNat r) v),Pc:=c.Pc,Csr:=c.Csr}))) (.lf c)) (.lf c)
def Q5v(c:Q03)(r:Int)(v:Int):Q03:=(Qfd c r v).m
abbrev Q1u(c:Q03)(r:Int)(v:Int):Prop:=(Qfd c r v).p
def Zcg:Q08:=mkP 139 [] true [.agg Q03.sig, .one (.int .i64), .one (.int .u32)] [] (fun args rows=>Q1u (Q03.of (args.getD 0 .dead).cells) (argI args 1) (argI args 2)) (fun args rows=>Q5v (Q03.of (args.getD 0 .dead).cells) (argI args 1) (argI args 2)) (fun X=> .agg (Q03.cells X)) (fun X=>[])
theorem Q90:Q02 Tryz.prog Zcg:=Q0j Q0f Q0g (.nil) Tryz.func139 Tryz.call139 (fun args rows=>Qfd (Q03.of (args.getD 0 .dead).cells) (argI args 1) (argI args 2)) [] [] 2 (fun _ _ _=>by kernel_rfl) (fun _ _=>rfl) (fun _ _ h=>h) (fun _ X=>by kernel_rfl)
def Qam(c:Q03)(csr:Int)(v:Int):Tree Q03:=
let E4:=Nat.blt 0 1&&decide (0≤csr∧csr<(↑8:Int));let T2:Tree (Q03):= .cn E4 (.lf ({X:=c.X,Pc:=c.Pc,Csr:=A8.of 0 (List.set (A8.l c.Csr) (Int.toNat csr) (iand u32 v 31))})); .br (csr==0) T2 (.br (csr==7) T2 (.br (csr==6) (.cn E4 (.lf ({X:=c.X,Pc:=c.Pc,Csr:=A8.of 0 (List.set (A8.l c.Csr) (Int.toNat csr) (iand u32 v 255))}))) (let T3:Tree (Q03):= .cn E4 (.lf ({X:=c.X,Pc:=c.Pc,Csr:=A8.of 0 (List.set (A8.l c.Csr) (Int.toNat csr) (Qka u32 v 3))})); .br (csr==1) T3 (.br (csr==2) T3 (let T1:Tree (Q03):= .cn E4 (.lf ({X:=c.X,Pc:=c.Pc,Csr:=A8.of 0 (List.set (A8.l c.Csr) (Int.toNat csr) v)})); .br (csr==3) T1 (.br (csr==4) T1 (.br (csr==5) T1 (.lf c))))))))
def Z12(c:Q03)(csr:Int)(v:Int):Q03:=(Qam c csr v).m
abbrev Qks(c:Q03)(csr:Int)(v:Int):Prop:=(Qam c csr v).p
def Z7m:Q08:=mkP 235 [] true [.agg Q03.sig, .one (.int .i64), .one (.int .u32)] [] (fun args rows=>Qks (Q03.of (args.getD 0 .dead).cells) (argI args 1) (argI args 2)) (fun args rows=>Z12 (Q03.of (args.getD 0 .dead).cells) (argI args 1) (argI args 2)) (fun X=> .agg (Q03.cells X)) (fun X=>[])
theorem Z1z:Q02 Tryz.prog Z7m:=Q0j Q0f Q0g (.nil) Tryz.func235 Tryz.call235 (fun args rows=>Qam (Q03.of (args.getD 0 .dead).cells) (argI args 1) (argI args 2)) [] [] 2 (fun _ _ _=>by kernel_rfl) (fun _ _=>rfl) (fun _ _ h=>h) (fun _ X=>by kernel_rfl)
def Q8l(c:Q03)(i:Q0i):Tree (Q03×Q18):=
.br (i.Op==56) (.lv (Q5n c 7 0) fun(x0:Q03)=> .lf (x0,{Kind:=0,Port:=0,Reg:=0,Value:=0})) (.br (i.Op==57) (.lv (Qlg c) fun(x1:Q03)=> .lf (x1,{Kind:=0,Port:=0,Reg:=0,Value:=0})) (.br (i.Op==58) (.cn (Nat.blt 0 1&&decide (0≤i.Imm∧i.Imm<(↑8:Int))) (let E3:=List.getD (A8.l c.Csr) (Int.toNat i.Imm) 0; .an (Q1u c i.A E3) (.lv (Q5v c i.A E3) fun(x2:Q03)=> .lf ({X:=x2.X,Pc:=wrap u32 (x2.Pc+4),Csr:=x2.Csr},{Kind:=0,Port:=0,Reg:=0,Value:=0})))) (let E2:=Nat.blt 0 1&&decide (0≤i.A∧i.A<(↑16:Int)); .br (i.Op==59) (.cn E2 (let E4:=List.getD (A16.l c.X) (Int.toNat i.A) 0; .an (Qks c (wrap i64 i.Imm) E4) (.lv (Z12 c (wrap i64 i.Imm) E4) fun(x3:Q03)=> .lf ({X:=x3.X,Pc:=wrap u32 (x3.Pc+4),Csr:=x3.Csr},{Kind:=0,Port:=0,Reg:=0,Value:=0})))) (let E1:=({X:=c.X,Pc:=wrap u32 (c.Pc+4),Csr:=c.Csr}:Q03); .br (i.Op==60) (.lf (E1,{Kind:=1,Port:=wrap i64 i.Imm,Reg:=i.A,Value:=0})) (.br (i.Op==61) (.cn E2 (.lf (E1,{Kind:=2,Port:=wrap i64 i.Imm,Reg:=0,Value:=List.getD (A16.l c.X) (Int.toNat i.A) 0}))) (.br (i.Op==62) (.lf (E1,{Kind:=3,Port:=0,Reg:=0,Value:=0})) (.br (i.Op==63) (.lf (E1,{Kind:=5,Port:=0,Reg:=0,Value:=0})) (.br (i.Op==64) (.lf (E1,{Kind:=4,Port:=0,Reg:=0,Value:=0})) (.lf (E1,{Kind:=0,Port:=0,Reg:=0,Value:=0}))))))))))
def Qv2(c:Q03)(i:Q0i):(Q03×Q18):=(Q8l c i).m
abbrev Qj7(c:Q03)(i:Q0i):Prop:=(Q8l c i).p
def Z1b:Q08:=mkP 186 [] true [.agg Q03.sig, .agg Q0i.sig] [] (fun args rows=>Qj7 (Q03.of (args.getD 0 .dead).cells) (Q0i.of (args.getD 1 .dead).cells)) (fun args rows=>Qv2 (Q03.of (args.getD 0 .dead).cells) (Q0i.of (args.getD 1 .dead).cells)) (fun X=> .tup [.agg (Q03.cells (X.1)), .agg (Q18.cells (X.2))]) (fun X=>[])
theorem Qxu:Q02 Tryz.prog Z1b:=Q0j Q0f Q0g (.cons Qe1 (.cons Qyl (.cons Q90 (.cons Z1z (.nil))))) Tryz.func186 Tryz.call186 (fun args rows=>Q8l (Q03.of (args.getD 0 .dead).cells) (Q0i.of (args.getD 1 .dead).cells)) [] [] 2 (fun _ _ _=>by kernel_rfl) (fun _ _=>rfl) (fun _ _ h=>h) (fun _ X=>by kernel_rfl)
def Qri(op:Int)(a:Int)(b:Int):Tree Bool:=
.br (op==40) (.lf (a==b)) (.br (op==41) (.lf (a !=b)) (.br (op==42) (.lf (decide (wrap i32 a<wrap i32 b))) (.br (op==43) (.lf (decide (wrap i32 a≥wrap i32 b))) (.br (op==44) (.lf (decide (a<b))) (.lf (decide (a≥b)))))))
def Z0d(op:Int)(a:Int)(b:Int):Bool:=(Qri op a b).m
def Z7l:Q08:=mkR 236 [] true [.one (.int .i64), .one (.int .u32), .one (.int .u32)] [] (fun args rows=>Z0d (argI args 0) (argI args 1) (argI args 2)) (fun X=> .bool X) (fun X=>[])
theorem Z3j:Q02 Tryz.prog Z7l:=Q0q Q0f Q0g (.nil) Tryz.func236 Tryz.call236 (fun args rows=>Qri (argI args 0) (argI args 1) (argI args 2)) [] [] 2 (fun _ _ _=>by kernel_rfl) (fun _ _=>rfl) (fun _ _=>Tree.free_ok (by kernel_rfl)) (fun _ X=>by kernel_rfl)
def Qcg(c:Q03)(i:Q0i):Tree Q03:=
.br (i.Op==48) (.an (Q1u c i.A (wrap u32 (c.Pc+4))) (.lv (Q5v c i.A (wrap u32 (c.Pc+4))) fun(x0:Q03)=> .lf ({X:=x0.X,Pc:=wrap u32 (c.Pc+wrap u32 (4*wrap u32 i.Imm)),Csr:=x0.Csr}))) (let E1:=Nat.blt 0 1&&decide (0≤i.B∧i.B<(↑16:Int)); .br (i.Op==49) (.cn E1 (.an (Q1u c i.A (wrap u32 (c.Pc+4))) (.lv (Q5v c i.A (wrap u32 (c.Pc+4))) fun(x1:Q03)=> .lf ({X:=x1.X,Pc:=wrap u32 (List.getD (A16.l c.X) (Int.toNat i.B) 0+wrap u32 i.Imm),Csr:=x1.Csr})))) (.cn (Nat.blt 0 1&&decide (0≤i.A∧i.A<(↑16:Int))) (.cn E1 (.lv (Z0d i.Op (List.getD (A16.l c.X) (Int.toNat i.A) 0) (List.getD (A16.l c.X) (Int.toNat i.B) 0)) fun(x2:Bool)=> .br x2 (.lf ({X:=c.X,Pc:=wrap u32 (c.Pc+wrap u32 (4*wrap u32 i.Imm)),Csr:=c.Csr})) (.lf ({X:=c.X,Pc:=wrap u32 (c.Pc+4),Csr:=c.Csr}))))))
def Z5e(c:Q03)(i:Q0i):Q03:=(Qcg c i).m
abbrev Qoo(c:Q03)(i:Q0i):Prop:=(Qcg c i).p
def Z8t:Q08:=mkP 187 [] true [.agg Q03.sig, .agg Q0i.sig] [] (fun args rows=>Qoo (Q03.of (args.getD 0 .dead).cells) (Q0i.of (args.getD 1 .dead).cells)) (fun args rows=>Z5e (Q03.of (args.getD 0 .dead).cells) (Q0i.of (args.getD 1 .dead).cells)) (fun X=> .agg (Q03.cells X)) (fun X=>[])
theorem Z7k:Q02 Tryz.prog Z8t:=Q0j Q0f Q0g (.cons Q90 (.cons Z3j (.nil))) Tryz.func187 Tryz.call187 (fun args rows=>Qcg (Q03.of (args.getD 0 .dead).cells) (Q0i.of (args.getD 1 .dead).cells)) [] [] 2 (fun _ _ _=>by kernel_rfl) (fun _ _=>rfl) (fun _ _ h=>h) (fun _ X=>by kernel_rfl)
def Q4f(x:Int)(n:Int):Tree Int:=
.br (decide (n<1)) (.lf 0) (.br (decide (n≥32)) (.lf x) (.cn (decide (0≤wrap u64 n)) (.cn (decide (0≤wrap u64 (wrap i64 (n-1)))) (let E1:=iand u32 x (wrap u32 (ishl u32 1 (wrap u64 n)-1)); .br (ishr u32 E1 (wrap u64 (wrap i64 (n-1)))==1) (.cn (decide (0≤wrap u64 n)) (.lf (ior u32 E1 (ishl u32 4294967295 (wrap u64 n))))) (.lf E1)))))
def Qct(x:Int)(n:Int):Int:=(Q4f x n).m
abbrev Q7g(x:Int)(n:Int):Prop:=(Q4f x n).p
def Qpr:Q08:=mkP 238 [] true [.one (.int .u32), .one (.int .i64)] [] (fun args rows=>Q7g (argI args 0) (argI args 1)) (fun args rows=>Qct (argI args 0) (argI args 1)) (fun X=> .int .u32 X) (fun X=>[])
theorem Qme:Q02 Tryz.prog Qpr:=Q0j Q0f Q0g (.nil) Tryz.func238 Tryz.call238 (fun args rows=>Q4f (argI args 0) (argI args 1)) [] [] 2 (fun _ _ _=>by kernel_rfl) (fun _ _=>rfl) (fun _ _ h=>h) (fun _ X=>by kernel_rfl)
def Q5s(c:Q03)(m:(List Int))(i:Q0i):Tree (Q03×(List Int)):=
.cn (Nat.blt 0 1&&decide (0≤i.B∧i.B<(↑16:Int))) (let E4:=wrap u32 (List.getD (A16.l c.X) (Int.toNat i.B) 0+wrap u32 i.Imm);let E5:=List.getD (A16.l c.X) (Int.toNat i.A) 0;let E6:=Nat.blt 0 1&&decide (0≤i.A∧i.A<(↑16:Int));let E7:=({X:=c.X,Pc:=wrap u32 (c.Pc+4),Csr:=c.Csr}:Q03);let T1:Tree ((Q03×(List Int))):=let T3:Tree ((Q03×(List Int))):= .an (Q57 c m E4 4 3) (.lv (Qbx c m E4 4 3) fun(x0:Int×Int×List Int)=> .br (x0.snd.fst !=0) (.lv (Q5n c x0.snd.fst E4) fun(x1:Q03)=> .lf (x1,x0.snd.snd)) (.cn E6 (.an (Qal x0.snd.snd x0.fst 4 E5) (.lv (Qbf x0.snd.snd x0.fst 4 E5) fun(x2:List Int)=> .lf (E7,x2))))); .br (i.Op==35) T3 (.br (i.Op==36) T3 (.an (Q57 c m E4 4 2) (.lv (Qbx c m E4 4 2) fun(x6:Int×Int×List Int)=> .br (x6.snd.fst !=0) (.lv (Q5n c x6.snd.fst E4) fun(x7:Q03)=> .lf (x7,x6.snd.snd)) (.an (Q8o x6.snd.snd x6.fst 4) (.lv (Qio x6.snd.snd x6.fst 4) fun(x8:Int×Bool)=> .br (i.Op==33) (.an (Q7g x8.fst 8) (.lv (Qct x8.fst 8) fun(x9:Int)=> .an (Q1u c i.A x9) (.lv (Q5v c i.A x9) fun(x10:Q03)=> .lf ({X:=x10.X,Pc:=wrap u32 (x10.Pc+4),Csr:=x10.Csr},x6.snd.snd)))) (.an (Q1u c i.A x8.fst) (.lv (Q5v c i.A x8.fst) fun(x11:Q03)=> .lf ({X:=x11.X,Pc:=wrap u32 (x11.Pc+4),Csr:=x11.Csr},x6.snd.snd)))))))); .br (i.Op==32) T1 (.br (i.Op==35) T1 (let T2:Tree ((Q03×(List Int))):= .an (Q57 c m E4 1 3) (.lv (Qbx c m E4 1 3) fun(x24:Int×Int×List Int)=> .br (x24.snd.fst !=0) (.lv (Q5n c x24.snd.fst E4) fun(x25:Q03)=> .lf (x25,x24.snd.snd)) (.cn E6 (.an (Qal x24.snd.snd x24.fst 1 E5) (.lv (Qbf x24.snd.snd x24.fst 1 E5) fun(x26:List Int)=> .lf (E7,x26))))); .br (i.Op==35) T2 (.br (i.Op==36) T2 (.an (Q57 c m E4 1 2) (.lv (Qbx c m E4 1 2) fun(x30:Int×Int×List Int)=> .br (x30.snd.fst !=0) (.lv (Q5n c x30.snd.fst E4) fun(x31:Q03)=> .lf (x31,x30.snd.snd)) (.an (Q8o x30.snd.snd x30.fst 1) (.lv (Qio x30.snd.snd x30.fst 1) fun(x32:Int×Bool)=> .br (i.Op==33) (.an (Q7g x32.fst 8) (.lv (Qct x32.fst 8) fun(x33:Int)=> .an (Q1u c i.A x33) (.lv (Q5v c i.A x33) fun(x34:Q03)=> .lf ({X:=x34.X,Pc:=wrap u32 (x34.Pc+4),Csr:=x34.Csr},x30.snd.snd)))) (.an (Q1u c i.A x32.fst) (.lv (Q5v c i.A x32.fst) fun(x35:Q03)=> .lf ({X:=x35.X,Pc:=wrap u32 (x35.Pc+4),Csr:=x35.Csr},x30.snd.snd)))))))))))
def Qoe(c:Q03)(m:(List Int))(i:Q0i):(Q03×(List Int)):=(Q5s c m i).m
abbrev Qfk(c:Q03)(m:(List Int))(i:Q0i):Prop:=(Q5s c m i).p
def Qwi:Q08:=mkP 188 [false,true,false] true [.agg Q03.sig, .one (.row 0), .agg Q0i.sig] [.arr 27 1 (.ints .u32)] (fun args rows=>Qfk (Q03.of (args.getD 0 .dead).cells) (rowL .u32 rows 0) (Q0i.of (args.getD 2 .dead).cells)) (fun args rows=>Qoe (Q03.of (args.getD 0 .dead).cells) (rowL .u32 rows 0) (Q0i.of (args.getD 2 .dead).cells)) (fun X=> .agg (Q03.cells (X.1))) (fun X=>[⟨false,27,1, .ints .u32 (X.2)⟩])
theorem Qs4:Q02 Tryz.prog Qwi:=Q0j Q0f Q0g (.cons Qnl (.cons Qe1 (.cons Qvq (.cons Qiy (.cons Qme (.cons Q90 (.nil))))))) Tryz.func188 Tryz.call188 (fun args rows=>Q5s (Q03.of (args.getD 0 .dead).cells) (rowL .u32 rows 0) (Q0i.of (args.getD 2 .dead).cells)) [] [] 2 (fun _ _ _=>by kernel_rfl) (fun _ _=>rfl) (fun _ _ h=>h) (fun _ X=>by kernel_rfl)
def Qru(op:Int):Tree Int:=
.br (op==16) (.lf 1) (.br (op==17) (.lf 3) (.br (op==18) (.lf 4) (.br (op==19) (.lf 5) (.br (op==20) (.lf 6) (.br (op==21) (.lf 7) (.br (op==22) (.lf 8) (.br (op==23) (.lf 12) (.lf op))))))))
def Qzr(op:Int):Int:=(Qru op).m
def Z4n:Q08:=mkR 239 [] true [.one (.int .i64)] [] (fun args rows=>Qzr (argI args 0)) (fun X=> .int .i64 X) (fun X=>[])
theorem Z2n:Q02 Tryz.prog Z4n:=Q0q Q0f Q0g (.nil) Tryz.func239 Tryz.call239 (fun args rows=>Qru (argI args 0)) [] [] 2 (fun _ _ _=>by kernel_rfl) (fun _ _=>rfl) (fun _ _=>Tree.free_ok (by kernel_rfl)) (fun _ X=>by kernel_rfl)
def Q8h(a:Int)(b:Int):Tree (Int×Int):=
.br (b==0) (.lf (4294967295,a)) (.cn (decide (wrap i64 (wrap i32 b)≠0)) (.cn (decide (wrap i64 (wrap i32 b)≠0)) (.lf (wrap u32 (wrap i64 (Int.tdiv (wrap i64 (wrap i32 a)) (wrap i64 (wrap i32 b)))),wrap u32 (Int.tmod (wrap i64 (wrap i32 a)) (wrap i64 (wrap i32 b)))))))
def Qlf(a:Int)(b:Int):(Int×Int):=(Q8h a b).m
abbrev Qd8(a:Int)(b:Int):Prop:=(Q8h a b).p
def Z3m:Q08:=mkP 240 [] true [.one (.int .u32), .one (.int .u32)] [] (fun args rows=>Qd8 (argI args 0) (argI args 1)) (fun args rows=>Qlf (argI args 0) (argI args 1)) (fun X=> .tup [.int .u32 (X.1), .int .u32 (X.2)]) (fun X=>[])
theorem Qyh:Q02 Tryz.prog Z3m:=Q0j Q0f Q0g (.nil) Tryz.func240 Tryz.call240 (fun args rows=>Q8h (argI args 0) (argI args 1)) [] [] 2 (fun _ _ _=>by kernel_rfl) (fun _ _=>rfl) (fun _ _ h=>h) (fun _ X=>by kernel_rfl)
def Qfo(op:Int)(a:Int)(b:Int):Tree (Int×Bool):=
.lv (Qzr op) fun(x0:Int)=> .br (x0==1) (.lf (wrap u32 (a+b),true)) (.br (x0==2) (.lf (wrap u32 (a-b),true)) (.br (x0==3) (.lf (iand u32 a b,true)) (.br (x0==4) (.lf (ior u32 a b,true)) (.br (x0==5) (.lf (ixor u32 a b,true)) (.br (x0==6) (.lf (ishl u32 a (iand u32 b 31),true)) (.br (x0==7) (.lf (ishr u32 a (iand u32 b 31),true)) (.br (x0==8) (.lf (wrap u32 (ishr i32 (wrap i32 a) (iand u32 b 31)),true)) (.br (x0==9) (.lf (wrap u32 (a*b),true)) (.br (x0==10) (.an (Qd8 a b) (.lv (Qlf a b) fun(x1:Int×Int)=> .lf (x1.fst,true))) (.br (x0==11) (.an (Qd8 a b) (.lv (Qlf a b) fun(x2:Int×Int)=> .lf (x2.snd,true))) (.br (x0==12) (.lv (Qe3 (decide (wrap i32 a<wrap i32 b))) fun(x3:Int)=> .lf (x3,true)) (.br (x0==13) (.lv (Qe3 (decide (a<b))) fun(x4:Int)=> .lf (x4,true)) (.lf (0,false))))))))))))))
def Z2g(op:Int)(a:Int)(b:Int):(Int×Bool):=(Qfo op a b).m
abbrev Qix(op:Int)(a:Int)(b:Int):Prop:=(Qfo op a b).p
def Zdm:Q08:=mkP 189 [] true [.one (.int .i64), .one (.int .u32), .one (.int .u32)] [] (fun args rows=>Qix (argI args 0) (argI args 1) (argI args 2)) (fun args rows=>Z2g (argI args 0) (argI args 1) (argI args 2)) (fun X=> .tup [.int .u32 (X.1), .bool (X.2)]) (fun X=>[])
theorem Z8h:Q02 Tryz.prog Zdm:=Q0j Q0f Q0g (.cons Z2n (.cons Qyh (.cons Qm8 (.nil)))) Tryz.func189 Tryz.call189 (fun args rows=>Qfo (argI args 0) (argI args 1) (argI args 2)) [] [] 2 (fun _ _ _=>by kernel_rfl) (fun _ _=>rfl) (fun _ _ h=>h) (fun _ X=>by kernel_rfl)
def Qi9(c:Q03)(m:(List Int)):Tree (Q03×Q18×(List Int)):=
.an (Q57 c m c.Pc 4 1) (.lv (Qbx c m c.Pc 4 1) fun(x0:Int×Int×List Int)=> .br (x0.snd.fst !=0) (.lv (Q5n c x0.snd.fst c.Pc) fun(x1:Q03)=> .lf (x1,{Kind:=0,Port:=0,Reg:=0,Value:=0},x0.snd.snd)) (.an (Q8o x0.snd.snd x0.fst 4) (.lv (Qio x0.snd.snd x0.fst 4) fun(x2:Int×Bool)=> .lv (Qlp x2.fst) fun(x3:Q0i×Bool)=> .br (!x3.snd) (.lv (Q5n c 1 x2.fst) fun(x4:Q03)=> .lf (x4,{Kind:=0,Port:=0,Reg:=0,Value:=0},x0.snd.snd)) (.lv (Qir x3.fst.Op) fun(x5:Bool)=>let T1:Tree ((Q03×Q18×(List Int))):= .br (decide (x3.fst.Op≥56)) (.an (Qj7 c x3.fst) (.lv (Qv2 c x3.fst) fun(x7:Q03×Q18)=> .lf (x7.fst,x7.snd,x0.snd.snd))) (.br (decide (x3.fst.Op≥40)) (.an (Qoo c x3.fst) (.lv (Z5e c x3.fst) fun(x8:Q03)=> .lf (x8,{Kind:=0,Port:=0,Reg:=0,Value:=0},x0.snd.snd))) (.br (decide (x3.fst.Op≥32)) (.an (Qfk c x0.snd.snd x3.fst) (.lv (Qoe c x0.snd.snd x3.fst) fun(x9:Q03×List Int)=> .lf (x9.fst,{Kind:=0,Port:=0,Reg:=0,Value:=0},x9.snd))) (.br (x3.fst.Op==24) (.an (Q1u c x3.fst.A (ishl u32 (wrap u32 x3.fst.Imm) 16)) (.lv (Q5v c x3.fst.A (ishl u32 (wrap u32 x3.fst.Imm) 16)) fun(x10:Q03)=> .lf ({X:=x10.X,Pc:=wrap u32 (x10.Pc+4),Csr:=x10.Csr},{Kind:=0,Port:=0,Reg:=0,Value:=0},x0.snd.snd))) (let E2:=List.getD (A16.l c.X) (Int.toNat x3.fst.B) 0;let E3:=Nat.blt 0 1&&decide (0≤x3.fst.B∧x3.fst.B<(↑16:Int)); .br (decide (x3.fst.Op≤13)) (.cn (Nat.blt 0 1&&decide (0≤x3.fst.C∧x3.fst.C<(↑16:Int))) (.cn E3 (let E4:=List.getD (A16.l c.X) (Int.toNat x3.fst.C) 0; .an (Qix x3.fst.Op E2 E4) (.lv (Z2g x3.fst.Op E2 E4) fun(x11:Int×Bool)=> .an (Q1u c x3.fst.A x11.fst) (.lv (Q5v c x3.fst.A x11.fst) fun(x12:Q03)=> .lf ({X:=x12.X,Pc:=wrap u32 (x12.Pc+4),Csr:=x12.Csr},{Kind:=0,Port:=0,Reg:=0,Value:=0},x0.snd.snd)))))) (.cn E3 (.an (Qix x3.fst.Op E2 (wrap u32 x3.fst.Imm)) (.lv (Z2g x3.fst.Op E2 (wrap u32 x3.fst.Imm)) fun(x13:Int×Bool)=> .an (Q1u c x3.fst.A x13.fst) (.lv (Q5v c x3.fst.A x13.fst) fun(x14:Q03)=> .lf ({X:=x14.X,Pc:=wrap u32 (x14.Pc+4),Csr:=x14.Csr},{Kind:=0,Port:=0,Reg:=0,Value:=0},x0.snd.snd))))))))); .br x5 (.br (iand u32 c.Csr.a0 (1:Int)==(0:Int)) (.lv (Q5n c 2 x2.fst) fun(x6:Q03)=> .lf (x6,{Kind:=0,Port:=0,Reg:=0,Value:=0},x0.snd.snd)) T1) T1))))
def Z8d(c:Q03)(m:(List Int)):(Q03×Q18×(List Int)):=(Qi9 c m).m
abbrev Qm4(c:Q03)(m:(List Int)):Prop:=(Qi9 c m).p
def ref1_Do_m:Q08:=mkP 137 [false,true] true [.agg Q03.sig, .one (.row 0)] [.arr 27 1 (.ints .u32)] (fun args rows=>Qm4 (Q03.of (args.getD 0 .dead).cells) (rowL .u32 rows 0)) (fun args rows=>Z8d (Q03.of (args.getD 0 .dead).cells) (rowL .u32 rows 0)) (fun X=> .tup [.agg (Q03.cells (X.1)), .agg (Q18.cells (X.2.1))]) (fun X=>[⟨false,27,1, .ints .u32 (X.2.2)⟩])
theorem Qzf:Q02 Tryz.prog ref1_Do_m:=Q0j Q0f Q0g (.cons Qnl (.cons Qe1 (.cons Qiy (.cons Ql0 (.cons Qne (.cons Qxu (.cons Z7k (.cons Qs4 (.cons Q90 (.cons Z8h (.nil))))))))))) Tryz.func137 Tryz.call137 (fun args rows=>Qi9 (Q03.of (args.getD 0 .dead).cells) (rowL .u32 rows 0)) [] [] 2 (fun _ _ _=>by kernel_rfl) (fun _ _=>rfl) (fun _ _ h=>h) (fun _ X=>by kernel_rfl)
end
end Go.Proofs.YtdkiadhigcfmkaaGreat

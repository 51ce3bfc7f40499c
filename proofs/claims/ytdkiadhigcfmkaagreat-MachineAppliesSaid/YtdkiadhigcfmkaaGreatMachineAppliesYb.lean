/-
  Functions of the program: models, and that its calls come to them (by a program: gen3.py).
-/
import Derived.Test.YtdkiadhigcfmkaaGreatMachineAppliesBase
import Derived.Test.YtdkiadhigcfmkaaGreatMachineAppliesYa
namespace Go.Proofs.YtdkiadhigcfmkaaGreat
open Go Go.GD Go.IntKind
set_option linter.unusedVariables false
set_option linter.unusedSimpArgs false
set_option maxRecDepth 100000
noncomputable section
def Z0n(status:Int)(from0:Int)(to:Int):Tree Int:=
.br (iand u32 status from0 !=0) (.lf (ior u32 status to)) (.lf (Qka u32 status to))
def Qoa(status:Int)(from0:Int)(to:Int):Int:=(Z0n status from0 to).m
def Zcy:Q08:=mkR 166 [] true [.one (.int .u32), .one (.int .u32), .one (.int .u32)] [] (fun args rows=>Qoa (argI args 0) (argI args 1) (argI args 2)) (fun X=> .int .u32 X) (fun X=>[])
theorem Quk:Q02 Tryz.prog Zcy:=Q0q Q0f Q0g (.nil) Tryz.func166 Tryz.call166 (fun args rows=>Z0n (argI args 0) (argI args 1) (argI args 2)) [] [] 2 (fun _ _ _=>by kernel_rfl) (fun _ _=>rfl) (fun _ _=>Tree.free_ok (by kernel_rfl)) (fun _ X=>by kernel_rfl)
def Qz4(c:Q03)(cause:Int)(bad:Int):Tree Q03:=
.lv (Qoa c.Csr.a0 1 8) fun(x0:Int)=> .lv (Qoa x0 2 16) fun(x1:Int)=> .lf ({X:=c.X,Pc:=c.Csr.a1,Csr:={a0:=Qka u32 (ior u32 x1 1) 2,a1:=c.Csr.a1,a2:=c.Pc,a3:=wrap u32 cause,a4:=bad,a5:=c.Csr.a5,a6:=c.Csr.a6,a7:=c.Csr.a7}})
def Qev(c:Q03)(cause:Int)(bad:Int):Q03:=(Qz4 c cause bad).m
def Zdz:Q08:=mkR 119 [] true [.agg Q03.sig, .one (.int .i64), .one (.int .u32)] [] (fun args rows=>Qev (Q03.of (args.getD 0 .dead).cells) (argI args 1) (argI args 2)) (fun X=> .agg (Q03.cells X)) (fun X=>[])
theorem Qcs:Q02 Tryz.prog Zdz:=Q0q Q0f Q0g (.cons Quk (.nil)) Tryz.func119 Tryz.call119 (fun args rows=>Qz4 (Q03.of (args.getD 0 .dead).cells) (argI args 1) (argI args 2)) [] [] 2 (fun _ _ _=>by kernel_rfl) (fun _ _=>rfl) (fun _ _=>Tree.free_ok (by kernel_rfl)) (fun _ X=>by kernel_rfl)
def Qo8(access:Int):Tree (Int×Bool):=
.br (access==1) (.lf (4,true)) (.br (access==2) (.lf (5,true)) (.br (access==3) (.lf (6,true)) (.lf (5,false))))
def Qts(access:Int):(Int×Bool):=(Qo8 access).m
def Z2l:Q08:=mkR 214 [] true [.one (.int .i64)] [] (fun args rows=>Qts (argI args 0)) (fun X=> .tup [.int .i64 (X.1), .bool (X.2)]) (fun X=>[])
theorem Qyz:Q02 Tryz.prog Z2l:=Q0q Q0f Q0g (.nil) Tryz.func214 Tryz.call214 (fun args rows=>Qo8 (argI args 0)) [] [] 2 (fun _ _ _=>by kernel_rfl) (fun _ _=>rfl) (fun _ _=>Tree.free_ok (by kernel_rfl)) (fun _ X=>by kernel_rfl)
def Qr5(c:Q03):Tree Bool:=
.lf (iand u32 c.Csr.a0 (1:Int) !=(0:Int))
def Qos(c:Q03):Bool:=(Qr5 c).m
def Z6b:Q08:=mkR 123 [] true [.agg Q03.sig] [] (fun args rows=>Qos (Q03.of (args.getD 0 .dead).cells)) (fun X=> .bool X) (fun X=>[])
theorem Qnb:Q02 Tryz.prog Z6b:=Q0q Q0f Q0g (.nil) Tryz.func123 Tryz.call123 (fun args rows=>Qr5 (Q03.of (args.getD 0 .dead).cells)) [] [] 2 (fun _ _ _=>by kernel_rfl) (fun _ _=>rfl) (fun _ _=>Tree.free_ok (by kernel_rfl)) (fun _ X=>by kernel_rfl)
def Qhi(access:Int):Tree (Int×Bool):=
.br (access==1) (.lf (4,true)) (.br (access==2) (.lf (5,true)) (.br (access==3) (.lf (6,true)) (.lf (5,false))))
def Qkr(access:Int):(Int×Bool):=(Qhi access).m
def Qt6:Q08:=mkR 254 [] true [.one (.int .i64)] [] (fun args rows=>Qkr (argI args 0)) (fun X=> .tup [.int .i64 (X.1), .bool (X.2)]) (fun X=>[])
theorem Qp:Q02 Tryz.prog Qt6:=Q0q Q0f Q0g (.nil) Tryz.func254 Tryz.call254 (fun args rows=>Qhi (argI args 0)) [] [] 2 (fun _ _ _=>by kernel_rfl) (fun _ _=>rfl) (fun _ _=>Tree.free_ok (by kernel_rfl)) (fun _ X=>by kernel_rfl)
def Qj8(m:(List Int))(frame:Int):Tree Bool:=
.lv (Q0s m) fun(x0:Int)=> .lf (decide (wrap u64 frame<wrap u64 x0))
def Qgt(m:(List Int))(frame:Int):Bool:=(Qj8 m frame).m
def Qwd:Q08:=mkR 255 [] true [.one (.ints .u32), .one (.int .u32)] [] (fun args rows=>Qgt (argL .u32 args 0) (argI args 1)) (fun X=> .bool X) (fun X=>[])
theorem Qsi:Q02 Tryz.prog Qwd:=Q0q Q0f Q0g (.cons Q2b (.nil)) Tryz.func255 Tryz.call255 (fun args rows=>Qj8 (argL .u32 args 0) (argI args 1)) [] [] 2 (fun _ _ _=>by kernel_rfl) (fun _ _=>rfl) (fun _ _=>Tree.free_ok (by kernel_rfl)) (fun _ X=>by kernel_rfl)
def Qbt(m:(List Int))(addr:Int)(size:Int):Tree (Int×Bool):=
.an (Q4b m addr size) (.lv (Qgu m addr size) fun(x0:Bool)=> .br (!x0) (.lf (0,false)) (.cn (Nat.beq 1 1&&Nat.blt 0 1&&decide (0≤wrap u32 (Int.tdiv addr 4)∧wrap u32 (Int.tdiv addr 4)<(↑(List.length m):Int))) (let E1:=Int.toNat (wrap u32 (Int.tdiv addr 4)); .br (size==1) (let E2:=wrap i64 (wrap i64 (Int.tmod addr 4)*8); .an (Q25 (List.getD m E1 0) E2 8) (.lv (Q8x (List.getD m E1 0) E2 8) fun(x1:Int)=> .lf (x1,true))) (.lf (List.getD m E1 0,true)))))
def Q9c(m:(List Int))(addr:Int)(size:Int):(Int×Bool):=(Qbt m addr size).m
abbrev Q2c(m:(List Int))(addr:Int)(size:Int):Prop:=(Qbt m addr size).p
def Z1g:Q08:=mkP 168 [] true [.one (.ints .u32), .one (.int .u32), .one (.int .i64)] [] (fun args rows=>Q2c (argL .u32 args 0) (argI args 1) (argI args 2)) (fun args rows=>Q9c (argL .u32 args 0) (argI args 1) (argI args 2)) (fun X=> .tup [.int .u32 (X.1), .bool (X.2)]) (fun X=>[])
theorem Q6z:Q02 Tryz.prog Z1g:=Q0j Q0f Q0g (.cons Qhd (.cons Qgq (.nil))) Tryz.func168 Tryz.call168 (fun args rows=>Qbt (argL .u32 args 0) (argI args 1) (argI args 2)) [] [] 2 (fun _ _ _=>by kernel_rfl) (fun _ _=>rfl) (fun _ _ h=>h) (fun _ X=>by kernel_rfl)
def Qhc(pte:Int)(access:Int):Tree Bool:=
.br (iand u32 pte (1:Int)==(0:Int)) (.lf false) (.br (access==3) (.lf (iand u32 pte (2:Int) !=(0:Int))) (.br (access==1) (.lf (iand u32 pte (4:Int) !=(0:Int))) (.lf true)))
def Qkw(pte:Int)(access:Int):Bool:=(Qhc pte access).m
def Qs1:Q08:=mkR 256 [] true [.one (.int .u32), .one (.int .i64)] [] (fun args rows=>Qkw (argI args 0) (argI args 1)) (fun X=> .bool X) (fun X=>[])
theorem Qp7:Q02 Tryz.prog Qs1:=Q0q Q0f Q0g (.nil) Tryz.func256 Tryz.call256 (fun args rows=>Qhc (argI args 0) (argI args 1)) [] [] 2 (fun _ _ _=>by kernel_rfl) (fun _ _=>rfl) (fun _ _=>Tree.free_ok (by kernel_rfl)) (fun _ X=>by kernel_rfl)
def Q76(pte:Int):Tree Int:=
.an (Q25 pte 8 8) (.lv (Q8x pte 8 8) fun(x0:Int)=> .lf x0)
def Qf0(pte:Int):Int:=(Q76 pte).m
abbrev Q3t(pte:Int):Prop:=(Q76 pte).p
def Qs2:Q08:=mkP 257 [] true [.one (.int .u32)] [] (fun args rows=>Q3t (argI args 0)) (fun args rows=>Qf0 (argI args 0)) (fun X=> .int .u32 X) (fun X=>[])
theorem Qp8:Q02 Tryz.prog Qs2:=Q0j Q0f Q0g (.cons Qgq (.nil)) Tryz.func257 Tryz.call257 (fun args rows=>Q76 (argI args 0)) [] [] 2 (fun _ _ _=>by kernel_rfl) (fun _ _=>rfl) (fun _ _ h=>h) (fun _ X=>by kernel_rfl)
def Qbn(m:(List Int))(root:Int)(va:Int)(access:Int):Tree Q0w:=
.lv (Qkr access) fun(x0:Int×Bool)=>let E1:=({Addr:=0,Entry:=0,Cause:=x0.fst}:Q0w); .br (!x0.snd) (.lf (E1)) (.br (decide (va≥4096)) (.lf (E1)) (.lv (Qgt m root) fun(x1:Bool)=> .br (!x1) (.lf (E1)) (let E2:=wrap u32 (root*128)+wrap u32 (4*wrap u32 (Int.tdiv va 128)); .an (Q2c m (wrap u32 E2) 4) (.lv (Q9c m (wrap u32 E2) 4) fun(x2:Int×Bool)=> .br (!x2.snd) (.lf (E1)) (.lv (Qkw x2.fst access) fun(x3:Bool)=> .br (!x3) (.lf (E1)) (.an (Q3t x2.fst) (.lv (Qf0 x2.fst) fun(x4:Int)=> .lv (Qgt m x4) fun(x5:Bool)=> .br (!x5) (.lf (E1)) (.an (Q3t x2.fst) (.lv (Qf0 x2.fst) fun(x6:Int)=> .lf ({Addr:=wrap u32 (wrap u32 (x6*128)+Int.tmod va 128),Entry:=wrap u32 E2,Cause:=0}))))))))))
def Qvn(m:(List Int))(root:Int)(va:Int)(access:Int):Q0w:=(Qbn m root va access).m
abbrev Q8a(m:(List Int))(root:Int)(va:Int)(access:Int):Prop:=(Qbn m root va access).p
def Z2r:Q08:=mkP 215 [] true [.one (.ints .u32), .one (.int .u32), .one (.int .u32), .one (.int .i64)] [] (fun args rows=>Q8a (argL .u32 args 0) (argI args 1) (argI args 2) (argI args 3)) (fun args rows=>Qvn (argL .u32 args 0) (argI args 1) (argI args 2) (argI args 3)) (fun X=> .agg (Q0w.cells X)) (fun X=>[])
theorem Qyf:Q02 Tryz.prog Z2r:=Q0j Q0f Q0g (.cons Qp (.cons Qsi (.cons Q6z (.cons Qp7 (.cons Qp8 (.nil)))))) Tryz.func215 Tryz.call215 (fun args rows=>Qbn (argL .u32 args 0) (argI args 1) (argI args 2) (argI args 3)) [] [] 2 (fun _ _ _=>by kernel_rfl) (fun _ _=>rfl) (fun _ _ h=>h) (fun _ X=>by kernel_rfl)
def Q9r(m:(List Int))(entry:Int)(access:Int):Tree (List Int):=
.an (Q2c m entry 4) (.lv (Q9c m entry 4) fun(x0:Int×Bool)=> .br (!x0.snd) (.an (Q0c m) (.lv (Q07 m) fun(x1:List Int)=> .lf x1)) (.br (access==3) (.an (Q3o m entry 4 (ior u32 (ior u32 x0.fst 8) 16)) (.lv (Qeq m entry 4 (ior u32 (ior u32 x0.fst 8) 16)) fun(x2:List Int×Bool)=> .lf x2.fst)) (.an (Q3o m entry 4 (ior u32 x0.fst 8)) (.lv (Qeq m entry 4 (ior u32 x0.fst 8)) fun(x3:List Int×Bool)=> .lf x3.fst))))
def Qrk(m:(List Int))(entry:Int)(access:Int):(List Int):=(Q9r m entry access).m
abbrev Q73(m:(List Int))(entry:Int)(access:Int):Prop:=(Q9r m entry access).p
def Qxe:Q08:=mkP 216 [] true [.one (.ints .u32), .one (.int .u32), .one (.int .i64)] [] (fun args rows=>Q73 (argL .u32 args 0) (argI args 1) (argI args 2)) (fun args rows=>Qrk (argL .u32 args 0) (argI args 1) (argI args 2)) (fun X=> .all 0) (fun X=>[⟨false,27,1, .ints .u32 X⟩])
theorem Qvw:Q02 Tryz.prog Qxe:=Q0j Q0f Q0g (.cons Q6z (.cons Q0r (.cons Qj4 (.nil)))) Tryz.func216 Tryz.call216 (fun args rows=>Q9r (argL .u32 args 0) (argI args 1) (argI args 2)) [.row 27 1 (.ints .u32)] [] 2 (fun _ _ _=>by kernel_rfl) (fun _ _=>rfl) (fun _ _ h=>h) (fun _ X=>by kernel_rfl)
def Qbl(c:Q03)(m:(List Int))(va:Int)(size:Int)(access:Int):Tree (Int×(List Int)×Int):=
.lv (Qts access) fun(x0:Int×Bool)=>let T3:Tree ((Int×(List Int)×Int)):= .an (Q0c m) (.lv (Q07 m) fun(x1:List Int)=> .lf (0,x1,5)); .br (!x0.snd) T3 (let T1:Tree ((Int×(List Int)×Int)):= .cn (decide (wrap u32 size≠0)) (.br (Int.tmod va (wrap u32 size) !=0) (.an (Q0c m) (.lv (Q07 m) fun(x3:List Int)=> .lf (0,x3,3))) (.lv (Qos c) fun(x4:Bool)=>let T2:Tree ((Int×(List Int)×Int)):= .an (Q2c m va size) (.lv (Q9c m va size) fun(x8:Int×Bool)=> .br (!x8.snd) (.an (Q0c m) (.lv (Q07 m) fun(x9:List Int)=> .lf (0,x9,x0.fst))) (.an (Q0c m) (.lv (Q07 m) fun(x10:List Int)=> .lf (va,x10,0)))); .br (!x4) (.br (iand u32 c.Csr.a0 (4:Int) !=(0:Int)) (.an (Q8a m c.Csr.a6 va access) (.lv (Qvn m c.Csr.a6 va access) fun(x5:Q0w)=> .br (x5.Cause !=0) (.an (Q0c m) (.lv (Q07 m) fun(x6:List Int)=> .lf (0,x6,x5.Cause))) (.an (Q73 m x5.Entry access) (.lv (Qrk m x5.Entry access) fun(x7:List Int)=> .lf (x5.Addr,x7,0))))) T2) T2)); .br (size !=1) (.br (size !=4) T3 T1) T1)
def Qh9(c:Q03)(m:(List Int))(va:Int)(size:Int)(access:Int):(Int×(List Int)×Int):=(Qbl c m va size access).m
abbrev Q4i(c:Q03)(m:(List Int))(va:Int)(size:Int)(access:Int):Prop:=(Qbl c m va size access).p
def Z1q:Q08:=mkP 167 [] true [.agg Q03.sig, .one (.ints .u32), .one (.int .u32), .one (.int .i64), .one (.int .i64)] [] (fun args rows=>Q4i (Q03.of (args.getD 0 .dead).cells) (argL .u32 args 1) (argI args 2) (argI args 3) (argI args 4)) (fun args rows=>Qh9 (Q03.of (args.getD 0 .dead).cells) (argL .u32 args 1) (argI args 2) (argI args 3) (argI args 4)) (fun X=> .tup [.int .u32 (X.1), .all 0, .int .i64 (X.2.2)]) (fun X=>[⟨false,27,1, .ints .u32 (X.2.1)⟩])
theorem Qey:Q02 Tryz.prog Z1q:=Q0j Q0f Q0g (.cons Qyz (.cons Q0r (.cons Qnb (.cons Qyf (.cons Qvw (.cons Q6z (.nil))))))) Tryz.func167 Tryz.call167 (fun args rows=>Qbl (Q03.of (args.getD 0 .dead).cells) (argL .u32 args 1) (argI args 2) (argI args 3) (argI args 4)) [.row 27 1 (.ints .u32)] [] 2 (fun _ _ _=>by kernel_rfl) (fun _ _=>rfl) (fun _ _ h=>h) (fun _ X=>by kernel_rfl)
def Qgn(c:Q03)(m:(List Int)):Tree (Int×(List Int)×Int):=
.an (Q4i c m c.Pc 4 1) (.lv (Qh9 c m c.Pc 4 1) fun(x0:Int×List Int×Int)=> .br (x0.snd.snd !=0) (.lf (0,x0.snd.fst,x0.snd.snd)) (.an (Q2c x0.snd.fst x0.fst 4) (.lv (Q9c x0.snd.fst x0.fst 4) fun(x1:Int×Bool)=> .lf (x1.fst,x0.snd.fst,0))))
def Z6g(c:Q03)(m:(List Int)):(Int×(List Int)×Int):=(Qgn c m).m
abbrev Qbv(c:Q03)(m:(List Int)):Prop:=(Qgn c m).p
def Z9i:Q08:=mkP 120 [] true [.agg Q03.sig, .one (.ints .u32)] [] (fun args rows=>Qbv (Q03.of (args.getD 0 .dead).cells) (argL .u32 args 1)) (fun args rows=>Z6g (Q03.of (args.getD 0 .dead).cells) (argL .u32 args 1)) (fun X=> .tup [.int .u32 (X.1), .all 0, .int .i64 (X.2.2)]) (fun X=>[⟨false,27,1, .ints .u32 (X.2.1)⟩])
theorem Z8:Q02 Tryz.prog Z9i:=Q0j Q0f Q0g (.cons Qey (.cons Q6z (.nil))) Tryz.func120 Tryz.call120 (fun args rows=>Qgn (Q03.of (args.getD 0 .dead).cells) (argL .u32 args 1)) [.row 27 1 (.ints .u32)] [] 2 (fun _ _ _=>by kernel_rfl) (fun _ _=>rfl) (fun _ _ h=>h) (fun _ X=>by kernel_rfl)
def Qhn(op:Int):Tree Bool:=
.br (op==57) (.lf true) (.br (op==58) (.lf true) (.br (op==59) (.lf true) (.br (op==60) (.lf true) (.br (op==61) (.lf true) (.br (op==62) (.lf true) (.br (op==63) (.lf true) (.br (op==64) (.lf true) (.lf false))))))))
def Qku(op:Int):Bool:=(Qhn op).m
def Qt1:Q08:=mkR 122 [] true [.one (.int .i64)] [] (fun args rows=>Qku (argI args 0)) (fun X=> .bool X) (fun X=>[])
theorem Qpf:Q02 Tryz.prog Qt1:=Q0q Q0f Q0g (.nil) Tryz.func122 Tryz.call122 (fun args rows=>Qhn (argI args 0)) [] [] 2 (fun _ _ _=>by kernel_rfl) (fun _ _=>rfl) (fun _ _=>Tree.free_ok (by kernel_rfl)) (fun _ X=>by kernel_rfl)
def Quu(op:Int):Tree Int:=
.br (op==32) (.lf 4) (.br (op==35) (.lf 4) (.lf 1))
def Qin(op:Int):Int:=(Quu op).m
def Z89:Q08:=mkR 173 [] true [.one (.int .i64)] [] (fun args rows=>Qin (argI args 0)) (fun X=> .int .i64 X) (fun X=>[])
theorem Qr2:Q02 Tryz.prog Z89:=Q0q Q0f Q0g (.nil) Tryz.func173 Tryz.call173 (fun args rows=>Quu (argI args 0)) [] [] 2 (fun _ _ _=>by kernel_rfl) (fun _ _=>rfl) (fun _ _=>Tree.free_ok (by kernel_rfl)) (fun _ X=>by kernel_rfl)
def Qo(c:Q03)(register:Int)(v:Int):Tree Q03:=
.br (register !=0) (.cn (Nat.blt 0 1&&decide (0≤register∧register<(↑16:Int))) (.lf ({X:=A16.of 0 (List.set (A16.l c.X) (Int.toNat register) v),Pc:=c.Pc,Csr:=c.Csr}))) (.lf c)
def Qh8(c:Q03)(register:Int)(v:Int):Q03:=(Qo c register v).m
abbrev Q33(c:Q03)(register:Int)(v:Int):Prop:=(Qo c register v).p
def cpu_set_m:Q08:=mkP 174 [] true [.agg Q03.sig, .one (.int .i64), .one (.int .u32)] [] (fun args rows=>Q33 (Q03.of (args.getD 0 .dead).cells) (argI args 1) (argI args 2)) (fun args rows=>Qh8 (Q03.of (args.getD 0 .dead).cells) (argI args 1) (argI args 2)) (fun X=> .agg (Q03.cells X)) (fun X=>[])
theorem Qzg:Q02 Tryz.prog cpu_set_m:=Q0j Q0f Q0g (.nil) Tryz.func174 Tryz.call174 (fun args rows=>Qo (Q03.of (args.getD 0 .dead).cells) (argI args 1) (argI args 2)) [] [] 2 (fun _ _ _=>by kernel_rfl) (fun _ _=>rfl) (fun _ _ h=>h) (fun _ X=>by kernel_rfl)
def Qjr(c:Q03)(m:(List Int))(i:Q0i):Tree (Q03×(List Int)):=
.cn (Nat.blt 0 1&&decide (0≤i.B∧i.B<(↑16:Int))) (.lv (Qin i.Op) fun(x0:Int)=>let E1:=wrap u32 (List.getD (A16.l c.X) (Int.toNat i.B) 0+wrap u32 i.Imm); .an (Q4i c m E1 x0 2) (.lv (Qh9 c m E1 x0 2) fun(x1:Int×List Int×Int)=> .br (x1.snd.snd !=0) (.lv (Qev c x1.snd.snd E1) fun(x2:Q03)=> .lf (x2,x1.snd.fst)) (.lv (Qin i.Op) fun(x3:Int)=> .an (Q2c x1.snd.fst x1.fst x3) (.lv (Q9c x1.snd.fst x1.fst x3) fun(x4:Int×Bool)=> .br (i.Op==33) (.an (Q3 x4.fst 8) (.lv (Qdx x4.fst 8) fun(x5:Int)=> .an (Q33 c i.A x5) (.lv (Qh8 c i.A x5) fun(x6:Q03)=> .lf ({X:=x6.X,Pc:=wrap u32 (x6.Pc+4),Csr:=x6.Csr},x1.snd.fst)))) (.an (Q33 c i.A x4.fst) (.lv (Qh8 c i.A x4.fst) fun(x7:Q03)=> .lf ({X:=x7.X,Pc:=wrap u32 (x7.Pc+4),Csr:=x7.Csr},x1.snd.fst)))))))
def Zbv(c:Q03)(m:(List Int))(i:Q0i):(Q03×(List Int)):=(Qjr c m i).m
abbrev Qea(c:Q03)(m:(List Int))(i:Q0i):Prop:=(Qjr c m i).p
def Zdr:Q08:=mkP 124 [] true [.agg Q03.sig, .one (.ints .u32), .agg Q0i.sig] [] (fun args rows=>Qea (Q03.of (args.getD 0 .dead).cells) (argL .u32 args 1) (Q0i.of (args.getD 2 .dead).cells)) (fun args rows=>Zbv (Q03.of (args.getD 0 .dead).cells) (argL .u32 args 1) (Q0i.of (args.getD 2 .dead).cells)) (fun X=> .tup [.agg (Q03.cells (X.1)), .all 0]) (fun X=>[⟨false,27,1, .ints .u32 (X.2)⟩])
theorem Z9q:Q02 Tryz.prog Zdr:=Q0j Q0f Q0g (.cons Qey (.cons Qr2 (.cons Qcs (.cons Q6z (.cons Qe6 (.cons Qzg (.nil))))))) Tryz.func124 Tryz.call124 (fun args rows=>Qjr (Q03.of (args.getD 0 .dead).cells) (argL .u32 args 1) (Q0i.of (args.getD 2 .dead).cells)) [.row 27 1 (.ints .u32)] [] 2 (fun _ _ _=>by kernel_rfl) (fun _ _=>rfl) (fun _ _ h=>h) (fun _ X=>by kernel_rfl)
def Qgd(c:Q03)(m:(List Int))(i:Q0i):Tree (Q03×(List Int)):=
.cn (Nat.blt 0 1&&decide (0≤i.B∧i.B<(↑16:Int))) (.lv (Qin i.Op) fun(x0:Int)=>let E1:=wrap u32 (List.getD (A16.l c.X) (Int.toNat i.B) 0+wrap u32 i.Imm); .an (Q4i c m E1 x0 3) (.lv (Qh9 c m E1 x0 3) fun(x1:Int×List Int×Int)=> .br (x1.snd.snd !=0) (.lv (Qev c x1.snd.snd E1) fun(x2:Q03)=> .lf (x2,x1.snd.fst)) (.lv (Qin i.Op) fun(x3:Int)=> .cn (Nat.blt 0 1&&decide (0≤i.A∧i.A<(↑16:Int))) (let E2:=List.getD (A16.l c.X) (Int.toNat i.A) 0; .an (Q3o x1.snd.fst x1.fst x3 E2) (.lv (Qeq x1.snd.fst x1.fst x3 E2) fun(x4:List Int×Bool)=> .lf ({X:=c.X,Pc:=wrap u32 (c.Pc+4),Csr:=c.Csr},x4.fst))))))
def Z6y(c:Q03)(m:(List Int))(i:Q0i):(Q03×(List Int)):=(Qgd c m i).m
abbrev Qba(c:Q03)(m:(List Int))(i:Q0i):Prop:=(Qgd c m i).p
def Za3:Q08:=mkP 125 [] true [.agg Q03.sig, .one (.ints .u32), .agg Q0i.sig] [] (fun args rows=>Qba (Q03.of (args.getD 0 .dead).cells) (argL .u32 args 1) (Q0i.of (args.getD 2 .dead).cells)) (fun args rows=>Z6y (Q03.of (args.getD 0 .dead).cells) (argL .u32 args 1) (Q0i.of (args.getD 2 .dead).cells)) (fun X=> .tup [.agg (Q03.cells (X.1)), .all 0]) (fun X=>[⟨false,27,1, .ints .u32 (X.2)⟩])
theorem Z4a:Q02 Tryz.prog Za3:=Q0j Q0f Q0g (.cons Qey (.cons Qr2 (.cons Qcs (.cons Qj4 (.nil))))) Tryz.func125 Tryz.call125 (fun args rows=>Qgd (Q03.of (args.getD 0 .dead).cells) (argL .u32 args 1) (Q0i.of (args.getD 2 .dead).cells)) [.row 27 1 (.ints .u32)] [] 2 (fun _ _ _=>by kernel_rfl) (fun _ _=>rfl) (fun _ _ h=>h) (fun _ X=>by kernel_rfl)
def Qus(op:Int)(a:Int)(b:Int):Tree Bool:=
.br (op==40) (.lf (a==b)) (.br (op==41) (.lf (a !=b)) (.br (op==42) (.lf (decide (wrap i32 a<wrap i32 b))) (.br (op==43) (.lf (decide (wrap i32 a≥wrap i32 b))) (.br (op==44) (.lf (decide (a<b))) (.lf (decide (a≥b)))))))
def Z72(op:Int)(a:Int)(b:Int):Bool:=(Qus op a b).m
def Zak:Q08:=mkR 176 [] true [.one (.int .i64), .one (.int .u32), .one (.int .u32)] [] (fun args rows=>Z72 (argI args 0) (argI args 1) (argI args 2)) (fun X=> .bool X) (fun X=>[])
theorem Z7b:Q02 Tryz.prog Zak:=Q0q Q0f Q0g (.nil) Tryz.func176 Tryz.call176 (fun args rows=>Qus (argI args 0) (argI args 1) (argI args 2)) [] [] 2 (fun _ _ _=>by kernel_rfl) (fun _ _=>rfl) (fun _ _=>Tree.free_ok (by kernel_rfl)) (fun _ X=>by kernel_rfl)
def Qr1(c:Q03):Tree Q03:=
.lv (Qoa c.Csr.a0 8 1) fun(x0:Int)=> .lv (Qoa x0 16 2) fun(x1:Int)=> .lf ({X:=c.X,Pc:=c.Csr.a2,Csr:={a0:=x1,a1:=c.Csr.a1,a2:=c.Csr.a2,a3:=c.Csr.a3,a4:=c.Csr.a4,a5:=c.Csr.a5,a6:=c.Csr.a6,a7:=c.Csr.a7}})
def Qzp(c:Q03):Q03:=(Qr1 c).m
def Z6k:Q08:=mkR 177 [] true [.agg Q03.sig] [] (fun args rows=>Qzp (Q03.of (args.getD 0 .dead).cells)) (fun X=> .agg (Q03.cells X)) (fun X=>[])
theorem Z3b:Q02 Tryz.prog Z6k:=Q0q Q0f Q0g (.cons Quk (.nil)) Tryz.func177 Tryz.call177 (fun args rows=>Qr1 (Q03.of (args.getD 0 .dead).cells)) [] [] 2 (fun _ _ _=>by kernel_rfl) (fun _ _=>rfl) (fun _ _=>Tree.free_ok (by kernel_rfl)) (fun _ X=>by kernel_rfl)
def Qh0(c:Q03)(csr:Int)(v:Int):Tree Q03:=
let E4:=Nat.blt 0 1&&decide (0≤csr∧csr<(↑8:Int));let T2:Tree (Q03):= .cn E4 (.lf ({X:=c.X,Pc:=c.Pc,Csr:=A8.of 0 (List.set (A8.l c.Csr) (Int.toNat csr) (iand u32 v 31))})); .br (csr==0) T2 (.br (csr==7) T2 (.br (csr==6) (.cn E4 (.lf ({X:=c.X,Pc:=c.Pc,Csr:=A8.of 0 (List.set (A8.l c.Csr) (Int.toNat csr) (iand u32 v 255))}))) (let T3:Tree (Q03):= .cn E4 (.lf ({X:=c.X,Pc:=c.Pc,Csr:=A8.of 0 (List.set (A8.l c.Csr) (Int.toNat csr) (Qka u32 v 3))})); .br (csr==1) T3 (.br (csr==2) T3 (let T1:Tree (Q03):= .cn E4 (.lf ({X:=c.X,Pc:=c.Pc,Csr:=A8.of 0 (List.set (A8.l c.Csr) (Int.toNat csr) v)})); .br (csr==3) T1 (.br (csr==4) T1 (.br (csr==5) T1 (.lf c))))))))
def Z5k(c:Q03)(csr:Int)(v:Int):Q03:=(Qh0 c csr v).m
abbrev Qbk(c:Q03)(csr:Int)(v:Int):Prop:=(Qh0 c csr v).p
def Z8k:Q08:=mkP 178 [] true [.agg Q03.sig, .one (.int .i64), .one (.int .u32)] [] (fun args rows=>Qbk (Q03.of (args.getD 0 .dead).cells) (argI args 1) (argI args 2)) (fun args rows=>Z5k (Q03.of (args.getD 0 .dead).cells) (argI args 1) (argI args 2)) (fun X=> .agg (Q03.cells X)) (fun X=>[])
theorem Z4w:Q02 Tryz.prog Z8k:=Q0j Q0f Q0g (.nil) Tryz.func178 Tryz.call178 (fun args rows=>Qh0 (Q03.of (args.getD 0 .dead).cells) (argI args 1) (argI args 2)) [] [] 2 (fun _ _ _=>by kernel_rfl) (fun _ _=>rfl) (fun _ _ h=>h) (fun _ X=>by kernel_rfl)
def Qbg(c:Q03)(i:Q0i):Tree (Q03×Q18):=
.cn (Nat.blt 0 1&&decide (0≤i.A∧i.A<(↑16:Int))) (.cn (Nat.blt 0 1&&decide (0≤i.B∧i.B<(↑16:Int))) (.br (i.Op==24) (.an (Q33 c i.A (ishl u32 (wrap u32 i.Imm) 16)) (.lv (Qh8 c i.A (ishl u32 (wrap u32 i.Imm) 16)) fun(x0:Q03)=> .lf ({X:=x0.X,Pc:=wrap u32 (c.Pc+4),Csr:=x0.Csr},{Kind:=0,Port:=0,Reg:=0,Value:=0}))) (let E2:=({X:=c.X,Pc:=wrap u32 (c.Pc+4),Csr:=c.Csr}:Q03);let E3:=List.getD (A16.l c.X) (Int.toNat i.B) 0;let E4:=List.getD (A16.l c.X) (Int.toNat i.A) 0;let T1:Tree ((Q03×Q18)):= .lv (Z72 i.Op E4 E3) fun(x1:Bool)=> .br x1 (.lf ({X:=c.X,Pc:=wrap u32 (c.Pc+wrap u32 (4*wrap u32 i.Imm)),Csr:=c.Csr},{Kind:=0,Port:=0,Reg:=0,Value:=0})) (.lf (E2,{Kind:=0,Port:=0,Reg:=0,Value:=0})); .br (i.Op==40) T1 (.br (i.Op==41) T1 (.br (i.Op==42) T1 (.br (i.Op==43) T1 (.br (i.Op==44) T1 (.br (i.Op==45) T1 (.br (i.Op==48) (.an (Q33 c i.A (wrap u32 (c.Pc+4))) (.lv (Qh8 c i.A (wrap u32 (c.Pc+4))) fun(x7:Q03)=> .lf ({X:=x7.X,Pc:=wrap u32 (x7.Pc+wrap u32 (4*wrap u32 i.Imm)),Csr:=x7.Csr},{Kind:=0,Port:=0,Reg:=0,Value:=0}))) (.br (i.Op==49) (.an (Q33 c i.A (wrap u32 (c.Pc+4))) (.lv (Qh8 c i.A (wrap u32 (c.Pc+4))) fun(x8:Q03)=> .lf ({X:=x8.X,Pc:=wrap u32 (List.getD (A16.l c.X) (Int.toNat i.B) 0+wrap u32 i.Imm),Csr:=x8.Csr},{Kind:=0,Port:=0,Reg:=0,Value:=0}))) (.br (i.Op==56) (.lv (Qev c 7 0) fun(x9:Q03)=> .lf (x9,{Kind:=0,Port:=0,Reg:=0,Value:=0})) (.br (i.Op==57) (.lv (Qzp c) fun(x10:Q03)=> .lf (x10,{Kind:=0,Port:=0,Reg:=0,Value:=0})) (.br (i.Op==58) (.cn (Nat.blt 0 1&&decide (0≤i.Imm∧i.Imm<(↑8:Int))) (let E5:=List.getD (A8.l c.Csr) (Int.toNat i.Imm) 0; .an (Q33 c i.A E5) (.lv (Qh8 c i.A E5) fun(x11:Q03)=> .lf ({X:=x11.X,Pc:=wrap u32 (c.Pc+4),Csr:=x11.Csr},{Kind:=0,Port:=0,Reg:=0,Value:=0})))) (.br (i.Op==59) (.an (Qbk c (wrap i64 i.Imm) E4) (.lv (Z5k c (wrap i64 i.Imm) E4) fun(x12:Q03)=> .lf ({X:=x12.X,Pc:=wrap u32 (c.Pc+4),Csr:=x12.Csr},{Kind:=0,Port:=0,Reg:=0,Value:=0}))) (.br (i.Op==60) (.lf (E2,{Kind:=1,Port:=wrap i64 i.Imm,Reg:=i.A,Value:=0})) (.br (i.Op==61) (.lf (E2,{Kind:=2,Port:=wrap i64 i.Imm,Reg:=0,Value:=List.getD (A16.l c.X) (Int.toNat i.A) 0})) (.br (i.Op==62) (.lf (E2,{Kind:=3,Port:=0,Reg:=0,Value:=0})) (.br (i.Op==63) (.lf (E2,{Kind:=5,Port:=0,Reg:=0,Value:=0})) (.br (i.Op==64) (.lf (E2,{Kind:=4,Port:=0,Reg:=0,Value:=0})) (.cn (Nat.blt 0 1&&decide (0≤i.C∧i.C<(↑16:Int))) (.br (decide (i.Op≥16)) (.an (Qcj i.Op E3 (wrap u32 i.Imm)) (.lv (Z9j i.Op E3 (wrap u32 i.Imm)) fun(x13:Int×Bool)=> .an (Q33 c i.A x13.fst) (.lv (Qh8 c i.A x13.fst) fun(x14:Q03)=> .lf ({X:=x14.X,Pc:=wrap u32 (c.Pc+4),Csr:=x14.Csr},{Kind:=0,Port:=0,Reg:=0,Value:=0})))) (let E6:=List.getD (A16.l c.X) (Int.toNat i.C) 0; .an (Qcj i.Op E3 E6) (.lv (Z9j i.Op E3 E6) fun(x15:Int×Bool)=> .an (Q33 c i.A x15.fst) (.lv (Qh8 c i.A x15.fst) fun(x16:Q03)=> .lf ({X:=x16.X,Pc:=wrap u32 (c.Pc+4),Csr:=x16.Csr},{Kind:=0,Port:=0,Reg:=0,Value:=0})))))))))))))))))))))))))
def Qv0(c:Q03)(i:Q0i):(Q03×Q18):=(Qbg c i).m
abbrev Q8p(c:Q03)(i:Q0i):Prop:=(Qbg c i).p
def Z16:Q08:=mkP 126 [] true [.agg Q03.sig, .agg Q0i.sig] [] (fun args rows=>Q8p (Q03.of (args.getD 0 .dead).cells) (Q0i.of (args.getD 1 .dead).cells)) (fun args rows=>Qv0 (Q03.of (args.getD 0 .dead).cells) (Q0i.of (args.getD 1 .dead).cells)) (fun X=> .tup [.agg (Q03.cells (X.1)), .agg (Q18.cells (X.2))]) (fun X=>[])
theorem Qxb:Q02 Tryz.prog Z16:=Q0j Q0f Q0g (.cons Qzg (.cons Z7b (.cons Qcs (.cons Z3b (.cons Z4w (.cons Zd8 (.nil))))))) Tryz.func126 Tryz.call126 (fun args rows=>Qbg (Q03.of (args.getD 0 .dead).cells) (Q0i.of (args.getD 1 .dead).cells)) [] [] 2 (fun _ _ _=>by kernel_rfl) (fun _ _=>rfl) (fun _ _ h=>h) (fun _ X=>by kernel_rfl)
def Qjp(c:Q03)(m:(List Int)):Tree (Q03×(List Int)×Q18):=
.an (Qbv c m) (.lv (Z6g c m) fun(x0:Int×List Int×Int)=> .br (x0.snd.snd !=0) (.lv (Qev c x0.snd.snd c.Pc) fun(x1:Q03)=> .lf (x1,x0.snd.fst,{Kind:=0,Port:=0,Reg:=0,Value:=0})) (.an (Q9w x0.fst) (.lv (Z0p x0.fst) fun(x2:Q0i×Bool)=> .br (!x2.snd) (.lv (Qev c 1 x0.fst) fun(x3:Q03)=> .lf (x3,x0.snd.fst,{Kind:=0,Port:=0,Reg:=0,Value:=0})) (.lv (Qku x2.fst.Op) fun(x4:Bool)=>let T1:Tree ((Q03×(List Int)×Q18)):=let T2:Tree ((Q03×(List Int)×Q18)):= .an (Qea c x0.snd.fst x2.fst) (.lv (Zbv c x0.snd.fst x2.fst) fun(x7:Q03×List Int)=> .lf (x7.fst,x7.snd,{Kind:=0,Port:=0,Reg:=0,Value:=0})); .br (x2.fst.Op==32) T2 (.br (x2.fst.Op==33) T2 (.br (x2.fst.Op==34) T2 (let T3:Tree ((Q03×(List Int)×Q18)):= .an (Qba c x0.snd.fst x2.fst) (.lv (Z6y c x0.snd.fst x2.fst) fun(x10:Q03×List Int)=> .lf (x10.fst,x10.snd,{Kind:=0,Port:=0,Reg:=0,Value:=0})); .br (x2.fst.Op==35) T3 (.br (x2.fst.Op==36) T3 (.an (Q8p c x2.fst) (.lv (Qv0 c x2.fst) fun(x12:Q03×Q18)=> .lf (x12.fst,x0.snd.fst,x12.snd))))))); .br x4 (.lv (Qos c) fun(x5:Bool)=> .br (!x5) (.lv (Qev c 2 x0.fst) fun(x6:Q03)=> .lf (x6,x0.snd.fst,{Kind:=0,Port:=0,Reg:=0,Value:=0})) T1) T1))))
def Zc5(c:Q03)(m:(List Int)):(Q03×(List Int)×Q18):=(Qjp c m).m
abbrev Qew(c:Q03)(m:(List Int)):Prop:=(Qjp c m).p
def Zdp:Q08:=mkP 62 [] true [.agg Q03.sig, .one (.ints .u32)] [] (fun args rows=>Qew (Q03.of (args.getD 0 .dead).cells) (argL .u32 args 1)) (fun args rows=>Zc5 (Q03.of (args.getD 0 .dead).cells) (argL .u32 args 1)) (fun X=> .tup [.agg (Q03.cells (X.1)), .all 0, .agg (Q18.cells (X.2.2))]) (fun X=>[⟨false,27,1, .ints .u32 (X.2.1)⟩])
theorem Z9w:Q02 Tryz.prog Zdp:=Q0j Q0f Q0g (.cons Z8 (.cons Qcs (.cons Z20 (.cons Qpf (.cons Qnb (.cons Z9q (.cons Z4a (.cons Qxb (.nil))))))))) Tryz.func62 Tryz.call62 (fun args rows=>Qjp (Q03.of (args.getD 0 .dead).cells) (argL .u32 args 1)) [.row 27 1 (.ints .u32)] [] 2 (fun _ _ _=>by kernel_rfl) (fun _ _=>rfl) (fun _ _ h=>h) (fun _ X=>by kernel_rfl)
end
end Go.Proofs.YtdkiadhigcfmkaaGreat

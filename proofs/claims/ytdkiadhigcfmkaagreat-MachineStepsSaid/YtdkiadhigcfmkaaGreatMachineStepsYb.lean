/-
  Functions of the program: models, and that its calls come to them (by a program: gen3.py).
-/
import Derived.Test.YtdkiadhigcfmkaaGreatMachineStepsBase
import Derived.Test.YtdkiadhigcfmkaaGreatMachineStepsYa
namespace Go.Proofs.YtdkiadhigcfmkaaGreat
open Go Go.GD Go.IntKind
set_option linter.unusedVariables false
set_option linter.unusedSimpArgs false
set_option maxRecDepth 100000
noncomputable section
def Qlw(status:Int)(from0:Int)(to:Int):Tree Int:=
.br (iand u32 status from0 !=0) (.lf (ior u32 status to)) (.lf (Qgh u32 status to))
def Q7g(status:Int)(from0:Int)(to:Int):Int:=(Qlw status from0 to).m
def Zfw:Q0a:=mkR 166 [] true [.one (.int .u32), .one (.int .u32), .one (.int .u32)] [] (fun args rows=>Q7g (argI args 0) (argI args 1) (argI args 2)) (fun X=> .int .u32 X) (fun X=>[])
theorem Qxl:Q03 Tryz.prog Zfw:=Q0t Q0g Q0h (.nil) Tryz.func166 Tryz.call166 (fun args rows=>Qlw (argI args 0) (argI args 1) (argI args 2)) [] [] 2 (fun _ _ _=>by kernel_rfl) (fun _ _=>rfl) (fun _ _=>Tree.free_ok (by kernel_rfl)) (fun _ X=>by kernel_rfl)
def Qhz(c:Q02)(cause:Int)(bad:Int):Tree Q02:=
.lv (Q7g c.Csr.a0 1 8) fun(x0:Int)=> .lv (Q7g x0 2 16) fun(x1:Int)=> .lf ({X:=c.X,Pc:=c.Csr.a1,Csr:={a0:=Qgh u32 (ior u32 x1 1) 2,a1:=c.Csr.a1,a2:=c.Pc,a3:=wrap u32 cause,a4:=bad,a5:=c.Csr.a5,a6:=c.Csr.a6,a7:=c.Csr.a7}})
def Q3f(c:Q02)(cause:Int)(bad:Int):Q02:=(Qhz c cause bad).m
def Ze5:Q0a:=mkR 119 [] true [.agg Q02.sig, .one (.int .i64), .one (.int .u32)] [] (fun args rows=>Q3f (Q02.of (args.getD 0 .dead).cells) (argI args 1) (argI args 2)) (fun X=> .agg (Q02.cells X)) (fun X=>[])
theorem Qg9:Q03 Tryz.prog Ze5:=Q0t Q0g Q0h (.cons Qxl (.nil)) Tryz.func119 Tryz.call119 (fun args rows=>Qhz (Q02.of (args.getD 0 .dead).cells) (argI args 1) (argI args 2)) [] [] 2 (fun _ _ _=>by kernel_rfl) (fun _ _=>rfl) (fun _ _=>Tree.free_ok (by kernel_rfl)) (fun _ X=>by kernel_rfl)
def Qoy(access:Int):Tree (Int×Bool):=
.br (access==1) (.lf (4,true)) (.br (access==2) (.lf (5,true)) (.br (access==3) (.lf (6,true)) (.lf (5,false))))
def Qny(access:Int):(Int×Bool):=(Qoy access).m
def Z4h:Q0a:=mkR 214 [] true [.one (.int .i64)] [] (fun args rows=>Qny (argI args 0)) (fun X=> .tup [.int .i64 (X.1), .bool (X.2)]) (fun X=>[])
theorem Qzu:Q03 Tryz.prog Z4h:=Q0t Q0g Q0h (.nil) Tryz.func214 Tryz.call214 (fun args rows=>Qoy (argI args 0)) [] [] 2 (fun _ _ _=>by kernel_rfl) (fun _ _=>rfl) (fun _ _=>Tree.free_ok (by kernel_rfl)) (fun _ X=>by kernel_rfl)
def Qsi(c:Q02):Tree Bool:=
.lf (iand u32 c.Csr.a0 (1:Int) !=(0:Int))
def Qa0(c:Q02):Bool:=(Qsi c).m
def Z91:Q0a:=mkR 123 [] true [.agg Q02.sig] [] (fun args rows=>Qa0 (Q02.of (args.getD 0 .dead).cells)) (fun X=> .bool X) (fun X=>[])
theorem Qp7:Q03 Tryz.prog Z91:=Q0t Q0g Q0h (.nil) Tryz.func123 Tryz.call123 (fun args rows=>Qsi (Q02.of (args.getD 0 .dead).cells)) [] [] 2 (fun _ _ _=>by kernel_rfl) (fun _ _=>rfl) (fun _ _=>Tree.free_ok (by kernel_rfl)) (fun _ X=>by kernel_rfl)
def Qjp(access:Int):Tree (Int×Bool):=
.br (access==1) (.lf (4,true)) (.br (access==2) (.lf (5,true)) (.br (access==3) (.lf (6,true)) (.lf (5,false))))
def Qhf(access:Int):(Int×Bool):=(Qjp access).m
def Quh:Q0a:=mkR 254 [] true [.one (.int .i64)] [] (fun args rows=>Qhf (argI args 0)) (fun X=> .tup [.int .i64 (X.1), .bool (X.2)]) (fun X=>[])
theorem Qqv:Q03 Tryz.prog Quh:=Q0t Q0g Q0h (.nil) Tryz.func254 Tryz.call254 (fun args rows=>Qjp (argI args 0)) [] [] 2 (fun _ _ _=>by kernel_rfl) (fun _ _=>rfl) (fun _ _=>Tree.free_ok (by kernel_rfl)) (fun _ X=>by kernel_rfl)
def Qgg(m:(List Int))(frame:Int):Tree Bool:=
.lv (Q0s m) fun(x0:Int)=> .lf (decide (wrap u64 frame<wrap u64 x0))
def Q8j(m:(List Int))(frame:Int):Bool:=(Qgg m frame).m
def Qye:Q0a:=mkR 255 [] true [.one (.ints .u32), .one (.int .u32)] [] (fun args rows=>Q8j (argL .u32 args 0) (argI args 1)) (fun X=> .bool X) (fun X=>[])
theorem Qu:Q03 Tryz.prog Qye:=Q0t Q0g Q0h (.cons Q39 (.nil)) Tryz.func255 Tryz.call255 (fun args rows=>Qgg (argL .u32 args 0) (argI args 1)) [] [] 2 (fun _ _ _=>by kernel_rfl) (fun _ _=>rfl) (fun _ _=>Tree.free_ok (by kernel_rfl)) (fun _ X=>by kernel_rfl)
def Q6i(m:(List Int))(addr:Int)(size:Int):Tree (Int×Bool):=
.an (Q67 m addr size) (.lv (Qe1 m addr size) fun(x0:Bool)=> .br (!x0) (.lf (0,false)) (.cn (Nat.beq 1 1&&Nat.blt 0 1&&decide (0≤wrap u32 (Int.tdiv addr 4)∧wrap u32 (Int.tdiv addr 4)<(↑(List.length m):Int))) (let E1:=Int.toNat (wrap u32 (Int.tdiv addr 4)); .br (size==1) (let E2:=wrap i64 (wrap i64 (Int.tmod addr 4)*8); .an (Q3 (List.getD m E1 0) E2 8) (.lv (Q28 (List.getD m E1 0) E2 8) fun(x1:Int)=> .lf (x1,true))) (.lf (List.getD m E1 0,true)))))
def Q3l(m:(List Int))(addr:Int)(size:Int):(Int×Bool):=(Q6i m addr size).m
abbrev Q21(m:(List Int))(addr:Int)(size:Int):Prop:=(Q6i m addr size).p
def Z5f:Q0a:=mkP 168 [] true [.one (.ints .u32), .one (.int .u32), .one (.int .i64)] [] (fun args rows=>Q21 (argL .u32 args 0) (argI args 1) (argI args 2)) (fun args rows=>Q3l (argL .u32 args 0) (argI args 1) (argI args 2)) (fun X=> .tup [.int .u32 (X.1), .bool (X.2)]) (fun X=>[])
theorem Q95:Q03 Tryz.prog Z5f:=Q0j Q0g Q0h (.cons Qjw (.cons Qih (.nil))) Tryz.func168 Tryz.call168 (fun args rows=>Q6i (argL .u32 args 0) (argI args 1) (argI args 2)) [] [] 2 (fun _ _ _=>by kernel_rfl) (fun _ _=>rfl) (fun _ _ h=>h) (fun _ X=>by kernel_rfl)
def Qjq(pte:Int)(access:Int):Tree Bool:=
.br (iand u32 pte (1:Int)==(0:Int)) (.lf false) (.br (access==3) (.lf (iand u32 pte (2:Int) !=(0:Int))) (.br (access==1) (.lf (iand u32 pte (4:Int) !=(0:Int))) (.lf true)))
def Q92(pte:Int)(access:Int):Bool:=(Qjq pte access).m
def Qub:Q0a:=mkR 256 [] true [.one (.int .u32), .one (.int .i64)] [] (fun args rows=>Q92 (argI args 0) (argI args 1)) (fun X=> .bool X) (fun X=>[])
theorem Qqh:Q03 Tryz.prog Qub:=Q0t Q0g Q0h (.nil) Tryz.func256 Tryz.call256 (fun args rows=>Qjq (argI args 0) (argI args 1)) [] [] 2 (fun _ _ _=>by kernel_rfl) (fun _ _=>rfl) (fun _ _=>Tree.free_ok (by kernel_rfl)) (fun _ X=>by kernel_rfl)
def Q4u(pte:Int):Tree Int:=
.an (Q3 pte 8 8) (.lv (Q28 pte 8 8) fun(x0:Int)=> .lf x0)
def Qc5(pte:Int):Int:=(Q4u pte).m
abbrev Q52(pte:Int):Prop:=(Q4u pte).p
def Que:Q0a:=mkP 257 [] true [.one (.int .u32)] [] (fun args rows=>Q52 (argI args 0)) (fun args rows=>Qc5 (argI args 0)) (fun X=> .int .u32 X) (fun X=>[])
theorem Qqr:Q03 Tryz.prog Que:=Q0j Q0g Q0h (.cons Qih (.nil)) Tryz.func257 Tryz.call257 (fun args rows=>Q4u (argI args 0)) [] [] 2 (fun _ _ _=>by kernel_rfl) (fun _ _=>rfl) (fun _ _ h=>h) (fun _ X=>by kernel_rfl)
def Q6o(m:(List Int))(root:Int)(va:Int)(access:Int):Tree Q0w:=
.lv (Qhf access) fun(x0:Int×Bool)=>let E1:=({Addr:=0,Entry:=0,Cause:=x0.fst}:Q0w); .br (!x0.snd) (.lf (E1)) (.br (decide (va≥4096)) (.lf (E1)) (.lv (Q8j m root) fun(x1:Bool)=> .br (!x1) (.lf (E1)) (let E2:=wrap u32 (root*128)+wrap u32 (4*wrap u32 (Int.tdiv va 128)); .an (Q21 m (wrap u32 E2) 4) (.lv (Q3l m (wrap u32 E2) 4) fun(x2:Int×Bool)=> .br (!x2.snd) (.lf (E1)) (.lv (Q92 x2.fst access) fun(x3:Bool)=> .br (!x3) (.lf (E1)) (.an (Q52 x2.fst) (.lv (Qc5 x2.fst) fun(x4:Int)=> .lv (Q8j m x4) fun(x5:Bool)=> .br (!x5) (.lf (E1)) (.an (Q52 x2.fst) (.lv (Qc5 x2.fst) fun(x6:Int)=> .lf ({Addr:=wrap u32 (wrap u32 (x6*128)+Int.tmod va 128),Entry:=wrap u32 E2,Cause:=0}))))))))))
def Qfw(m:(List Int))(root:Int)(va:Int)(access:Int):Q0w:=(Q6o m root va access).m
abbrev Q7v(m:(List Int))(root:Int)(va:Int)(access:Int):Prop:=(Q6o m root va access).p
def Z5b:Q0a:=mkP 215 [] true [.one (.ints .u32), .one (.int .u32), .one (.int .u32), .one (.int .i64)] [] (fun args rows=>Q7v (argL .u32 args 0) (argI args 1) (argI args 2) (argI args 3)) (fun args rows=>Qfw (argL .u32 args 0) (argI args 1) (argI args 2) (argI args 3)) (fun X=> .agg (Q0w.cells X)) (fun X=>[])
theorem Qzy:Q03 Tryz.prog Z5b:=Q0j Q0g Q0h (.cons Qqv (.cons Qu (.cons Q95 (.cons Qqh (.cons Qqr (.nil)))))) Tryz.func215 Tryz.call215 (fun args rows=>Q6o (argL .u32 args 0) (argI args 1) (argI args 2) (argI args 3)) [] [] 2 (fun _ _ _=>by kernel_rfl) (fun _ _=>rfl) (fun _ _ h=>h) (fun _ X=>by kernel_rfl)
def Q5l(m:(List Int))(entry:Int)(access:Int):Tree (List Int):=
.an (Q21 m entry 4) (.lv (Q3l m entry 4) fun(x0:Int×Bool)=> .br (!x0.snd) (.an (Q09 m) (.lv (Q04 m) fun(x1:List Int)=> .lf x1)) (.br (access==3) (.an (Q4y m entry 4 (ior u32 (ior u32 x0.fst 8) 16)) (.lv (Q84 m entry 4 (ior u32 (ior u32 x0.fst 8) 16)) fun(x2:List Int×Bool)=> .lf x2.fst)) (.an (Q4y m entry 4 (ior u32 x0.fst 8)) (.lv (Q84 m entry 4 (ior u32 x0.fst 8)) fun(x3:List Int×Bool)=> .lf x3.fst))))
def Q9v(m:(List Int))(entry:Int)(access:Int):(List Int):=(Q5l m entry access).m
abbrev Q6s(m:(List Int))(entry:Int)(access:Int):Prop:=(Q5l m entry access).p
def Z0g:Q0a:=mkP 216 [] true [.one (.ints .u32), .one (.int .u32), .one (.int .i64)] [] (fun args rows=>Q6s (argL .u32 args 0) (argI args 1) (argI args 2)) (fun args rows=>Q9v (argL .u32 args 0) (argI args 1) (argI args 2)) (fun X=> .all 0) (fun X=>[⟨false,27,1, .ints .u32 X⟩])
theorem Qyc:Q03 Tryz.prog Z0g:=Q0j Q0g Q0h (.cons Q95 (.cons Q13 (.cons Qk3 (.nil)))) Tryz.func216 Tryz.call216 (fun args rows=>Q5l (argL .u32 args 0) (argI args 1) (argI args 2)) [.row 27 1 (.ints .u32)] [] 2 (fun _ _ _=>by kernel_rfl) (fun _ _=>rfl) (fun _ _ h=>h) (fun _ X=>by kernel_rfl)
def Q6d(c:Q02)(m:(List Int))(va:Int)(size:Int)(access:Int):Tree (Int×(List Int)×Int):=
.lv (Qny access) fun(x0:Int×Bool)=>let T3:Tree ((Int×(List Int)×Int)):= .an (Q09 m) (.lv (Q04 m) fun(x1:List Int)=> .lf (0,x1,5)); .br (!x0.snd) T3 (let T1:Tree ((Int×(List Int)×Int)):= .cn (decide (wrap u32 size≠0)) (.br (Int.tmod va (wrap u32 size) !=0) (.an (Q09 m) (.lv (Q04 m) fun(x3:List Int)=> .lf (0,x3,3))) (.lv (Qa0 c) fun(x4:Bool)=>let T2:Tree ((Int×(List Int)×Int)):= .an (Q21 m va size) (.lv (Q3l m va size) fun(x8:Int×Bool)=> .br (!x8.snd) (.an (Q09 m) (.lv (Q04 m) fun(x9:List Int)=> .lf (0,x9,x0.fst))) (.an (Q09 m) (.lv (Q04 m) fun(x10:List Int)=> .lf (va,x10,0)))); .br (!x4) (.br (iand u32 c.Csr.a0 (4:Int) !=(0:Int)) (.an (Q7v m c.Csr.a6 va access) (.lv (Qfw m c.Csr.a6 va access) fun(x5:Q0w)=> .br (x5.Cause !=0) (.an (Q09 m) (.lv (Q04 m) fun(x6:List Int)=> .lf (0,x6,x5.Cause))) (.an (Q6s m x5.Entry access) (.lv (Q9v m x5.Entry access) fun(x7:List Int)=> .lf (x5.Addr,x7,0))))) T2) T2)); .br (size !=1) (.br (size !=4) T3 T1) T1)
def Q1h(c:Q02)(m:(List Int))(va:Int)(size:Int)(access:Int):(Int×(List Int)×Int):=(Q6d c m va size access).m
abbrev Q5z(c:Q02)(m:(List Int))(va:Int)(size:Int)(access:Int):Prop:=(Q6d c m va size access).p
def Z4:Q0a:=mkP 167 [] true [.agg Q02.sig, .one (.ints .u32), .one (.int .u32), .one (.int .i64), .one (.int .i64)] [] (fun args rows=>Q5z (Q02.of (args.getD 0 .dead).cells) (argL .u32 args 1) (argI args 2) (argI args 3) (argI args 4)) (fun args rows=>Q1h (Q02.of (args.getD 0 .dead).cells) (argL .u32 args 1) (argI args 2) (argI args 3) (argI args 4)) (fun X=> .tup [.int .u32 (X.1), .all 0, .int .i64 (X.2.2)]) (fun X=>[⟨false,27,1, .ints .u32 (X.2.1)⟩])
theorem Qh8:Q03 Tryz.prog Z4:=Q0j Q0g Q0h (.cons Qzu (.cons Q13 (.cons Qp7 (.cons Qzy (.cons Qyc (.cons Q95 (.nil))))))) Tryz.func167 Tryz.call167 (fun args rows=>Q6d (Q02.of (args.getD 0 .dead).cells) (argL .u32 args 1) (argI args 2) (argI args 3) (argI args 4)) [.row 27 1 (.ints .u32)] [] 2 (fun _ _ _=>by kernel_rfl) (fun _ _=>rfl) (fun _ _ h=>h) (fun _ X=>by kernel_rfl)
def Qbn(c:Q02)(m:(List Int)):Tree (Int×(List Int)×Int):=
.an (Q5z c m c.Pc 4 1) (.lv (Q1h c m c.Pc 4 1) fun(x0:Int×List Int×Int)=> .br (x0.snd.snd !=0) (.lf (0,x0.snd.fst,x0.snd.snd)) (.an (Q21 x0.snd.fst x0.fst 4) (.lv (Q3l x0.snd.fst x0.fst 4) fun(x1:Int×Bool)=> .lf (x1.fst,x0.snd.fst,0))))
def Qk5(c:Q02)(m:(List Int)):(Int×(List Int)×Int):=(Qbn c m).m
abbrev Qe2(c:Q02)(m:(List Int)):Prop:=(Qbn c m).p
def Z9r:Q0a:=mkP 120 [] true [.agg Q02.sig, .one (.ints .u32)] [] (fun args rows=>Qe2 (Q02.of (args.getD 0 .dead).cells) (argL .u32 args 1)) (fun args rows=>Qk5 (Q02.of (args.getD 0 .dead).cells) (argL .u32 args 1)) (fun X=> .tup [.int .u32 (X.1), .all 0, .int .i64 (X.2.2)]) (fun X=>[⟨false,27,1, .ints .u32 (X.2.1)⟩])
theorem Z5n:Q03 Tryz.prog Z9r:=Q0j Q0g Q0h (.cons Qh8 (.cons Q95 (.nil))) Tryz.func120 Tryz.call120 (fun args rows=>Qbn (Q02.of (args.getD 0 .dead).cells) (argL .u32 args 1)) [.row 27 1 (.ints .u32)] [] 2 (fun _ _ _=>by kernel_rfl) (fun _ _=>rfl) (fun _ _ h=>h) (fun _ X=>by kernel_rfl)
def Qjm(op:Int):Tree Bool:=
.br (op==57) (.lf true) (.br (op==58) (.lf true) (.br (op==59) (.lf true) (.br (op==60) (.lf true) (.br (op==61) (.lf true) (.br (op==62) (.lf true) (.br (op==63) (.lf true) (.br (op==64) (.lf true) (.lf false))))))))
def Q73(op:Int):Bool:=(Qjm op).m
def Qtl:Q0a:=mkR 122 [] true [.one (.int .i64)] [] (fun args rows=>Q73 (argI args 0)) (fun X=> .bool X) (fun X=>[])
theorem Qr8:Q03 Tryz.prog Qtl:=Q0t Q0g Q0h (.nil) Tryz.func122 Tryz.call122 (fun args rows=>Qjm (argI args 0)) [] [] 2 (fun _ _ _=>by kernel_rfl) (fun _ _=>rfl) (fun _ _=>Tree.free_ok (by kernel_rfl)) (fun _ X=>by kernel_rfl)
def Qn9(op:Int):Tree Int:=
.br (op==32) (.lf 4) (.br (op==35) (.lf 4) (.lf 1))
def Qd0(op:Int):Int:=(Qn9 op).m
def Zc:Q0a:=mkR 173 [] true [.one (.int .i64)] [] (fun args rows=>Qd0 (argI args 0)) (fun X=> .int .i64 X) (fun X=>[])
theorem Qsh:Q03 Tryz.prog Zc:=Q0t Q0g Q0h (.nil) Tryz.func173 Tryz.call173 (fun args rows=>Qn9 (argI args 0)) [] [] 2 (fun _ _ _=>by kernel_rfl) (fun _ _=>rfl) (fun _ _=>Tree.free_ok (by kernel_rfl)) (fun _ X=>by kernel_rfl)
def Q97(c:Q02)(register:Int)(v:Int):Tree Q02:=
.br (register !=0) (.cn (Nat.blt 0 1&&decide (0≤register∧register<(↑16:Int))) (.lf ({X:=A16.of 0 (List.set (A16.l c.X) (Int.toNat register) v),Pc:=c.Pc,Csr:=c.Csr}))) (.lf c)
def Q8v(c:Q02)(register:Int)(v:Int):Q02:=(Q97 c register v).m
abbrev Q4e(c:Q02)(register:Int)(v:Int):Prop:=(Q97 c register v).p
def cpu_set_m:Q0a:=mkP 174 [] true [.agg Q02.sig, .one (.int .i64), .one (.int .u32)] [] (fun args rows=>Q4e (Q02.of (args.getD 0 .dead).cells) (argI args 1) (argI args 2)) (fun args rows=>Q8v (Q02.of (args.getD 0 .dead).cells) (argI args 1) (argI args 2)) (fun X=> .agg (Q02.cells X)) (fun X=>[])
theorem Z1b:Q03 Tryz.prog cpu_set_m:=Q0j Q0g Q0h (.nil) Tryz.func174 Tryz.call174 (fun args rows=>Q97 (Q02.of (args.getD 0 .dead).cells) (argI args 1) (argI args 2)) [] [] 2 (fun _ _ _=>by kernel_rfl) (fun _ _=>rfl) (fun _ _ h=>h) (fun _ X=>by kernel_rfl)
def Q9x(c:Q02)(m:(List Int))(i:Q0f):Tree (Q02×(List Int)):=
.cn (Nat.blt 0 1&&decide (0≤i.B∧i.B<(↑16:Int))) (.lv (Qd0 i.Op) fun(x0:Int)=>let E1:=wrap u32 (List.getD (A16.l c.X) (Int.toNat i.B) 0+wrap u32 i.Imm); .an (Q5z c m E1 x0 2) (.lv (Q1h c m E1 x0 2) fun(x1:Int×List Int×Int)=> .br (x1.snd.snd !=0) (.lv (Q3f c x1.snd.snd E1) fun(x2:Q02)=> .lf (x2,x1.snd.fst)) (.lv (Qd0 i.Op) fun(x3:Int)=> .an (Q21 x1.snd.fst x1.fst x3) (.lv (Q3l x1.snd.fst x1.fst x3) fun(x4:Int×Bool)=> .br (i.Op==33) (.an (Q4c x4.fst 8) (.lv (Q1p x4.fst 8) fun(x5:Int)=> .an (Q4e c i.A x5) (.lv (Q8v c i.A x5) fun(x6:Q02)=> .lf ({X:=x6.X,Pc:=wrap u32 (x6.Pc+4),Csr:=x6.Csr},x1.snd.fst)))) (.an (Q4e c i.A x4.fst) (.lv (Q8v c i.A x4.fst) fun(x7:Q02)=> .lf ({X:=x7.X,Pc:=wrap u32 (x7.Pc+4),Csr:=x7.Csr},x1.snd.fst)))))))
def Q50(c:Q02)(m:(List Int))(i:Q0f):(Q02×(List Int)):=(Q9x c m i).m
abbrev Qgk(c:Q02)(m:(List Int))(i:Q0f):Prop:=(Q9x c m i).p
def Ze9:Q0a:=mkP 124 [] true [.agg Q02.sig, .one (.ints .u32), .agg Q0f.sig] [] (fun args rows=>Qgk (Q02.of (args.getD 0 .dead).cells) (argL .u32 args 1) (Q0f.of (args.getD 2 .dead).cells)) (fun args rows=>Q50 (Q02.of (args.getD 0 .dead).cells) (argL .u32 args 1) (Q0f.of (args.getD 2 .dead).cells)) (fun X=> .tup [.agg (Q02.cells (X.1)), .all 0]) (fun X=>[⟨false,27,1, .ints .u32 (X.2)⟩])
theorem Za3:Q03 Tryz.prog Ze9:=Q0j Q0g Q0h (.cons Qh8 (.cons Qsh (.cons Qg9 (.cons Q95 (.cons Qgi (.cons Z1b (.nil))))))) Tryz.func124 Tryz.call124 (fun args rows=>Q9x (Q02.of (args.getD 0 .dead).cells) (argL .u32 args 1) (Q0f.of (args.getD 2 .dead).cells)) [.row 27 1 (.ints .u32)] [] 2 (fun _ _ _=>by kernel_rfl) (fun _ _=>rfl) (fun _ _ h=>h) (fun _ X=>by kernel_rfl)
def Q7n(c:Q02)(m:(List Int))(i:Q0f):Tree (Q02×(List Int)):=
.cn (Nat.blt 0 1&&decide (0≤i.B∧i.B<(↑16:Int))) (.lv (Qd0 i.Op) fun(x0:Int)=>let E1:=wrap u32 (List.getD (A16.l c.X) (Int.toNat i.B) 0+wrap u32 i.Imm); .an (Q5z c m E1 x0 3) (.lv (Q1h c m E1 x0 3) fun(x1:Int×List Int×Int)=> .br (x1.snd.snd !=0) (.lv (Q3f c x1.snd.snd E1) fun(x2:Q02)=> .lf (x2,x1.snd.fst)) (.lv (Qd0 i.Op) fun(x3:Int)=> .cn (Nat.blt 0 1&&decide (0≤i.A∧i.A<(↑16:Int))) (let E2:=List.getD (A16.l c.X) (Int.toNat i.A) 0; .an (Q4y x1.snd.fst x1.fst x3 E2) (.lv (Q84 x1.snd.fst x1.fst x3 E2) fun(x4:List Int×Bool)=> .lf ({X:=c.X,Pc:=wrap u32 (c.Pc+4),Csr:=c.Csr},x4.fst))))))
def Q6z(c:Q02)(m:(List Int))(i:Q0f):(Q02×(List Int)):=(Q7n c m i).m
abbrev Qe7(c:Q02)(m:(List Int))(i:Q0f):Prop:=(Q7n c m i).p
def Z9m:Q0a:=mkP 125 [] true [.agg Q02.sig, .one (.ints .u32), .agg Q0f.sig] [] (fun args rows=>Qe7 (Q02.of (args.getD 0 .dead).cells) (argL .u32 args 1) (Q0f.of (args.getD 2 .dead).cells)) (fun args rows=>Q6z (Q02.of (args.getD 0 .dead).cells) (argL .u32 args 1) (Q0f.of (args.getD 2 .dead).cells)) (fun X=> .tup [.agg (Q02.cells (X.1)), .all 0]) (fun X=>[⟨false,27,1, .ints .u32 (X.2)⟩])
theorem Z9d:Q03 Tryz.prog Z9m:=Q0j Q0g Q0h (.cons Qh8 (.cons Qsh (.cons Qg9 (.cons Qk3 (.nil))))) Tryz.func125 Tryz.call125 (fun args rows=>Q7n (Q02.of (args.getD 0 .dead).cells) (argL .u32 args 1) (Q0f.of (args.getD 2 .dead).cells)) [.row 27 1 (.ints .u32)] [] 2 (fun _ _ _=>by kernel_rfl) (fun _ _=>rfl) (fun _ _ h=>h) (fun _ X=>by kernel_rfl)
def Qva(op:Int)(a:Int)(b:Int):Tree Bool:=
.br (op==40) (.lf (a==b)) (.br (op==41) (.lf (a !=b)) (.br (op==42) (.lf (decide (wrap i32 a<wrap i32 b))) (.br (op==43) (.lf (decide (wrap i32 a≥wrap i32 b))) (.br (op==44) (.lf (decide (a<b))) (.lf (decide (a≥b)))))))
def Z8l(op:Int)(a:Int)(b:Int):Bool:=(Qva op a b).m
def Zaf:Q0a:=mkR 176 [] true [.one (.int .i64), .one (.int .u32), .one (.int .u32)] [] (fun args rows=>Z8l (argI args 0) (argI args 1) (argI args 2)) (fun X=> .bool X) (fun X=>[])
theorem Z5w:Q03 Tryz.prog Zaf:=Q0t Q0g Q0h (.nil) Tryz.func176 Tryz.call176 (fun args rows=>Qva (argI args 0) (argI args 1) (argI args 2)) [] [] 2 (fun _ _ _=>by kernel_rfl) (fun _ _=>rfl) (fun _ _=>Tree.free_ok (by kernel_rfl)) (fun _ X=>by kernel_rfl)
def Qcv(c:Q02):Tree Q02:=
.lv (Q7g c.Csr.a0 8 1) fun(x0:Int)=> .lv (Q7g x0 16 2) fun(x1:Int)=> .lf ({X:=c.X,Pc:=c.Csr.a2,Csr:={a0:=x1,a1:=c.Csr.a1,a2:=c.Csr.a2,a3:=c.Csr.a3,a4:=c.Csr.a4,a5:=c.Csr.a5,a6:=c.Csr.a6,a7:=c.Csr.a7}})
def Qbm(c:Q02):Q02:=(Qcv c).m
def Z7g:Q0a:=mkR 177 [] true [.agg Q02.sig] [] (fun args rows=>Qbm (Q02.of (args.getD 0 .dead).cells)) (fun X=> .agg (Q02.cells X)) (fun X=>[])
theorem Z4j:Q03 Tryz.prog Z7g:=Q0t Q0g Q0h (.cons Qxl (.nil)) Tryz.func177 Tryz.call177 (fun args rows=>Qcv (Q02.of (args.getD 0 .dead).cells)) [] [] 2 (fun _ _ _=>by kernel_rfl) (fun _ _=>rfl) (fun _ _=>Tree.free_ok (by kernel_rfl)) (fun _ X=>by kernel_rfl)
def Q89(c:Q02)(csr:Int)(v:Int):Tree Q02:=
let E4:=Nat.blt 0 1&&decide (0≤csr∧csr<(↑8:Int));let T2:Tree (Q02):= .cn E4 (.lf ({X:=c.X,Pc:=c.Pc,Csr:=A8.of 0 (List.set (A8.l c.Csr) (Int.toNat csr) (iand u32 v 31))})); .br (csr==0) T2 (.br (csr==7) T2 (.br (csr==6) (.cn E4 (.lf ({X:=c.X,Pc:=c.Pc,Csr:=A8.of 0 (List.set (A8.l c.Csr) (Int.toNat csr) (iand u32 v 255))}))) (let T3:Tree (Q02):= .cn E4 (.lf ({X:=c.X,Pc:=c.Pc,Csr:=A8.of 0 (List.set (A8.l c.Csr) (Int.toNat csr) (Qgh u32 v 3))})); .br (csr==1) T3 (.br (csr==2) T3 (let T1:Tree (Q02):= .cn E4 (.lf ({X:=c.X,Pc:=c.Pc,Csr:=A8.of 0 (List.set (A8.l c.Csr) (Int.toNat csr) v)})); .br (csr==3) T1 (.br (csr==4) T1 (.br (csr==5) T1 (.lf c))))))))
def Z89(c:Q02)(csr:Int)(v:Int):Q02:=(Q89 c csr v).m
abbrev Qe8(c:Q02)(csr:Int)(v:Int):Prop:=(Q89 c csr v).p
def Zas:Q0a:=mkP 178 [] true [.agg Q02.sig, .one (.int .i64), .one (.int .u32)] [] (fun args rows=>Qe8 (Q02.of (args.getD 0 .dead).cells) (argI args 1) (argI args 2)) (fun args rows=>Z89 (Q02.of (args.getD 0 .dead).cells) (argI args 1) (argI args 2)) (fun X=> .agg (Q02.cells X)) (fun X=>[])
theorem Z6b:Q03 Tryz.prog Zas:=Q0j Q0g Q0h (.nil) Tryz.func178 Tryz.call178 (fun args rows=>Q89 (Q02.of (args.getD 0 .dead).cells) (argI args 1) (argI args 2)) [] [] 2 (fun _ _ _=>by kernel_rfl) (fun _ _=>rfl) (fun _ _ h=>h) (fun _ X=>by kernel_rfl)
def Q2y(c:Q02)(i:Q0f):Tree (Q02×Q0v):=
.cn (Nat.blt 0 1&&decide (0≤i.A∧i.A<(↑16:Int))) (.cn (Nat.blt 0 1&&decide (0≤i.B∧i.B<(↑16:Int))) (.br (i.Op==24) (.an (Q4e c i.A (ishl u32 (wrap u32 i.Imm) 16)) (.lv (Q8v c i.A (ishl u32 (wrap u32 i.Imm) 16)) fun(x0:Q02)=> .lf ({X:=x0.X,Pc:=wrap u32 (c.Pc+4),Csr:=x0.Csr},{Kind:=0,Port:=0,Reg:=0,Value:=0}))) (let E2:=({X:=c.X,Pc:=wrap u32 (c.Pc+4),Csr:=c.Csr}:Q02);let E3:=List.getD (A16.l c.X) (Int.toNat i.B) 0;let E4:=List.getD (A16.l c.X) (Int.toNat i.A) 0;let T1:Tree ((Q02×Q0v)):= .lv (Z8l i.Op E4 E3) fun(x1:Bool)=> .br x1 (.lf ({X:=c.X,Pc:=wrap u32 (c.Pc+wrap u32 (4*wrap u32 i.Imm)),Csr:=c.Csr},{Kind:=0,Port:=0,Reg:=0,Value:=0})) (.lf (E2,{Kind:=0,Port:=0,Reg:=0,Value:=0})); .br (i.Op==40) T1 (.br (i.Op==41) T1 (.br (i.Op==42) T1 (.br (i.Op==43) T1 (.br (i.Op==44) T1 (.br (i.Op==45) T1 (.br (i.Op==48) (.an (Q4e c i.A (wrap u32 (c.Pc+4))) (.lv (Q8v c i.A (wrap u32 (c.Pc+4))) fun(x7:Q02)=> .lf ({X:=x7.X,Pc:=wrap u32 (x7.Pc+wrap u32 (4*wrap u32 i.Imm)),Csr:=x7.Csr},{Kind:=0,Port:=0,Reg:=0,Value:=0}))) (.br (i.Op==49) (.an (Q4e c i.A (wrap u32 (c.Pc+4))) (.lv (Q8v c i.A (wrap u32 (c.Pc+4))) fun(x8:Q02)=> .lf ({X:=x8.X,Pc:=wrap u32 (List.getD (A16.l c.X) (Int.toNat i.B) 0+wrap u32 i.Imm),Csr:=x8.Csr},{Kind:=0,Port:=0,Reg:=0,Value:=0}))) (.br (i.Op==56) (.lv (Q3f c 7 0) fun(x9:Q02)=> .lf (x9,{Kind:=0,Port:=0,Reg:=0,Value:=0})) (.br (i.Op==57) (.lv (Qbm c) fun(x10:Q02)=> .lf (x10,{Kind:=0,Port:=0,Reg:=0,Value:=0})) (.br (i.Op==58) (.cn (Nat.blt 0 1&&decide (0≤i.Imm∧i.Imm<(↑8:Int))) (let E5:=List.getD (A8.l c.Csr) (Int.toNat i.Imm) 0; .an (Q4e c i.A E5) (.lv (Q8v c i.A E5) fun(x11:Q02)=> .lf ({X:=x11.X,Pc:=wrap u32 (c.Pc+4),Csr:=x11.Csr},{Kind:=0,Port:=0,Reg:=0,Value:=0})))) (.br (i.Op==59) (.an (Qe8 c (wrap i64 i.Imm) E4) (.lv (Z89 c (wrap i64 i.Imm) E4) fun(x12:Q02)=> .lf ({X:=x12.X,Pc:=wrap u32 (c.Pc+4),Csr:=x12.Csr},{Kind:=0,Port:=0,Reg:=0,Value:=0}))) (.br (i.Op==60) (.lf (E2,{Kind:=1,Port:=wrap i64 i.Imm,Reg:=i.A,Value:=0})) (.br (i.Op==61) (.lf (E2,{Kind:=2,Port:=wrap i64 i.Imm,Reg:=0,Value:=List.getD (A16.l c.X) (Int.toNat i.A) 0})) (.br (i.Op==62) (.lf (E2,{Kind:=3,Port:=0,Reg:=0,Value:=0})) (.br (i.Op==63) (.lf (E2,{Kind:=5,Port:=0,Reg:=0,Value:=0})) (.br (i.Op==64) (.lf (E2,{Kind:=4,Port:=0,Reg:=0,Value:=0})) (.cn (Nat.blt 0 1&&decide (0≤i.C∧i.C<(↑16:Int))) (.br (decide (i.Op≥16)) (.an (Qge i.Op E3 (wrap u32 i.Imm)) (.lv (Q37 i.Op E3 (wrap u32 i.Imm)) fun(x13:Int×Bool)=> .an (Q4e c i.A x13.fst) (.lv (Q8v c i.A x13.fst) fun(x14:Q02)=> .lf ({X:=x14.X,Pc:=wrap u32 (c.Pc+4),Csr:=x14.Csr},{Kind:=0,Port:=0,Reg:=0,Value:=0})))) (let E6:=List.getD (A16.l c.X) (Int.toNat i.C) 0; .an (Qge i.Op E3 E6) (.lv (Q37 i.Op E3 E6) fun(x15:Int×Bool)=> .an (Q4e c i.A x15.fst) (.lv (Q8v c i.A x15.fst) fun(x16:Q02)=> .lf ({X:=x16.X,Pc:=wrap u32 (c.Pc+4),Csr:=x16.Csr},{Kind:=0,Port:=0,Reg:=0,Value:=0})))))))))))))))))))))))))
def Qjd(c:Q02)(i:Q0f):(Q02×Q0v):=(Q2y c i).m
abbrev Qap(c:Q02)(i:Q0f):Prop:=(Q2y c i).p
def Z4i:Q0a:=mkP 126 [] true [.agg Q02.sig, .agg Q0f.sig] [] (fun args rows=>Qap (Q02.of (args.getD 0 .dead).cells) (Q0f.of (args.getD 1 .dead).cells)) (fun args rows=>Qjd (Q02.of (args.getD 0 .dead).cells) (Q0f.of (args.getD 1 .dead).cells)) (fun X=> .tup [.agg (Q02.cells (X.1)), .agg (Q0v.cells (X.2))]) (fun X=>[])
theorem Z01:Q03 Tryz.prog Z4i:=Q0j Q0g Q0h (.cons Z1b (.cons Z5w (.cons Qg9 (.cons Z4j (.cons Z6b (.cons Zf1 (.nil))))))) Tryz.func126 Tryz.call126 (fun args rows=>Q2y (Q02.of (args.getD 0 .dead).cells) (Q0f.of (args.getD 1 .dead).cells)) [] [] 2 (fun _ _ _=>by kernel_rfl) (fun _ _=>rfl) (fun _ _ h=>h) (fun _ X=>by kernel_rfl)
def Q75(c:Q02)(m:(List Int)):Tree (Q02×(List Int)×Q0v):=
.an (Qe2 c m) (.lv (Qk5 c m) fun(x0:Int×List Int×Int)=> .br (x0.snd.snd !=0) (.lv (Q3f c x0.snd.snd c.Pc) fun(x1:Q02)=> .lf (x1,x0.snd.fst,{Kind:=0,Port:=0,Reg:=0,Value:=0})) (.an (Qce x0.fst) (.lv (Qeb x0.fst) fun(x2:Q0f×Bool)=> .br (!x2.snd) (.lv (Q3f c 1 x0.fst) fun(x3:Q02)=> .lf (x3,x0.snd.fst,{Kind:=0,Port:=0,Reg:=0,Value:=0})) (.lv (Q73 x2.fst.Op) fun(x4:Bool)=>let T1:Tree ((Q02×(List Int)×Q0v)):=let T2:Tree ((Q02×(List Int)×Q0v)):= .an (Qgk c x0.snd.fst x2.fst) (.lv (Q50 c x0.snd.fst x2.fst) fun(x7:Q02×List Int)=> .lf (x7.fst,x7.snd,{Kind:=0,Port:=0,Reg:=0,Value:=0})); .br (x2.fst.Op==32) T2 (.br (x2.fst.Op==33) T2 (.br (x2.fst.Op==34) T2 (let T3:Tree ((Q02×(List Int)×Q0v)):= .an (Qe7 c x0.snd.fst x2.fst) (.lv (Q6z c x0.snd.fst x2.fst) fun(x10:Q02×List Int)=> .lf (x10.fst,x10.snd,{Kind:=0,Port:=0,Reg:=0,Value:=0})); .br (x2.fst.Op==35) T3 (.br (x2.fst.Op==36) T3 (.an (Qap c x2.fst) (.lv (Qjd c x2.fst) fun(x12:Q02×Q0v)=> .lf (x12.fst,x0.snd.fst,x12.snd))))))); .br x4 (.lv (Qa0 c) fun(x5:Bool)=> .br (!x5) (.lv (Q3f c 2 x0.fst) fun(x6:Q02)=> .lf (x6,x0.snd.fst,{Kind:=0,Port:=0,Reg:=0,Value:=0})) T1) T1))))
def Q8l(c:Q02)(m:(List Int)):(Q02×(List Int)×Q0v):=(Q75 c m).m
abbrev Qcm(c:Q02)(m:(List Int)):Prop:=(Q75 c m).p
def Zf7:Q0a:=mkP 62 [] true [.agg Q02.sig, .one (.ints .u32)] [] (fun args rows=>Qcm (Q02.of (args.getD 0 .dead).cells) (argL .u32 args 1)) (fun args rows=>Q8l (Q02.of (args.getD 0 .dead).cells) (argL .u32 args 1)) (fun X=> .tup [.agg (Q02.cells (X.1)), .all 0, .agg (Q0v.cells (X.2.2))]) (fun X=>[⟨false,27,1, .ints .u32 (X.2.1)⟩])
theorem Qw:Q03 Tryz.prog Zf7:=Q0j Q0g Q0h (.cons Z5n (.cons Qg9 (.cons Z2x (.cons Qr8 (.cons Qp7 (.cons Za3 (.cons Z9d (.cons Z01 (.nil))))))))) Tryz.func62 Tryz.call62 (fun args rows=>Q75 (Q02.of (args.getD 0 .dead).cells) (argL .u32 args 1)) [.row 27 1 (.ints .u32)] [] 2 (fun _ _ _=>by kernel_rfl) (fun _ _=>rfl) (fun _ _ h=>h) (fun _ X=>by kernel_rfl)
end
end Go.Proofs.YtdkiadhigcfmkaaGreat

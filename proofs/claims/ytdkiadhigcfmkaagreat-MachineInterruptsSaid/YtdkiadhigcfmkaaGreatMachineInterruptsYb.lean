/-
  Functions of the program: models, and that its calls come to them (by a program: gen3.py).
-/
import Derived.Test.YtdkiadhigcfmkaaGreatMachineInterruptsBase
import Derived.Test.YtdkiadhigcfmkaaGreatMachineInterruptsYa
namespace Go.Proofs.YtdkiadhigcfmkaaGreat
open Go Go.GD Go.IntKind
set_option linter.unusedVariables false
set_option linter.unusedSimpArgs false
set_option maxRecDepth 100000
noncomputable section
def Qmu(status:Int)(from0:Int)(to:Int):Tree Int:=
.br (iand u32 status from0 !=0) (.lf (ior u32 status to)) (.lf (Qey u32 status to))
def Q87(status:Int)(from0:Int)(to:Int):Int:=(Qmu status from0 to).m
def Zgf:Q0b:=mkR 166 [] true [.one (.int .u32), .one (.int .u32), .one (.int .u32)] [] (fun args rows=>Q87 (argI args 0) (argI args 1) (argI args 2)) (fun X=> .int .u32 X) (fun X=>[])
theorem Qwa:Q04 Tryz.prog Zgf:=Q0v Q0i Q0j (.nil) Tryz.func166 Tryz.call166 (fun args rows=>Qmu (argI args 0) (argI args 1) (argI args 2)) [] [] 2 (fun _ _ _=>by kernel_rfl) (fun _ _=>rfl) (fun _ _=>Tree.free_ok (by kernel_rfl)) (fun _ X=>by kernel_rfl)
def Qic(c:Q03)(cause:Int)(bad:Int):Tree Q03:=
.lv (Q87 c.Csr.a0 1 8) fun(x0:Int)=> .lv (Q87 x0 2 16) fun(x1:Int)=> .lf ({X:=c.X,Pc:=c.Csr.a1,Csr:={a0:=Qey u32 (ior u32 x1 1) 2,a1:=c.Csr.a1,a2:=c.Pc,a3:=wrap u32 cause,a4:=bad,a5:=c.Csr.a5,a6:=c.Csr.a6,a7:=c.Csr.a7}})
def Q40(c:Q03)(cause:Int)(bad:Int):Q03:=(Qic c cause bad).m
def Zg1:Q0b:=mkR 119 [] true [.agg Q03.sig, .one (.int .i64), .one (.int .u32)] [] (fun args rows=>Q40 (Q03.of (args.getD 0 .dead).cells) (argI args 1) (argI args 2)) (fun X=> .agg (Q03.cells X)) (fun X=>[])
theorem Qgg:Q04 Tryz.prog Zg1:=Q0v Q0i Q0j (.cons Qwa (.nil)) Tryz.func119 Tryz.call119 (fun args rows=>Qic (Q03.of (args.getD 0 .dead).cells) (argI args 1) (argI args 2)) [] [] 2 (fun _ _ _=>by kernel_rfl) (fun _ _=>rfl) (fun _ _=>Tree.free_ok (by kernel_rfl)) (fun _ X=>by kernel_rfl)
def Qq(access:Int):Tree (Int×Bool):=
.br (access==1) (.lf (4,true)) (.br (access==2) (.lf (5,true)) (.br (access==3) (.lf (6,true)) (.lf (5,false))))
def Qob(access:Int):(Int×Bool):=(Qq access).m
def Z3q:Q0b:=mkR 214 [] true [.one (.int .i64)] [] (fun args rows=>Qob (argI args 0)) (fun X=> .tup [.int .i64 (X.1), .bool (X.2)]) (fun X=>[])
theorem Qzl:Q04 Tryz.prog Z3q:=Q0v Q0i Q0j (.nil) Tryz.func214 Tryz.call214 (fun args rows=>Qq (argI args 0)) [] [] 2 (fun _ _ _=>by kernel_rfl) (fun _ _=>rfl) (fun _ _=>Tree.free_ok (by kernel_rfl)) (fun _ X=>by kernel_rfl)
def Qti(c:Q03):Tree Bool:=
.lf (iand u32 c.Csr.a0 (1:Int) !=(0:Int))
def Qaw(c:Q03):Bool:=(Qti c).m
def Z7d:Q0b:=mkR 123 [] true [.agg Q03.sig] [] (fun args rows=>Qaw (Q03.of (args.getD 0 .dead).cells)) (fun X=> .bool X) (fun X=>[])
theorem Qq6:Q04 Tryz.prog Z7d:=Q0v Q0i Q0j (.nil) Tryz.func123 Tryz.call123 (fun args rows=>Qti (Q03.of (args.getD 0 .dead).cells)) [] [] 2 (fun _ _ _=>by kernel_rfl) (fun _ _=>rfl) (fun _ _=>Tree.free_ok (by kernel_rfl)) (fun _ X=>by kernel_rfl)
def Qka(access:Int):Tree (Int×Bool):=
.br (access==1) (.lf (4,true)) (.br (access==2) (.lf (5,true)) (.br (access==3) (.lf (6,true)) (.lf (5,false))))
def Qhz(access:Int):(Int×Bool):=(Qka access).m
def Qud:Q0b:=mkR 254 [] true [.one (.int .i64)] [] (fun args rows=>Qhz (argI args 0)) (fun X=> .tup [.int .i64 (X.1), .bool (X.2)]) (fun X=>[])
theorem Qs9:Q04 Tryz.prog Qud:=Q0v Q0i Q0j (.nil) Tryz.func254 Tryz.call254 (fun args rows=>Qka (argI args 0)) [] [] 2 (fun _ _ _=>by kernel_rfl) (fun _ _=>rfl) (fun _ _=>Tree.free_ok (by kernel_rfl)) (fun _ X=>by kernel_rfl)
def Qg3(m:(List Int))(frame:Int):Tree Bool:=
.lv (Q0q m) fun(x0:Int)=> .lf (decide (wrap u64 frame<wrap u64 x0))
def Q9g(m:(List Int))(frame:Int):Bool:=(Qg3 m frame).m
def Qwt:Q0b:=mkR 255 [] true [.one (.ints .u32), .one (.int .u32)] [] (fun args rows=>Q9g (argL .u32 args 0) (argI args 1)) (fun X=> .bool X) (fun X=>[])
theorem Quk:Q04 Tryz.prog Qwt:=Q0v Q0i Q0j (.cons Q3l (.nil)) Tryz.func255 Tryz.call255 (fun args rows=>Qg3 (argL .u32 args 0) (argI args 1)) [] [] 2 (fun _ _ _=>by kernel_rfl) (fun _ _=>rfl) (fun _ _=>Tree.free_ok (by kernel_rfl)) (fun _ X=>by kernel_rfl)
def Q7e(m:(List Int))(addr:Int)(size:Int):Tree (Int×Bool):=
.an (Q6l m addr size) (.lv (Qf5 m addr size) fun(x0:Bool)=> .br (!x0) (.lf (0,false)) (.cn (Nat.beq 1 1&&Nat.blt 0 1&&decide (0≤wrap u32 (Int.tdiv addr 4)∧wrap u32 (Int.tdiv addr 4)<(↑(List.length m):Int))) (let E1:=Int.toNat (wrap u32 (Int.tdiv addr 4)); .br (size==1) (let E2:=wrap i64 (wrap i64 (Int.tmod addr 4)*8); .an (Q3i (List.getD m E1 0) E2 8) (.lv (Q2r (List.getD m E1 0) E2 8) fun(x1:Int)=> .lf (x1,true))) (.lf (List.getD m E1 0,true)))))
def Q43(m:(List Int))(addr:Int)(size:Int):(Int×Bool):=(Q7e m addr size).m
abbrev Q2l(m:(List Int))(addr:Int)(size:Int):Prop:=(Q7e m addr size).p
def Z3b:Q0b:=mkP 168 [] true [.one (.ints .u32), .one (.int .u32), .one (.int .i64)] [] (fun args rows=>Q2l (argL .u32 args 0) (argI args 1) (argI args 2)) (fun args rows=>Q43 (argL .u32 args 0) (argI args 1) (argI args 2)) (fun X=> .tup [.int .u32 (X.1), .bool (X.2)]) (fun X=>[])
theorem Qa2:Q04 Tryz.prog Z3b:=Q0k Q0i Q0j (.cons Qkd (.cons Qje (.nil))) Tryz.func168 Tryz.call168 (fun args rows=>Q7e (argL .u32 args 0) (argI args 1) (argI args 2)) [] [] 2 (fun _ _ _=>by kernel_rfl) (fun _ _=>rfl) (fun _ _ h=>h) (fun _ X=>by kernel_rfl)
def Qkk(pte:Int)(access:Int):Tree Bool:=
.br (iand u32 pte (1:Int)==(0:Int)) (.lf false) (.br (access==3) (.lf (iand u32 pte (2:Int) !=(0:Int))) (.br (access==1) (.lf (iand u32 pte (4:Int) !=(0:Int))) (.lf true)))
def Qa(pte:Int)(access:Int):Bool:=(Qkk pte access).m
def Qv:Q0b:=mkR 256 [] true [.one (.int .u32), .one (.int .i64)] [] (fun args rows=>Qa (argI args 0) (argI args 1)) (fun X=> .bool X) (fun X=>[])
theorem Qss:Q04 Tryz.prog Qv:=Q0v Q0i Q0j (.nil) Tryz.func256 Tryz.call256 (fun args rows=>Qkk (argI args 0) (argI args 1)) [] [] 2 (fun _ _ _=>by kernel_rfl) (fun _ _=>rfl) (fun _ _=>Tree.free_ok (by kernel_rfl)) (fun _ X=>by kernel_rfl)
def Q5d(pte:Int):Tree Int:=
.an (Q3i pte 8 8) (.lv (Q2r pte 8 8) fun(x0:Int)=> .lf x0)
def Qd3(pte:Int):Int:=(Q5d pte).m
abbrev Q5u(pte:Int):Prop:=(Q5d pte).p
def Quu:Q0b:=mkP 257 [] true [.one (.int .u32)] [] (fun args rows=>Q5u (argI args 0)) (fun args rows=>Qd3 (argI args 0)) (fun X=> .int .u32 X) (fun X=>[])
theorem Qrr:Q04 Tryz.prog Quu:=Q0k Q0i Q0j (.cons Qje (.nil)) Tryz.func257 Tryz.call257 (fun args rows=>Q5d (argI args 0)) [] [] 2 (fun _ _ _=>by kernel_rfl) (fun _ _=>rfl) (fun _ _ h=>h) (fun _ X=>by kernel_rfl)
def Q7(m:(List Int))(root:Int)(va:Int)(access:Int):Tree Q10:=
.lv (Qhz access) fun(x0:Int×Bool)=>let E1:=({Addr:=0,Entry:=0,Cause:=x0.fst}:Q10); .br (!x0.snd) (.lf (E1)) (.br (decide (va≥4096)) (.lf (E1)) (.lv (Q9g m root) fun(x1:Bool)=> .br (!x1) (.lf (E1)) (let E2:=wrap u32 (root*128)+wrap u32 (4*wrap u32 (Int.tdiv va 128)); .an (Q2l m (wrap u32 E2) 4) (.lv (Q43 m (wrap u32 E2) 4) fun(x2:Int×Bool)=> .br (!x2.snd) (.lf (E1)) (.lv (Qa x2.fst access) fun(x3:Bool)=> .br (!x3) (.lf (E1)) (.an (Q5u x2.fst) (.lv (Qd3 x2.fst) fun(x4:Int)=> .lv (Q9g m x4) fun(x5:Bool)=> .br (!x5) (.lf (E1)) (.an (Q5u x2.fst) (.lv (Qd3 x2.fst) fun(x6:Int)=> .lf ({Addr:=wrap u32 (wrap u32 (x6*128)+Int.tmod va 128),Entry:=wrap u32 E2,Cause:=0}))))))))))
def Qgj(m:(List Int))(root:Int)(va:Int)(access:Int):Q10:=(Q7 m root va access).m
abbrev Q8u(m:(List Int))(root:Int)(va:Int)(access:Int):Prop:=(Q7 m root va access).p
def Z4l:Q0b:=mkP 215 [] true [.one (.ints .u32), .one (.int .u32), .one (.int .u32), .one (.int .i64)] [] (fun args rows=>Q8u (argL .u32 args 0) (argI args 1) (argI args 2) (argI args 3)) (fun args rows=>Qgj (argL .u32 args 0) (argI args 1) (argI args 2) (argI args 3)) (fun X=> .agg (Q10.cells X)) (fun X=>[])
theorem Z0:Q04 Tryz.prog Z4l:=Q0k Q0i Q0j (.cons Qs9 (.cons Quk (.cons Qa2 (.cons Qss (.cons Qrr (.nil)))))) Tryz.func215 Tryz.call215 (fun args rows=>Q7 (argL .u32 args 0) (argI args 1) (argI args 2) (argI args 3)) [] [] 2 (fun _ _ _=>by kernel_rfl) (fun _ _=>rfl) (fun _ _ h=>h) (fun _ X=>by kernel_rfl)
def Q67(m:(List Int))(entry:Int)(access:Int):Tree (List Int):=
.an (Q2l m entry 4) (.lv (Q43 m entry 4) fun(x0:Int×Bool)=> .br (!x0.snd) (.an (Q06 m) (.lv (Q02 m) fun(x1:List Int)=> .lf x1)) (.br (access==3) (.an (Q59 m entry 4 (ior u32 (ior u32 x0.fst 8) 16)) (.lv (Q8n m entry 4 (ior u32 (ior u32 x0.fst 8) 16)) fun(x2:List Int×Bool)=> .lf x2.fst)) (.an (Q59 m entry 4 (ior u32 x0.fst 8)) (.lv (Q8n m entry 4 (ior u32 x0.fst 8)) fun(x3:List Int×Bool)=> .lf x3.fst))))
def Qao(m:(List Int))(entry:Int)(access:Int):(List Int):=(Q67 m entry access).m
abbrev Q7j(m:(List Int))(entry:Int)(access:Int):Prop:=(Q67 m entry access).p
def Z0d:Q0b:=mkP 216 [] true [.one (.ints .u32), .one (.int .u32), .one (.int .i64)] [] (fun args rows=>Q7j (argL .u32 args 0) (argI args 1) (argI args 2)) (fun args rows=>Qao (argL .u32 args 0) (argI args 1) (argI args 2)) (fun X=> .all 0) (fun X=>[⟨false,27,1, .ints .u32 X⟩])
theorem Qxj:Q04 Tryz.prog Z0d:=Q0k Q0i Q0j (.cons Qa2 (.cons Q1h (.cons Qlw (.nil)))) Tryz.func216 Tryz.call216 (fun args rows=>Q67 (argL .u32 args 0) (argI args 1) (argI args 2)) [.row 27 1 (.ints .u32)] [] 2 (fun _ _ _=>by kernel_rfl) (fun _ _=>rfl) (fun _ _ h=>h) (fun _ X=>by kernel_rfl)
def Q70(c:Q03)(m:(List Int))(va:Int)(size:Int)(access:Int):Tree (Int×(List Int)×Int):=
.lv (Qob access) fun(x0:Int×Bool)=>let T3:Tree ((Int×(List Int)×Int)):= .an (Q06 m) (.lv (Q02 m) fun(x1:List Int)=> .lf (0,x1,5)); .br (!x0.snd) T3 (let T1:Tree ((Int×(List Int)×Int)):= .cn (decide (wrap u32 size≠0)) (.br (Int.tmod va (wrap u32 size) !=0) (.an (Q06 m) (.lv (Q02 m) fun(x3:List Int)=> .lf (0,x3,3))) (.lv (Qaw c) fun(x4:Bool)=>let T2:Tree ((Int×(List Int)×Int)):= .an (Q2l m va size) (.lv (Q43 m va size) fun(x8:Int×Bool)=> .br (!x8.snd) (.an (Q06 m) (.lv (Q02 m) fun(x9:List Int)=> .lf (0,x9,x0.fst))) (.an (Q06 m) (.lv (Q02 m) fun(x10:List Int)=> .lf (va,x10,0)))); .br (!x4) (.br (iand u32 c.Csr.a0 (4:Int) !=(0:Int)) (.an (Q8u m c.Csr.a6 va access) (.lv (Qgj m c.Csr.a6 va access) fun(x5:Q10)=> .br (x5.Cause !=0) (.an (Q06 m) (.lv (Q02 m) fun(x6:List Int)=> .lf (0,x6,x5.Cause))) (.an (Q7j m x5.Entry access) (.lv (Qao m x5.Entry access) fun(x7:List Int)=> .lf (x5.Addr,x7,0))))) T2) T2)); .br (size !=1) (.br (size !=4) T3 T1) T1)
def Q1n(c:Q03)(m:(List Int))(va:Int)(size:Int)(access:Int):(Int×(List Int)×Int):=(Q70 c m va size access).m
abbrev Q6k(c:Q03)(m:(List Int))(va:Int)(size:Int)(access:Int):Prop:=(Q70 c m va size access).p
def Z38:Q0b:=mkP 167 [] true [.agg Q03.sig, .one (.ints .u32), .one (.int .u32), .one (.int .i64), .one (.int .i64)] [] (fun args rows=>Q6k (Q03.of (args.getD 0 .dead).cells) (argL .u32 args 1) (argI args 2) (argI args 3) (argI args 4)) (fun args rows=>Q1n (Q03.of (args.getD 0 .dead).cells) (argL .u32 args 1) (argI args 2) (argI args 3) (argI args 4)) (fun X=> .tup [.int .u32 (X.1), .all 0, .int .i64 (X.2.2)]) (fun X=>[⟨false,27,1, .ints .u32 (X.2.1)⟩])
theorem Qi4:Q04 Tryz.prog Z38:=Q0k Q0i Q0j (.cons Qzl (.cons Q1h (.cons Qq6 (.cons Z0 (.cons Qxj (.cons Qa2 (.nil))))))) Tryz.func167 Tryz.call167 (fun args rows=>Q70 (Q03.of (args.getD 0 .dead).cells) (argL .u32 args 1) (argI args 2) (argI args 3) (argI args 4)) [.row 27 1 (.ints .u32)] [] 2 (fun _ _ _=>by kernel_rfl) (fun _ _=>rfl) (fun _ _ h=>h) (fun _ X=>by kernel_rfl)
def Qcd(c:Q03)(m:(List Int)):Tree (Int×(List Int)×Int):=
.an (Q6k c m c.Pc 4 1) (.lv (Q1n c m c.Pc 4 1) fun(x0:Int×List Int×Int)=> .br (x0.snd.snd !=0) (.lf (0,x0.snd.fst,x0.snd.snd)) (.an (Q2l x0.snd.fst x0.fst 4) (.lv (Q43 x0.snd.fst x0.fst 4) fun(x1:Int×Bool)=> .lf (x1.fst,x0.snd.fst,0))))
def Qly(c:Q03)(m:(List Int)):(Int×(List Int)×Int):=(Qcd c m).m
abbrev Qf3(c:Q03)(m:(List Int)):Prop:=(Qcd c m).p
def Zae:Q0b:=mkP 120 [] true [.agg Q03.sig, .one (.ints .u32)] [] (fun args rows=>Qf3 (Q03.of (args.getD 0 .dead).cells) (argL .u32 args 1)) (fun args rows=>Qly (Q03.of (args.getD 0 .dead).cells) (argL .u32 args 1)) (fun X=> .tup [.int .u32 (X.1), .all 0, .int .i64 (X.2.2)]) (fun X=>[⟨false,27,1, .ints .u32 (X.2.1)⟩])
theorem Z77:Q04 Tryz.prog Zae:=Q0k Q0i Q0j (.cons Qi4 (.cons Qa2 (.nil))) Tryz.func120 Tryz.call120 (fun args rows=>Qcd (Q03.of (args.getD 0 .dead).cells) (argL .u32 args 1)) [.row 27 1 (.ints .u32)] [] 2 (fun _ _ _=>by kernel_rfl) (fun _ _=>rfl) (fun _ _ h=>h) (fun _ X=>by kernel_rfl)
def Qk9(op:Int):Tree Bool:=
.br (op==57) (.lf true) (.br (op==58) (.lf true) (.br (op==59) (.lf true) (.br (op==60) (.lf true) (.br (op==61) (.lf true) (.br (op==62) (.lf true) (.br (op==63) (.lf true) (.br (op==64) (.lf true) (.lf false))))))))
def Q7m(op:Int):Bool:=(Qk9 op).m
def Quz:Q0b:=mkR 122 [] true [.one (.int .i64)] [] (fun args rows=>Q7m (argI args 0)) (fun X=> .bool X) (fun X=>[])
theorem Qrk:Q04 Tryz.prog Quz:=Q0v Q0i Q0j (.nil) Tryz.func122 Tryz.call122 (fun args rows=>Qk9 (argI args 0)) [] [] 2 (fun _ _ _=>by kernel_rfl) (fun _ _=>rfl) (fun _ _=>Tree.free_ok (by kernel_rfl)) (fun _ X=>by kernel_rfl)
def Qo1(op:Int):Tree Int:=
.br (op==32) (.lf 4) (.br (op==35) (.lf 4) (.lf 1))
def Qdz(op:Int):Int:=(Qo1 op).m
def Za9:Q0b:=mkR 173 [] true [.one (.int .i64)] [] (fun args rows=>Qdz (argI args 0)) (fun X=> .int .i64 X) (fun X=>[])
theorem Qtg:Q04 Tryz.prog Za9:=Q0v Q0i Q0j (.nil) Tryz.func173 Tryz.call173 (fun args rows=>Qo1 (argI args 0)) [] [] 2 (fun _ _ _=>by kernel_rfl) (fun _ _=>rfl) (fun _ _=>Tree.free_ok (by kernel_rfl)) (fun _ X=>by kernel_rfl)
def Qa5(c:Q03)(register:Int)(v:Int):Tree Q03:=
.br (register !=0) (.cn (Nat.blt 0 1&&decide (0≤register∧register<(↑16:Int))) (.lf ({X:=A16.of 0 (List.set (A16.l c.X) (Int.toNat register) v),Pc:=c.Pc,Csr:=c.Csr}))) (.lf c)
def Q9u(c:Q03)(register:Int)(v:Int):Q03:=(Qa5 c register v).m
abbrev Q4r(c:Q03)(register:Int)(v:Int):Prop:=(Qa5 c register v).p
def cpu_set_m:Q0b:=mkP 174 [] true [.agg Q03.sig, .one (.int .i64), .one (.int .u32)] [] (fun args rows=>Q4r (Q03.of (args.getD 0 .dead).cells) (argI args 1) (argI args 2)) (fun args rows=>Q9u (Q03.of (args.getD 0 .dead).cells) (argI args 1) (argI args 2)) (fun X=> .agg (Q03.cells X)) (fun X=>[])
theorem Z1a:Q04 Tryz.prog cpu_set_m:=Q0k Q0i Q0j (.nil) Tryz.func174 Tryz.call174 (fun args rows=>Qa5 (Q03.of (args.getD 0 .dead).cells) (argI args 1) (argI args 2)) [] [] 2 (fun _ _ _=>by kernel_rfl) (fun _ _=>rfl) (fun _ _ h=>h) (fun _ X=>by kernel_rfl)
def Qas(c:Q03)(m:(List Int))(i:Q0g):Tree (Q03×(List Int)):=
.cn (Nat.blt 0 1&&decide (0≤i.B∧i.B<(↑16:Int))) (.lv (Qdz i.Op) fun(x0:Int)=>let E1:=wrap u32 (List.getD (A16.l c.X) (Int.toNat i.B) 0+wrap u32 i.Imm); .an (Q6k c m E1 x0 2) (.lv (Q1n c m E1 x0 2) fun(x1:Int×List Int×Int)=> .br (x1.snd.snd !=0) (.lv (Q40 c x1.snd.snd E1) fun(x2:Q03)=> .lf (x2,x1.snd.fst)) (.lv (Qdz i.Op) fun(x3:Int)=> .an (Q2l x1.snd.fst x1.fst x3) (.lv (Q43 x1.snd.fst x1.fst x3) fun(x4:Int×Bool)=> .br (i.Op==33) (.an (Q4l x4.fst 8) (.lv (Q26 x4.fst 8) fun(x5:Int)=> .an (Q4r c i.A x5) (.lv (Q9u c i.A x5) fun(x6:Q03)=> .lf ({X:=x6.X,Pc:=wrap u32 (x6.Pc+4),Csr:=x6.Csr},x1.snd.fst)))) (.an (Q4r c i.A x4.fst) (.lv (Q9u c i.A x4.fst) fun(x7:Q03)=> .lf ({X:=x7.X,Pc:=wrap u32 (x7.Pc+4),Csr:=x7.Csr},x1.snd.fst)))))))
def Q5z(c:Q03)(m:(List Int))(i:Q0g):(Q03×(List Int)):=(Qas c m i).m
abbrev Qhu(c:Q03)(m:(List Int))(i:Q0g):Prop:=(Qas c m i).p
def Zfa:Q0b:=mkP 124 [] true [.agg Q03.sig, .one (.ints .u32), .agg Q0g.sig] [] (fun args rows=>Qhu (Q03.of (args.getD 0 .dead).cells) (argL .u32 args 1) (Q0g.of (args.getD 2 .dead).cells)) (fun args rows=>Q5z (Q03.of (args.getD 0 .dead).cells) (argL .u32 args 1) (Q0g.of (args.getD 2 .dead).cells)) (fun X=> .tup [.agg (Q03.cells (X.1)), .all 0]) (fun X=>[⟨false,27,1, .ints .u32 (X.2)⟩])
theorem Zan:Q04 Tryz.prog Zfa:=Q0k Q0i Q0j (.cons Qi4 (.cons Qtg (.cons Qgg (.cons Qa2 (.cons Qhj (.cons Z1a (.nil))))))) Tryz.func124 Tryz.call124 (fun args rows=>Qas (Q03.of (args.getD 0 .dead).cells) (argL .u32 args 1) (Q0g.of (args.getD 2 .dead).cells)) [.row 27 1 (.ints .u32)] [] 2 (fun _ _ _=>by kernel_rfl) (fun _ _=>rfl) (fun _ _ h=>h) (fun _ X=>by kernel_rfl)
def Q88(c:Q03)(m:(List Int))(i:Q0g):Tree (Q03×(List Int)):=
.cn (Nat.blt 0 1&&decide (0≤i.B∧i.B<(↑16:Int))) (.lv (Qdz i.Op) fun(x0:Int)=>let E1:=wrap u32 (List.getD (A16.l c.X) (Int.toNat i.B) 0+wrap u32 i.Imm); .an (Q6k c m E1 x0 3) (.lv (Q1n c m E1 x0 3) fun(x1:Int×List Int×Int)=> .br (x1.snd.snd !=0) (.lv (Q40 c x1.snd.snd E1) fun(x2:Q03)=> .lf (x2,x1.snd.fst)) (.lv (Qdz i.Op) fun(x3:Int)=> .cn (Nat.blt 0 1&&decide (0≤i.A∧i.A<(↑16:Int))) (let E2:=List.getD (A16.l c.X) (Int.toNat i.A) 0; .an (Q59 x1.snd.fst x1.fst x3 E2) (.lv (Q8n x1.snd.fst x1.fst x3 E2) fun(x4:List Int×Bool)=> .lf ({X:=c.X,Pc:=wrap u32 (c.Pc+4),Csr:=c.Csr},x4.fst))))))
def Q7l(c:Q03)(m:(List Int))(i:Q0g):(Q03×(List Int)):=(Q88 c m i).m
abbrev Qep(c:Q03)(m:(List Int))(i:Q0g):Prop:=(Q88 c m i).p
def Zck:Q0b:=mkP 125 [] true [.agg Q03.sig, .one (.ints .u32), .agg Q0g.sig] [] (fun args rows=>Qep (Q03.of (args.getD 0 .dead).cells) (argL .u32 args 1) (Q0g.of (args.getD 2 .dead).cells)) (fun args rows=>Q7l (Q03.of (args.getD 0 .dead).cells) (argL .u32 args 1) (Q0g.of (args.getD 2 .dead).cells)) (fun X=> .tup [.agg (Q03.cells (X.1)), .all 0]) (fun X=>[⟨false,27,1, .ints .u32 (X.2)⟩])
theorem Z6c:Q04 Tryz.prog Zck:=Q0k Q0i Q0j (.cons Qi4 (.cons Qtg (.cons Qgg (.cons Qlw (.nil))))) Tryz.func125 Tryz.call125 (fun args rows=>Q88 (Q03.of (args.getD 0 .dead).cells) (argL .u32 args 1) (Q0g.of (args.getD 2 .dead).cells)) [.row 27 1 (.ints .u32)] [] 2 (fun _ _ _=>by kernel_rfl) (fun _ _=>rfl) (fun _ _ h=>h) (fun _ X=>by kernel_rfl)
def Qwk(op:Int)(a:Int)(b:Int):Tree Bool:=
.br (op==40) (.lf (a==b)) (.br (op==41) (.lf (a !=b)) (.br (op==42) (.lf (decide (wrap i32 a<wrap i32 b))) (.br (op==43) (.lf (decide (wrap i32 a≥wrap i32 b))) (.br (op==44) (.lf (decide (a<b))) (.lf (decide (a≥b)))))))
def Z8d(op:Int)(a:Int)(b:Int):Bool:=(Qwk op a b).m
def Zb0:Q0b:=mkR 176 [] true [.one (.int .i64), .one (.int .u32), .one (.int .u32)] [] (fun args rows=>Z8d (argI args 0) (argI args 1) (argI args 2)) (fun X=> .bool X) (fun X=>[])
theorem Z9d:Q04 Tryz.prog Zb0:=Q0v Q0i Q0j (.nil) Tryz.func176 Tryz.call176 (fun args rows=>Qwk (argI args 0) (argI args 1) (argI args 2)) [] [] 2 (fun _ _ _=>by kernel_rfl) (fun _ _=>rfl) (fun _ _=>Tree.free_ok (by kernel_rfl)) (fun _ X=>by kernel_rfl)
def Qdc(c:Q03):Tree Q03:=
.lv (Q87 c.Csr.a0 8 1) fun(x0:Int)=> .lv (Q87 x0 16 2) fun(x1:Int)=> .lf ({X:=c.X,Pc:=c.Csr.a2,Csr:={a0:=x1,a1:=c.Csr.a1,a2:=c.Csr.a2,a3:=c.Csr.a3,a4:=c.Csr.a4,a5:=c.Csr.a5,a6:=c.Csr.a6,a7:=c.Csr.a7}})
def Qcg(c:Q03):Q03:=(Qdc c).m
def Z6v:Q0b:=mkR 177 [] true [.agg Q03.sig] [] (fun args rows=>Qcg (Q03.of (args.getD 0 .dead).cells)) (fun X=> .agg (Q03.cells X)) (fun X=>[])
theorem Z3j:Q04 Tryz.prog Z6v:=Q0v Q0i Q0j (.cons Qwa (.nil)) Tryz.func177 Tryz.call177 (fun args rows=>Qdc (Q03.of (args.getD 0 .dead).cells)) [] [] 2 (fun _ _ _=>by kernel_rfl) (fun _ _=>rfl) (fun _ _=>Tree.free_ok (by kernel_rfl)) (fun _ X=>by kernel_rfl)
def Q8i(c:Q03)(csr:Int)(v:Int):Tree Q03:=
let E4:=Nat.blt 0 1&&decide (0≤csr∧csr<(↑8:Int));let T2:Tree (Q03):= .cn E4 (.lf ({X:=c.X,Pc:=c.Pc,Csr:=A8.of 0 (List.set (A8.l c.Csr) (Int.toNat csr) (iand u32 v 31))})); .br (csr==0) T2 (.br (csr==7) T2 (.br (csr==6) (.cn E4 (.lf ({X:=c.X,Pc:=c.Pc,Csr:=A8.of 0 (List.set (A8.l c.Csr) (Int.toNat csr) (iand u32 v 255))}))) (let T3:Tree (Q03):= .cn E4 (.lf ({X:=c.X,Pc:=c.Pc,Csr:=A8.of 0 (List.set (A8.l c.Csr) (Int.toNat csr) (Qey u32 v 3))})); .br (csr==1) T3 (.br (csr==2) T3 (let T1:Tree (Q03):= .cn E4 (.lf ({X:=c.X,Pc:=c.Pc,Csr:=A8.of 0 (List.set (A8.l c.Csr) (Int.toNat csr) v)})); .br (csr==3) T1 (.br (csr==4) T1 (.br (csr==5) T1 (.lf c))))))))
def Z68(c:Q03)(csr:Int)(v:Int):Q03:=(Q8i c csr v).m
abbrev Qf(c:Q03)(csr:Int)(v:Int):Prop:=(Q8i c csr v).p
def Zc7:Q0b:=mkP 178 [] true [.agg Q03.sig, .one (.int .i64), .one (.int .u32)] [] (fun args rows=>Qf (Q03.of (args.getD 0 .dead).cells) (argI args 1) (argI args 2)) (fun args rows=>Z68 (Q03.of (args.getD 0 .dead).cells) (argI args 1) (argI args 2)) (fun X=> .agg (Q03.cells X)) (fun X=>[])
theorem Z7z:Q04 Tryz.prog Zc7:=Q0k Q0i Q0j (.nil) Tryz.func178 Tryz.call178 (fun args rows=>Q8i (Q03.of (args.getD 0 .dead).cells) (argI args 1) (argI args 2)) [] [] 2 (fun _ _ _=>by kernel_rfl) (fun _ _=>rfl) (fun _ _ h=>h) (fun _ X=>by kernel_rfl)
def Q3f(c:Q03)(i:Q0g):Tree (Q03×Q1):=
.cn (Nat.blt 0 1&&decide (0≤i.A∧i.A<(↑16:Int))) (.cn (Nat.blt 0 1&&decide (0≤i.B∧i.B<(↑16:Int))) (.br (i.Op==24) (.an (Q4r c i.A (ishl u32 (wrap u32 i.Imm) 16)) (.lv (Q9u c i.A (ishl u32 (wrap u32 i.Imm) 16)) fun(x0:Q03)=> .lf ({X:=x0.X,Pc:=wrap u32 (c.Pc+4),Csr:=x0.Csr},{Kind:=0,Port:=0,Reg:=0,Value:=0}))) (let E2:=({X:=c.X,Pc:=wrap u32 (c.Pc+4),Csr:=c.Csr}:Q03);let E3:=List.getD (A16.l c.X) (Int.toNat i.B) 0;let E4:=List.getD (A16.l c.X) (Int.toNat i.A) 0;let T1:Tree ((Q03×Q1)):= .lv (Z8d i.Op E4 E3) fun(x1:Bool)=> .br x1 (.lf ({X:=c.X,Pc:=wrap u32 (c.Pc+wrap u32 (4*wrap u32 i.Imm)),Csr:=c.Csr},{Kind:=0,Port:=0,Reg:=0,Value:=0})) (.lf (E2,{Kind:=0,Port:=0,Reg:=0,Value:=0})); .br (i.Op==40) T1 (.br (i.Op==41) T1 (.br (i.Op==42) T1 (.br (i.Op==43) T1 (.br (i.Op==44) T1 (.br (i.Op==45) T1 (.br (i.Op==48) (.an (Q4r c i.A (wrap u32 (c.Pc+4))) (.lv (Q9u c i.A (wrap u32 (c.Pc+4))) fun(x7:Q03)=> .lf ({X:=x7.X,Pc:=wrap u32 (x7.Pc+wrap u32 (4*wrap u32 i.Imm)),Csr:=x7.Csr},{Kind:=0,Port:=0,Reg:=0,Value:=0}))) (.br (i.Op==49) (.an (Q4r c i.A (wrap u32 (c.Pc+4))) (.lv (Q9u c i.A (wrap u32 (c.Pc+4))) fun(x8:Q03)=> .lf ({X:=x8.X,Pc:=wrap u32 (List.getD (A16.l c.X) (Int.toNat i.B) 0+wrap u32 i.Imm),Csr:=x8.Csr},{Kind:=0,Port:=0,Reg:=0,Value:=0}))) (.br (i.Op==56) (.lv (Q40 c 7 0) fun(x9:Q03)=> .lf (x9,{Kind:=0,Port:=0,Reg:=0,Value:=0})) (.br (i.Op==57) (.lv (Qcg c) fun(x10:Q03)=> .lf (x10,{Kind:=0,Port:=0,Reg:=0,Value:=0})) (.br (i.Op==58) (.cn (Nat.blt 0 1&&decide (0≤i.Imm∧i.Imm<(↑8:Int))) (let E5:=List.getD (A8.l c.Csr) (Int.toNat i.Imm) 0; .an (Q4r c i.A E5) (.lv (Q9u c i.A E5) fun(x11:Q03)=> .lf ({X:=x11.X,Pc:=wrap u32 (c.Pc+4),Csr:=x11.Csr},{Kind:=0,Port:=0,Reg:=0,Value:=0})))) (.br (i.Op==59) (.an (Qf c (wrap i64 i.Imm) E4) (.lv (Z68 c (wrap i64 i.Imm) E4) fun(x12:Q03)=> .lf ({X:=x12.X,Pc:=wrap u32 (c.Pc+4),Csr:=x12.Csr},{Kind:=0,Port:=0,Reg:=0,Value:=0}))) (.br (i.Op==60) (.lf (E2,{Kind:=1,Port:=wrap i64 i.Imm,Reg:=i.A,Value:=0})) (.br (i.Op==61) (.lf (E2,{Kind:=2,Port:=wrap i64 i.Imm,Reg:=0,Value:=List.getD (A16.l c.X) (Int.toNat i.A) 0})) (.br (i.Op==62) (.lf (E2,{Kind:=3,Port:=0,Reg:=0,Value:=0})) (.br (i.Op==63) (.lf (E2,{Kind:=5,Port:=0,Reg:=0,Value:=0})) (.br (i.Op==64) (.lf (E2,{Kind:=4,Port:=0,Reg:=0,Value:=0})) (.cn (Nat.blt 0 1&&decide (0≤i.C∧i.C<(↑16:Int))) (.br (decide (i.Op≥16)) (.an (Qg4 i.Op E3 (wrap u32 i.Imm)) (.lv (Q3k i.Op E3 (wrap u32 i.Imm)) fun(x13:Int×Bool)=> .an (Q4r c i.A x13.fst) (.lv (Q9u c i.A x13.fst) fun(x14:Q03)=> .lf ({X:=x14.X,Pc:=wrap u32 (c.Pc+4),Csr:=x14.Csr},{Kind:=0,Port:=0,Reg:=0,Value:=0})))) (let E6:=List.getD (A16.l c.X) (Int.toNat i.C) 0; .an (Qg4 i.Op E3 E6) (.lv (Q3k i.Op E3 E6) fun(x15:Int×Bool)=> .an (Q4r c i.A x15.fst) (.lv (Q9u c i.A x15.fst) fun(x16:Q03)=> .lf ({X:=x16.X,Pc:=wrap u32 (c.Pc+4),Csr:=x16.Csr},{Kind:=0,Port:=0,Reg:=0,Value:=0})))))))))))))))))))))))))
def Qk1(c:Q03)(i:Q0g):(Q03×Q1):=(Q3f c i).m
abbrev Qbx(c:Q03)(i:Q0g):Prop:=(Q3f c i).p
def Z3o:Q0b:=mkP 126 [] true [.agg Q03.sig, .agg Q0g.sig] [] (fun args rows=>Qbx (Q03.of (args.getD 0 .dead).cells) (Q0g.of (args.getD 1 .dead).cells)) (fun args rows=>Qk1 (Q03.of (args.getD 0 .dead).cells) (Q0g.of (args.getD 1 .dead).cells)) (fun X=> .tup [.agg (Q03.cells (X.1)), .agg (Q1.cells (X.2))]) (fun X=>[])
theorem Qzz:Q04 Tryz.prog Z3o:=Q0k Q0i Q0j (.cons Z1a (.cons Z9d (.cons Qgg (.cons Z3j (.cons Z7z (.cons Zfe (.nil))))))) Tryz.func126 Tryz.call126 (fun args rows=>Q3f (Q03.of (args.getD 0 .dead).cells) (Q0g.of (args.getD 1 .dead).cells)) [] [] 2 (fun _ _ _=>by kernel_rfl) (fun _ _=>rfl) (fun _ _ h=>h) (fun _ X=>by kernel_rfl)
def Q8(c:Q03)(m:(List Int)):Tree (Q03×(List Int)×Q1):=
.an (Qf3 c m) (.lv (Qly c m) fun(x0:Int×List Int×Int)=> .br (x0.snd.snd !=0) (.lv (Q40 c x0.snd.snd c.Pc) fun(x1:Q03)=> .lf (x1,x0.snd.fst,{Kind:=0,Port:=0,Reg:=0,Value:=0})) (.an (Qd x0.fst) (.lv (Qf8 x0.fst) fun(x2:Q0g×Bool)=> .br (!x2.snd) (.lv (Q40 c 1 x0.fst) fun(x3:Q03)=> .lf (x3,x0.snd.fst,{Kind:=0,Port:=0,Reg:=0,Value:=0})) (.lv (Q7m x2.fst.Op) fun(x4:Bool)=>let T1:Tree ((Q03×(List Int)×Q1)):=let T2:Tree ((Q03×(List Int)×Q1)):= .an (Qhu c x0.snd.fst x2.fst) (.lv (Q5z c x0.snd.fst x2.fst) fun(x7:Q03×List Int)=> .lf (x7.fst,x7.snd,{Kind:=0,Port:=0,Reg:=0,Value:=0})); .br (x2.fst.Op==32) T2 (.br (x2.fst.Op==33) T2 (.br (x2.fst.Op==34) T2 (let T3:Tree ((Q03×(List Int)×Q1)):= .an (Qep c x0.snd.fst x2.fst) (.lv (Q7l c x0.snd.fst x2.fst) fun(x10:Q03×List Int)=> .lf (x10.fst,x10.snd,{Kind:=0,Port:=0,Reg:=0,Value:=0})); .br (x2.fst.Op==35) T3 (.br (x2.fst.Op==36) T3 (.an (Qbx c x2.fst) (.lv (Qk1 c x2.fst) fun(x12:Q03×Q1)=> .lf (x12.fst,x0.snd.fst,x12.snd))))))); .br x4 (.lv (Qaw c) fun(x5:Bool)=> .br (!x5) (.lv (Q40 c 2 x0.fst) fun(x6:Q03)=> .lf (x6,x0.snd.fst,{Kind:=0,Port:=0,Reg:=0,Value:=0})) T1) T1))))
def Q86(c:Q03)(m:(List Int)):(Q03×(List Int)×Q1):=(Q8 c m).m
abbrev Qdf(c:Q03)(m:(List Int)):Prop:=(Q8 c m).p
def Zfl:Q0b:=mkP 62 [] true [.agg Q03.sig, .one (.ints .u32)] [] (fun args rows=>Qdf (Q03.of (args.getD 0 .dead).cells) (argL .u32 args 1)) (fun args rows=>Q86 (Q03.of (args.getD 0 .dead).cells) (argL .u32 args 1)) (fun X=> .tup [.agg (Q03.cells (X.1)), .all 0, .agg (Q1.cells (X.2.2))]) (fun X=>[⟨false,27,1, .ints .u32 (X.2.1)⟩])
theorem Zbj:Q04 Tryz.prog Zfl:=Q0k Q0i Q0j (.cons Z77 (.cons Qgg (.cons Z2z (.cons Qrk (.cons Qq6 (.cons Zan (.cons Z6c (.cons Qzz (.nil))))))))) Tryz.func62 Tryz.call62 (fun args rows=>Q8 (Q03.of (args.getD 0 .dead).cells) (argL .u32 args 1)) [.row 27 1 (.ints .u32)] [] 2 (fun _ _ _=>by kernel_rfl) (fun _ _=>rfl) (fun _ _ h=>h) (fun _ X=>by kernel_rfl)
end
end Go.Proofs.YtdkiadhigcfmkaaGreat

/-
  Functions of the program: models, and that its calls come to them (by a program: gen3.py).
-/
import Derived.Test.YtdkiadhigcfmkaaGreatMachineInterruptsBase
namespace Go.Proofs.YtdkiadhigcfmkaaGreat
open Go Go.GD Go.IntKind
set_option linter.unusedVariables false
set_option linter.unusedSimpArgs false
set_option maxRecDepth 100000
noncomputable section
def Q02(s:(List Int)):(List Int):=
s
def Q06(s:(List Int)):Prop:=
s.length≤35184372088832
def Q39(s:(List Int)):List D:=[.sl 1 (.ints .u32 s) false]
def Q2f(s:(List Int)):List Row:=[]
def Q1e(X:(List Int)):D:= .all 0
def Q1g(X:(List Int)):List Row:=[⟨false,27,1, .ints .u32 X⟩]
def Qcc:List Dir:=[.row 27 1 (.ints .u32)]
def Q6t:List PT:=[.one (.ints .u32)]
def Q6h:List RT:=[]
def Qdq(args:List D)(rows:List Row):(List Int):=Q02 (argL .u32 args 0)
def Qdi(args:List D)(rows:List Row):Prop:=Q06 (argL .u32 args 0)
def Qeo:Q0b:=mkP 59 [] true Q6t Q6h Qdi Qdq Q1e Q1g
def Q46(s:(List Int))(Leaf:(List Int)→Prop):Prop:=
(s=[]→Leaf [])∧cand (decide ((4:Nat)*((0:Nat)+List.length s)≤(140737488355328:Nat))) (Leaf s)
set_option maxRecDepth 100000 in
theorem Qec(s:(List Int))(Q:D→List Row→Prop):(fnVC tab [] (LL tab [] Tryz.f59.ntmps 0 [] 2) Tryz.f59 (Q39 s) (Q2f s) fun d R=>Qee (Q2f s).length Qcc d R Q)=Q46 s (fun X=>Q (Q1e X) (Q1g X)):=by kernel_rfl
theorem Qcv(s:(List Int))(Leaf:(List Int)→Prop)(hw:Q06 s)(h:Leaf (Q02 s)):
Q46 s Leaf:=by
 delta Q46
 refine⟨fun e=>by rw[e]at h;exact h,?_⟩
 rw[Q09]
 refine⟨decide_eq_true ?_,h⟩
 have:s.length≤35184372088832:=hw
 omega
set_option maxRecDepth 100000 in
theorem Qc0(s:(List Int))(hw:Q06 s):Q52 Tryz.prog 59 (Q39 s) (Q2f s) (Q1e (Q02 s)) (Q1g (Q02 s)):=
 have hG:Qa8 Tryz.prog []:= .nil
 FnOK.calls Q0i Q0j hG Tryz.func59 (LL_ok Q0i Q0j hG 2 (invs:=[])) (FnOK.of (Qec s _) (Qcv s (fun X=>Q1e X=Q1e (Q02 s)∧Q1g X=Q1g (Q02 s)) hw ⟨rfl,rfl⟩))
set_option maxRecDepth 100000 in
theorem Qct(args:List D)(rows:List Row):Qks Q6t args 0=Q39 (argL .u32 args 0):=by kernel_rfl
set_option maxRecDepth 100000 in
theorem Qc(args:List D)(rows:List Row):Q9q Q6h rows 0=Q2f (argL .u32 args 0):=by kernel_rfl
set_option maxRecDepth 100000 in
theorem Qea(X:(List Int)):(ffB (Q1e X)&&ffBR (Q1g X))=true:=by kernel_rfl
theorem Q1h:Q04 Tryz.prog Qeo:=Z8l Tryz.call59 (fun args rows hp=>by rw[Qct args rows,Qc args rows];exact Qc0 (argL .u32 args 0) hp) (fun _ X=>Qea X)
def Q7n(m:(List Int)):Tree Int:=
.br (Int.tmod (↑(List.length m):Int) (32:Int) !=(0:Int)) (.lf 0) (.br (decide ((↑(List.length m):Int)>(1024:Int))) (.lf 0) (.lf (wrap i64 (Int.tdiv (↑(List.length m):Int) 32))))
def Q0q(m:(List Int)):Int:=(Q7n m).m
def Z0w:Q0b:=mkR 56 [] true [.one (.ints .u32)] [] (fun args rows=>Q0q (argL .u32 args 0)) (fun X=> .int .i64 X) (fun X=>[])
theorem Q3l:Q04 Tryz.prog Z0w:=Q0v Q0i Q0j (.nil) Tryz.func56 Tryz.call56 (fun args rows=>Q7n (argL .u32 args 0)) [] [] 2 (fun _ _ _=>by kernel_rfl) (fun _ _=>rfl) (fun _ _=>Tree.free_ok (by kernel_rfl)) (fun _ X=>by kernel_rfl)
def Q3o(m:(List Int))(addr:Int)(size:Int):Tree Bool:=
let T1:Tree (Bool):= .cn (decide (wrap u32 size≠0)) (.br (Int.tmod addr (wrap u32 size) !=0) (.lf false) (.lv (Q0q m) fun(x0:Int)=> .lf (decide (wrap u64 (wrap u64 addr+wrap u64 size)≤wrap u64 (wrap u64 x0*128))))); .br (size !=1) (.br (size !=4) (.lf false) T1) T1
def Qf5(m:(List Int))(addr:Int)(size:Int):Bool:=(Q3o m addr size).m
abbrev Q6l(m:(List Int))(addr:Int)(size:Int):Prop:=(Q3o m addr size).p
def Qym:Q0b:=mkP 217 [] true [.one (.ints .u32), .one (.int .u32), .one (.int .i64)] [] (fun args rows=>Q6l (argL .u32 args 0) (argI args 1) (argI args 2)) (fun args rows=>Qf5 (argL .u32 args 0) (argI args 1) (argI args 2)) (fun X=> .bool X) (fun X=>[])
theorem Qkd:Q04 Tryz.prog Qym:=Q0k Q0i Q0j (.cons Q3l (.nil)) Tryz.func217 Tryz.call217 (fun args rows=>Q3o (argL .u32 args 0) (argI args 1) (argI args 2)) [] [] 2 (fun _ _ _=>by kernel_rfl) (fun _ _=>rfl) (fun _ _ h=>h) (fun _ X=>by kernel_rfl)
def Qcb(n:Int):Tree Int:=
.br (decide (n≥32)) (.lf 4294967295) (.cn (decide (0≤wrap u64 n)) (.lf (wrap u32 (ishl u32 1 (wrap u64 n)-1))))
def Qyj(n:Int):Int:=(Qcb n).m
abbrev Qbc(n:Int):Prop:=(Qcb n).p
def Zat:Q0b:=mkP 218 [] true [.one (.int .i64)] [] (fun args rows=>Qbc (argI args 0)) (fun args rows=>Qyj (argI args 0)) (fun X=> .int .u32 X) (fun X=>[])
theorem Qto:Q04 Tryz.prog Zat:=Q0k Q0i Q0j (.nil) Tryz.func218 Tryz.call218 (fun args rows=>Qcb (argI args 0)) [] [] 2 (fun _ _ _=>by kernel_rfl) (fun _ _=>rfl) (fun _ _ h=>h) (fun _ X=>by kernel_rfl)
def Qax(w:Int)(low:Int)(n:Int):Tree Int:=
.br (decide (low<0)) (.lf 0) (.br (decide (low>31)) (.lf 0) (.br (decide (n<1)) (.lf 0) (.cn (decide (0≤wrap u64 low)) (.an (Qbc n) (.lv (Qyj n) fun(x0:Int)=> .lf (iand u32 (ishr u32 w (wrap u64 low)) x0))))))
def Q2r(w:Int)(low:Int)(n:Int):Int:=(Qax w low n).m
abbrev Q3i(w:Int)(low:Int)(n:Int):Prop:=(Qax w low n).p
def Z84:Q0b:=mkP 169 [] true [.one (.int .u32), .one (.int .i64), .one (.int .i64)] [] (fun args rows=>Q3i (argI args 0) (argI args 1) (argI args 2)) (fun args rows=>Q2r (argI args 0) (argI args 1) (argI args 2)) (fun X=> .int .u32 X) (fun X=>[])
theorem Qje:Q04 Tryz.prog Z84:=Q0k Q0i Q0j (.cons Qto (.nil)) Tryz.func169 Tryz.call169 (fun args rows=>Qax (argI args 0) (argI args 1) (argI args 2)) [] [] 2 (fun _ _ _=>by kernel_rfl) (fun _ _=>rfl) (fun _ _ h=>h) (fun _ X=>by kernel_rfl)
def Q6e(w:Int)(low:Int)(n:Int)(v:Int):Tree Int:=
.br (decide (low<0)) (.lf w) (.br (decide (low>31)) (.lf w) (.br (decide (n<1)) (.lf w) (.an (Qbc n) (.lv (Qyj n) fun(x0:Int)=> .cn (decide (0≤wrap u64 low)) (.cn (decide (0≤wrap u64 low)) (.lf (ior u32 (Qey u32 w (ishl u32 x0 (wrap u64 low))) (ishl u32 (iand u32 v x0) (wrap u64 low)))))))))
def Q74(w:Int)(low:Int)(n:Int)(v:Int):Int:=(Q6e w low n v).m
abbrev Q99(w:Int)(low:Int)(n:Int)(v:Int):Prop:=(Q6e w low n v).p
def Qy2:Q0b:=mkP 220 [] true [.one (.int .u32), .one (.int .i64), .one (.int .i64), .one (.int .u32)] [] (fun args rows=>Q99 (argI args 0) (argI args 1) (argI args 2) (argI args 3)) (fun args rows=>Q74 (argI args 0) (argI args 1) (argI args 2) (argI args 3)) (fun X=> .int .u32 X) (fun X=>[])
theorem Qv1:Q04 Tryz.prog Qy2:=Q0k Q0i Q0j (.cons Qto (.nil)) Tryz.func220 Tryz.call220 (fun args rows=>Q6e (argI args 0) (argI args 1) (argI args 2) (argI args 3)) [] [] 2 (fun _ _ _=>by kernel_rfl) (fun _ _=>rfl) (fun _ _ h=>h) (fun _ X=>by kernel_rfl)
def Q61(m:(List Int))(addr:Int)(size:Int)(v:Int):Tree ((List Int)×Bool):=
.an (Q06 m) (.lv (Q02 m) fun(x0:List Int)=> .an (Q6l m addr size) (.lv (Qf5 m addr size) fun(x1:Bool)=> .br (!x1) (.lf (x0,false)) (let E1:=Nat.beq 1 1&&Nat.blt 0 1&&decide (0≤wrap u32 (Int.tdiv addr 4)∧wrap u32 (Int.tdiv addr 4)<(↑(List.length x0):Int));let E2:=Int.toNat (wrap u32 (Int.tdiv addr 4)); .br (size==1) (.cn E1 (let E3:=wrap i64 (wrap i64 (Int.tmod addr 4)*8); .an (Q99 (List.getD x0 E2 0) E3 8 v) (.lv (Q74 (List.getD x0 E2 0) E3 8 v) fun(x2:Int)=> .cn E1 (.lf (List.set x0 E2 x2,true))))) (.cn E1 (.lf (List.set x0 E2 v,true))))))
def Q8n(m:(List Int))(addr:Int)(size:Int)(v:Int):((List Int)×Bool):=(Q61 m addr size v).m
abbrev Q59(m:(List Int))(addr:Int)(size:Int)(v:Int):Prop:=(Q61 m addr size v).p
def Z0c:Q0b:=mkP 175 [] true [.one (.ints .u32), .one (.int .u32), .one (.int .i64), .one (.int .u32)] [] (fun args rows=>Q59 (argL .u32 args 0) (argI args 1) (argI args 2) (argI args 3)) (fun args rows=>Q8n (argL .u32 args 0) (argI args 1) (argI args 2) (argI args 3)) (fun X=> .tup [.all 0, .bool (X.2)]) (fun X=>[⟨false,27,1, .ints .u32 (X.1)⟩])
theorem Qlw:Q04 Tryz.prog Z0c:=Q0k Q0i Q0j (.cons Q1h (.cons Qkd (.cons Qv1 (.nil)))) Tryz.func175 Tryz.call175 (fun args rows=>Q61 (argL .u32 args 0) (argI args 1) (argI args 2) (argI args 3)) [.row 27 1 (.ints .u32)] [] 2 (fun _ _ _=>by kernel_rfl) (fun _ _=>rfl) (fun _ _ h=>h) (fun _ X=>by kernel_rfl)
def Z88(op:Int):Tree (Q84×Bool):=
.br (op==1) (.lf ({a:=true,b:=true,c:=true,low:=0,high:=0},true)) (.br (op==2) (.lf ({a:=true,b:=true,c:=true,low:=0,high:=0},true)) (.br (op==3) (.lf ({a:=true,b:=true,c:=true,low:=0,high:=0},true)) (.br (op==4) (.lf ({a:=true,b:=true,c:=true,low:=0,high:=0},true)) (.br (op==5) (.lf ({a:=true,b:=true,c:=true,low:=0,high:=0},true)) (.br (op==6) (.lf ({a:=true,b:=true,c:=true,low:=0,high:=0},true)) (.br (op==7) (.lf ({a:=true,b:=true,c:=true,low:=0,high:=0},true)) (.br (op==8) (.lf ({a:=true,b:=true,c:=true,low:=0,high:=0},true)) (.br (op==9) (.lf ({a:=true,b:=true,c:=true,low:=0,high:=0},true)) (.br (op==10) (.lf ({a:=true,b:=true,c:=true,low:=0,high:=0},true)) (.br (op==11) (.lf ({a:=true,b:=true,c:=true,low:=0,high:=0},true)) (.br (op==12) (.lf ({a:=true,b:=true,c:=true,low:=0,high:=0},true)) (.br (op==13) (.lf ({a:=true,b:=true,c:=true,low:=0,high:=0},true)) (.br (op==16) (.lf ({a:=true,b:=true,c:=false,low:=(-32768),high:=32767},true)) (.br (op==23) (.lf ({a:=true,b:=true,c:=false,low:=(-32768),high:=32767},true)) (.br (op==32) (.lf ({a:=true,b:=true,c:=false,low:=(-32768),high:=32767},true)) (.br (op==33) (.lf ({a:=true,b:=true,c:=false,low:=(-32768),high:=32767},true)) (.br (op==34) (.lf ({a:=true,b:=true,c:=false,low:=(-32768),high:=32767},true)) (.br (op==35) (.lf ({a:=true,b:=true,c:=false,low:=(-32768),high:=32767},true)) (.br (op==36) (.lf ({a:=true,b:=true,c:=false,low:=(-32768),high:=32767},true)) (.br (op==40) (.lf ({a:=true,b:=true,c:=false,low:=(-32768),high:=32767},true)) (.br (op==41) (.lf ({a:=true,b:=true,c:=false,low:=(-32768),high:=32767},true)) (.br (op==42) (.lf ({a:=true,b:=true,c:=false,low:=(-32768),high:=32767},true)) (.br (op==43) (.lf ({a:=true,b:=true,c:=false,low:=(-32768),high:=32767},true)) (.br (op==44) (.lf ({a:=true,b:=true,c:=false,low:=(-32768),high:=32767},true)) (.br (op==45) (.lf ({a:=true,b:=true,c:=false,low:=(-32768),high:=32767},true)) (.br (op==49) (.lf ({a:=true,b:=true,c:=false,low:=(-32768),high:=32767},true)) (.br (op==17) (.lf ({a:=true,b:=true,c:=false,low:=0,high:=65535},true)) (.br (op==18) (.lf ({a:=true,b:=true,c:=false,low:=0,high:=65535},true)) (.br (op==19) (.lf ({a:=true,b:=true,c:=false,low:=0,high:=65535},true)) (.br (op==20) (.lf ({a:=true,b:=true,c:=false,low:=0,high:=31},true)) (.br (op==21) (.lf ({a:=true,b:=true,c:=false,low:=0,high:=31},true)) (.br (op==22) (.lf ({a:=true,b:=true,c:=false,low:=0,high:=31},true)) (.br (op==24) (.lf ({a:=true,b:=false,c:=false,low:=0,high:=65535},true)) (.br (op==48) (.lf ({a:=true,b:=false,c:=false,low:=(-32768),high:=32767},true)) (.br (op==58) (.lf ({a:=true,b:=false,c:=false,low:=0,high:=7},true)) (.br (op==59) (.lf ({a:=true,b:=false,c:=false,low:=0,high:=7},true)) (.br (op==60) (.lf ({a:=true,b:=false,c:=false,low:=0,high:=11},true)) (.br (op==61) (.lf ({a:=true,b:=false,c:=false,low:=0,high:=11},true)) (.br (op==56) (.lf ({a:=false,b:=false,c:=false,low:=0,high:=0},true)) (.br (op==57) (.lf ({a:=false,b:=false,c:=false,low:=0,high:=0},true)) (.br (op==62) (.lf ({a:=false,b:=false,c:=false,low:=0,high:=0},true)) (.br (op==63) (.lf ({a:=false,b:=false,c:=false,low:=0,high:=0},true)) (.br (op==64) (.lf ({a:=false,b:=false,c:=false,low:=0,high:=0},true)) (.lf ({a:=false,b:=false,c:=false,low:=0,high:=0},false)))))))))))))))))))))))))))))))))))))))))))))
def Qya(op:Int):(Q84×Bool):=(Z88 op).m
def isa_use_m:Q0b:=mkR 170 [] true [.one (.int .i64)] [] (fun args rows=>Qya (argI args 0)) (fun X=> .tup [.agg (Q84.cells (X.1)), .bool (X.2)]) (fun X=>[])
theorem Z29:Q04 Tryz.prog isa_use_m:=Q0v Q0i Q0j (.nil) Tryz.func170 Tryz.call170 (fun args rows=>Z88 (argI args 0)) [] [] 2 (fun _ _ _=>by kernel_rfl) (fun _ _=>rfl) (fun _ _=>Tree.free_ok (by kernel_rfl)) (fun _ X=>by kernel_rfl)
def Q4j(x:Int)(n:Int):Tree Int:=
.br (decide (n<1)) (.lf 0) (.br (decide (n≥32)) (.lf x) (let E1:=decide (0≤wrap u64 (wrap i64 (32-n))); .cn E1 (.cn E1 (.lf (wrap u32 (ishr i32 (wrap i32 (ishl u32 x (wrap u64 (wrap i64 (32-n))))) (wrap u64 (wrap i64 (32-n)))))))))
def Q26(x:Int)(n:Int):Int:=(Q4j x n).m
abbrev Q4l(x:Int)(n:Int):Prop:=(Q4j x n).p
def Qs5:Q0b:=mkP 171 [] true [.one (.int .u32), .one (.int .i64)] [] (fun args rows=>Q4l (argI args 0) (argI args 1)) (fun args rows=>Q26 (argI args 0) (argI args 1)) (fun X=> .int .u32 X) (fun X=>[])
theorem Qhj:Q04 Tryz.prog Qs5:=Q0k Q0i Q0j (.nil) Tryz.func171 Tryz.call171 (fun args rows=>Q4j (argI args 0) (argI args 1)) [] [] 2 (fun _ _ _=>by kernel_rfl) (fun _ _=>rfl) (fun _ _ h=>h) (fun _ X=>by kernel_rfl)
def Qd7(r:Int)(used:Bool):Tree Bool:=
.br used (.br (decide (r≥0)) (.lf (decide (r≤15))) (.lf false)) (.lf (r==0))
def Q8a(r:Int)(used:Bool):Bool:=(Qd7 r used).m
def Z04:Q0b:=mkR 219 [] true [.one (.int .i64), .one (.bool)] [] (fun args rows=>Q8a (argI args 0) (argB args 1)) (fun X=> .bool X) (fun X=>[])
theorem Qxi:Q04 Tryz.prog Z04:=Q0v Q0i Q0j (.nil) Tryz.func219 Tryz.call219 (fun args rows=>Qd7 (argI args 0) (argB args 1)) [] [] 2 (fun _ _ _=>by kernel_rfl) (fun _ _=>rfl) (fun _ _=>Tree.free_ok (by kernel_rfl)) (fun _ X=>by kernel_rfl)
def Qfj(i:Q0g):Tree Bool:=
.lv (Qya i.Op) fun(x0:Q84×Bool)=> .br x0.snd (.lv (Q8a i.A x0.fst.a) fun(x1:Bool)=> .br x1 (.lv (Q8a i.B x0.fst.b) fun(x2:Bool)=> .br x2 (.lv (Q8a i.C x0.fst.c) fun(x3:Bool)=> .br x3 (.br (decide (i.Imm≥x0.fst.low)) (.lf (decide (i.Imm≤x0.fst.high))) (.lf false)) (.lf false)) (.lf false)) (.lf false)) (.lf false)
def Qe2(i:Q0g):Bool:=(Qfj i).m
def Zbr:Q0b:=mkR 172 [] true [.agg Q0g.sig] [] (fun args rows=>Qe2 (Q0g.of (args.getD 0 .dead).cells)) (fun X=> .bool X) (fun X=>[])
theorem Za1:Q04 Tryz.prog Zbr:=Q0v Q0i Q0j (.cons Z29 (.cons Qxi (.nil))) Tryz.func172 Tryz.call172 (fun args rows=>Qfj (Q0g.of (args.getD 0 .dead).cells)) [] [] 2 (fun _ _ _=>by kernel_rfl) (fun _ _=>rfl) (fun _ _=>Tree.free_ok (by kernel_rfl)) (fun _ X=>by kernel_rfl)
def Q8p(w:Int):Tree (Q0g×Bool):=
.an (Q3i w 24 8) (.lv (Q2r w 24 8) fun(x0:Int)=> .an (Q3i w 20 4) (.lv (Q2r w 20 4) fun(x1:Int)=> .an (Q3i w 16 4) (.lv (Q2r w 16 4) fun(x2:Int)=> .lv (Qya (wrap i64 x0)) fun(x3:Q84×Bool)=>let E1:=({Op:=0,A:=0,B:=0,C:=0,Imm:=0}:Q0g); .br (!x3.snd) (.lf (E1,false)) (.an (Q3i w 0 16) (.lv (Q2r w 0 16) fun(x4:Int)=> .br x3.fst.c (let E2:=({Op:=wrap i64 x0,A:=wrap i64 x1,B:=wrap i64 x2,C:=wrap i64 x4,Imm:=0}:Q0g); .lv (Qe2 E2) fun(x5:Bool)=> .br (!x5) (.lf (E1,false)) (.lf (E2,true))) (.br (decide (x3.fst.low<0)) (.an (Q4l x4 16) (.lv (Q26 x4 16) fun(x6:Int)=>let E3:=({Op:=wrap i64 x0,A:=wrap i64 x1,B:=wrap i64 x2,C:=0,Imm:=wrap i32 x6}:Q0g); .lv (Qe2 E3) fun(x7:Bool)=> .br (!x7) (.lf (E1,false)) (.lf (E3,true)))) (let E4:=({Op:=wrap i64 x0,A:=wrap i64 x1,B:=wrap i64 x2,C:=0,Imm:=wrap i32 x4}:Q0g); .lv (Qe2 E4) fun(x8:Bool)=> .br (!x8) (.lf (E1,false)) (.lf (E4,true)))))))))
def Qf8(w:Int):(Q0g×Bool):=(Q8p w).m
abbrev Qd(w:Int):Prop:=(Q8p w).p
def Z6d:Q0b:=mkP 121 [] true [.one (.int .u32)] [] (fun args rows=>Qd (argI args 0)) (fun args rows=>Qf8 (argI args 0)) (fun X=> .tup [.agg (Q0g.cells (X.1)), .bool (X.2)]) (fun X=>[])
theorem Z2z:Q04 Tryz.prog Z6d:=Q0k Q0i Q0j (.cons Qje (.cons Z29 (.cons Qhj (.cons Za1 (.nil))))) Tryz.func121 Tryz.call121 (fun args rows=>Q8p (argI args 0)) [] [] 2 (fun _ _ _=>by kernel_rfl) (fun _ _=>rfl) (fun _ _ h=>h) (fun _ X=>by kernel_rfl)
def Q7c(a:Int)(b:Int):Tree (Int×Int):=
.br (b==0) (.lf (4294967295,a)) (let T1:Tree ((Int×Int)):= .cn (decide (wrap i32 b≠0)) (.cn (decide (wrap i32 b≠0)) (.lf (wrap u32 (wrap i32 (Int.tdiv (wrap i32 a) (wrap i32 b))),wrap u32 (Int.tmod (wrap i32 a) (wrap i32 b))))); .br (a==2147483648) (.br (b==4294967295) (.lf (a,0)) T1) T1)
def Qan(a:Int)(b:Int):(Int×Int):=(Q7c a b).m
abbrev Q89(a:Int)(b:Int):Prop:=(Q7c a b).p
def Z3v:Q0b:=mkP 221 [] true [.one (.int .u32), .one (.int .u32)] [] (fun args rows=>Q89 (argI args 0) (argI args 1)) (fun args rows=>Qan (argI args 0) (argI args 1)) (fun X=> .tup [.int .u32 (X.1), .int .u32 (X.2)]) (fun X=>[])
theorem Qzt:Q04 Tryz.prog Z3v:=Q0k Q0i Q0j (.nil) Tryz.func221 Tryz.call221 (fun args rows=>Q7c (argI args 0) (argI args 1)) [] [] 2 (fun _ _ _=>by kernel_rfl) (fun _ _=>rfl) (fun _ _ h=>h) (fun _ X=>by kernel_rfl)
def Qx8(b:Bool):Tree Int:=
.br b (.lf 1) (.lf 0)
def Ql9(b:Bool):Int:=(Qx8 b).m
def Zam:Q0b:=mkR 222 [] true [.one (.bool)] [] (fun args rows=>Ql9 (argB args 0)) (fun X=> .int .u32 X) (fun X=>[])
theorem Z69:Q04 Tryz.prog Zam:=Q0v Q0i Q0j (.nil) Tryz.func222 Tryz.call222 (fun args rows=>Qx8 (argB args 0)) [] [] 2 (fun _ _ _=>by kernel_rfl) (fun _ _=>rfl) (fun _ _=>Tree.free_ok (by kernel_rfl)) (fun _ X=>by kernel_rfl)
def Qik(op:Int)(a:Int)(b:Int):Tree (Int×Bool):=
.br (op==2) (.lf (wrap u32 (a+wrap u32 (0-b)),true)) (.br (op==1) (.lf (wrap u32 (a+b),true)) (.br (op==16) (.lf (wrap u32 (a+b),true)) (.br (op==3) (.lf (iand u32 a b,true)) (.br (op==17) (.lf (iand u32 a b,true)) (.br (op==4) (.lf (ior u32 a b,true)) (.br (op==18) (.lf (ior u32 a b,true)) (.br (op==5) (.lf (ixor u32 a b,true)) (.br (op==19) (.lf (ixor u32 a b,true)) (.br (op==6) (.lf (ishl u32 a (iand u32 b 31),true)) (.br (op==20) (.lf (ishl u32 a (iand u32 b 31),true)) (.br (op==7) (.lf (ishr u32 a (iand u32 b 31),true)) (.br (op==21) (.lf (ishr u32 a (iand u32 b 31),true)) (let E1:=(wrap u32 (ishr i32 (wrap i32 a) (iand u32 b 31)),true); .br (op==8) (.lf E1) (.br (op==22) (.lf E1) (.br (op==9) (.lf (wrap u32 (a*b),true)) (.br (op==10) (.an (Q89 a b) (.lv (Qan a b) fun(x0:Int×Int)=> .lf (x0.fst,true))) (.br (op==11) (.an (Q89 a b) (.lv (Qan a b) fun(x1:Int×Int)=> .lf (x1.snd,true))) (.br (op==12) (.lv (Ql9 (decide (wrap i32 a<wrap i32 b))) fun(x2:Int)=> .lf (x2,true)) (.br (op==23) (.lv (Ql9 (decide (wrap i32 a<wrap i32 b))) fun(x3:Int)=> .lf (x3,true)) (.br (op==13) (.lv (Ql9 (decide (a<b))) fun(x4:Int)=> .lf (x4,true)) (.lf (0,false))))))))))))))))))))))
def Q3k(op:Int)(a:Int)(b:Int):(Int×Bool):=(Qik op a b).m
abbrev Qg4(op:Int)(a:Int)(b:Int):Prop:=(Qik op a b).p
def cpu_Alu_m:Q0b:=mkP 179 [] true [.one (.int .i64), .one (.int .u32), .one (.int .u32)] [] (fun args rows=>Qg4 (argI args 0) (argI args 1) (argI args 2)) (fun args rows=>Q3k (argI args 0) (argI args 1) (argI args 2)) (fun X=> .tup [.int .u32 (X.1), .bool (X.2)]) (fun X=>[])
theorem Zfe:Q04 Tryz.prog cpu_Alu_m:=Q0k Q0i Q0j (.cons Qzt (.cons Z69 (.nil))) Tryz.func179 Tryz.call179 (fun args rows=>Qik (argI args 0) (argI args 1) (argI args 2)) [] [] 2 (fun _ _ _=>by kernel_rfl) (fun _ _=>rfl) (fun _ _ h=>h) (fun _ X=>by kernel_rfl)
end
end Go.Proofs.YtdkiadhigcfmkaaGreat

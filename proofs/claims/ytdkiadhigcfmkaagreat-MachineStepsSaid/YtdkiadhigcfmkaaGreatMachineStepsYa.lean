/-
  Functions of the program: models, and that its calls come to them (by a program: gen3.py).
-/
import Derived.Test.YtdkiadhigcfmkaaGreatMachineStepsBase
namespace Go.Proofs.YtdkiadhigcfmkaaGreat
open Go Go.GD Go.IntKind
set_option linter.unusedVariables false
set_option linter.unusedSimpArgs false
set_option maxRecDepth 100000
noncomputable section
def Q04(s:(List Int)):(List Int):=
s
def Q09(s:(List Int)):Prop:=
s.length≤35184372088832
def Q2q(s:(List Int)):List D:=[.sl 1 (.ints .u32 s) false]
def Q1u(s:(List Int)):List Row:=[]
def Q1a(X:(List Int)):D:= .all 0
def Q17(X:(List Int)):List Row:=[⟨false,27,1, .ints .u32 X⟩]
def Qbc:List Dir:=[.row 27 1 (.ints .u32)]
def Q69:List PT:=[.one (.ints .u32)]
def Q60:List RT:=[]
def Qcr(args:List D)(rows:List Row):(List Int):=Q04 (argL .u32 args 0)
def Qd6(args:List D)(rows:List Row):Prop:=Q09 (argL .u32 args 0)
def Qe3:Q0a:=mkP 59 [] true Q69 Q60 Qd6 Qcr Q1a Q17
def Q3u(s:(List Int))(Leaf:(List Int)→Prop):Prop:=
(s=[]→Leaf [])∧cand (decide ((4:Nat)*((0:Nat)+List.length s)≤(140737488355328:Nat))) (Leaf s)
set_option maxRecDepth 100000 in
theorem Qdg(s:(List Int))(Q:D→List Row→Prop):(fnVC tab [] (LL tab [] Tryz.f59.ntmps 0 [] 2) Tryz.f59 (Q2q s) (Q1u s) fun d R=>Qdj (Q1u s).length Qbc d R Q)=Q3u s (fun X=>Q (Q1a X) (Q17 X)):=by kernel_rfl
theorem Qbb(s:(List Int))(Leaf:(List Int)→Prop)(hw:Q09 s)(h:Leaf (Q04 s)):
Q3u s Leaf:=by
 delta Q3u
 refine⟨fun e=>by rw[e]at h;exact h,?_⟩
 rw[Q06]
 refine⟨decide_eq_true ?_,h⟩
 have:s.length≤35184372088832:=hw
 omega
set_option maxRecDepth 100000 in
theorem Qb2(s:(List Int))(hw:Q09 s):Q4b Tryz.prog 59 (Q2q s) (Q1u s) (Q1a (Q04 s)) (Q17 (Q04 s)):=
 have hG:Q9g Tryz.prog []:= .nil
 FnOK.calls Q0g Q0h hG Tryz.func59 (LL_ok Q0g Q0h hG 2 (invs:=[])) (FnOK.of (Qdg s _) (Qbb s (fun X=>Q1a X=Q1a (Q04 s)∧Q17 X=Q17 (Q04 s)) hw ⟨rfl,rfl⟩))
set_option maxRecDepth 100000 in
theorem Qbk(args:List D)(rows:List Row):Qk Q69 args 0=Q2q (argL .u32 args 0):=by kernel_rfl
set_option maxRecDepth 100000 in
theorem Qb3(args:List D)(rows:List Row):Q8t Q60 rows 0=Q1u (argL .u32 args 0):=by kernel_rfl
set_option maxRecDepth 100000 in
theorem Qde(X:(List Int)):(ffB (Q1a X)&&ffBR (Q17 X))=true:=by kernel_rfl
theorem Q13:Q03 Tryz.prog Qe3:=Z69 Tryz.call59 (fun args rows hp=>by rw[Qbk args rows,Qb3 args rows];exact Qb2 (argL .u32 args 0) hp) (fun _ X=>Qde X)
def Q7(m:(List Int)):Tree Int:=
.br (Int.tmod (↑(List.length m):Int) (32:Int) !=(0:Int)) (.lf 0) (.br (decide ((↑(List.length m):Int)>(1024:Int))) (.lf 0) (.lf (wrap i64 (Int.tdiv (↑(List.length m):Int) 32))))
def Q0s(m:(List Int)):Int:=(Q7 m).m
def Qzw:Q0a:=mkR 56 [] true [.one (.ints .u32)] [] (fun args rows=>Q0s (argL .u32 args 0)) (fun X=> .int .i64 X) (fun X=>[])
theorem Q39:Q03 Tryz.prog Qzw:=Q0t Q0g Q0h (.nil) Tryz.func56 Tryz.call56 (fun args rows=>Q7 (argL .u32 args 0)) [] [] 2 (fun _ _ _=>by kernel_rfl) (fun _ _=>rfl) (fun _ _=>Tree.free_ok (by kernel_rfl)) (fun _ X=>by kernel_rfl)
def Q32(m:(List Int))(addr:Int)(size:Int):Tree Bool:=
let T1:Tree (Bool):= .cn (decide (wrap u32 size≠0)) (.br (Int.tmod addr (wrap u32 size) !=0) (.lf false) (.lv (Q0s m) fun(x0:Int)=> .lf (decide (wrap u64 (wrap u64 addr+wrap u64 size)≤wrap u64 (wrap u64 x0*128))))); .br (size !=1) (.br (size !=4) (.lf false) T1) T1
def Qe1(m:(List Int))(addr:Int)(size:Int):Bool:=(Q32 m addr size).m
abbrev Q67(m:(List Int))(addr:Int)(size:Int):Prop:=(Q32 m addr size).p
def Qxe:Q0a:=mkP 217 [] true [.one (.ints .u32), .one (.int .u32), .one (.int .i64)] [] (fun args rows=>Q67 (argL .u32 args 0) (argI args 1) (argI args 2)) (fun args rows=>Qe1 (argL .u32 args 0) (argI args 1) (argI args 2)) (fun X=> .bool X) (fun X=>[])
theorem Qjw:Q03 Tryz.prog Qxe:=Q0j Q0g Q0h (.cons Q39 (.nil)) Tryz.func217 Tryz.call217 (fun args rows=>Q32 (argL .u32 args 0) (argI args 1) (argI args 2)) [] [] 2 (fun _ _ _=>by kernel_rfl) (fun _ _=>rfl) (fun _ _ h=>h) (fun _ X=>by kernel_rfl)
def Qbw(n:Int):Tree Int:=
.br (decide (n≥32)) (.lf 4294967295) (.cn (decide (0≤wrap u64 n)) (.lf (wrap u32 (ishl u32 1 (wrap u64 n)-1))))
def Qy0(n:Int):Int:=(Qbw n).m
abbrev Qah(n:Int):Prop:=(Qbw n).p
def Zb5:Q0a:=mkP 218 [] true [.one (.int .i64)] [] (fun args rows=>Qah (argI args 0)) (fun args rows=>Qy0 (argI args 0)) (fun X=> .int .u32 X) (fun X=>[])
theorem Qsy:Q03 Tryz.prog Zb5:=Q0j Q0g Q0h (.nil) Tryz.func218 Tryz.call218 (fun args rows=>Qbw (argI args 0)) [] [] 2 (fun _ _ _=>by kernel_rfl) (fun _ _=>rfl) (fun _ _ h=>h) (fun _ X=>by kernel_rfl)
def Qa1(w:Int)(low:Int)(n:Int):Tree Int:=
.br (decide (low<0)) (.lf 0) (.br (decide (low>31)) (.lf 0) (.br (decide (n<1)) (.lf 0) (.cn (decide (0≤wrap u64 low)) (.an (Qah n) (.lv (Qy0 n) fun(x0:Int)=> .lf (iand u32 (ishr u32 w (wrap u64 low)) x0))))))
def Q28(w:Int)(low:Int)(n:Int):Int:=(Qa1 w low n).m
abbrev Q3(w:Int)(low:Int)(n:Int):Prop:=(Qa1 w low n).p
def Z7i:Q0a:=mkP 169 [] true [.one (.int .u32), .one (.int .i64), .one (.int .i64)] [] (fun args rows=>Q3 (argI args 0) (argI args 1) (argI args 2)) (fun args rows=>Q28 (argI args 0) (argI args 1) (argI args 2)) (fun X=> .int .u32 X) (fun X=>[])
theorem Qih:Q03 Tryz.prog Z7i:=Q0j Q0g Q0h (.cons Qsy (.nil)) Tryz.func169 Tryz.call169 (fun args rows=>Qa1 (argI args 0) (argI args 1) (argI args 2)) [] [] 2 (fun _ _ _=>by kernel_rfl) (fun _ _=>rfl) (fun _ _ h=>h) (fun _ X=>by kernel_rfl)
def Q61(w:Int)(low:Int)(n:Int)(v:Int):Tree Int:=
.br (decide (low<0)) (.lf w) (.br (decide (low>31)) (.lf w) (.br (decide (n<1)) (.lf w) (.an (Qah n) (.lv (Qy0 n) fun(x0:Int)=> .cn (decide (0≤wrap u64 low)) (.cn (decide (0≤wrap u64 low)) (.lf (ior u32 (Qgh u32 w (ishl u32 x0 (wrap u64 low))) (ishl u32 (iand u32 v x0) (wrap u64 low)))))))))
def Q6m(w:Int)(low:Int)(n:Int)(v:Int):Int:=(Q61 w low n v).m
abbrev Q8p(w:Int)(low:Int)(n:Int)(v:Int):Prop:=(Q61 w low n v).p
def Qwd:Q0a:=mkP 220 [] true [.one (.int .u32), .one (.int .i64), .one (.int .i64), .one (.int .u32)] [] (fun args rows=>Q8p (argI args 0) (argI args 1) (argI args 2) (argI args 3)) (fun args rows=>Q6m (argI args 0) (argI args 1) (argI args 2) (argI args 3)) (fun X=> .int .u32 X) (fun X=>[])
theorem Quj:Q03 Tryz.prog Qwd:=Q0j Q0g Q0h (.cons Qsy (.nil)) Tryz.func220 Tryz.call220 (fun args rows=>Q61 (argI args 0) (argI args 1) (argI args 2) (argI args 3)) [] [] 2 (fun _ _ _=>by kernel_rfl) (fun _ _=>rfl) (fun _ _ h=>h) (fun _ X=>by kernel_rfl)
def Q5k(m:(List Int))(addr:Int)(size:Int)(v:Int):Tree ((List Int)×Bool):=
.an (Q09 m) (.lv (Q04 m) fun(x0:List Int)=> .an (Q67 m addr size) (.lv (Qe1 m addr size) fun(x1:Bool)=> .br (!x1) (.lf (x0,false)) (let E1:=Nat.beq 1 1&&Nat.blt 0 1&&decide (0≤wrap u32 (Int.tdiv addr 4)∧wrap u32 (Int.tdiv addr 4)<(↑(List.length x0):Int));let E2:=Int.toNat (wrap u32 (Int.tdiv addr 4)); .br (size==1) (.cn E1 (let E3:=wrap i64 (wrap i64 (Int.tmod addr 4)*8); .an (Q8p (List.getD x0 E2 0) E3 8 v) (.lv (Q6m (List.getD x0 E2 0) E3 8 v) fun(x2:Int)=> .cn E1 (.lf (List.set x0 E2 x2,true))))) (.cn E1 (.lf (List.set x0 E2 v,true))))))
def Q84(m:(List Int))(addr:Int)(size:Int)(v:Int):((List Int)×Bool):=(Q5k m addr size v).m
abbrev Q4y(m:(List Int))(addr:Int)(size:Int)(v:Int):Prop:=(Q5k m addr size v).p
def Z0h:Q0a:=mkP 175 [] true [.one (.ints .u32), .one (.int .u32), .one (.int .i64), .one (.int .u32)] [] (fun args rows=>Q4y (argL .u32 args 0) (argI args 1) (argI args 2) (argI args 3)) (fun args rows=>Q84 (argL .u32 args 0) (argI args 1) (argI args 2) (argI args 3)) (fun X=> .tup [.all 0, .bool (X.2)]) (fun X=>[⟨false,27,1, .ints .u32 (X.1)⟩])
theorem Qk3:Q03 Tryz.prog Z0h:=Q0j Q0g Q0h (.cons Q13 (.cons Qjw (.cons Quj (.nil)))) Tryz.func175 Tryz.call175 (fun args rows=>Q5k (argL .u32 args 0) (argI args 1) (argI args 2) (argI args 3)) [.row 27 1 (.ints .u32)] [] 2 (fun _ _ _=>by kernel_rfl) (fun _ _=>rfl) (fun _ _ h=>h) (fun _ X=>by kernel_rfl)
def Z8k(op:Int):Tree (Q7d×Bool):=
.br (op==1) (.lf ({a:=true,b:=true,c:=true,low:=0,high:=0},true)) (.br (op==2) (.lf ({a:=true,b:=true,c:=true,low:=0,high:=0},true)) (.br (op==3) (.lf ({a:=true,b:=true,c:=true,low:=0,high:=0},true)) (.br (op==4) (.lf ({a:=true,b:=true,c:=true,low:=0,high:=0},true)) (.br (op==5) (.lf ({a:=true,b:=true,c:=true,low:=0,high:=0},true)) (.br (op==6) (.lf ({a:=true,b:=true,c:=true,low:=0,high:=0},true)) (.br (op==7) (.lf ({a:=true,b:=true,c:=true,low:=0,high:=0},true)) (.br (op==8) (.lf ({a:=true,b:=true,c:=true,low:=0,high:=0},true)) (.br (op==9) (.lf ({a:=true,b:=true,c:=true,low:=0,high:=0},true)) (.br (op==10) (.lf ({a:=true,b:=true,c:=true,low:=0,high:=0},true)) (.br (op==11) (.lf ({a:=true,b:=true,c:=true,low:=0,high:=0},true)) (.br (op==12) (.lf ({a:=true,b:=true,c:=true,low:=0,high:=0},true)) (.br (op==13) (.lf ({a:=true,b:=true,c:=true,low:=0,high:=0},true)) (.br (op==16) (.lf ({a:=true,b:=true,c:=false,low:=(-32768),high:=32767},true)) (.br (op==23) (.lf ({a:=true,b:=true,c:=false,low:=(-32768),high:=32767},true)) (.br (op==32) (.lf ({a:=true,b:=true,c:=false,low:=(-32768),high:=32767},true)) (.br (op==33) (.lf ({a:=true,b:=true,c:=false,low:=(-32768),high:=32767},true)) (.br (op==34) (.lf ({a:=true,b:=true,c:=false,low:=(-32768),high:=32767},true)) (.br (op==35) (.lf ({a:=true,b:=true,c:=false,low:=(-32768),high:=32767},true)) (.br (op==36) (.lf ({a:=true,b:=true,c:=false,low:=(-32768),high:=32767},true)) (.br (op==40) (.lf ({a:=true,b:=true,c:=false,low:=(-32768),high:=32767},true)) (.br (op==41) (.lf ({a:=true,b:=true,c:=false,low:=(-32768),high:=32767},true)) (.br (op==42) (.lf ({a:=true,b:=true,c:=false,low:=(-32768),high:=32767},true)) (.br (op==43) (.lf ({a:=true,b:=true,c:=false,low:=(-32768),high:=32767},true)) (.br (op==44) (.lf ({a:=true,b:=true,c:=false,low:=(-32768),high:=32767},true)) (.br (op==45) (.lf ({a:=true,b:=true,c:=false,low:=(-32768),high:=32767},true)) (.br (op==49) (.lf ({a:=true,b:=true,c:=false,low:=(-32768),high:=32767},true)) (.br (op==17) (.lf ({a:=true,b:=true,c:=false,low:=0,high:=65535},true)) (.br (op==18) (.lf ({a:=true,b:=true,c:=false,low:=0,high:=65535},true)) (.br (op==19) (.lf ({a:=true,b:=true,c:=false,low:=0,high:=65535},true)) (.br (op==20) (.lf ({a:=true,b:=true,c:=false,low:=0,high:=31},true)) (.br (op==21) (.lf ({a:=true,b:=true,c:=false,low:=0,high:=31},true)) (.br (op==22) (.lf ({a:=true,b:=true,c:=false,low:=0,high:=31},true)) (.br (op==24) (.lf ({a:=true,b:=false,c:=false,low:=0,high:=65535},true)) (.br (op==48) (.lf ({a:=true,b:=false,c:=false,low:=(-32768),high:=32767},true)) (.br (op==58) (.lf ({a:=true,b:=false,c:=false,low:=0,high:=7},true)) (.br (op==59) (.lf ({a:=true,b:=false,c:=false,low:=0,high:=7},true)) (.br (op==60) (.lf ({a:=true,b:=false,c:=false,low:=0,high:=11},true)) (.br (op==61) (.lf ({a:=true,b:=false,c:=false,low:=0,high:=11},true)) (.br (op==56) (.lf ({a:=false,b:=false,c:=false,low:=0,high:=0},true)) (.br (op==57) (.lf ({a:=false,b:=false,c:=false,low:=0,high:=0},true)) (.br (op==62) (.lf ({a:=false,b:=false,c:=false,low:=0,high:=0},true)) (.br (op==63) (.lf ({a:=false,b:=false,c:=false,low:=0,high:=0},true)) (.br (op==64) (.lf ({a:=false,b:=false,c:=false,low:=0,high:=0},true)) (.lf ({a:=false,b:=false,c:=false,low:=0,high:=0},false)))))))))))))))))))))))))))))))))))))))))))))
def Qxh(op:Int):(Q7d×Bool):=(Z8k op).m
def isa_use_m:Q0a:=mkR 170 [] true [.one (.int .i64)] [] (fun args rows=>Qxh (argI args 0)) (fun X=> .tup [.agg (Q7d.cells (X.1)), .bool (X.2)]) (fun X=>[])
theorem Z1m:Q03 Tryz.prog isa_use_m:=Q0t Q0g Q0h (.nil) Tryz.func170 Tryz.call170 (fun args rows=>Z8k (argI args 0)) [] [] 2 (fun _ _ _=>by kernel_rfl) (fun _ _=>rfl) (fun _ _=>Tree.free_ok (by kernel_rfl)) (fun _ X=>by kernel_rfl)
def Q43(x:Int)(n:Int):Tree Int:=
.br (decide (n<1)) (.lf 0) (.br (decide (n≥32)) (.lf x) (let E1:=decide (0≤wrap u64 (wrap i64 (32-n))); .cn E1 (.cn E1 (.lf (wrap u32 (ishr i32 (wrap i32 (ishl u32 x (wrap u64 (wrap i64 (32-n))))) (wrap u64 (wrap i64 (32-n)))))))))
def Q1p(x:Int)(n:Int):Int:=(Q43 x n).m
abbrev Q4c(x:Int)(n:Int):Prop:=(Q43 x n).p
def Qs6:Q0a:=mkP 171 [] true [.one (.int .u32), .one (.int .i64)] [] (fun args rows=>Q4c (argI args 0) (argI args 1)) (fun args rows=>Q1p (argI args 0) (argI args 1)) (fun X=> .int .u32 X) (fun X=>[])
theorem Qgi:Q03 Tryz.prog Qs6:=Q0j Q0g Q0h (.nil) Tryz.func171 Tryz.call171 (fun args rows=>Q43 (argI args 0) (argI args 1)) [] [] 2 (fun _ _ _=>by kernel_rfl) (fun _ _=>rfl) (fun _ _ h=>h) (fun _ X=>by kernel_rfl)
def Qcd(r:Int)(used:Bool):Tree Bool:=
.br used (.br (decide (r≥0)) (.lf (decide (r≤15))) (.lf false)) (.lf (r==0))
def Q7h(r:Int)(used:Bool):Bool:=(Qcd r used).m
def Qz4:Q0a:=mkR 219 [] true [.one (.int .i64), .one (.bool)] [] (fun args rows=>Q7h (argI args 0) (argB args 1)) (fun X=> .bool X) (fun X=>[])
theorem Qy5:Q03 Tryz.prog Qz4:=Q0t Q0g Q0h (.nil) Tryz.func219 Tryz.call219 (fun args rows=>Qcd (argI args 0) (argB args 1)) [] [] 2 (fun _ _ _=>by kernel_rfl) (fun _ _=>rfl) (fun _ _=>Tree.free_ok (by kernel_rfl)) (fun _ X=>by kernel_rfl)
def Qfq(i:Q0f):Tree Bool:=
.lv (Qxh i.Op) fun(x0:Q7d×Bool)=> .br x0.snd (.lv (Q7h i.A x0.fst.a) fun(x1:Bool)=> .br x1 (.lv (Q7h i.B x0.fst.b) fun(x2:Bool)=> .br x2 (.lv (Q7h i.C x0.fst.c) fun(x3:Bool)=> .br x3 (.br (decide (i.Imm≥x0.fst.low)) (.lf (decide (i.Imm≤x0.fst.high))) (.lf false)) (.lf false)) (.lf false)) (.lf false)) (.lf false)
def Qck(i:Q0f):Bool:=(Qfq i).m
def Zan:Q0a:=mkR 172 [] true [.agg Q0f.sig] [] (fun args rows=>Qck (Q0f.of (args.getD 0 .dead).cells)) (fun X=> .bool X) (fun X=>[])
theorem Z9b:Q03 Tryz.prog Zan:=Q0t Q0g Q0h (.cons Z1m (.cons Qy5 (.nil))) Tryz.func172 Tryz.call172 (fun args rows=>Qfq (Q0f.of (args.getD 0 .dead).cells)) [] [] 2 (fun _ _ _=>by kernel_rfl) (fun _ _=>rfl) (fun _ _=>Tree.free_ok (by kernel_rfl)) (fun _ X=>by kernel_rfl)
def Q85(w:Int):Tree (Q0f×Bool):=
.an (Q3 w 24 8) (.lv (Q28 w 24 8) fun(x0:Int)=> .an (Q3 w 20 4) (.lv (Q28 w 20 4) fun(x1:Int)=> .an (Q3 w 16 4) (.lv (Q28 w 16 4) fun(x2:Int)=> .lv (Qxh (wrap i64 x0)) fun(x3:Q7d×Bool)=>let E1:=({Op:=0,A:=0,B:=0,C:=0,Imm:=0}:Q0f); .br (!x3.snd) (.lf (E1,false)) (.an (Q3 w 0 16) (.lv (Q28 w 0 16) fun(x4:Int)=> .br x3.fst.c (let E2:=({Op:=wrap i64 x0,A:=wrap i64 x1,B:=wrap i64 x2,C:=wrap i64 x4,Imm:=0}:Q0f); .lv (Qck E2) fun(x5:Bool)=> .br (!x5) (.lf (E1,false)) (.lf (E2,true))) (.br (decide (x3.fst.low<0)) (.an (Q4c x4 16) (.lv (Q1p x4 16) fun(x6:Int)=>let E3:=({Op:=wrap i64 x0,A:=wrap i64 x1,B:=wrap i64 x2,C:=0,Imm:=wrap i32 x6}:Q0f); .lv (Qck E3) fun(x7:Bool)=> .br (!x7) (.lf (E1,false)) (.lf (E3,true)))) (let E4:=({Op:=wrap i64 x0,A:=wrap i64 x1,B:=wrap i64 x2,C:=0,Imm:=wrap i32 x4}:Q0f); .lv (Qck E4) fun(x8:Bool)=> .br (!x8) (.lf (E1,false)) (.lf (E4,true)))))))))
def Qeb(w:Int):(Q0f×Bool):=(Q85 w).m
abbrev Qce(w:Int):Prop:=(Q85 w).p
def Z80:Q0a:=mkP 121 [] true [.one (.int .u32)] [] (fun args rows=>Qce (argI args 0)) (fun args rows=>Qeb (argI args 0)) (fun X=> .tup [.agg (Q0f.cells (X.1)), .bool (X.2)]) (fun X=>[])
theorem Z2x:Q03 Tryz.prog Z80:=Q0j Q0g Q0h (.cons Qih (.cons Z1m (.cons Qgi (.cons Z9b (.nil))))) Tryz.func121 Tryz.call121 (fun args rows=>Q85 (argI args 0)) [] [] 2 (fun _ _ _=>by kernel_rfl) (fun _ _=>rfl) (fun _ _ h=>h) (fun _ X=>by kernel_rfl)
def Q6k(a:Int)(b:Int):Tree (Int×Int):=
.br (b==0) (.lf (4294967295,a)) (let T1:Tree ((Int×Int)):= .cn (decide (wrap i32 b≠0)) (.cn (decide (wrap i32 b≠0)) (.lf (wrap u32 (wrap i32 (Int.tdiv (wrap i32 a) (wrap i32 b))),wrap u32 (Int.tmod (wrap i32 a) (wrap i32 b))))); .br (a==2147483648) (.br (b==4294967295) (.lf (a,0)) T1) T1)
def Q9o(a:Int)(b:Int):(Int×Int):=(Q6k a b).m
abbrev Q7p(a:Int)(b:Int):Prop:=(Q6k a b).p
def Z49:Q0a:=mkP 221 [] true [.one (.int .u32), .one (.int .u32)] [] (fun args rows=>Q7p (argI args 0) (argI args 1)) (fun args rows=>Q9o (argI args 0) (argI args 1)) (fun X=> .tup [.int .u32 (X.1), .int .u32 (X.2)]) (fun X=>[])
theorem Qzi:Q03 Tryz.prog Z49:=Q0j Q0g Q0h (.nil) Tryz.func221 Tryz.call221 (fun args rows=>Q6k (argI args 0) (argI args 1)) [] [] 2 (fun _ _ _=>by kernel_rfl) (fun _ _=>rfl) (fun _ _ h=>h) (fun _ X=>by kernel_rfl)
def Qy4(b:Bool):Tree Int:=
.br b (.lf 1) (.lf 0)
def Qk6(b:Bool):Int:=(Qy4 b).m
def Zaq:Q0a:=mkR 222 [] true [.one (.bool)] [] (fun args rows=>Qk6 (argB args 0)) (fun X=> .int .u32 X) (fun X=>[])
theorem Z61:Q03 Tryz.prog Zaq:=Q0t Q0g Q0h (.nil) Tryz.func222 Tryz.call222 (fun args rows=>Qy4 (argB args 0)) [] [] 2 (fun _ _ _=>by kernel_rfl) (fun _ _=>rfl) (fun _ _=>Tree.free_ok (by kernel_rfl)) (fun _ X=>by kernel_rfl)
def Qhk(op:Int)(a:Int)(b:Int):Tree (Int×Bool):=
.br (op==2) (.lf (wrap u32 (a+wrap u32 (0-b)),true)) (.br (op==1) (.lf (wrap u32 (a+b),true)) (.br (op==16) (.lf (wrap u32 (a+b),true)) (.br (op==3) (.lf (iand u32 a b,true)) (.br (op==17) (.lf (iand u32 a b,true)) (.br (op==4) (.lf (ior u32 a b,true)) (.br (op==18) (.lf (ior u32 a b,true)) (.br (op==5) (.lf (ixor u32 a b,true)) (.br (op==19) (.lf (ixor u32 a b,true)) (.br (op==6) (.lf (ishl u32 a (iand u32 b 31),true)) (.br (op==20) (.lf (ishl u32 a (iand u32 b 31),true)) (.br (op==7) (.lf (ishr u32 a (iand u32 b 31),true)) (.br (op==21) (.lf (ishr u32 a (iand u32 b 31),true)) (let E1:=(wrap u32 (ishr i32 (wrap i32 a) (iand u32 b 31)),true); .br (op==8) (.lf E1) (.br (op==22) (.lf E1) (.br (op==9) (.lf (wrap u32 (a*b),true)) (.br (op==10) (.an (Q7p a b) (.lv (Q9o a b) fun(x0:Int×Int)=> .lf (x0.fst,true))) (.br (op==11) (.an (Q7p a b) (.lv (Q9o a b) fun(x1:Int×Int)=> .lf (x1.snd,true))) (.br (op==12) (.lv (Qk6 (decide (wrap i32 a<wrap i32 b))) fun(x2:Int)=> .lf (x2,true)) (.br (op==23) (.lv (Qk6 (decide (wrap i32 a<wrap i32 b))) fun(x3:Int)=> .lf (x3,true)) (.br (op==13) (.lv (Qk6 (decide (a<b))) fun(x4:Int)=> .lf (x4,true)) (.lf (0,false))))))))))))))))))))))
def Q37(op:Int)(a:Int)(b:Int):(Int×Bool):=(Qhk op a b).m
abbrev Qge(op:Int)(a:Int)(b:Int):Prop:=(Qhk op a b).p
def cpu_Alu_m:Q0a:=mkP 179 [] true [.one (.int .i64), .one (.int .u32), .one (.int .u32)] [] (fun args rows=>Qge (argI args 0) (argI args 1) (argI args 2)) (fun args rows=>Q37 (argI args 0) (argI args 1) (argI args 2)) (fun X=> .tup [.int .u32 (X.1), .bool (X.2)]) (fun X=>[])
theorem Zf1:Q03 Tryz.prog cpu_Alu_m:=Q0j Q0g Q0h (.cons Qzi (.cons Z61 (.nil))) Tryz.func179 Tryz.call179 (fun args rows=>Qhk (argI args 0) (argI args 1) (argI args 2)) [] [] 2 (fun _ _ _=>by kernel_rfl) (fun _ _=>rfl) (fun _ _ h=>h) (fun _ X=>by kernel_rfl)
end
end Go.Proofs.YtdkiadhigcfmkaaGreat

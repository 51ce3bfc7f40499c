/-
  Functions of the program: models, and that its calls come to them (by a program: gen3.py).
-/
import Derived.Test.YtpcbkbalabgnlaaGreatRecordTimerBase
set_option linter.unusedVariables false
set_option linter.unusedSimpArgs false
namespace Go.Proofs.YtpcbkbalabgnlaaGreat
open Go Go.GD Go.IntKind
set_option maxRecDepth 100000
noncomputable section
def Q02(s:(List Int)):(List Int):=
s
def Q04(s:(List Int)):Prop:=
s.length≤35184372088832
def Q3t(s:(List Int)):List D:=[.sl 1 (.ints .u32 s) false]
def Q2e(s:(List Int)):List Row:=[]
def Q1g(X:(List Int)):D:= .all 0
def Q1f(X:(List Int)):List Row:=[⟨false,23,1, .ints .u32 X⟩]
def Qcf:List Dir:=[.row 23 1 (.ints .u32)]
def Q72:List PT:=[.one (.ints .u32)]
def Q6w:List RT:=[]
def Qd8(args:List D)(rows:List Row):(List Int):=Q02 (argL .u32 args 0)
def Qd7(args:List D)(rows:List Row):Prop:=Q04 (argL .u32 args 0)
def Qe:Q0f:=mkP 72 [] true Q72 Q6w Qd7 Qd8 Q1g Q1f
def Q4w(s:(List Int))(Leaf:(List Int)→Prop):Prop:=
(s=[]→Leaf [])∧cand (decide ((4:Nat)*((0:Nat)+s.length)≤(140737488355328:Nat))) (Leaf s)
set_option maxRecDepth 100000 in
theorem Qdk(s:(List Int))(Q:D→List Row→Prop):(fnVC tab [] (LL tab [] Tryz.f72.ntmps 0 [] 2) Tryz.f72 (Q3t s) (Q2e s) λd R=>Qaz (Q2e s).length Qcf d R Q)=Q4w s (λX=>Q (Q1g X) (Q1f X)):=by kernel_rfl
theorem Qcc(s:(List Int))(Leaf:(List Int)→Prop)(hw:Q04 s)(h:Leaf (Q02 s)):
Q4w s Leaf:=by
 delta Q4w
 refine⟨λe=>by rw[e]at h;exact h,?_⟩
 rw[Q05]
 refine⟨decide_eq_true ?_,h⟩
 have:s.length≤35184372088832:=hw
 omega
set_option maxRecDepth 100000 in
theorem Qbm(s:(List Int))(hw:Q04 s):Q4u Tryz.prog 72 (Q3t s) (Q2e s) (Q1g (Q02 s)) (Q1f (Q02 s)):=
 have hG:Q82 Tryz.prog []:= .nil
 FnOK.calls Q0s Q0t hG Tryz.func72 (Za Q0s Q0t hG 2 (invs:=[])) (FnOK.of (Qdk s _) (Qcc s (λX=>Q1g X=Q1g (Q02 s)∧Q1f X=Q1f (Q02 s)) hw ⟨rfl,rfl⟩))
set_option maxRecDepth 100000 in
theorem Qc0(args:List D)(rows:List Row):Qh7 Q72 args 0=Q3t (argL .u32 args 0):=by kernel_rfl
set_option maxRecDepth 100000 in
theorem Qbn(args:List D)(rows:List Row):Q7z Q6w rows 0=Q2e (argL .u32 args 0):=by kernel_rfl
set_option maxRecDepth 100000 in
theorem Qde(X:(List Int)):(ffB (Q1g X)&&ffBR (Q1f X))=true:=by kernel_rfl
theorem Q0n:Q08 Tryz.prog Qe:=Qtz Tryz.call72 (λargs rows hp=>by rw[Qc0 args rows,Qbn args rows];exact Qbm (argL .u32 args 0) hp) (λ_ X=>Qde X)
def Q9x(m:(List Int)):Tree Int:=
.br (Int.tmod (m.length:Int) (32:Int) !=(0:Int)) (.lf 0) (.br (decide ((m.length:Int)>(1024:Int))) (.lf 0) (.lf (wrap i64 (Int.tdiv (m.length:Int) 32))))
def Q0o(m:(List Int)):Int:=(Q9x m).m
def Qwh:Q0f:=mkR 89 [] true [.one (.ints .u32)] [] (λargs rows=>Q0o (argL .u32 args 0)) (λX=> .int .i64 X) (λX=>[])
theorem Q48:Q08 Tryz.prog Qwh:=Q2c Q0s Q0t (.nil) Tryz.func89 Tryz.call89 (λargs rows=>Q9x (argL .u32 args 0)) [] [] 2 (λ_ _ _=>by kernel_rfl) (λ_ _=>rfl) (λ_ _=>Tree.free_ok (by kernel_rfl)) (λ_ X=>by kernel_rfl)
def Q2q(m:(List Int))(addr:Int)(size:Int):Tree Bool:=
let T1:Tree (Bool):= .cn (decide (wrap u32 size≠0)) (.br (Int.tmod addr (wrap u32 size) !=0) (.lf false) (.lv (Q0o m) λ(x0:Int)=> .lf (decide (wrap u64 (wrap u64 addr+wrap u64 size)≤wrap u64 (wrap u64 x0*128))))); .br (size !=1) (.br (size !=4) (.lf false) T1) T1
def Qdw(m:(List Int))(addr:Int)(size:Int):Bool:=(Q2q m addr size).m
abbrev Q58(m:(List Int))(addr:Int)(size:Int):Prop:=(Q2q m addr size).p
def Qsi:Q0f:=mkP 228 [] true [.one (.ints .u32), .one (.int .u32), .one (.int .i64)] [] (λargs rows=>Q58 (argL .u32 args 0) (argI args 1) (argI args 2)) (λargs rows=>Qdw (argL .u32 args 0) (argI args 1) (argI args 2)) (λX=> .bool X) (λX=>[])
theorem Qie:Q08 Tryz.prog Qsi:=Q0z Q0s Q0t (.cons Q48 (.nil)) Tryz.func228 Tryz.call228 (λargs rows=>Q2q (argL .u32 args 0) (argI args 1) (argI args 2)) [] [] 2 (λ_ _ _=>by kernel_rfl) (λ_ _=>rfl) (λ_ _ h=>h) (λ_ X=>by kernel_rfl)
def Q8p(n:Int):Tree Int:=
.br (decide (n≥32)) (.lf 4294967295) (.cn (decide (0≤wrap u64 n)) (.lf (wrap u32 (ishl u32 1 (wrap u64 n)-1))))
def Qua(n:Int):Int:=(Q8p n).m
abbrev Q8z(n:Int):Prop:=(Q8p n).p
def Z51:Q0f:=mkP 229 [] true [.one (.int .i64)] [] (λargs rows=>Q8z (argI args 0)) (λargs rows=>Qua (argI args 0)) (λX=> .int .u32 X) (λX=>[])
theorem Qpr:Q08 Tryz.prog Z51:=Q0z Q0s Q0t (.nil) Tryz.func229 Tryz.call229 (λargs rows=>Q8p (argI args 0)) [] [] 2 (λ_ _ _=>by kernel_rfl) (λ_ _=>rfl) (λ_ _ h=>h) (λ_ X=>by kernel_rfl)
def Q71(w:Int)(low:Int)(n:Int):Tree Int:=
.br (decide (low<0)) (.lf 0) (.br (decide (low>31)) (.lf 0) (.br (decide (n<1)) (.lf 0) (.cn (decide (0≤wrap u64 low)) (.an (Q8z n) (.lv (Qua n) λ(x0:Int)=> .lf (iand u32 (ishr u32 w (wrap u64 low)) x0))))))
def Q34(w:Int)(low:Int)(n:Int):Int:=(Q71 w low n).m
abbrev Q3a(w:Int)(low:Int)(n:Int):Prop:=(Q71 w low n).p
def Z1l:Q0f:=mkP 183 [] true [.one (.int .u32), .one (.int .i64), .one (.int .i64)] [] (λargs rows=>Q3a (argI args 0) (argI args 1) (argI args 2)) (λargs rows=>Q34 (argI args 0) (argI args 1) (argI args 2)) (λX=> .int .u32 X) (λX=>[])
theorem Qi:Q08 Tryz.prog Z1l:=Q0z Q0s Q0t (.cons Qpr (.nil)) Tryz.func183 Tryz.call183 (λargs rows=>Q71 (argI args 0) (argI args 1) (argI args 2)) [] [] 2 (λ_ _ _=>by kernel_rfl) (λ_ _=>rfl) (λ_ _ h=>h) (λ_ X=>by kernel_rfl)
def Q43(w:Int)(low:Int)(n:Int)(v:Int):Tree Int:=
.br (decide (low<0)) (.lf w) (.br (decide (low>31)) (.lf w) (.br (decide (n<1)) (.lf w) (.an (Q8z n) (.lv (Qua n) λ(x0:Int)=> .cn (decide (0≤wrap u64 low)) (.cn (decide (0≤wrap u64 low)) (.lf (ior u32 (Qdr u32 w (ishl u32 x0 (wrap u64 low))) (ishl u32 (iand u32 v x0) (wrap u64 low)))))))))
def Q77(w:Int)(low:Int)(n:Int)(v:Int):Int:=(Q43 w low n v).m
abbrev Q6q(w:Int)(low:Int)(n:Int)(v:Int):Prop:=(Q43 w low n v).p
def Qse:Q0f:=mkP 231 [] true [.one (.int .u32), .one (.int .i64), .one (.int .i64), .one (.int .u32)] [] (λargs rows=>Q6q (argI args 0) (argI args 1) (argI args 2) (argI args 3)) (λargs rows=>Q77 (argI args 0) (argI args 1) (argI args 2) (argI args 3)) (λX=> .int .u32 X) (λX=>[])
theorem Qqp:Q08 Tryz.prog Qse:=Q0z Q0s Q0t (.cons Qpr (.nil)) Tryz.func231 Tryz.call231 (λargs rows=>Q43 (argI args 0) (argI args 1) (argI args 2) (argI args 3)) [] [] 2 (λ_ _ _=>by kernel_rfl) (λ_ _=>rfl) (λ_ _ h=>h) (λ_ X=>by kernel_rfl)
def Q3v(m:(List Int))(addr:Int)(size:Int)(v:Int):Tree ((List Int)×Bool):=
.an (Q04 m) (.lv (Q02 m) λ(x0:List Int)=> .an (Q58 m addr size) (.lv (Qdw m addr size) λ(x1:Bool)=> .br (!x1) (.lf (x0,false)) (let E1:=Nat.beq 1 1&&Nat.blt 0 1&&decide (0≤wrap u32 (Int.tdiv addr 4)∧wrap u32 (Int.tdiv addr 4)<(x0.length:Int));let E2:=Int.toNat (wrap u32 (Int.tdiv addr 4)); .br (size==1) (.cn E1 (let E3:=wrap i64 (wrap i64 (Int.tmod addr 4)*8); .an (Q6q (x0.getD E2 0) E3 8 v) (.lv (Q77 (x0.getD E2 0) E3 8 v) λ(x2:Int)=> .cn E1 (.lf (List.set x0 E2 x2,true))))) (.cn E1 (.lf (List.set x0 E2 v,true))))))
def Q8d(m:(List Int))(addr:Int)(size:Int)(v:Int):((List Int)×Bool):=(Q3v m addr size v).m
abbrev Q4m(m:(List Int))(addr:Int)(size:Int)(v:Int):Prop:=(Q3v m addr size v).p
def Qwe:Q0f:=mkP 189 [] true [.one (.ints .u32), .one (.int .u32), .one (.int .i64), .one (.int .u32)] [] (λargs rows=>Q4m (argL .u32 args 0) (argI args 1) (argI args 2) (argI args 3)) (λargs rows=>Q8d (argL .u32 args 0) (argI args 1) (argI args 2) (argI args 3)) (λX=> .tup [.all 0, .bool (X.2)]) (λX=>[⟨false,23,1, .ints .u32 (X.1)⟩])
theorem Qiu:Q08 Tryz.prog Qwe:=Q0z Q0s Q0t (.cons Q0n (.cons Qie (.cons Qqp (.nil)))) Tryz.func189 Tryz.call189 (λargs rows=>Q3v (argL .u32 args 0) (argI args 1) (argI args 2) (argI args 3)) [.row 23 1 (.ints .u32)] [] 2 (λ_ _ _=>by kernel_rfl) (λ_ _=>rfl) (λ_ _ h=>h) (λ_ X=>by kernel_rfl)
def Z26(op:Int):Tree (Q80×Bool):=
.br (op==1) (.lf ({a:=true,b:=true,c:=true,low:=0,D5:=0},true)) (.br (op==2) (.lf ({a:=true,b:=true,c:=true,low:=0,D5:=0},true)) (.br (op==3) (.lf ({a:=true,b:=true,c:=true,low:=0,D5:=0},true)) (.br (op==4) (.lf ({a:=true,b:=true,c:=true,low:=0,D5:=0},true)) (.br (op==5) (.lf ({a:=true,b:=true,c:=true,low:=0,D5:=0},true)) (.br (op==6) (.lf ({a:=true,b:=true,c:=true,low:=0,D5:=0},true)) (.br (op==7) (.lf ({a:=true,b:=true,c:=true,low:=0,D5:=0},true)) (.br (op==8) (.lf ({a:=true,b:=true,c:=true,low:=0,D5:=0},true)) (.br (op==9) (.lf ({a:=true,b:=true,c:=true,low:=0,D5:=0},true)) (.br (op==10) (.lf ({a:=true,b:=true,c:=true,low:=0,D5:=0},true)) (.br (op==11) (.lf ({a:=true,b:=true,c:=true,low:=0,D5:=0},true)) (.br (op==12) (.lf ({a:=true,b:=true,c:=true,low:=0,D5:=0},true)) (.br (op==13) (.lf ({a:=true,b:=true,c:=true,low:=0,D5:=0},true)) (.br (op==16) (.lf ({a:=true,b:=true,c:=false,low:=(-32768),D5:=32767},true)) (.br (op==23) (.lf ({a:=true,b:=true,c:=false,low:=(-32768),D5:=32767},true)) (.br (op==32) (.lf ({a:=true,b:=true,c:=false,low:=(-32768),D5:=32767},true)) (.br (op==33) (.lf ({a:=true,b:=true,c:=false,low:=(-32768),D5:=32767},true)) (.br (op==34) (.lf ({a:=true,b:=true,c:=false,low:=(-32768),D5:=32767},true)) (.br (op==35) (.lf ({a:=true,b:=true,c:=false,low:=(-32768),D5:=32767},true)) (.br (op==36) (.lf ({a:=true,b:=true,c:=false,low:=(-32768),D5:=32767},true)) (.br (op==40) (.lf ({a:=true,b:=true,c:=false,low:=(-32768),D5:=32767},true)) (.br (op==41) (.lf ({a:=true,b:=true,c:=false,low:=(-32768),D5:=32767},true)) (.br (op==42) (.lf ({a:=true,b:=true,c:=false,low:=(-32768),D5:=32767},true)) (.br (op==43) (.lf ({a:=true,b:=true,c:=false,low:=(-32768),D5:=32767},true)) (.br (op==44) (.lf ({a:=true,b:=true,c:=false,low:=(-32768),D5:=32767},true)) (.br (op==45) (.lf ({a:=true,b:=true,c:=false,low:=(-32768),D5:=32767},true)) (.br (op==49) (.lf ({a:=true,b:=true,c:=false,low:=(-32768),D5:=32767},true)) (.br (op==17) (.lf ({a:=true,b:=true,c:=false,low:=0,D5:=65535},true)) (.br (op==18) (.lf ({a:=true,b:=true,c:=false,low:=0,D5:=65535},true)) (.br (op==19) (.lf ({a:=true,b:=true,c:=false,low:=0,D5:=65535},true)) (.br (op==20) (.lf ({a:=true,b:=true,c:=false,low:=0,D5:=31},true)) (.br (op==21) (.lf ({a:=true,b:=true,c:=false,low:=0,D5:=31},true)) (.br (op==22) (.lf ({a:=true,b:=true,c:=false,low:=0,D5:=31},true)) (.br (op==24) (.lf ({a:=true,b:=false,c:=false,low:=0,D5:=65535},true)) (.br (op==48) (.lf ({a:=true,b:=false,c:=false,low:=(-32768),D5:=32767},true)) (.br (op==58) (.lf ({a:=true,b:=false,c:=false,low:=0,D5:=7},true)) (.br (op==59) (.lf ({a:=true,b:=false,c:=false,low:=0,D5:=7},true)) (.br (op==60) (.lf ({a:=true,b:=false,c:=false,low:=0,D5:=11},true)) (.br (op==61) (.lf ({a:=true,b:=false,c:=false,low:=0,D5:=11},true)) (.br (op==56) (.lf ({a:=false,b:=false,c:=false,low:=0,D5:=0},true)) (.br (op==57) (.lf ({a:=false,b:=false,c:=false,low:=0,D5:=0},true)) (.br (op==62) (.lf ({a:=false,b:=false,c:=false,low:=0,D5:=0},true)) (.br (op==63) (.lf ({a:=false,b:=false,c:=false,low:=0,D5:=0},true)) (.br (op==64) (.lf ({a:=false,b:=false,c:=false,low:=0,D5:=0},true)) (.lf ({a:=false,b:=false,c:=false,low:=0,D5:=0},false)))))))))))))))))))))))))))))))))))))))))))))
def Qv6(op:Int):(Q80×Bool):=(Z26 op).m
def isa_use_m:Q0f:=mkR 184 [] true [.one (.int .i64)] [] (λargs rows=>Qv6 (argI args 0)) (λX=> .tup [.agg (Q80.cells (X.1)), .bool (X.2)]) (λX=>[])
theorem Qy2:Q08 Tryz.prog isa_use_m:=Q2c Q0s Q0t (.nil) Tryz.func184 Tryz.call184 (λargs rows=>Z26 (argI args 0)) [] [] 2 (λ_ _ _=>by kernel_rfl) (λ_ _=>rfl) (λ_ _=>Tree.free_ok (by kernel_rfl)) (λ_ X=>by kernel_rfl)
def Q33(x:Int)(n:Int):Tree Int:=
.br (decide (n<1)) (.lf 0) (.br (decide (n≥32)) (.lf x) (let E1:=decide (0≤wrap u64 (wrap i64 (32-n))); .cn E1 (.cn E1 (.lf (wrap u32 (ishr i32 (wrap i32 (ishl u32 x (wrap u64 (wrap i64 (32-n))))) (wrap u64 (wrap i64 (32-n)))))))))
def Q29(x:Int)(n:Int):Int:=(Q33 x n).m
abbrev Q3p(x:Int)(n:Int):Prop:=(Q33 x n).p
def Qor:Q0f:=mkP 185 [] true [.one (.int .u32), .one (.int .i64)] [] (λargs rows=>Q3p (argI args 0) (argI args 1)) (λargs rows=>Q29 (argI args 0) (argI args 1)) (λX=> .int .u32 X) (λX=>[])
theorem Qfu:Q08 Tryz.prog Qor:=Q0z Q0s Q0t (.nil) Tryz.func185 Tryz.call185 (λargs rows=>Q33 (argI args 0) (argI args 1)) [] [] 2 (λ_ _ _=>by kernel_rfl) (λ_ _=>rfl) (λ_ _ h=>h) (λ_ X=>by kernel_rfl)
def Qch(r:Int)(used:Bool):Tree Bool:=
.br used (.br (decide (r≥0)) (.lf (decide (r≤15))) (.lf false)) (.lf (r==0))
def Q8l(r:Int)(used:Bool):Bool:=(Qch r used).m
def Qvk:Q0f:=mkR 230 [] true [.one (.int .i64), .one (.bool)] [] (λargs rows=>Q8l (argI args 0) (argB args 1)) (λX=> .bool X) (λX=>[])
theorem Qu9:Q08 Tryz.prog Qvk:=Q2c Q0s Q0t (.nil) Tryz.func230 Tryz.call230 (λargs rows=>Qch (argI args 0) (argB args 1)) [] [] 2 (λ_ _ _=>by kernel_rfl) (λ_ _=>rfl) (λ_ _=>Tree.free_ok (by kernel_rfl)) (λ_ X=>by kernel_rfl)
def Qfo(i:Q0h):Tree Bool:=
.lv (Qv6 i.Op) λ(x0:Q80×Bool)=> .br x0.2 (.lv (Q8l i.A x0.1.a) λ(x1:Bool)=> .br x1 (.lv (Q8l i.B x0.1.b) λ(x2:Bool)=> .br x2 (.lv (Q8l i.C x0.1.c) λ(x3:Bool)=> .br x3 (.br (decide (i.Imm≥x0.1.low)) (.lf (decide (i.Imm≤x0.1.D5))) (.lf false)) (.lf false)) (.lf false)) (.lf false)) (.lf false)
def Qd0(i:Q0h):Bool:=(Qfo i).m
def Z5v:Q0f:=mkR 186 [] true [.agg Q0h.sig] [] (λargs rows=>Qd0 (Q0h.of (args.getD 0 .dead).cells)) (λX=> .bool X) (λX=>[])
theorem Z42:Q08 Tryz.prog Z5v:=Q2c Q0s Q0t (.cons Qy2 (.cons Qu9 (.nil))) Tryz.func186 Tryz.call186 (λargs rows=>Qfo (Q0h.of (args.getD 0 .dead).cells)) [] [] 2 (λ_ _ _=>by kernel_rfl) (λ_ _=>rfl) (λ_ _=>Tree.free_ok (by kernel_rfl)) (λ_ X=>by kernel_rfl)
def Q62(w:Int):Tree (Q0h×Bool):=
.an (Q3a w 24 8) (.lv (Q34 w 24 8) λ(x0:Int)=> .an (Q3a w 20 4) (.lv (Q34 w 20 4) λ(x1:Int)=> .an (Q3a w 16 4) (.lv (Q34 w 16 4) λ(x2:Int)=> .lv (Qv6 (wrap i64 x0)) λ(x3:Q80×Bool)=>let E1:=({Op:=0,A:=0,B:=0,C:=0,Imm:=0}:Q0h); .br (!x3.2) (.lf (E1,false)) (.an (Q3a w 0 16) (.lv (Q34 w 0 16) λ(x4:Int)=> .br x3.1.c (let E2:=({Op:=wrap i64 x0,A:=wrap i64 x1,B:=wrap i64 x2,C:=wrap i64 x4,Imm:=0}:Q0h); .lv (Qd0 E2) λ(x5:Bool)=> .br (!x5) (.lf (E1,false)) (.lf (E2,true))) (.br (decide (x3.1.low<0)) (.an (Q3p x4 16) (.lv (Q29 x4 16) λ(x6:Int)=>let E3:=({Op:=wrap i64 x0,A:=wrap i64 x1,B:=wrap i64 x2,C:=0,Imm:=wrap i32 x6}:Q0h); .lv (Qd0 E3) λ(x7:Bool)=> .br (!x7) (.lf (E1,false)) (.lf (E3,true)))) (let E4:=({Op:=wrap i64 x0,A:=wrap i64 x1,B:=wrap i64 x2,C:=0,Imm:=wrap i32 x4}:Q0h); .lv (Qd0 E4) λ(x8:Bool)=> .br (!x8) (.lf (E1,false)) (.lf (E4,true)))))))))
def Qed(w:Int):(Q0h×Bool):=(Q62 w).m
abbrev Q9v(w:Int):Prop:=(Q62 w).p
def Z3w:Q0f:=mkP 131 [] true [.one (.int .u32)] [] (λargs rows=>Q9v (argI args 0)) (λargs rows=>Qed (argI args 0)) (λX=> .tup [.agg (Q0h.cells (X.1)), .bool (X.2)]) (λX=>[])
theorem Qz8:Q08 Tryz.prog Z3w:=Q0z Q0s Q0t (.cons Qi (.cons Qy2 (.cons Qfu (.cons Z42 (.nil))))) Tryz.func131 Tryz.call131 (λargs rows=>Q62 (argI args 0)) [] [] 2 (λ_ _ _=>by kernel_rfl) (λ_ _=>rfl) (λ_ _ h=>h) (λ_ X=>by kernel_rfl)
def Q51(a:Int)(b:Int):Tree (Int×Int):=
.br (b==0) (.lf (4294967295,a)) (let T1:Tree ((Int×Int)):= .cn (decide (wrap i32 b≠0)) (.cn (decide (wrap i32 b≠0)) (.lf (wrap u32 (wrap i32 (Int.tdiv (wrap i32 a) (wrap i32 b))),wrap u32 (Int.tmod (wrap i32 a) (wrap i32 b))))); .br (a==2147483648) (.br (b==4294967295) (.lf (a,0)) T1) T1)
def Qa7(a:Int)(b:Int):(Int×Int):=(Q51 a b).m
abbrev Q6v(a:Int)(b:Int):Prop:=(Q51 a b).p
def Z06:Q0f:=mkP 232 [] true [.one (.int .u32), .one (.int .u32)] [] (λargs rows=>Q6v (argI args 0) (argI args 1)) (λargs rows=>Qa7 (argI args 0) (argI args 1)) (λX=> .tup [.int .u32 (X.1), .int .u32 (X.2)]) (λX=>[])
theorem Qvd:Q08 Tryz.prog Z06:=Q0z Q0s Q0t (.nil) Tryz.func232 Tryz.call232 (λargs rows=>Q51 (argI args 0) (argI args 1)) [] [] 2 (λ_ _ _=>by kernel_rfl) (λ_ _=>rfl) (λ_ _ h=>h) (λ_ X=>by kernel_rfl)
def Qtw(b:Bool):Tree Int:=
.br b (.lf 1) (.lf 0)
def Qjv(b:Bool):Int:=(Qtw b).m
def Z6c:Q0f:=mkR 233 [] true [.one (.bool)] [] (λargs rows=>Qjv (argB args 0)) (λX=> .int .u32 X) (λX=>[])
theorem Z2b:Q08 Tryz.prog Z6c:=Q2c Q0s Q0t (.nil) Tryz.func233 Tryz.call233 (λargs rows=>Qtw (argB args 0)) [] [] 2 (λ_ _ _=>by kernel_rfl) (λ_ _=>rfl) (λ_ _=>Tree.free_ok (by kernel_rfl)) (λ_ X=>by kernel_rfl)
def Qdd(op:Int)(a:Int)(b:Int):Tree (Int×Bool):=
.br (op==2) (.lf (wrap u32 (a+wrap u32 (0-b)),true)) (.br (op==1) (.lf (wrap u32 (a+b),true)) (.br (op==16) (.lf (wrap u32 (a+b),true)) (.br (op==3) (.lf (iand u32 a b,true)) (.br (op==17) (.lf (iand u32 a b,true)) (.br (op==4) (.lf (ior u32 a b,true)) (.br (op==18) (.lf (ior u32 a b,true)) (.br (op==5) (.lf (ixor u32 a b,true)) (.br (op==19) (.lf (ixor u32 a b,true)) (.br (op==6) (.lf (ishl u32 a (iand u32 b 31),true)) (.br (op==20) (.lf (ishl u32 a (iand u32 b 31),true)) (.br (op==7) (.lf (ishr u32 a (iand u32 b 31),true)) (.br (op==21) (.lf (ishr u32 a (iand u32 b 31),true)) (let E1:=(wrap u32 (ishr i32 (wrap i32 a) (iand u32 b 31)),true); .br (op==8) (.lf E1) (.br (op==22) (.lf E1) (.br (op==9) (.lf (wrap u32 (a*b),true)) (.br (op==10) (.an (Q6v a b) (.lv (Qa7 a b) λ(x0:Int×Int)=> .lf (x0.1,true))) (.br (op==11) (.an (Q6v a b) (.lv (Qa7 a b) λ(x1:Int×Int)=> .lf (x1.2,true))) (.br (op==12) (.lv (Qjv (decide (wrap i32 a<wrap i32 b))) λ(x2:Int)=> .lf (x2,true)) (.br (op==23) (.lv (Qjv (decide (wrap i32 a<wrap i32 b))) λ(x3:Int)=> .lf (x3,true)) (.br (op==13) (.lv (Qjv (decide (a<b))) λ(x4:Int)=> .lf (x4,true)) (.lf (0,false))))))))))))))))))))))
def Q45(op:Int)(a:Int)(b:Int):(Int×Bool):=(Qdd op a b).m
abbrev Qbw(op:Int)(a:Int)(b:Int):Prop:=(Qdd op a b).p
def cpu_Alu_m:Q0f:=mkP 193 [] true [.one (.int .i64), .one (.int .u32), .one (.int .u32)] [] (λargs rows=>Qbw (argI args 0) (argI args 1) (argI args 2)) (λargs rows=>Q45 (argI args 0) (argI args 1) (argI args 2)) (λX=> .tup [.int .u32 (X.1), .bool (X.2)]) (λX=>[])
theorem Z9d:Q08 Tryz.prog cpu_Alu_m:=Q0z Q0s Q0t (.cons Qvd (.cons Z2b (.nil))) Tryz.func193 Tryz.call193 (λargs rows=>Qdd (argI args 0) (argI args 1) (argI args 2)) [] [] 2 (λ_ _ _=>by kernel_rfl) (λ_ _=>rfl) (λ_ _ h=>h) (λ_ X=>by kernel_rfl)
end
end Go.Proofs.YtpcbkbalabgnlaaGreat

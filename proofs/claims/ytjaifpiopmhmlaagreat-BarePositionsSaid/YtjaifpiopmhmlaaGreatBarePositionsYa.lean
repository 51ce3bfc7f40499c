/-
  Functions of the program: models, and that its calls come to them (by a program: gen3.py).
-/
import Derived.Test.YtjaifpiopmhmlaaGreatBarePositionsBase
set_option maxRecDepth 100000
set_option linter.unusedVariables false
set_option linter.unusedSimpArgs false
namespace Go.Proofs.YtjaifpiopmhmlaaGreat
open Go Go.GD Go.IntKind
noncomputable section
def Q02(s:(List Int)):(List Int):=
s
def Q06(s:(List Int)):Prop:=
s.length≤35184372088832
def Q3b(s:(List Int)):List D:=[.sl 1 (.ints .u32 s) false]
def Q2a(s:(List Int)):List Row:=[]
def Q1i(X:(List Int)):D:= .all 0
def Q1j(X:(List Int)):List Row:=[⟨false,23,1, .ints .u32 X⟩]
def Qcs:List Dir:=[.row 23 1 (.ints .u32)]
def Q6y:List PT:=[.one (.ints .u32)]
def Q6s:List RT:=[]
def Qeh(args:List D)(rows:List Row):(List Int):=Q02 (argL .u32 args 0)
def Qe0(args:List D)(rows:List Row):Prop:=Q06 (argL .u32 args 0)
def Qfo:Q0c:=mkP 67 [] true Q6y Q6s Qe0 Qeh Q1i Q1j
def Q4s(s:(List Int))(Leaf:(List Int)→Prop):Prop:=
(s=[]→Leaf [])∧cand (decide ((4:Nat)*((0:Nat)+s.length)≤(140737488355328:Nat))) (Leaf s)
set_option maxRecDepth 100000 in
theorem Qfa(s:(List Int))(Q:D→List Row→Prop):(fnVC tab [] (LL tab [] Tryz.f67.ntmps 0 [] 2) Tryz.f67 (Q3b s) (Q2a s) λd R=>Qcv (Q2a s).length Qcs d R Q)=Q4s s (λX=>Q (Q1i X) (Q1j X)):=by kernel_rfl
theorem Qd2(s:(List Int))(Leaf:(List Int)→Prop)(hw:Q06 s)(h:Leaf (Q02 s)):
Q4s s Leaf:=by
 delta Q4s
 refine⟨λe=>by rw[e]at h;exact h,?_⟩
 rw[Q08]
 refine⟨decide_eq_true ?_,h⟩
 have:s.length≤35184372088832:=hw
 omega
set_option maxRecDepth 100000 in
theorem Qcl(s:(List Int))(hw:Q06 s):Q41 Tryz.prog 67 (Q3b s) (Q2a s) (Q1i (Q02 s)) (Q1j (Q02 s)):=
 have hG:Q95 Tryz.prog []:= .nil
 FnOK.calls Q0k Q0l hG Tryz.func67 (LL_ok Q0k Q0l hG 2 (invs:=[])) (FnOK.of (Qfa s _) (Qd2 s (λX=>Q1i X=Q1i (Q02 s)∧Q1j X=Q1j (Q02 s)) hw ⟨rfl,rfl⟩))
set_option maxRecDepth 100000 in
theorem Qdb(args:List D)(rows:List Row):Qi6 Q6y args 0=Q3b (argL .u32 args 0):=by kernel_rfl
set_option maxRecDepth 100000 in
theorem Qck(args:List D)(rows:List Row):Q73 Q6s rows 0=Q2a (argL .u32 args 0):=by kernel_rfl
set_option maxRecDepth 100000 in
theorem Qew(X:(List Int)):(ffB (Q1i X)&&ffBR (Q1j X))=true:=by kernel_rfl
theorem Q0w:Q05 Tryz.prog Qfo:=Z3w Tryz.call67 (λargs rows hp=>by rw[Qdb args rows,Qck args rows];exact Qcl (argL .u32 args 0) hp) (λ_ X=>Qew X)
def Q87(m:(List Int)):Tree Int:=
.br (Int.tmod (m.length:Int) (32:Int) !=(0:Int)) (.lf 0) (.br (decide ((m.length:Int)>(1024:Int))) (.lf 0) (.lf (wrap i64 (Int.tdiv (m.length:Int) 32))))
def Q0v(m:(List Int)):Int:=(Q87 m).m
def Z1s:Q0c:=mkR 84 [] true [.one (.ints .u32)] [] (λargs rows=>Q0v (argL .u32 args 0)) (λX=> .int .i64 X) (λX=>[])
theorem Q3u:Q05 Tryz.prog Z1s:=Q0z Q0k Q0l (.nil) Tryz.func84 Tryz.call84 (λargs rows=>Q87 (argL .u32 args 0)) [] [] 2 (λ_ _ _=>by kernel_rfl) (λ_ _=>rfl) (λ_ _=>Tree.free_ok (by kernel_rfl)) (λ_ X=>by kernel_rfl)
def Q2v(m:(List Int))(addr:Int)(size:Int):Tree Bool:=
let T1:Tree (Bool):= .cn (decide (wrap u32 size≠0)) (.br (Int.tmod addr (wrap u32 size) !=0) (.lf false) (.lv (Q0v m) λ(x0:Int)=> .lf (decide (wrap u64 (wrap u64 addr+wrap u64 size)≤wrap u64 (wrap u64 x0*128))))); .br (size !=1) (.br (size !=4) (.lf false) T1) T1
def Qfs(m:(List Int))(addr:Int)(size:Int):Bool:=(Q2v m addr size).m
abbrev Q9g(m:(List Int))(addr:Int)(size:Int):Prop:=(Q2v m addr size).p
def Z0t:Q0c:=mkP 252 [] true [.one (.ints .u32), .one (.int .u32), .one (.int .i64)] [] (λargs rows=>Q9g (argL .u32 args 0) (argI args 1) (argI args 2)) (λargs rows=>Qfs (argL .u32 args 0) (argI args 1) (argI args 2)) (λX=> .bool X) (λX=>[])
theorem Qlq:Q05 Tryz.prog Z0t:=Q0n Q0k Q0l (.cons Q3u (.nil)) Tryz.func252 Tryz.call252 (λargs rows=>Q2v (argL .u32 args 0) (argI args 1) (argI args 2)) [] [] 2 (λ_ _ _=>by kernel_rfl) (λ_ _=>rfl) (λ_ _ h=>h) (λ_ X=>by kernel_rfl)
def Qao(n:Int):Tree Int:=
.br (decide (n≥32)) (.lf 4294967295) (.cn (decide (0≤wrap u64 n)) (.lf (wrap u32 (ishl u32 1 (wrap u64 n)-1))))
def Qzj(n:Int):Int:=(Qao n).m
abbrev Qfm(n:Int):Prop:=(Qao n).p
def Zge:Q0c:=mkP 253 [] true [.one (.int .i64)] [] (λargs rows=>Qfm (argI args 0)) (λargs rows=>Qzj (argI args 0)) (λX=> .int .u32 X) (λX=>[])
theorem Qvr:Q05 Tryz.prog Zge:=Q0n Q0k Q0l (.nil) Tryz.func253 Tryz.call253 (λargs rows=>Qao (argI args 0)) [] [] 2 (λ_ _ _=>by kernel_rfl) (λ_ _=>rfl) (λ_ _ h=>h) (λ_ X=>by kernel_rfl)
def Q9c(w:Int)(low:Int)(n:Int):Tree Int:=
.br (decide (low<0)) (.lf 0) (.br (decide (low>31)) (.lf 0) (.br (decide (n<1)) (.lf 0) (.cn (decide (0≤wrap u64 low)) (.an (Qfm n) (.lv (Qzj n) λ(x0:Int)=> .lf (iand u32 (ishr u32 w (wrap u64 low)) x0))))))
def Q2q(w:Int)(low:Int)(n:Int):Int:=(Q9c w low n).m
abbrev Q4w(w:Int)(low:Int)(n:Int):Prop:=(Q9c w low n).p
def Zd5:Q0c:=mkP 212 [] true [.one (.int .u32), .one (.int .i64), .one (.int .i64)] [] (λargs rows=>Q4w (argI args 0) (argI args 1) (argI args 2)) (λargs rows=>Q2q (argI args 0) (argI args 1) (argI args 2)) (λX=> .int .u32 X) (λX=>[])
theorem Qkh:Q05 Tryz.prog Zd5:=Q0n Q0k Q0l (.cons Qvr (.nil)) Tryz.func212 Tryz.call212 (λargs rows=>Q9c (argI args 0) (argI args 1) (argI args 2)) [] [] 2 (λ_ _ _=>by kernel_rfl) (λ_ _=>rfl) (λ_ _ h=>h) (λ_ X=>by kernel_rfl)
def Q8x(w:Int)(low:Int)(n:Int)(v:Int):Tree Int:=
.br (decide (low<0)) (.lf w) (.br (decide (low>31)) (.lf w) (.br (decide (n<1)) (.lf w) (.an (Qfm n) (.lv (Qzj n) λ(x0:Int)=> .cn (decide (0≤wrap u64 low)) (.cn (decide (0≤wrap u64 low)) (.lf (ior u32 (Qfg u32 w (ishl u32 x0 (wrap u64 low))) (ishl u32 (iand u32 v x0) (wrap u64 low)))))))))
def Q7p(w:Int)(low:Int)(n:Int)(v:Int):Int:=(Q8x w low n v).m
abbrev Qjz(w:Int)(low:Int)(n:Int)(v:Int):Prop:=(Q8x w low n v).p
def Z17:Q0c:=mkP 255 [] true [.one (.int .u32), .one (.int .i64), .one (.int .i64), .one (.int .u32)] [] (λargs rows=>Qjz (argI args 0) (argI args 1) (argI args 2) (argI args 3)) (λargs rows=>Q7p (argI args 0) (argI args 1) (argI args 2) (argI args 3)) (λX=> .int .u32 X) (λX=>[])
theorem Qwx:Q05 Tryz.prog Z17:=Q0n Q0k Q0l (.cons Qvr (.nil)) Tryz.func255 Tryz.call255 (λargs rows=>Q8x (argI args 0) (argI args 1) (argI args 2) (argI args 3)) [] [] 2 (λ_ _ _=>by kernel_rfl) (λ_ _=>rfl) (λ_ _ h=>h) (λ_ X=>by kernel_rfl)
def Q85(m:(List Int))(addr:Int)(size:Int)(v:Int):Tree ((List Int)×Bool):=
.an (Q06 m) (.lv (Q02 m) λ(x0:List Int)=> .an (Q9g m addr size) (.lv (Qfs m addr size) λ(x1:Bool)=> .br (!x1) (.lf (x0,false)) (let E1:=Nat.beq 1 1&&Nat.blt 0 1&&decide (0≤wrap u32 (Int.tdiv addr 4)∧wrap u32 (Int.tdiv addr 4)<(x0.length:Int));let E2:=Int.toNat (wrap u32 (Int.tdiv addr 4)); .br (size==1) (.cn E1 (let E3:=wrap i64 (wrap i64 (Int.tmod addr 4)*8); .an (Qjz (x0.getD E2 0) E3 8 v) (.lv (Q7p (x0.getD E2 0) E3 8 v) λ(x2:Int)=> .cn E1 (.lf (List.set x0 E2 x2,true))))) (.cn E1 (.lf (List.set x0 E2 v,true))))))
def Q94(m:(List Int))(addr:Int)(size:Int)(v:Int):((List Int)×Bool):=(Q85 m addr size v).m
abbrev Qah(m:(List Int))(addr:Int)(size:Int)(v:Int):Prop:=(Q85 m addr size v).p
def Z1u:Q0c:=mkP 218 [] true [.one (.ints .u32), .one (.int .u32), .one (.int .i64), .one (.int .u32)] [] (λargs rows=>Qah (argL .u32 args 0) (argI args 1) (argI args 2) (argI args 3)) (λargs rows=>Q94 (argL .u32 args 0) (argI args 1) (argI args 2) (argI args 3)) (λX=> .tup [.all 0, .bool (X.2)]) (λX=>[⟨false,23,1, .ints .u32 (X.1)⟩])
theorem Qn7:Q05 Tryz.prog Z1u:=Q0n Q0k Q0l (.cons Q0w (.cons Qlq (.cons Qwx (.nil)))) Tryz.func218 Tryz.call218 (λargs rows=>Q85 (argL .u32 args 0) (argI args 1) (argI args 2) (argI args 3)) [.row 23 1 (.ints .u32)] [] 2 (λ_ _ _=>by kernel_rfl) (λ_ _=>rfl) (λ_ _ h=>h) (λ_ X=>by kernel_rfl)
def Zbe(op:Int):Tree (Q8c×Bool):=
.br (op==1) (.lf ({a:=true,b:=true,c:=true,low:=0,D5:=0},true)) (.br (op==2) (.lf ({a:=true,b:=true,c:=true,low:=0,D5:=0},true)) (.br (op==3) (.lf ({a:=true,b:=true,c:=true,low:=0,D5:=0},true)) (.br (op==4) (.lf ({a:=true,b:=true,c:=true,low:=0,D5:=0},true)) (.br (op==5) (.lf ({a:=true,b:=true,c:=true,low:=0,D5:=0},true)) (.br (op==6) (.lf ({a:=true,b:=true,c:=true,low:=0,D5:=0},true)) (.br (op==7) (.lf ({a:=true,b:=true,c:=true,low:=0,D5:=0},true)) (.br (op==8) (.lf ({a:=true,b:=true,c:=true,low:=0,D5:=0},true)) (.br (op==9) (.lf ({a:=true,b:=true,c:=true,low:=0,D5:=0},true)) (.br (op==10) (.lf ({a:=true,b:=true,c:=true,low:=0,D5:=0},true)) (.br (op==11) (.lf ({a:=true,b:=true,c:=true,low:=0,D5:=0},true)) (.br (op==12) (.lf ({a:=true,b:=true,c:=true,low:=0,D5:=0},true)) (.br (op==13) (.lf ({a:=true,b:=true,c:=true,low:=0,D5:=0},true)) (.br (op==16) (.lf ({a:=true,b:=true,c:=false,low:=(-32768),D5:=32767},true)) (.br (op==23) (.lf ({a:=true,b:=true,c:=false,low:=(-32768),D5:=32767},true)) (.br (op==32) (.lf ({a:=true,b:=true,c:=false,low:=(-32768),D5:=32767},true)) (.br (op==33) (.lf ({a:=true,b:=true,c:=false,low:=(-32768),D5:=32767},true)) (.br (op==34) (.lf ({a:=true,b:=true,c:=false,low:=(-32768),D5:=32767},true)) (.br (op==35) (.lf ({a:=true,b:=true,c:=false,low:=(-32768),D5:=32767},true)) (.br (op==36) (.lf ({a:=true,b:=true,c:=false,low:=(-32768),D5:=32767},true)) (.br (op==40) (.lf ({a:=true,b:=true,c:=false,low:=(-32768),D5:=32767},true)) (.br (op==41) (.lf ({a:=true,b:=true,c:=false,low:=(-32768),D5:=32767},true)) (.br (op==42) (.lf ({a:=true,b:=true,c:=false,low:=(-32768),D5:=32767},true)) (.br (op==43) (.lf ({a:=true,b:=true,c:=false,low:=(-32768),D5:=32767},true)) (.br (op==44) (.lf ({a:=true,b:=true,c:=false,low:=(-32768),D5:=32767},true)) (.br (op==45) (.lf ({a:=true,b:=true,c:=false,low:=(-32768),D5:=32767},true)) (.br (op==49) (.lf ({a:=true,b:=true,c:=false,low:=(-32768),D5:=32767},true)) (.br (op==17) (.lf ({a:=true,b:=true,c:=false,low:=0,D5:=65535},true)) (.br (op==18) (.lf ({a:=true,b:=true,c:=false,low:=0,D5:=65535},true)) (.br (op==19) (.lf ({a:=true,b:=true,c:=false,low:=0,D5:=65535},true)) (.br (op==20) (.lf ({a:=true,b:=true,c:=false,low:=0,D5:=31},true)) (.br (op==21) (.lf ({a:=true,b:=true,c:=false,low:=0,D5:=31},true)) (.br (op==22) (.lf ({a:=true,b:=true,c:=false,low:=0,D5:=31},true)) (.br (op==24) (.lf ({a:=true,b:=false,c:=false,low:=0,D5:=65535},true)) (.br (op==48) (.lf ({a:=true,b:=false,c:=false,low:=(-32768),D5:=32767},true)) (.br (op==58) (.lf ({a:=true,b:=false,c:=false,low:=0,D5:=7},true)) (.br (op==59) (.lf ({a:=true,b:=false,c:=false,low:=0,D5:=7},true)) (.br (op==60) (.lf ({a:=true,b:=false,c:=false,low:=0,D5:=11},true)) (.br (op==61) (.lf ({a:=true,b:=false,c:=false,low:=0,D5:=11},true)) (.br (op==56) (.lf ({a:=false,b:=false,c:=false,low:=0,D5:=0},true)) (.br (op==57) (.lf ({a:=false,b:=false,c:=false,low:=0,D5:=0},true)) (.br (op==62) (.lf ({a:=false,b:=false,c:=false,low:=0,D5:=0},true)) (.br (op==63) (.lf ({a:=false,b:=false,c:=false,low:=0,D5:=0},true)) (.br (op==64) (.lf ({a:=false,b:=false,c:=false,low:=0,D5:=0},true)) (.lf ({a:=false,b:=false,c:=false,low:=0,D5:=0},false)))))))))))))))))))))))))))))))))))))))))))))
def Qz7(op:Int):(Q8c×Bool):=(Zbe op).m
def isa_use_m:Q0c:=mkR 213 [] true [.one (.int .i64)] [] (λargs rows=>Qz7 (argI args 0)) (λX=> .tup [.agg (Q8c.cells (X.1)), .bool (X.2)]) (λX=>[])
theorem Z5i:Q05 Tryz.prog isa_use_m:=Q0z Q0k Q0l (.nil) Tryz.func213 Tryz.call213 (λargs rows=>Zbe (argI args 0)) [] [] 2 (λ_ _ _=>by kernel_rfl) (λ_ _=>rfl) (λ_ _=>Tree.free_ok (by kernel_rfl)) (λ_ X=>by kernel_rfl)
def Q6k(x:Int)(n:Int):Tree Int:=
.br (decide (n<1)) (.lf 0) (.br (decide (n≥32)) (.lf x) (let E1:=decide (0≤wrap u64 (wrap i64 (32-n))); .cn E1 (.cn E1 (.lf (wrap u32 (ishr i32 (wrap i32 (ishl u32 x (wrap u64 (wrap i64 (32-n))))) (wrap u64 (wrap i64 (32-n)))))))))
def Q24(x:Int)(n:Int):Int:=(Q6k x n).m
abbrev Qak(x:Int)(n:Int):Prop:=(Q6k x n).p
def Qtr:Q0c:=mkP 214 [] true [.one (.int .u32), .one (.int .i64)] [] (λargs rows=>Qak (argI args 0) (argI args 1)) (λargs rows=>Q24 (argI args 0) (argI args 1)) (λX=> .int .u32 X) (λX=>[])
theorem Qip:Q05 Tryz.prog Qtr:=Q0n Q0k Q0l (.nil) Tryz.func214 Tryz.call214 (λargs rows=>Q6k (argI args 0) (argI args 1)) [] [] 2 (λ_ _ _=>by kernel_rfl) (λ_ _=>rfl) (λ_ _ h=>h) (λ_ X=>by kernel_rfl)
def Qdt(r:Int)(used:Bool):Tree Bool:=
.br used (.br (decide (r≥0)) (.lf (decide (r≤15))) (.lf false)) (.lf (r==0))
def Q9b(r:Int)(used:Bool):Bool:=(Qdt r used).m
def Z1x:Q0c:=mkR 254 [] true [.one (.int .i64), .one (.bool)] [] (λargs rows=>Q9b (argI args 0) (argB args 1)) (λX=> .bool X) (λX=>[])
theorem Z0n:Q05 Tryz.prog Z1x:=Q0z Q0k Q0l (.nil) Tryz.func254 Tryz.call254 (λargs rows=>Qdt (argI args 0) (argB args 1)) [] [] 2 (λ_ _ _=>by kernel_rfl) (λ_ _=>rfl) (λ_ _=>Tree.free_ok (by kernel_rfl)) (λ_ X=>by kernel_rfl)
def Qh8(i:Q0i):Tree Bool:=
.lv (Qz7 i.Op) λ(x0:Q8c×Bool)=> .br x0.2 (.lv (Q9b i.A x0.1.a) λ(x1:Bool)=> .br x1 (.lv (Q9b i.B x0.1.b) λ(x2:Bool)=> .br x2 (.lv (Q9b i.C x0.1.c) λ(x3:Bool)=> .br x3 (.br (decide (i.Imm≥x0.1.low)) (.lf (decide (i.Imm≤x0.1.D5))) (.lf false)) (.lf false)) (.lf false)) (.lf false)) (.lf false)
def Qdz(i:Q0i):Bool:=(Qh8 i).m
def Zfc:Q0c:=mkR 215 [] true [.agg Q0i.sig] [] (λargs rows=>Qdz (Q0i.of (args.getD 0 .dead).cells)) (λX=> .bool X) (λX=>[])
theorem Zb3:Q05 Tryz.prog Zfc:=Q0z Q0k Q0l (.cons Z5i (.cons Z0n (.nil))) Tryz.func215 Tryz.call215 (λargs rows=>Qh8 (Q0i.of (args.getD 0 .dead).cells)) [] [] 2 (λ_ _ _=>by kernel_rfl) (λ_ _=>rfl) (λ_ _=>Tree.free_ok (by kernel_rfl)) (λ_ X=>by kernel_rfl)
def Q72(w:Int):Tree (Q0i×Bool):=
.an (Q4w w 24 8) (.lv (Q2q w 24 8) λ(x0:Int)=> .an (Q4w w 20 4) (.lv (Q2q w 20 4) λ(x1:Int)=> .an (Q4w w 16 4) (.lv (Q2q w 16 4) λ(x2:Int)=> .lv (Qz7 (wrap i64 x0)) λ(x3:Q8c×Bool)=>let E1:=({Op:=0,A:=0,B:=0,C:=0,Imm:=0}:Q0i); .br (!x3.2) (.lf (E1,false)) (.an (Q4w w 0 16) (.lv (Q2q w 0 16) λ(x4:Int)=> .br x3.1.c (let E2:=({Op:=wrap i64 x0,A:=wrap i64 x1,B:=wrap i64 x2,C:=wrap i64 x4,Imm:=0}:Q0i); .lv (Qdz E2) λ(x5:Bool)=> .br (!x5) (.lf (E1,false)) (.lf (E2,true))) (.br (decide (x3.1.low<0)) (.an (Qak x4 16) (.lv (Q24 x4 16) λ(x6:Int)=>let E3:=({Op:=wrap i64 x0,A:=wrap i64 x1,B:=wrap i64 x2,C:=0,Imm:=wrap i32 x6}:Q0i); .lv (Qdz E3) λ(x7:Bool)=> .br (!x7) (.lf (E1,false)) (.lf (E3,true)))) (let E4:=({Op:=wrap i64 x0,A:=wrap i64 x1,B:=wrap i64 x2,C:=0,Imm:=wrap i32 x4}:Q0i); .lv (Qdz E4) λ(x8:Bool)=> .br (!x8) (.lf (E1,false)) (.lf (E4,true)))))))))
def Qgb(w:Int):(Q0i×Bool):=(Q72 w).m
abbrev Qj2(w:Int):Prop:=(Q72 w).p
def Z9c:Q0c:=mkP 156 [] true [.one (.int .u32)] [] (λargs rows=>Qj2 (argI args 0)) (λargs rows=>Qgb (argI args 0)) (λX=> .tup [.agg (Q0i.cells (X.1)), .bool (X.2)]) (λX=>[])
theorem Z79:Q05 Tryz.prog Z9c:=Q0n Q0k Q0l (.cons Qkh (.cons Z5i (.cons Qip (.cons Zb3 (.nil))))) Tryz.func156 Tryz.call156 (λargs rows=>Q72 (argI args 0)) [] [] 2 (λ_ _ _=>by kernel_rfl) (λ_ _=>rfl) (λ_ _ h=>h) (λ_ X=>by kernel_rfl)
def Q9r(a:Int)(b:Int):Tree (Int×Int):=
.br (b==0) (.lf (4294967295,a)) (let T1:Tree ((Int×Int)):= .cn (decide (wrap i32 b≠0)) (.cn (decide (wrap i32 b≠0)) (.lf (wrap u32 (wrap i32 (Int.tdiv (wrap i32 a) (wrap i32 b))),wrap u32 (Int.tmod (wrap i32 a) (wrap i32 b))))); .br (a==2147483648) (.br (b==4294967295) (.lf (a,0)) T1) T1)
def Qat(a:Int)(b:Int):(Int×Int):=(Q9r a b).m
abbrev Qhm(a:Int)(b:Int):Prop:=(Q9r a b).p
def Z8c:Q0c:=mkP 256 [] true [.one (.int .u32), .one (.int .u32)] [] (λargs rows=>Qhm (argI args 0) (argI args 1)) (λargs rows=>Qat (argI args 0) (argI args 1)) (λX=> .tup [.int .u32 (X.1), .int .u32 (X.2)]) (λX=>[])
theorem Z1p:Q05 Tryz.prog Z8c:=Q0n Q0k Q0l (.nil) Tryz.func256 Tryz.call256 (λargs rows=>Q9r (argI args 0) (argI args 1)) [] [] 2 (λ_ _ _=>by kernel_rfl) (λ_ _=>rfl) (λ_ _ h=>h) (λ_ X=>by kernel_rfl)
def Qyf(b:Bool):Tree Int:=
.br b (.lf 1) (.lf 0)
def Qme(b:Bool):Int:=(Qyf b).m
def Ze3:Q0c:=mkR 257 [] true [.one (.bool)] [] (λargs rows=>Qme (argB args 0)) (λX=> .int .u32 X) (λX=>[])
theorem Z96:Q05 Tryz.prog Ze3:=Q0z Q0k Q0l (.nil) Tryz.func257 Tryz.call257 (λargs rows=>Qyf (argB args 0)) [] [] 2 (λ_ _ _=>by kernel_rfl) (λ_ _=>rfl) (λ_ _=>Tree.free_ok (by kernel_rfl)) (λ_ X=>by kernel_rfl)
def Qmq(op:Int)(a:Int)(b:Int):Tree (Int×Bool):=
.br (op==2) (.lf (wrap u32 (a+wrap u32 (0-b)),true)) (.br (op==1) (.lf (wrap u32 (a+b),true)) (.br (op==16) (.lf (wrap u32 (a+b),true)) (.br (op==3) (.lf (iand u32 a b,true)) (.br (op==17) (.lf (iand u32 a b,true)) (.br (op==4) (.lf (ior u32 a b,true)) (.br (op==18) (.lf (ior u32 a b,true)) (.br (op==5) (.lf (ixor u32 a b,true)) (.br (op==19) (.lf (ixor u32 a b,true)) (.br (op==6) (.lf (ishl u32 a (iand u32 b 31),true)) (.br (op==20) (.lf (ishl u32 a (iand u32 b 31),true)) (.br (op==7) (.lf (ishr u32 a (iand u32 b 31),true)) (.br (op==21) (.lf (ishr u32 a (iand u32 b 31),true)) (let E1:=(wrap u32 (ishr i32 (wrap i32 a) (iand u32 b 31)),true); .br (op==8) (.lf E1) (.br (op==22) (.lf E1) (.br (op==9) (.lf (wrap u32 (a*b),true)) (.br (op==10) (.an (Qhm a b) (.lv (Qat a b) λ(x0:Int×Int)=> .lf (x0.1,true))) (.br (op==11) (.an (Qhm a b) (.lv (Qat a b) λ(x1:Int×Int)=> .lf (x1.2,true))) (.br (op==12) (.lv (Qme (decide (wrap i32 a<wrap i32 b))) λ(x2:Int)=> .lf (x2,true)) (.br (op==23) (.lv (Qme (decide (wrap i32 a<wrap i32 b))) λ(x3:Int)=> .lf (x3,true)) (.br (op==13) (.lv (Qme (decide (a<b))) λ(x4:Int)=> .lf (x4,true)) (.lf (0,false))))))))))))))))))))))
def Q3v(op:Int)(a:Int)(b:Int):(Int×Bool):=(Qmq op a b).m
abbrev Qq4(op:Int)(a:Int)(b:Int):Prop:=(Qmq op a b).p
def cpu_Alu_m:Q0c:=mkP 222 [] true [.one (.int .i64), .one (.int .u32), .one (.int .u32)] [] (λargs rows=>Qq4 (argI args 0) (argI args 1) (argI args 2)) (λargs rows=>Q3v (argI args 0) (argI args 1) (argI args 2)) (λX=> .tup [.int .u32 (X.1), .bool (X.2)]) (λX=>[])
theorem Zke:Q05 Tryz.prog cpu_Alu_m:=Q0n Q0k Q0l (.cons Z1p (.cons Z96 (.nil))) Tryz.func222 Tryz.call222 (λargs rows=>Qmq (argI args 0) (argI args 1) (argI args 2)) [] [] 2 (λ_ _ _=>by kernel_rfl) (λ_ _=>rfl) (λ_ _ h=>h) (λ_ X=>by kernel_rfl)
end
end Go.Proofs.YtjaifpiopmhmlaaGreat

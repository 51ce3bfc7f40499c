/-
  Functions of the program: models, and that its calls come to them (by a program: gen3.py).
-/
import Derived.Test.YtpcbkbalabgnlaaGreatRecordClockBase
set_option linter.unusedVariables false
set_option linter.unusedSimpArgs false
namespace Go.Proofs.YtpcbkbalabgnlaaGreat
open Go Go.GD Go.IntKind
set_option maxRecDepth 100000
noncomputable section
def Q02(s:(List Int)):(List Int):=
s
def Q04(s:(List Int)):Prop:=
s.length≤35184372088832
def Q47(s:(List Int)):List D:=[.sl 1 (.ints .u32 s) false]
def Q2m(s:(List Int)):List Row:=[]
def Q1m(X:(List Int)):D:= .all 0
def Q1n(X:(List Int)):List Row:=[⟨false,23,1, .ints .u32 X⟩]
def Qdv:List Dir:=[.row 23 1 (.ints .u32)]
def Q7w:List PT:=[.one (.ints .u32)]
def Q7r:List RT:=[]
def Qep(args:List D)(rows:List Row):(List Int):=Q02 (argL .u32 args 0)
def Qet(args:List D)(rows:List Row):Prop:=Q04 (argL .u32 args 0)
def Qg7:Q0d:=mkP 72 [] true Q7w Q7r Qet Qep Q1m Q1n
def Q5f(s:(List Int))(Leaf:(List Int)→Prop):Prop:=
(s=[]→Leaf [])∧cand (decide ((4:Nat)*((0:Nat)+s.length)≤(140737488355328:Nat))) (Leaf s)
set_option maxRecDepth 100000 in
theorem Qfg(s:(List Int))(Q:D→List Row→Prop):(fnVC tab [] (LL tab [] Tryz.f72.ntmps 0 [] 2) Tryz.f72 (Q47 s) (Q2m s) λd R=>Qce (Q2m s).length Qdv d R Q)=Q5f s (λX=>Q (Q1m X) (Q1n X)):=by kernel_rfl
theorem Qdd(s:(List Int))(Leaf:(List Int)→Prop)(hw:Q04 s)(h:Leaf (Q02 s)):
Q5f s Leaf:=by
 delta Q5f
 refine⟨λe=>by rw[e]at h;exact h,?_⟩
 rw[Q08]
 refine⟨decide_eq_true ?_,h⟩
 have:s.length≤35184372088832:=hw
 omega
set_option maxRecDepth 100000 in
theorem Qd8(s:(List Int))(hw:Q04 s):Q53 Tryz.prog 72 (Q47 s) (Q2m s) (Q1m (Q02 s)) (Q1n (Q02 s)):=
 have hG:Q96 Tryz.prog []:= .nil
 FnOK.calls Q0j Q0i hG Tryz.func72 (Zia Q0j Q0i hG 2 (invs:=[])) (FnOK.of (Qfg s _) (Qdd s (λX=>Q1m X=Q1m (Q02 s)∧Q1n X=Q1n (Q02 s)) hw ⟨rfl,rfl⟩))
set_option maxRecDepth 100000 in
theorem Qdh(args:List D)(rows:List Row):Qjo Q7w args 0=Q47 (argL .u32 args 0):=by kernel_rfl
set_option maxRecDepth 100000 in
theorem Qd7(args:List D)(rows:List Row):Q91 Q7r rows 0=Q2m (argL .u32 args 0):=by kernel_rfl
set_option maxRecDepth 100000 in
theorem Qfl(X:(List Int)):(ffB (Q1m X)&&ffBR (Q1n X))=true:=by kernel_rfl
theorem Q0s:Q05 Tryz.prog Qg7:=Qy1 Tryz.call72 (λargs rows hp=>by rw[Qdh args rows,Qd7 args rows];exact Qd8 (argL .u32 args 0) hp) (λ_ X=>Qfl X)
def Q8v(m:(List Int)):Tree Int:=
.br (Int.tmod (m.length:Int) (32:Int) !=(0:Int)) (.lf 0) (.br (decide ((m.length:Int)>(1024:Int))) (.lf 0) (.lf (wrap i64 (Int.tdiv (m.length:Int) 32))))
def Q0q(m:(List Int)):Int:=(Q8v m).m
def Z0z:Q0d:=mkR 89 [] true [.one (.ints .u32)] [] (λargs rows=>Q0q (argL .u32 args 0)) (λX=> .int .i64 X) (λX=>[])
theorem Q4n:Q05 Tryz.prog Z0z:=Q0y Q0j Q0i (.nil) Tryz.func89 Tryz.call89 (λargs rows=>Q8v (argL .u32 args 0)) [] [] 2 (λ_ _ _=>by kernel_rfl) (λ_ _=>rfl) (λ_ _=>Tree.free_ok (by kernel_rfl)) (λ_ X=>by kernel_rfl)
def Q30(m:(List Int))(addr:Int)(size:Int):Tree Bool:=
let T1:Tree (Bool):= .cn (decide (wrap u32 size≠0)) (.br (Int.tmod addr (wrap u32 size) !=0) (.lf false) (.lv (Q0q m) λ(x0:Int)=> .lf (decide (wrap u64 (wrap u64 addr+wrap u64 size)≤wrap u64 (wrap u64 x0*128))))); .br (size !=1) (.br (size !=4) (.lf false) T1) T1
def Qg6(m:(List Int))(addr:Int)(size:Int):Bool:=(Q30 m addr size).m
abbrev Q5o(m:(List Int))(addr:Int)(size:Int):Prop:=(Q30 m addr size).p
def Qzn:Q0d:=mkP 228 [] true [.one (.ints .u32), .one (.int .u32), .one (.int .i64)] [] (λargs rows=>Q5o (argL .u32 args 0) (argI args 1) (argI args 2)) (λargs rows=>Qg6 (argL .u32 args 0) (argI args 1) (argI args 2)) (λX=> .bool X) (λX=>[])
theorem Qle:Q05 Tryz.prog Qzn:=Q0o Q0j Q0i (.cons Q4n (.nil)) Tryz.func228 Tryz.call228 (λargs rows=>Q30 (argL .u32 args 0) (argI args 1) (argI args 2)) [] [] 2 (λ_ _ _=>by kernel_rfl) (λ_ _=>rfl) (λ_ _ h=>h) (λ_ X=>by kernel_rfl)
def Q9w(n:Int):Tree Int:=
.br (decide (n≥32)) (.lf 4294967295) (.cn (decide (0≤wrap u64 n)) (.lf (wrap u32 (ishl u32 1 (wrap u64 n)-1))))
def Qzt(n:Int):Int:=(Q9w n).m
abbrev Qa5(n:Int):Prop:=(Q9w n).p
def Ze6:Q0d:=mkP 229 [] true [.one (.int .i64)] [] (λargs rows=>Qa5 (argI args 0)) (λargs rows=>Qzt (argI args 0)) (λX=> .int .u32 X) (λX=>[])
theorem Quz:Q05 Tryz.prog Ze6:=Q0o Q0j Q0i (.nil) Tryz.func229 Tryz.call229 (λargs rows=>Q9w (argI args 0)) [] [] 2 (λ_ _ _=>by kernel_rfl) (λ_ _=>rfl) (λ_ _ h=>h) (λ_ X=>by kernel_rfl)
def Q7x(w:Int)(low:Int)(n:Int):Tree Int:=
.br (decide (low<0)) (.lf 0) (.br (decide (low>31)) (.lf 0) (.br (decide (n<1)) (.lf 0) (.cn (decide (0≤wrap u64 low)) (.an (Qa5 n) (.lv (Qzt n) λ(x0:Int)=> .lf (iand u32 (ishr u32 w (wrap u64 low)) x0))))))
def Q3a(w:Int)(low:Int)(n:Int):Int:=(Q7x w low n).m
abbrev Q3g(w:Int)(low:Int)(n:Int):Prop:=(Q7x w low n).p
def Z7u:Q0d:=mkP 183 [] true [.one (.int .u32), .one (.int .i64), .one (.int .i64)] [] (λargs rows=>Q3g (argI args 0) (argI args 1) (argI args 2)) (λargs rows=>Q3a (argI args 0) (argI args 1) (argI args 2)) (λX=> .int .u32 X) (λX=>[])
theorem Qkn:Q05 Tryz.prog Z7u:=Q0o Q0j Q0i (.cons Quz (.nil)) Tryz.func183 Tryz.call183 (λargs rows=>Q7x (argI args 0) (argI args 1) (argI args 2)) [] [] 2 (λ_ _ _=>by kernel_rfl) (λ_ _=>rfl) (λ_ _ h=>h) (λ_ X=>by kernel_rfl)
def Q4o(w:Int)(low:Int)(n:Int)(v:Int):Tree Int:=
.br (decide (low<0)) (.lf w) (.br (decide (low>31)) (.lf w) (.br (decide (n<1)) (.lf w) (.an (Qa5 n) (.lv (Qzt n) λ(x0:Int)=> .cn (decide (0≤wrap u64 low)) (.cn (decide (0≤wrap u64 low)) (.lf (ior u32 (Qft u32 w (ishl u32 x0 (wrap u64 low))) (ishl u32 (iand u32 v x0) (wrap u64 low)))))))))
def Q8g(w:Int)(low:Int)(n:Int)(v:Int):Int:=(Q4o w low n v).m
abbrev Q7f(w:Int)(low:Int)(n:Int)(v:Int):Prop:=(Q4o w low n v).p
def Qy7:Q0d:=mkP 231 [] true [.one (.int .u32), .one (.int .i64), .one (.int .i64), .one (.int .u32)] [] (λargs rows=>Q7f (argI args 0) (argI args 1) (argI args 2) (argI args 3)) (λargs rows=>Q8g (argI args 0) (argI args 1) (argI args 2) (argI args 3)) (λX=> .int .u32 X) (λX=>[])
theorem Qwa:Q05 Tryz.prog Qy7:=Q0o Q0j Q0i (.cons Quz (.nil)) Tryz.func231 Tryz.call231 (λargs rows=>Q4o (argI args 0) (argI args 1) (argI args 2) (argI args 3)) [] [] 2 (λ_ _ _=>by kernel_rfl) (λ_ _=>rfl) (λ_ _ h=>h) (λ_ X=>by kernel_rfl)
def Q4d(m:(List Int))(addr:Int)(size:Int)(v:Int):Tree ((List Int)×Bool):=
.an (Q04 m) (.lv (Q02 m) λ(x0:List Int)=> .an (Q5o m addr size) (.lv (Qg6 m addr size) λ(x1:Bool)=> .br (!x1) (.lf (x0,false)) (let E1:=Nat.beq 1 1&&Nat.blt 0 1&&decide (0≤wrap u32 (Int.tdiv addr 4)∧wrap u32 (Int.tdiv addr 4)<(x0.length:Int));let E2:=Int.toNat (wrap u32 (Int.tdiv addr 4)); .br (size==1) (.cn E1 (let E3:=wrap i64 (wrap i64 (Int.tmod addr 4)*8); .an (Q7f (x0.getD E2 0) E3 8 v) (.lv (Q8g (x0.getD E2 0) E3 8 v) λ(x2:Int)=> .cn E1 (.lf (List.set x0 E2 x2,true))))) (.cn E1 (.lf (List.set x0 E2 v,true))))))
def Q9z(m:(List Int))(addr:Int)(size:Int)(v:Int):((List Int)×Bool):=(Q4d m addr size v).m
abbrev Q50(m:(List Int))(addr:Int)(size:Int)(v:Int):Prop:=(Q4d m addr size v).p
def Z0o:Q0d:=mkP 189 [] true [.one (.ints .u32), .one (.int .u32), .one (.int .i64), .one (.int .u32)] [] (λargs rows=>Q50 (argL .u32 args 0) (argI args 1) (argI args 2) (argI args 3)) (λargs rows=>Q9z (argL .u32 args 0) (argI args 1) (argI args 2) (argI args 3)) (λX=> .tup [.all 0, .bool (X.2)]) (λX=>[⟨false,23,1, .ints .u32 (X.1)⟩])
theorem Qn7:Q05 Tryz.prog Z0o:=Q0o Q0j Q0i (.cons Q0s (.cons Qle (.cons Qwa (.nil)))) Tryz.func189 Tryz.call189 (λargs rows=>Q4d (argL .u32 args 0) (argI args 1) (argI args 2) (argI args 3)) [.row 23 1 (.ints .u32)] [] 2 (λ_ _ _=>by kernel_rfl) (λ_ _=>rfl) (λ_ _ h=>h) (λ_ X=>by kernel_rfl)
def Z7x(op:Int):Tree (Q94×Bool):=
.br (op==1) (.lf ({a:=true,b:=true,c:=true,low:=0,D4:=0},true)) (.br (op==2) (.lf ({a:=true,b:=true,c:=true,low:=0,D4:=0},true)) (.br (op==3) (.lf ({a:=true,b:=true,c:=true,low:=0,D4:=0},true)) (.br (op==4) (.lf ({a:=true,b:=true,c:=true,low:=0,D4:=0},true)) (.br (op==5) (.lf ({a:=true,b:=true,c:=true,low:=0,D4:=0},true)) (.br (op==6) (.lf ({a:=true,b:=true,c:=true,low:=0,D4:=0},true)) (.br (op==7) (.lf ({a:=true,b:=true,c:=true,low:=0,D4:=0},true)) (.br (op==8) (.lf ({a:=true,b:=true,c:=true,low:=0,D4:=0},true)) (.br (op==9) (.lf ({a:=true,b:=true,c:=true,low:=0,D4:=0},true)) (.br (op==10) (.lf ({a:=true,b:=true,c:=true,low:=0,D4:=0},true)) (.br (op==11) (.lf ({a:=true,b:=true,c:=true,low:=0,D4:=0},true)) (.br (op==12) (.lf ({a:=true,b:=true,c:=true,low:=0,D4:=0},true)) (.br (op==13) (.lf ({a:=true,b:=true,c:=true,low:=0,D4:=0},true)) (.br (op==16) (.lf ({a:=true,b:=true,c:=false,low:=(-32768),D4:=32767},true)) (.br (op==23) (.lf ({a:=true,b:=true,c:=false,low:=(-32768),D4:=32767},true)) (.br (op==32) (.lf ({a:=true,b:=true,c:=false,low:=(-32768),D4:=32767},true)) (.br (op==33) (.lf ({a:=true,b:=true,c:=false,low:=(-32768),D4:=32767},true)) (.br (op==34) (.lf ({a:=true,b:=true,c:=false,low:=(-32768),D4:=32767},true)) (.br (op==35) (.lf ({a:=true,b:=true,c:=false,low:=(-32768),D4:=32767},true)) (.br (op==36) (.lf ({a:=true,b:=true,c:=false,low:=(-32768),D4:=32767},true)) (.br (op==40) (.lf ({a:=true,b:=true,c:=false,low:=(-32768),D4:=32767},true)) (.br (op==41) (.lf ({a:=true,b:=true,c:=false,low:=(-32768),D4:=32767},true)) (.br (op==42) (.lf ({a:=true,b:=true,c:=false,low:=(-32768),D4:=32767},true)) (.br (op==43) (.lf ({a:=true,b:=true,c:=false,low:=(-32768),D4:=32767},true)) (.br (op==44) (.lf ({a:=true,b:=true,c:=false,low:=(-32768),D4:=32767},true)) (.br (op==45) (.lf ({a:=true,b:=true,c:=false,low:=(-32768),D4:=32767},true)) (.br (op==49) (.lf ({a:=true,b:=true,c:=false,low:=(-32768),D4:=32767},true)) (.br (op==17) (.lf ({a:=true,b:=true,c:=false,low:=0,D4:=65535},true)) (.br (op==18) (.lf ({a:=true,b:=true,c:=false,low:=0,D4:=65535},true)) (.br (op==19) (.lf ({a:=true,b:=true,c:=false,low:=0,D4:=65535},true)) (.br (op==20) (.lf ({a:=true,b:=true,c:=false,low:=0,D4:=31},true)) (.br (op==21) (.lf ({a:=true,b:=true,c:=false,low:=0,D4:=31},true)) (.br (op==22) (.lf ({a:=true,b:=true,c:=false,low:=0,D4:=31},true)) (.br (op==24) (.lf ({a:=true,b:=false,c:=false,low:=0,D4:=65535},true)) (.br (op==48) (.lf ({a:=true,b:=false,c:=false,low:=(-32768),D4:=32767},true)) (.br (op==58) (.lf ({a:=true,b:=false,c:=false,low:=0,D4:=7},true)) (.br (op==59) (.lf ({a:=true,b:=false,c:=false,low:=0,D4:=7},true)) (.br (op==60) (.lf ({a:=true,b:=false,c:=false,low:=0,D4:=11},true)) (.br (op==61) (.lf ({a:=true,b:=false,c:=false,low:=0,D4:=11},true)) (.br (op==56) (.lf ({a:=false,b:=false,c:=false,low:=0,D4:=0},true)) (.br (op==57) (.lf ({a:=false,b:=false,c:=false,low:=0,D4:=0},true)) (.br (op==62) (.lf ({a:=false,b:=false,c:=false,low:=0,D4:=0},true)) (.br (op==63) (.lf ({a:=false,b:=false,c:=false,low:=0,D4:=0},true)) (.br (op==64) (.lf ({a:=false,b:=false,c:=false,low:=0,D4:=0},true)) (.lf ({a:=false,b:=false,c:=false,low:=0,D4:=0},false)))))))))))))))))))))))))))))))))))))))))))))
def Qxo(op:Int):(Q94×Bool):=(Z7x op).m
def isa_use_m:Q0d:=mkR 184 [] true [.one (.int .i64)] [] (λargs rows=>Qxo (argI args 0)) (λX=> .tup [.agg (Q94.cells (X.1)), .bool (X.2)]) (λX=>[])
theorem Z3t:Q05 Tryz.prog isa_use_m:=Q0y Q0j Q0i (.nil) Tryz.func184 Tryz.call184 (λargs rows=>Z7x (argI args 0)) [] [] 2 (λ_ _ _=>by kernel_rfl) (λ_ _=>rfl) (λ_ _=>Tree.free_ok (by kernel_rfl)) (λ_ X=>by kernel_rfl)
def Q3c(x:Int)(n:Int):Tree Int:=
.br (decide (n<1)) (.lf 0) (.br (decide (n≥32)) (.lf x) (let E1:=decide (0≤wrap u64 (wrap i64 (32-n))); .cn E1 (.cn E1 (.lf (wrap u32 (ishr i32 (wrap i32 (ishl u32 x (wrap u64 (wrap i64 (32-n))))) (wrap u64 (wrap i64 (32-n)))))))))
def Q2g(x:Int)(n:Int):Int:=(Q3c x n).m
abbrev Q46(x:Int)(n:Int):Prop:=(Q3c x n).p
def Qt:Q0d:=mkP 185 [] true [.one (.int .u32), .one (.int .i64)] [] (λargs rows=>Q46 (argI args 0) (argI args 1)) (λargs rows=>Q2g (argI args 0) (argI args 1)) (λX=> .int .u32 X) (λX=>[])
theorem Qih:Q05 Tryz.prog Qt:=Q0o Q0j Q0i (.nil) Tryz.func185 Tryz.call185 (λargs rows=>Q3c (argI args 0) (argI args 1)) [] [] 2 (λ_ _ _=>by kernel_rfl) (λ_ _=>rfl) (λ_ _ h=>h) (λ_ X=>by kernel_rfl)
def Qe7(r:Int)(used:Bool):Tree Bool:=
.br used (.br (decide (r≥0)) (.lf (decide (r≤15))) (.lf false)) (.lf (r==0))
def Q9j(r:Int)(used:Bool):Bool:=(Qe7 r used).m
def Z0x:Q0d:=mkR 230 [] true [.one (.int .i64), .one (.bool)] [] (λargs rows=>Q9j (argI args 0) (argB args 1)) (λX=> .bool X) (λX=>[])
theorem Qxz:Q05 Tryz.prog Z0x:=Q0y Q0j Q0i (.nil) Tryz.func230 Tryz.call230 (λargs rows=>Qe7 (argI args 0) (argB args 1)) [] [] 2 (λ_ _ _=>by kernel_rfl) (λ_ _=>rfl) (λ_ _=>Tree.free_ok (by kernel_rfl)) (λ_ X=>by kernel_rfl)
def Qhq(i:Q0g):Tree Bool:=
.lv (Qxo i.Op) λ(x0:Q94×Bool)=> .br x0.2 (.lv (Q9j i.A x0.1.a) λ(x1:Bool)=> .br x1 (.lv (Q9j i.B x0.1.b) λ(x2:Bool)=> .br x2 (.lv (Q9j i.C x0.1.c) λ(x3:Bool)=> .br x3 (.br (decide (i.Imm≥x0.1.low)) (.lf (decide (i.Imm≤x0.1.D4))) (.lf false)) (.lf false)) (.lf false)) (.lf false)) (.lf false)
def Qel(i:Q0g):Bool:=(Qhq i).m
def Zdg:Q0d:=mkR 186 [] true [.agg Q0g.sig] [] (λargs rows=>Qel (Q0g.of (args.getD 0 .dead).cells)) (λX=> .bool X) (λX=>[])
theorem Z9o:Q05 Tryz.prog Zdg:=Q0y Q0j Q0i (.cons Z3t (.cons Qxz (.nil))) Tryz.func186 Tryz.call186 (λargs rows=>Qhq (Q0g.of (args.getD 0 .dead).cells)) [] [] 2 (λ_ _ _=>by kernel_rfl) (λ_ _=>rfl) (λ_ _=>Tree.free_ok (by kernel_rfl)) (λ_ X=>by kernel_rfl)
def Q6n(w:Int):Tree (Q0g×Bool):=
.an (Q3g w 24 8) (.lv (Q3a w 24 8) λ(x0:Int)=> .an (Q3g w 20 4) (.lv (Q3a w 20 4) λ(x1:Int)=> .an (Q3g w 16 4) (.lv (Q3a w 16 4) λ(x2:Int)=> .lv (Qxo (wrap i64 x0)) λ(x3:Q94×Bool)=>let E1:=({Op:=0,A:=0,B:=0,C:=0,Imm:=0}:Q0g); .br (!x3.2) (.lf (E1,false)) (.an (Q3g w 0 16) (.lv (Q3a w 0 16) λ(x4:Int)=> .br x3.1.c (let E2:=({Op:=wrap i64 x0,A:=wrap i64 x1,B:=wrap i64 x2,C:=wrap i64 x4,Imm:=0}:Q0g); .lv (Qel E2) λ(x5:Bool)=> .br (!x5) (.lf (E1,false)) (.lf (E2,true))) (.br (decide (x3.1.low<0)) (.an (Q46 x4 16) (.lv (Q2g x4 16) λ(x6:Int)=>let E3:=({Op:=wrap i64 x0,A:=wrap i64 x1,B:=wrap i64 x2,C:=0,Imm:=wrap i32 x6}:Q0g); .lv (Qel E3) λ(x7:Bool)=> .br (!x7) (.lf (E1,false)) (.lf (E3,true)))) (let E4:=({Op:=wrap i64 x0,A:=wrap i64 x1,B:=wrap i64 x2,C:=0,Imm:=wrap i32 x4}:Q0g); .lv (Qel E4) λ(x8:Bool)=> .br (!x8) (.lf (E1,false)) (.lf (E4,true)))))))))
def Qgc(w:Int):(Q0g×Bool):=(Q6n w).m
abbrev Qb8(w:Int):Prop:=(Q6n w).p
def Zb2:Q0d:=mkP 131 [] true [.one (.int .u32)] [] (λargs rows=>Qb8 (argI args 0)) (λargs rows=>Qgc (argI args 0)) (λX=> .tup [.agg (Q0g.cells (X.1)), .bool (X.2)]) (λX=>[])
theorem Z54:Q05 Tryz.prog Zb2:=Q0o Q0j Q0i (.cons Qkn (.cons Z3t (.cons Qih (.cons Z9o (.nil))))) Tryz.func131 Tryz.call131 (λargs rows=>Q6n (argI args 0)) [] [] 2 (λ_ _ _=>by kernel_rfl) (λ_ _=>rfl) (λ_ _ h=>h) (λ_ X=>by kernel_rfl)
def Q5b(a:Int)(b:Int):Tree (Int×Int):=
.br (b==0) (.lf (4294967295,a)) (let T1:Tree ((Int×Int)):= .cn (decide (wrap i32 b≠0)) (.cn (decide (wrap i32 b≠0)) (.lf (wrap u32 (wrap i32 (Int.tdiv (wrap i32 a) (wrap i32 b))),wrap u32 (Int.tmod (wrap i32 a) (wrap i32 b))))); .br (a==2147483648) (.br (b==4294967295) (.lf (a,0)) T1) T1)
def Qbn(a:Int)(b:Int):(Int×Int):=(Q5b a b).m
abbrev Q7i(a:Int)(b:Int):Prop:=(Q5b a b).p
def Z6k:Q0d:=mkP 232 [] true [.one (.int .u32), .one (.int .u32)] [] (λargs rows=>Q7i (argI args 0) (argI args 1)) (λargs rows=>Qbn (argI args 0) (argI args 1)) (λX=> .tup [.int .u32 (X.1), .int .u32 (X.2)]) (λX=>[])
theorem Z1d:Q05 Tryz.prog Z6k:=Q0o Q0j Q0i (.nil) Tryz.func232 Tryz.call232 (λargs rows=>Q5b (argI args 0) (argI args 1)) [] [] 2 (λ_ _ _=>by kernel_rfl) (λ_ _=>rfl) (λ_ _ h=>h) (λ_ X=>by kernel_rfl)
def Qzj(b:Bool):Tree Int:=
.br b (.lf 1) (.lf 0)
def Qmz(b:Bool):Int:=(Qzj b).m
def Zf5:Q0d:=mkR 233 [] true [.one (.bool)] [] (λargs rows=>Qmz (argB args 0)) (λX=> .int .u32 X) (λX=>[])
theorem Z7z:Q05 Tryz.prog Zf5:=Q0y Q0j Q0i (.nil) Tryz.func233 Tryz.call233 (λargs rows=>Qzj (argB args 0)) [] [] 2 (λ_ _ _=>by kernel_rfl) (λ_ _=>rfl) (λ_ _=>Tree.free_ok (by kernel_rfl)) (λ_ X=>by kernel_rfl)
def Qf1(op:Int)(a:Int)(b:Int):Tree (Int×Bool):=
.br (op==2) (.lf (wrap u32 (a+wrap u32 (0-b)),true)) (.br (op==1) (.lf (wrap u32 (a+b),true)) (.br (op==16) (.lf (wrap u32 (a+b),true)) (.br (op==3) (.lf (iand u32 a b,true)) (.br (op==17) (.lf (iand u32 a b,true)) (.br (op==4) (.lf (ior u32 a b,true)) (.br (op==18) (.lf (ior u32 a b,true)) (.br (op==5) (.lf (ixor u32 a b,true)) (.br (op==19) (.lf (ixor u32 a b,true)) (.br (op==6) (.lf (ishl u32 a (iand u32 b 31),true)) (.br (op==20) (.lf (ishl u32 a (iand u32 b 31),true)) (.br (op==7) (.lf (ishr u32 a (iand u32 b 31),true)) (.br (op==21) (.lf (ishr u32 a (iand u32 b 31),true)) (let E1:=(wrap u32 (ishr i32 (wrap i32 a) (iand u32 b 31)),true); .br (op==8) (.lf E1) (.br (op==22) (.lf E1) (.br (op==9) (.lf (wrap u32 (a*b),true)) (.br (op==10) (.an (Q7i a b) (.lv (Qbn a b) λ(x0:Int×Int)=> .lf (x0.1,true))) (.br (op==11) (.an (Q7i a b) (.lv (Qbn a b) λ(x1:Int×Int)=> .lf (x1.2,true))) (.br (op==12) (.lv (Qmz (decide (wrap i32 a<wrap i32 b))) λ(x2:Int)=> .lf (x2,true)) (.br (op==23) (.lv (Qmz (decide (wrap i32 a<wrap i32 b))) λ(x3:Int)=> .lf (x3,true)) (.br (op==13) (.lv (Qmz (decide (a<b))) λ(x4:Int)=> .lf (x4,true)) (.lf (0,false))))))))))))))))))))))
def Q4p(op:Int)(a:Int)(b:Int):(Int×Bool):=(Qf1 op a b).m
abbrev Qe1(op:Int)(a:Int)(b:Int):Prop:=(Qf1 op a b).p
def cpu_Alu_m:Q0d:=mkP 193 [] true [.one (.int .i64), .one (.int .u32), .one (.int .u32)] [] (λargs rows=>Qe1 (argI args 0) (argI args 1) (argI args 2)) (λargs rows=>Q4p (argI args 0) (argI args 1) (argI args 2)) (λX=> .tup [.int .u32 (X.1), .bool (X.2)]) (λX=>[])
theorem Zj:Q05 Tryz.prog cpu_Alu_m:=Q0o Q0j Q0i (.cons Z1d (.cons Z7z (.nil))) Tryz.func193 Tryz.call193 (λargs rows=>Qf1 (argI args 0) (argI args 1) (argI args 2)) [] [] 2 (λ_ _ _=>by kernel_rfl) (λ_ _=>rfl) (λ_ _ h=>h) (λ_ X=>by kernel_rfl)
end
end Go.Proofs.YtpcbkbalabgnlaaGreat

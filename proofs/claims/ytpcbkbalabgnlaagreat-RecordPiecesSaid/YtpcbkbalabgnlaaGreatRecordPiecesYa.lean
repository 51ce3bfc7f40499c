/-
  Functions of the program: models, and that its calls come to them (by a program: gen3.py).
-/
import Derived.Test.YtpcbkbalabgnlaaGreatRecordPiecesBase
set_option linter.unusedVariables false
set_option linter.unusedSimpArgs false
namespace Go.Proofs.YtpcbkbalabgnlaaGreat
open Go Go.GD Go.IntKind
set_option maxRecDepth 100000
noncomputable section
def Q03(s:(List Int)):(List Int):=
s
def Q07(s:(List Int)):Prop:=
s.length≤35184372088832
def Q46(s:(List Int)):List D:=[.sl 1 (.ints .u32 s) false]
def Q2n(s:(List Int)):List Row:=[]
def Q1n(X:(List Int)):D:= .all 0
def Q1m(X:(List Int)):List Row:=[⟨false,23,1, .ints .u32 X⟩]
def Qel:List Dir:=[.row 23 1 (.ints .u32)]
def Q8c:List PT:=[.one (.ints .u32)]
def Q85:List RT:=[]
def Qfd(args:List D)(rows:List Row):(List Int):=Q03 (argL .u32 args 0)
def Qfk(args:List D)(rows:List Row):Prop:=Q07 (argL .u32 args 0)
def Qh0:Q0c:=mkP 72 [] true Q8c Q85 Qfk Qfd Q1n Q1m
def Q5j(s:(List Int))(Leaf:(List Int)→Prop):Prop:=
(s=[]→Leaf [])∧cand (decide ((4:Nat)*((0:Nat)+s.length)≤(140737488355328:Nat))) (Leaf s)
set_option maxRecDepth 100000 in
theorem Qge(s:(List Int))(Q:D→List Row→Prop):(fnVC tab [] (LL tab [] Tryz.f72.ntmps 0 [] 2) Tryz.f72 (Q46 s) (Q2n s) λd R=>Qdh (Q2n s).length Qel d R Q)=Q5j s (λX=>Q (Q1n X) (Q1m X)):=by kernel_rfl
theorem Qen(s:(List Int))(Leaf:(List Int)→Prop)(hw:Q07 s)(h:Leaf (Q03 s)):
Q5j s Leaf:=by
 delta Q5j
 refine⟨λe=>by rw[e]at h;exact h,?_⟩
 rw[Q09]
 refine⟨decide_eq_true ?_,h⟩
 have:s.length≤35184372088832:=hw
 omega
set_option maxRecDepth 100000 in
theorem Qdw(s:(List Int))(hw:Q07 s):Q5a Tryz.prog 72 (Q46 s) (Q2n s) (Q1n (Q03 s)) (Q1m (Q03 s)):=
 have hG:Q9j Tryz.prog []:= .nil
 FnOK.calls Q0i Q0j hG Tryz.func72 (Zjf Q0i Q0j hG 2 (invs:=[])) (FnOK.of (Qge s _) (Qen s (λX=>Q1n X=Q1n (Q03 s)∧Q1m X=Q1m (Q03 s)) hw ⟨rfl,rfl⟩))
set_option maxRecDepth 100000 in
theorem Qeh(args:List D)(rows:List Row):Qk2 Q8c args 0=Q46 (argL .u32 args 0):=by kernel_rfl
set_option maxRecDepth 100000 in
theorem Qdx(args:List D)(rows:List Row):Q9e Q85 rows 0=Q2n (argL .u32 args 0):=by kernel_rfl
set_option maxRecDepth 100000 in
theorem Qg5(X:(List Int)):(ffB (Q1n X)&&ffBR (Q1m X))=true:=by kernel_rfl
theorem Q0t:Q05 Tryz.prog Qh0:=Qyr Tryz.call72 (λargs rows hp=>by rw[Qeh args rows,Qdx args rows];exact Qdw (argL .u32 args 0) hp) (λ_ X=>Qg5 X)
def Q98(m:(List Int)):Tree Int:=
.br (Int.tmod (m.length:Int) (32:Int) !=(0:Int)) (.lf 0) (.br (decide ((m.length:Int)>(1024:Int))) (.lf 0) (.lf (wrap i64 (Int.tdiv (m.length:Int) 32))))
def Q0r(m:(List Int)):Int:=(Q98 m).m
def Z30:Q0c:=mkR 89 [] true [.one (.ints .u32)] [] (λargs rows=>Q0r (argL .u32 args 0)) (λX=> .int .i64 X) (λX=>[])
theorem Q4t:Q05 Tryz.prog Z30:=Q0x Q0i Q0j (.nil) Tryz.func89 Tryz.call89 (λargs rows=>Q98 (argL .u32 args 0)) [] [] 2 (λ_ _ _=>by kernel_rfl) (λ_ _=>rfl) (λ_ _=>Tree.free_ok (by kernel_rfl)) (λ_ X=>by kernel_rfl)
def Q3(m:(List Int))(addr:Int)(size:Int):Tree Bool:=
let T1:Tree (Bool):= .cn (decide (wrap u32 size≠0)) (.br (Int.tmod addr (wrap u32 size) !=0) (.lf false) (.lv (Q0r m) λ(x0:Int)=> .lf (decide (wrap u64 (wrap u64 addr+wrap u64 size)≤wrap u64 (wrap u64 x0*128))))); .br (size !=1) (.br (size !=4) (.lf false) T1) T1
def Qgp(m:(List Int))(addr:Int)(size:Int):Bool:=(Q3 m addr size).m
abbrev Q5u(m:(List Int))(addr:Int)(size:Int):Prop:=(Q3 m addr size).p
def Z0d:Q0c:=mkP 228 [] true [.one (.ints .u32), .one (.int .u32), .one (.int .i64)] [] (λargs rows=>Q5u (argL .u32 args 0) (argI args 1) (argI args 2)) (λargs rows=>Qgp (argL .u32 args 0) (argI args 1) (argI args 2)) (λX=> .bool X) (λX=>[])
theorem Qm0:Q05 Tryz.prog Z0d:=Q0k Q0i Q0j (.cons Q4t (.nil)) Tryz.func228 Tryz.call228 (λargs rows=>Q3 (argL .u32 args 0) (argI args 1) (argI args 2)) [] [] 2 (λ_ _ _=>by kernel_rfl) (λ_ _=>rfl) (λ_ _ h=>h) (λ_ X=>by kernel_rfl)
def Q9n(n:Int):Tree Int:=
.br (decide (n≥32)) (.lf 4294967295) (.cn (decide (0≤wrap u64 n)) (.lf (wrap u32 (ishl u32 1 (wrap u64 n)-1))))
def Qz1(n:Int):Int:=(Q9n n).m
abbrev Qak(n:Int):Prop:=(Q9n n).p
def Zh6:Q0c:=mkP 229 [] true [.one (.int .i64)] [] (λargs rows=>Qak (argI args 0)) (λargs rows=>Qz1 (argI args 0)) (λX=> .int .u32 X) (λX=>[])
theorem Qvp:Q05 Tryz.prog Zh6:=Q0k Q0i Q0j (.nil) Tryz.func229 Tryz.call229 (λargs rows=>Q9n (argI args 0)) [] [] 2 (λ_ _ _=>by kernel_rfl) (λ_ _=>rfl) (λ_ _ h=>h) (λ_ X=>by kernel_rfl)
def Q8a(w:Int)(low:Int)(n:Int):Tree Int:=
.br (decide (low<0)) (.lf 0) (.br (decide (low>31)) (.lf 0) (.br (decide (n<1)) (.lf 0) (.cn (decide (0≤wrap u64 low)) (.an (Qak n) (.lv (Qz1 n) λ(x0:Int)=> .lf (iand u32 (ishr u32 w (wrap u64 low)) x0))))))
def Q38(w:Int)(low:Int)(n:Int):Int:=(Q8a w low n).m
abbrev Q3h(w:Int)(low:Int)(n:Int):Prop:=(Q8a w low n).p
def Ze7:Q0c:=mkP 183 [] true [.one (.int .u32), .one (.int .i64), .one (.int .i64)] [] (λargs rows=>Q3h (argI args 0) (argI args 1) (argI args 2)) (λargs rows=>Q38 (argI args 0) (argI args 1) (argI args 2)) (λX=> .int .u32 X) (λX=>[])
theorem Qlt:Q05 Tryz.prog Ze7:=Q0k Q0i Q0j (.cons Qvp (.nil)) Tryz.func183 Tryz.call183 (λargs rows=>Q8a (argI args 0) (argI args 1) (argI args 2)) [] [] 2 (λ_ _ _=>by kernel_rfl) (λ_ _=>rfl) (λ_ _ h=>h) (λ_ X=>by kernel_rfl)
def Q4l(w:Int)(low:Int)(n:Int)(v:Int):Tree Int:=
.br (decide (low<0)) (.lf w) (.br (decide (low>31)) (.lf w) (.br (decide (n<1)) (.lf w) (.an (Qak n) (.lv (Qz1 n) λ(x0:Int)=> .cn (decide (0≤wrap u64 low)) (.cn (decide (0≤wrap u64 low)) (.lf (ior u32 (Qgn u32 w (ishl u32 x0 (wrap u64 low))) (ishl u32 (iand u32 v x0) (wrap u64 low)))))))))
def Q8g(w:Int)(low:Int)(n:Int)(v:Int):Int:=(Q4l w low n v).m
abbrev Q7w(w:Int)(low:Int)(n:Int)(v:Int):Prop:=(Q4l w low n v).p
def Z1p:Q0c:=mkP 231 [] true [.one (.int .u32), .one (.int .i64), .one (.int .i64), .one (.int .u32)] [] (λargs rows=>Q7w (argI args 0) (argI args 1) (argI args 2) (argI args 3)) (λargs rows=>Q8g (argI args 0) (argI args 1) (argI args 2) (argI args 3)) (λX=> .int .u32 X) (λX=>[])
theorem Qy2:Q05 Tryz.prog Z1p:=Q0k Q0i Q0j (.cons Qvp (.nil)) Tryz.func231 Tryz.call231 (λargs rows=>Q4l (argI args 0) (argI args 1) (argI args 2) (argI args 3)) [] [] 2 (λ_ _ _=>by kernel_rfl) (λ_ _=>rfl) (λ_ _ h=>h) (λ_ X=>by kernel_rfl)
def Q4g(m:(List Int))(addr:Int)(size:Int)(v:Int):Tree ((List Int)×Bool):=
.an (Q07 m) (.lv (Q03 m) λ(x0:List Int)=> .an (Q5u m addr size) (.lv (Qgp m addr size) λ(x1:Bool)=> .br (!x1) (.lf (x0,false)) (let E1:=Nat.beq 1 1&&Nat.blt 0 1&&decide (0≤wrap u32 (Int.tdiv addr 4)∧wrap u32 (Int.tdiv addr 4)<(x0.length:Int));let E2:=Int.toNat (wrap u32 (Int.tdiv addr 4)); .br (size==1) (.cn E1 (let E3:=wrap i64 (wrap i64 (Int.tmod addr 4)*8); .an (Q7w (x0.getD E2 0) E3 8 v) (.lv (Q8g (x0.getD E2 0) E3 8 v) λ(x2:Int)=> .cn E1 (.lf (List.set x0 E2 x2,true))))) (.cn E1 (.lf (List.set x0 E2 v,true))))))
def Qa1(m:(List Int))(addr:Int)(size:Int)(v:Int):((List Int)×Bool):=(Q4g m addr size v).m
abbrev Q51(m:(List Int))(addr:Int)(size:Int)(v:Int):Prop:=(Q4g m addr size v).p
def Z40:Q0c:=mkP 189 [] true [.one (.ints .u32), .one (.int .u32), .one (.int .i64), .one (.int .u32)] [] (λargs rows=>Q51 (argL .u32 args 0) (argI args 1) (argI args 2) (argI args 3)) (λargs rows=>Qa1 (argL .u32 args 0) (argI args 1) (argI args 2) (argI args 3)) (λX=> .tup [.all 0, .bool (X.2)]) (λX=>[⟨false,23,1, .ints .u32 (X.1)⟩])
theorem Qms:Q05 Tryz.prog Z40:=Q0k Q0i Q0j (.cons Q0t (.cons Qm0 (.cons Qy2 (.nil)))) Tryz.func189 Tryz.call189 (λargs rows=>Q4g (argL .u32 args 0) (argI args 1) (argI args 2) (argI args 3)) [.row 23 1 (.ints .u32)] [] 2 (λ_ _ _=>by kernel_rfl) (λ_ _=>rfl) (λ_ _ h=>h) (λ_ X=>by kernel_rfl)
def Zap(op:Int):Tree (Q9g×Bool):=
.br (op==1) (.lf ({a:=true,b:=true,c:=true,low:=0,D4:=0},true)) (.br (op==2) (.lf ({a:=true,b:=true,c:=true,low:=0,D4:=0},true)) (.br (op==3) (.lf ({a:=true,b:=true,c:=true,low:=0,D4:=0},true)) (.br (op==4) (.lf ({a:=true,b:=true,c:=true,low:=0,D4:=0},true)) (.br (op==5) (.lf ({a:=true,b:=true,c:=true,low:=0,D4:=0},true)) (.br (op==6) (.lf ({a:=true,b:=true,c:=true,low:=0,D4:=0},true)) (.br (op==7) (.lf ({a:=true,b:=true,c:=true,low:=0,D4:=0},true)) (.br (op==8) (.lf ({a:=true,b:=true,c:=true,low:=0,D4:=0},true)) (.br (op==9) (.lf ({a:=true,b:=true,c:=true,low:=0,D4:=0},true)) (.br (op==10) (.lf ({a:=true,b:=true,c:=true,low:=0,D4:=0},true)) (.br (op==11) (.lf ({a:=true,b:=true,c:=true,low:=0,D4:=0},true)) (.br (op==12) (.lf ({a:=true,b:=true,c:=true,low:=0,D4:=0},true)) (.br (op==13) (.lf ({a:=true,b:=true,c:=true,low:=0,D4:=0},true)) (.br (op==16) (.lf ({a:=true,b:=true,c:=false,low:=(-32768),D4:=32767},true)) (.br (op==23) (.lf ({a:=true,b:=true,c:=false,low:=(-32768),D4:=32767},true)) (.br (op==32) (.lf ({a:=true,b:=true,c:=false,low:=(-32768),D4:=32767},true)) (.br (op==33) (.lf ({a:=true,b:=true,c:=false,low:=(-32768),D4:=32767},true)) (.br (op==34) (.lf ({a:=true,b:=true,c:=false,low:=(-32768),D4:=32767},true)) (.br (op==35) (.lf ({a:=true,b:=true,c:=false,low:=(-32768),D4:=32767},true)) (.br (op==36) (.lf ({a:=true,b:=true,c:=false,low:=(-32768),D4:=32767},true)) (.br (op==40) (.lf ({a:=true,b:=true,c:=false,low:=(-32768),D4:=32767},true)) (.br (op==41) (.lf ({a:=true,b:=true,c:=false,low:=(-32768),D4:=32767},true)) (.br (op==42) (.lf ({a:=true,b:=true,c:=false,low:=(-32768),D4:=32767},true)) (.br (op==43) (.lf ({a:=true,b:=true,c:=false,low:=(-32768),D4:=32767},true)) (.br (op==44) (.lf ({a:=true,b:=true,c:=false,low:=(-32768),D4:=32767},true)) (.br (op==45) (.lf ({a:=true,b:=true,c:=false,low:=(-32768),D4:=32767},true)) (.br (op==49) (.lf ({a:=true,b:=true,c:=false,low:=(-32768),D4:=32767},true)) (.br (op==17) (.lf ({a:=true,b:=true,c:=false,low:=0,D4:=65535},true)) (.br (op==18) (.lf ({a:=true,b:=true,c:=false,low:=0,D4:=65535},true)) (.br (op==19) (.lf ({a:=true,b:=true,c:=false,low:=0,D4:=65535},true)) (.br (op==20) (.lf ({a:=true,b:=true,c:=false,low:=0,D4:=31},true)) (.br (op==21) (.lf ({a:=true,b:=true,c:=false,low:=0,D4:=31},true)) (.br (op==22) (.lf ({a:=true,b:=true,c:=false,low:=0,D4:=31},true)) (.br (op==24) (.lf ({a:=true,b:=false,c:=false,low:=0,D4:=65535},true)) (.br (op==48) (.lf ({a:=true,b:=false,c:=false,low:=(-32768),D4:=32767},true)) (.br (op==58) (.lf ({a:=true,b:=false,c:=false,low:=0,D4:=7},true)) (.br (op==59) (.lf ({a:=true,b:=false,c:=false,low:=0,D4:=7},true)) (.br (op==60) (.lf ({a:=true,b:=false,c:=false,low:=0,D4:=11},true)) (.br (op==61) (.lf ({a:=true,b:=false,c:=false,low:=0,D4:=11},true)) (.br (op==56) (.lf ({a:=false,b:=false,c:=false,low:=0,D4:=0},true)) (.br (op==57) (.lf ({a:=false,b:=false,c:=false,low:=0,D4:=0},true)) (.br (op==62) (.lf ({a:=false,b:=false,c:=false,low:=0,D4:=0},true)) (.br (op==63) (.lf ({a:=false,b:=false,c:=false,low:=0,D4:=0},true)) (.br (op==64) (.lf ({a:=false,b:=false,c:=false,low:=0,D4:=0},true)) (.lf ({a:=false,b:=false,c:=false,low:=0,D4:=0},false)))))))))))))))))))))))))))))))))))))))))))))
def Z0y(op:Int):(Q9g×Bool):=(Zap op).m
def isa_use_m:Q0c:=mkR 184 [] true [.one (.int .i64)] [] (λargs rows=>Z0y (argI args 0)) (λX=> .tup [.agg (Q9g.cells (X.1)), .bool (X.2)]) (λX=>[])
theorem Z4o:Q05 Tryz.prog isa_use_m:=Q0x Q0i Q0j (.nil) Tryz.func184 Tryz.call184 (λargs rows=>Zap (argI args 0)) [] [] 2 (λ_ _ _=>by kernel_rfl) (λ_ _=>rfl) (λ_ _=>Tree.free_ok (by kernel_rfl)) (λ_ X=>by kernel_rfl)
def Q3c(x:Int)(n:Int):Tree Int:=
.br (decide (n<1)) (.lf 0) (.br (decide (n≥32)) (.lf x) (let E1:=decide (0≤wrap u64 (wrap i64 (32-n))); .cn E1 (.cn E1 (.lf (wrap u32 (ishr i32 (wrap i32 (ishl u32 x (wrap u64 (wrap i64 (32-n))))) (wrap u64 (wrap i64 (32-n)))))))))
def Q2g(x:Int)(n:Int):Int:=(Q3c x n).m
abbrev Q43(x:Int)(n:Int):Prop:=(Q3c x n).p
def Qty:Q0c:=mkP 185 [] true [.one (.int .u32), .one (.int .i64)] [] (λargs rows=>Q43 (argI args 0) (argI args 1)) (λargs rows=>Q2g (argI args 0) (argI args 1)) (λX=> .int .u32 X) (λX=>[])
theorem Qje:Q05 Tryz.prog Qty:=Q0k Q0i Q0j (.nil) Tryz.func185 Tryz.call185 (λargs rows=>Q3c (argI args 0) (argI args 1)) [] [] 2 (λ_ _ _=>by kernel_rfl) (λ_ _=>rfl) (λ_ _ h=>h) (λ_ X=>by kernel_rfl)
def Qf0(r:Int)(used:Bool):Tree Bool:=
.br used (.br (decide (r≥0)) (.lf (decide (r≤15))) (.lf false)) (.lf (r==0))
def Qa8(r:Int)(used:Bool):Bool:=(Qf0 r used).m
def Z3o:Q0c:=mkR 230 [] true [.one (.int .i64), .one (.bool)] [] (λargs rows=>Qa8 (argI args 0) (argB args 1)) (λX=> .bool X) (λX=>[])
theorem Z1i:Q05 Tryz.prog Z3o:=Q0x Q0i Q0j (.nil) Tryz.func230 Tryz.call230 (λargs rows=>Qf0 (argI args 0) (argB args 1)) [] [] 2 (λ_ _ _=>by kernel_rfl) (λ_ _=>rfl) (λ_ _=>Tree.free_ok (by kernel_rfl)) (λ_ X=>by kernel_rfl)
def Qih(i:Q0h):Tree Bool:=
.lv (Z0y i.Op) λ(x0:Q9g×Bool)=> .br x0.2 (.lv (Qa8 i.A x0.1.a) λ(x1:Bool)=> .br x1 (.lv (Qa8 i.B x0.1.b) λ(x2:Bool)=> .br x2 (.lv (Qa8 i.C x0.1.c) λ(x3:Bool)=> .br x3 (.br (decide (i.Imm≥x0.1.low)) (.lf (decide (i.Imm≤x0.1.D4))) (.lf false)) (.lf false)) (.lf false)) (.lf false)) (.lf false)
def Qfr(i:Q0h):Bool:=(Qih i).m
def Zf3:Q0c:=mkR 186 [] true [.agg Q0h.sig] [] (λargs rows=>Qfr (Q0h.of (args.getD 0 .dead).cells)) (λX=> .bool X) (λX=>[])
theorem Zbq:Q05 Tryz.prog Zf3:=Q0x Q0i Q0j (.cons Z4o (.cons Z1i (.nil))) Tryz.func186 Tryz.call186 (λargs rows=>Qih (Q0h.of (args.getD 0 .dead).cells)) [] [] 2 (λ_ _ _=>by kernel_rfl) (λ_ _=>rfl) (λ_ _=>Tree.free_ok (by kernel_rfl)) (λ_ X=>by kernel_rfl)
def Q6z(w:Int):Tree (Q0h×Bool):=
.an (Q3h w 24 8) (.lv (Q38 w 24 8) λ(x0:Int)=> .an (Q3h w 20 4) (.lv (Q38 w 20 4) λ(x1:Int)=> .an (Q3h w 16 4) (.lv (Q38 w 16 4) λ(x2:Int)=> .lv (Z0y (wrap i64 x0)) λ(x3:Q9g×Bool)=>let E1:=({Op:=0,A:=0,B:=0,C:=0,Imm:=0}:Q0h); .br (!x3.2) (.lf (E1,false)) (.an (Q3h w 0 16) (.lv (Q38 w 0 16) λ(x4:Int)=> .br x3.1.c (let E2:=({Op:=wrap i64 x0,A:=wrap i64 x1,B:=wrap i64 x2,C:=wrap i64 x4,Imm:=0}:Q0h); .lv (Qfr E2) λ(x5:Bool)=> .br (!x5) (.lf (E1,false)) (.lf (E2,true))) (.br (decide (x3.1.low<0)) (.an (Q43 x4 16) (.lv (Q2g x4 16) λ(x6:Int)=>let E3:=({Op:=wrap i64 x0,A:=wrap i64 x1,B:=wrap i64 x2,C:=0,Imm:=wrap i32 x6}:Q0h); .lv (Qfr E3) λ(x7:Bool)=> .br (!x7) (.lf (E1,false)) (.lf (E3,true)))) (let E4:=({Op:=wrap i64 x0,A:=wrap i64 x1,B:=wrap i64 x2,C:=0,Imm:=wrap i32 x4}:Q0h); .lv (Qfr E4) λ(x8:Bool)=> .br (!x8) (.lf (E1,false)) (.lf (E4,true)))))))))
def Qh2(w:Int):(Q0h×Bool):=(Q6z w).m
abbrev Qbe(w:Int):Prop:=(Q6z w).p
def Za0:Q0c:=mkP 131 [] true [.one (.int .u32)] [] (λargs rows=>Qbe (argI args 0)) (λargs rows=>Qh2 (argI args 0)) (λX=> .tup [.agg (Q0h.cells (X.1)), .bool (X.2)]) (λX=>[])
theorem Z6t:Q05 Tryz.prog Za0:=Q0k Q0i Q0j (.cons Qlt (.cons Z4o (.cons Qje (.cons Zbq (.nil))))) Tryz.func131 Tryz.call131 (λargs rows=>Q6z (argI args 0)) [] [] 2 (λ_ _ _=>by kernel_rfl) (λ_ _=>rfl) (λ_ _ h=>h) (λ_ X=>by kernel_rfl)
def Q5c(a:Int)(b:Int):Tree (Int×Int):=
.br (b==0) (.lf (4294967295,a)) (let T1:Tree ((Int×Int)):= .cn (decide (wrap i32 b≠0)) (.cn (decide (wrap i32 b≠0)) (.lf (wrap u32 (wrap i32 (Int.tdiv (wrap i32 a) (wrap i32 b))),wrap u32 (Int.tmod (wrap i32 a) (wrap i32 b))))); .br (a==2147483648) (.br (b==4294967295) (.lf (a,0)) T1) T1)
def Qcc(a:Int)(b:Int):(Int×Int):=(Q5c a b).m
abbrev Q7x(a:Int)(b:Int):Prop:=(Q5c a b).p
def Z6s:Q0c:=mkP 232 [] true [.one (.int .u32), .one (.int .u32)] [] (λargs rows=>Q7x (argI args 0) (argI args 1)) (λargs rows=>Qcc (argI args 0) (argI args 1)) (λX=> .tup [.int .u32 (X.1), .int .u32 (X.2)]) (λX=>[])
theorem Z38:Q05 Tryz.prog Z6s:=Q0k Q0i Q0j (.nil) Tryz.func232 Tryz.call232 (λargs rows=>Q5c (argI args 0) (argI args 1)) [] [] 2 (λ_ _ _=>by kernel_rfl) (λ_ _=>rfl) (λ_ _ h=>h) (λ_ X=>by kernel_rfl)
def Z0c(b:Bool):Tree Int:=
.br b (.lf 1) (.lf 0)
def Qnk(b:Bool):Int:=(Z0c b).m
def Zge:Q0c:=mkR 233 [] true [.one (.bool)] [] (λargs rows=>Qnk (argB args 0)) (λX=> .int .u32 X) (λX=>[])
theorem Zd:Q05 Tryz.prog Zge:=Q0x Q0i Q0j (.nil) Tryz.func233 Tryz.call233 (λargs rows=>Z0c (argB args 0)) [] [] 2 (λ_ _ _=>by kernel_rfl) (λ_ _=>rfl) (λ_ _=>Tree.free_ok (by kernel_rfl)) (λ_ X=>by kernel_rfl)
def Qf8(op:Int)(a:Int)(b:Int):Tree (Int×Bool):=
.br (op==2) (.lf (wrap u32 (a+wrap u32 (0-b)),true)) (.br (op==1) (.lf (wrap u32 (a+b),true)) (.br (op==16) (.lf (wrap u32 (a+b),true)) (.br (op==3) (.lf (iand u32 a b,true)) (.br (op==17) (.lf (iand u32 a b,true)) (.br (op==4) (.lf (ior u32 a b,true)) (.br (op==18) (.lf (ior u32 a b,true)) (.br (op==5) (.lf (ixor u32 a b,true)) (.br (op==19) (.lf (ixor u32 a b,true)) (.br (op==6) (.lf (ishl u32 a (iand u32 b 31),true)) (.br (op==20) (.lf (ishl u32 a (iand u32 b 31),true)) (.br (op==7) (.lf (ishr u32 a (iand u32 b 31),true)) (.br (op==21) (.lf (ishr u32 a (iand u32 b 31),true)) (let E1:=(wrap u32 (ishr i32 (wrap i32 a) (iand u32 b 31)),true); .br (op==8) (.lf E1) (.br (op==22) (.lf E1) (.br (op==9) (.lf (wrap u32 (a*b),true)) (.br (op==10) (.an (Q7x a b) (.lv (Qcc a b) λ(x0:Int×Int)=> .lf (x0.1,true))) (.br (op==11) (.an (Q7x a b) (.lv (Qcc a b) λ(x1:Int×Int)=> .lf (x1.2,true))) (.br (op==12) (.lv (Qnk (decide (wrap i32 a<wrap i32 b))) λ(x2:Int)=> .lf (x2,true)) (.br (op==23) (.lv (Qnk (decide (wrap i32 a<wrap i32 b))) λ(x3:Int)=> .lf (x3,true)) (.br (op==13) (.lv (Qnk (decide (a<b))) λ(x4:Int)=> .lf (x4,true)) (.lf (0,false))))))))))))))))))))))
def Q4j(op:Int)(a:Int)(b:Int):(Int×Bool):=(Qf8 op a b).m
abbrev Qef(op:Int)(a:Int)(b:Int):Prop:=(Qf8 op a b).p
def cpu_Alu_m:Q0c:=mkP 193 [] true [.one (.int .i64), .one (.int .u32), .one (.int .u32)] [] (λargs rows=>Qef (argI args 0) (argI args 1) (argI args 2)) (λargs rows=>Q4j (argI args 0) (argI args 1) (argI args 2)) (λX=> .tup [.int .u32 (X.1), .bool (X.2)]) (λX=>[])
theorem Zjp:Q05 Tryz.prog cpu_Alu_m:=Q0k Q0i Q0j (.cons Z38 (.cons Zd (.nil))) Tryz.func193 Tryz.call193 (λargs rows=>Qf8 (argI args 0) (argI args 1) (argI args 2)) [] [] 2 (λ_ _ _=>by kernel_rfl) (λ_ _=>rfl) (λ_ _ h=>h) (λ_ X=>by kernel_rfl)
end
end Go.Proofs.YtpcbkbalabgnlaaGreat

/-
  Functions of the program: models, and that its calls come to them (by a program: gen3.py).
-/
import Derived.Test.YtpcbkbalabgnlaaGreatRecordOrderedBase
set_option linter.unusedVariables false
set_option linter.unusedSimpArgs false
namespace Go.Proofs.YtpcbkbalabgnlaaGreat
open Go Go.GD Go.IntKind
set_option maxRecDepth 100000
noncomputable section
def Q02(s:(List Int)):(List Int):=
s
def Q04(s:(List Int)):Prop:=
s.length≤35184372088832
def Q41(s:(List Int)):List D:=[.sl 1 (.ints .u32 s) false]
def Q2o(s:(List Int)):List Row:=[]
def Q1m(X:(List Int)):D:= .all 0
def Q1n(X:(List Int)):List Row:=[⟨false,23,1, .ints .u32 X⟩]
def Qe4:List Dir:=[.row 23 1 (.ints .u32)]
def Q7z:List PT:=[.one (.ints .u32)]
def Q7k:List RT:=[]
def Qf2(args:List D)(rows:List Row):(List Int):=Q02 (argL .u32 args 0)
def Qf5(args:List D)(rows:List Row):Prop:=Q04 (argL .u32 args 0)
def Qfz:Q0d:=mkP 72 [] true Q7z Q7k Qf5 Qf2 Q1m Q1n
def Q5b(s:(List Int))(Leaf:(List Int)→Prop):Prop:=
(s=[]→Leaf [])∧cand (decide ((4:Nat)*((0:Nat)+s.length)≤(140737488355328:Nat))) (Leaf s)
set_option maxRecDepth 100000 in
theorem Qfe(s:(List Int))(Q:D→List Row→Prop):(fnVC tab [] (LL tab [] Tryz.f72.ntmps 0 [] 2) Tryz.f72 (Q41 s) (Q2o s) λd R=>Qcl (Q2o s).length Qe4 d R Q)=Q5b s (λX=>Q (Q1m X) (Q1n X)):=by kernel_rfl
theorem Qdu(s:(List Int))(Leaf:(List Int)→Prop)(hw:Q04 s)(h:Leaf (Q02 s)):
Q5b s Leaf:=by
 delta Q5b
 refine⟨λe=>by rw[e]at h;exact h,?_⟩
 rw[Q08]
 refine⟨decide_eq_true ?_,h⟩
 have:s.length≤35184372088832:=hw
 omega
set_option maxRecDepth 100000 in
theorem Qdc(s:(List Int))(hw:Q04 s):Q55 Tryz.prog 72 (Q41 s) (Q2o s) (Q1m (Q02 s)) (Q1n (Q02 s)):=
 have hG:Q98 Tryz.prog []:= .nil
 FnOK.calls Q0i Q0j hG Tryz.func72 (Zio Q0i Q0j hG 2 (invs:=[])) (FnOK.of (Qfe s _) (Qdu s (λX=>Q1m X=Q1m (Q02 s)∧Q1n X=Q1n (Q02 s)) hw ⟨rfl,rfl⟩))
set_option maxRecDepth 100000 in
theorem Qdn(args:List D)(rows:List Row):Qju Q7z args 0=Q41 (argL .u32 args 0):=by kernel_rfl
set_option maxRecDepth 100000 in
theorem Qdd(args:List D)(rows:List Row):Q92 Q7k rows 0=Q2o (argL .u32 args 0):=by kernel_rfl
set_option maxRecDepth 100000 in
theorem Qfn(X:(List Int)):(ffB (Q1m X)&&ffBR (Q1n X))=true:=by kernel_rfl
theorem Q0s:Q05 Tryz.prog Qfz:=Z0c Tryz.call72 (λargs rows hp=>by rw[Qdn args rows,Qdd args rows];exact Qdc (argL .u32 args 0) hp) (λ_ X=>Qfn X)
def Q8x(m:(List Int)):Tree Int:=
.br (Int.tmod (m.length:Int) (32:Int) !=(0:Int)) (.lf 0) (.br (decide ((m.length:Int)>(1024:Int))) (.lf 0) (.lf (wrap i64 (Int.tdiv (m.length:Int) 32))))
def Q0r(m:(List Int)):Int:=(Q8x m).m
def Z1s:Q0d:=mkR 89 [] true [.one (.ints .u32)] [] (λargs rows=>Q0r (argL .u32 args 0)) (λX=> .int .i64 X) (λX=>[])
theorem Q4l:Q05 Tryz.prog Z1s:=Q0z Q0i Q0j (.nil) Tryz.func89 Tryz.call89 (λargs rows=>Q8x (argL .u32 args 0)) [] [] 2 (λ_ _ _=>by kernel_rfl) (λ_ _=>rfl) (λ_ _=>Tree.free_ok (by kernel_rfl)) (λ_ X=>by kernel_rfl)
def Q3(m:(List Int))(addr:Int)(size:Int):Tree Bool:=
let T1:Tree (Bool):= .cn (decide (wrap u32 size≠0)) (.br (Int.tmod addr (wrap u32 size) !=0) (.lf false) (.lv (Q0r m) λ(x0:Int)=> .lf (decide (wrap u64 (wrap u64 addr+wrap u64 size)≤wrap u64 (wrap u64 x0*128))))); .br (size !=1) (.br (size !=4) (.lf false) T1) T1
def Qg7(m:(List Int))(addr:Int)(size:Int):Bool:=(Q3 m addr size).m
abbrev Q5s(m:(List Int))(addr:Int)(size:Int):Prop:=(Q3 m addr size).p
def Qyz:Q0d:=mkP 228 [] true [.one (.ints .u32), .one (.int .u32), .one (.int .i64)] [] (λargs rows=>Q5s (argL .u32 args 0) (argI args 1) (argI args 2)) (λargs rows=>Qg7 (argL .u32 args 0) (argI args 1) (argI args 2)) (λX=> .bool X) (λX=>[])
theorem Qll:Q05 Tryz.prog Qyz:=Q0n Q0i Q0j (.cons Q4l (.nil)) Tryz.func228 Tryz.call228 (λargs rows=>Q3 (argL .u32 args 0) (argI args 1) (argI args 2)) [] [] 2 (λ_ _ _=>by kernel_rfl) (λ_ _=>rfl) (λ_ _ h=>h) (λ_ X=>by kernel_rfl)
def Q9b(n:Int):Tree Int:=
.br (decide (n≥32)) (.lf 4294967295) (.cn (decide (0≤wrap u64 n)) (.lf (wrap u32 (ishl u32 1 (wrap u64 n)-1))))
def Qzb(n:Int):Int:=(Q9b n).m
abbrev Qab(n:Int):Prop:=(Q9b n).p
def Zea:Q0d:=mkP 229 [] true [.one (.int .i64)] [] (λargs rows=>Qab (argI args 0)) (λargs rows=>Qzb (argI args 0)) (λX=> .int .u32 X) (λX=>[])
theorem Quq:Q05 Tryz.prog Zea:=Q0n Q0i Q0j (.nil) Tryz.func229 Tryz.call229 (λargs rows=>Q9b (argI args 0)) [] [] 2 (λ_ _ _=>by kernel_rfl) (λ_ _=>rfl) (λ_ _ h=>h) (λ_ X=>by kernel_rfl)
def Q80(w:Int)(low:Int)(n:Int):Tree Int:=
.br (decide (low<0)) (.lf 0) (.br (decide (low>31)) (.lf 0) (.br (decide (n<1)) (.lf 0) (.cn (decide (0≤wrap u64 low)) (.an (Qab n) (.lv (Qzb n) λ(x0:Int)=> .lf (iand u32 (ishr u32 w (wrap u64 low)) x0))))))
def Q39(w:Int)(low:Int)(n:Int):Int:=(Q80 w low n).m
abbrev Q3h(w:Int)(low:Int)(n:Int):Prop:=(Q80 w low n).p
def Zb3:Q0d:=mkP 183 [] true [.one (.int .u32), .one (.int .i64), .one (.int .i64)] [] (λargs rows=>Q3h (argI args 0) (argI args 1) (argI args 2)) (λargs rows=>Q39 (argI args 0) (argI args 1) (argI args 2)) (λX=> .int .u32 X) (λX=>[])
theorem Ql:Q05 Tryz.prog Zb3:=Q0n Q0i Q0j (.cons Quq (.nil)) Tryz.func183 Tryz.call183 (λargs rows=>Q80 (argI args 0) (argI args 1) (argI args 2)) [] [] 2 (λ_ _ _=>by kernel_rfl) (λ_ _=>rfl) (λ_ _ h=>h) (λ_ X=>by kernel_rfl)
def Q4j(w:Int)(low:Int)(n:Int)(v:Int):Tree Int:=
.br (decide (low<0)) (.lf w) (.br (decide (low>31)) (.lf w) (.br (decide (n<1)) (.lf w) (.an (Qab n) (.lv (Qzb n) λ(x0:Int)=> .cn (decide (0≤wrap u64 low)) (.cn (decide (0≤wrap u64 low)) (.lf (ior u32 (Qg u32 w (ishl u32 x0 (wrap u64 low))) (ishl u32 (iand u32 v x0) (wrap u64 low)))))))))
def Q8g(w:Int)(low:Int)(n:Int)(v:Int):Int:=(Q4j w low n v).m
abbrev Q7n(w:Int)(low:Int)(n:Int)(v:Int):Prop:=(Q4j w low n v).p
def Qz7:Q0d:=mkP 231 [] true [.one (.int .u32), .one (.int .i64), .one (.int .i64), .one (.int .u32)] [] (λargs rows=>Q7n (argI args 0) (argI args 1) (argI args 2) (argI args 3)) (λargs rows=>Q8g (argI args 0) (argI args 1) (argI args 2) (argI args 3)) (λX=> .int .u32 X) (λX=>[])
theorem Qvh:Q05 Tryz.prog Qz7:=Q0n Q0i Q0j (.cons Quq (.nil)) Tryz.func231 Tryz.call231 (λargs rows=>Q4j (argI args 0) (argI args 1) (argI args 2) (argI args 3)) [] [] 2 (λ_ _ _=>by kernel_rfl) (λ_ _=>rfl) (λ_ _ h=>h) (λ_ X=>by kernel_rfl)
def Q4b(m:(List Int))(addr:Int)(size:Int)(v:Int):Tree ((List Int)×Bool):=
.an (Q04 m) (.lv (Q02 m) λ(x0:List Int)=> .an (Q5s m addr size) (.lv (Qg7 m addr size) λ(x1:Bool)=> .br (!x1) (.lf (x0,false)) (let E1:=Nat.beq 1 1&&Nat.blt 0 1&&decide (0≤wrap u32 (Int.tdiv addr 4)∧wrap u32 (Int.tdiv addr 4)<(x0.length:Int));let E2:=Int.toNat (wrap u32 (Int.tdiv addr 4)); .br (size==1) (.cn E1 (let E3:=wrap i64 (wrap i64 (Int.tmod addr 4)*8); .an (Q7n (x0.getD E2 0) E3 8 v) (.lv (Q8g (x0.getD E2 0) E3 8 v) λ(x2:Int)=> .cn E1 (.lf (List.set x0 E2 x2,true))))) (.cn E1 (.lf (List.set x0 E2 v,true))))))
def Q9q(m:(List Int))(addr:Int)(size:Int)(v:Int):((List Int)×Bool):=(Q4b m addr size v).m
abbrev Q52(m:(List Int))(addr:Int)(size:Int)(v:Int):Prop:=(Q4b m addr size v).p
def Z1k:Q0d:=mkP 189 [] true [.one (.ints .u32), .one (.int .u32), .one (.int .i64), .one (.int .u32)] [] (λargs rows=>Q52 (argL .u32 args 0) (argI args 1) (argI args 2) (argI args 3)) (λargs rows=>Q9q (argL .u32 args 0) (argI args 1) (argI args 2) (argI args 3)) (λX=> .tup [.all 0, .bool (X.2)]) (λX=>[⟨false,23,1, .ints .u32 (X.1)⟩])
theorem Qn7:Q05 Tryz.prog Z1k:=Q0n Q0i Q0j (.cons Q0s (.cons Qll (.cons Qvh (.nil)))) Tryz.func189 Tryz.call189 (λargs rows=>Q4b (argL .u32 args 0) (argI args 1) (argI args 2) (argI args 3)) [.row 23 1 (.ints .u32)] [] 2 (λ_ _ _=>by kernel_rfl) (λ_ _=>rfl) (λ_ _ h=>h) (λ_ X=>by kernel_rfl)
def Z8n(op:Int):Tree (Q97×Bool):=
.br (op==1) (.lf ({a:=true,b:=true,c:=true,low:=0,D4:=0},true)) (.br (op==2) (.lf ({a:=true,b:=true,c:=true,low:=0,D4:=0},true)) (.br (op==3) (.lf ({a:=true,b:=true,c:=true,low:=0,D4:=0},true)) (.br (op==4) (.lf ({a:=true,b:=true,c:=true,low:=0,D4:=0},true)) (.br (op==5) (.lf ({a:=true,b:=true,c:=true,low:=0,D4:=0},true)) (.br (op==6) (.lf ({a:=true,b:=true,c:=true,low:=0,D4:=0},true)) (.br (op==7) (.lf ({a:=true,b:=true,c:=true,low:=0,D4:=0},true)) (.br (op==8) (.lf ({a:=true,b:=true,c:=true,low:=0,D4:=0},true)) (.br (op==9) (.lf ({a:=true,b:=true,c:=true,low:=0,D4:=0},true)) (.br (op==10) (.lf ({a:=true,b:=true,c:=true,low:=0,D4:=0},true)) (.br (op==11) (.lf ({a:=true,b:=true,c:=true,low:=0,D4:=0},true)) (.br (op==12) (.lf ({a:=true,b:=true,c:=true,low:=0,D4:=0},true)) (.br (op==13) (.lf ({a:=true,b:=true,c:=true,low:=0,D4:=0},true)) (.br (op==16) (.lf ({a:=true,b:=true,c:=false,low:=(-32768),D4:=32767},true)) (.br (op==23) (.lf ({a:=true,b:=true,c:=false,low:=(-32768),D4:=32767},true)) (.br (op==32) (.lf ({a:=true,b:=true,c:=false,low:=(-32768),D4:=32767},true)) (.br (op==33) (.lf ({a:=true,b:=true,c:=false,low:=(-32768),D4:=32767},true)) (.br (op==34) (.lf ({a:=true,b:=true,c:=false,low:=(-32768),D4:=32767},true)) (.br (op==35) (.lf ({a:=true,b:=true,c:=false,low:=(-32768),D4:=32767},true)) (.br (op==36) (.lf ({a:=true,b:=true,c:=false,low:=(-32768),D4:=32767},true)) (.br (op==40) (.lf ({a:=true,b:=true,c:=false,low:=(-32768),D4:=32767},true)) (.br (op==41) (.lf ({a:=true,b:=true,c:=false,low:=(-32768),D4:=32767},true)) (.br (op==42) (.lf ({a:=true,b:=true,c:=false,low:=(-32768),D4:=32767},true)) (.br (op==43) (.lf ({a:=true,b:=true,c:=false,low:=(-32768),D4:=32767},true)) (.br (op==44) (.lf ({a:=true,b:=true,c:=false,low:=(-32768),D4:=32767},true)) (.br (op==45) (.lf ({a:=true,b:=true,c:=false,low:=(-32768),D4:=32767},true)) (.br (op==49) (.lf ({a:=true,b:=true,c:=false,low:=(-32768),D4:=32767},true)) (.br (op==17) (.lf ({a:=true,b:=true,c:=false,low:=0,D4:=65535},true)) (.br (op==18) (.lf ({a:=true,b:=true,c:=false,low:=0,D4:=65535},true)) (.br (op==19) (.lf ({a:=true,b:=true,c:=false,low:=0,D4:=65535},true)) (.br (op==20) (.lf ({a:=true,b:=true,c:=false,low:=0,D4:=31},true)) (.br (op==21) (.lf ({a:=true,b:=true,c:=false,low:=0,D4:=31},true)) (.br (op==22) (.lf ({a:=true,b:=true,c:=false,low:=0,D4:=31},true)) (.br (op==24) (.lf ({a:=true,b:=false,c:=false,low:=0,D4:=65535},true)) (.br (op==48) (.lf ({a:=true,b:=false,c:=false,low:=(-32768),D4:=32767},true)) (.br (op==58) (.lf ({a:=true,b:=false,c:=false,low:=0,D4:=7},true)) (.br (op==59) (.lf ({a:=true,b:=false,c:=false,low:=0,D4:=7},true)) (.br (op==60) (.lf ({a:=true,b:=false,c:=false,low:=0,D4:=11},true)) (.br (op==61) (.lf ({a:=true,b:=false,c:=false,low:=0,D4:=11},true)) (.br (op==56) (.lf ({a:=false,b:=false,c:=false,low:=0,D4:=0},true)) (.br (op==57) (.lf ({a:=false,b:=false,c:=false,low:=0,D4:=0},true)) (.br (op==62) (.lf ({a:=false,b:=false,c:=false,low:=0,D4:=0},true)) (.br (op==63) (.lf ({a:=false,b:=false,c:=false,low:=0,D4:=0},true)) (.br (op==64) (.lf ({a:=false,b:=false,c:=false,low:=0,D4:=0},true)) (.lf ({a:=false,b:=false,c:=false,low:=0,D4:=0},false)))))))))))))))))))))))))))))))))))))))))))))
def Qzc(op:Int):(Q97×Bool):=(Z8n op).m
def isa_use_m:Q0d:=mkR 184 [] true [.one (.int .i64)] [] (λargs rows=>Qzc (argI args 0)) (λX=> .tup [.agg (Q97.cells (X.1)), .bool (X.2)]) (λX=>[])
theorem Z3f:Q05 Tryz.prog isa_use_m:=Q0z Q0i Q0j (.nil) Tryz.func184 Tryz.call184 (λargs rows=>Z8n (argI args 0)) [] [] 2 (λ_ _ _=>by kernel_rfl) (λ_ _=>rfl) (λ_ _=>Tree.free_ok (by kernel_rfl)) (λ_ X=>by kernel_rfl)
def Q3e(x:Int)(n:Int):Tree Int:=
.br (decide (n<1)) (.lf 0) (.br (decide (n≥32)) (.lf x) (let E1:=decide (0≤wrap u64 (wrap i64 (32-n))); .cn E1 (.cn E1 (.lf (wrap u32 (ishr i32 (wrap i32 (ishl u32 x (wrap u64 (wrap i64 (32-n))))) (wrap u64 (wrap i64 (32-n)))))))))
def Q2d(x:Int)(n:Int):Int:=(Q3e x n).m
abbrev Q45(x:Int)(n:Int):Prop:=(Q3e x n).p
def Qtf:Q0d:=mkP 185 [] true [.one (.int .u32), .one (.int .i64)] [] (λargs rows=>Q45 (argI args 0) (argI args 1)) (λargs rows=>Q2d (argI args 0) (argI args 1)) (λX=> .int .u32 X) (λX=>[])
theorem Qil:Q05 Tryz.prog Qtf:=Q0n Q0i Q0j (.nil) Tryz.func185 Tryz.call185 (λargs rows=>Q3e (argI args 0) (argI args 1)) [] [] 2 (λ_ _ _=>by kernel_rfl) (λ_ _=>rfl) (λ_ _ h=>h) (λ_ X=>by kernel_rfl)
def Qeb(r:Int)(used:Bool):Tree Bool:=
.br used (.br (decide (r≥0)) (.lf (decide (r≤15))) (.lf false)) (.lf (r==0))
def Q9p(r:Int)(used:Bool):Bool:=(Qeb r used).m
def Z0w:Q0d:=mkR 230 [] true [.one (.int .i64), .one (.bool)] [] (λargs rows=>Q9p (argI args 0) (argB args 1)) (λX=> .bool X) (λX=>[])
theorem Qxf:Q05 Tryz.prog Z0w:=Q0z Q0i Q0j (.nil) Tryz.func230 Tryz.call230 (λargs rows=>Qeb (argI args 0) (argB args 1)) [] [] 2 (λ_ _ _=>by kernel_rfl) (λ_ _=>rfl) (λ_ _=>Tree.free_ok (by kernel_rfl)) (λ_ X=>by kernel_rfl)
def Qgt(i:Q0g):Tree Bool:=
.lv (Qzc i.Op) λ(x0:Q97×Bool)=> .br x0.2 (.lv (Q9p i.A x0.1.a) λ(x1:Bool)=> .br x1 (.lv (Q9p i.B x0.1.b) λ(x2:Bool)=> .br x2 (.lv (Q9p i.C x0.1.c) λ(x3:Bool)=> .br x3 (.br (decide (i.Imm≥x0.1.low)) (.lf (decide (i.Imm≤x0.1.D4))) (.lf false)) (.lf false)) (.lf false)) (.lf false)) (.lf false)
def Qf9(i:Q0g):Bool:=(Qgt i).m
def Zd4:Q0d:=mkR 186 [] true [.agg Q0g.sig] [] (λargs rows=>Qf9 (Q0g.of (args.getD 0 .dead).cells)) (λX=> .bool X) (λX=>[])
theorem Zc6:Q05 Tryz.prog Zd4:=Q0z Q0i Q0j (.cons Z3f (.cons Qxf (.nil))) Tryz.func186 Tryz.call186 (λargs rows=>Qgt (Q0g.of (args.getD 0 .dead).cells)) [] [] 2 (λ_ _ _=>by kernel_rfl) (λ_ _=>rfl) (λ_ _=>Tree.free_ok (by kernel_rfl)) (λ_ X=>by kernel_rfl)
def Q6w(w:Int):Tree (Q0g×Bool):=
.an (Q3h w 24 8) (.lv (Q39 w 24 8) λ(x0:Int)=> .an (Q3h w 20 4) (.lv (Q39 w 20 4) λ(x1:Int)=> .an (Q3h w 16 4) (.lv (Q39 w 16 4) λ(x2:Int)=> .lv (Qzc (wrap i64 x0)) λ(x3:Q97×Bool)=>let E1:=({Op:=0,A:=0,B:=0,C:=0,Imm:=0}:Q0g); .br (!x3.2) (.lf (E1,false)) (.an (Q3h w 0 16) (.lv (Q39 w 0 16) λ(x4:Int)=> .br x3.1.c (let E2:=({Op:=wrap i64 x0,A:=wrap i64 x1,B:=wrap i64 x2,C:=wrap i64 x4,Imm:=0}:Q0g); .lv (Qf9 E2) λ(x5:Bool)=> .br (!x5) (.lf (E1,false)) (.lf (E2,true))) (.br (decide (x3.1.low<0)) (.an (Q45 x4 16) (.lv (Q2d x4 16) λ(x6:Int)=>let E3:=({Op:=wrap i64 x0,A:=wrap i64 x1,B:=wrap i64 x2,C:=0,Imm:=wrap i32 x6}:Q0g); .lv (Qf9 E3) λ(x7:Bool)=> .br (!x7) (.lf (E1,false)) (.lf (E3,true)))) (let E4:=({Op:=wrap i64 x0,A:=wrap i64 x1,B:=wrap i64 x2,C:=0,Imm:=wrap i32 x4}:Q0g); .lv (Qf9 E4) λ(x8:Bool)=> .br (!x8) (.lf (E1,false)) (.lf (E4,true)))))))))
def Qgg(w:Int):(Q0g×Bool):=(Q6w w).m
abbrev Qb3(w:Int):Prop:=(Q6w w).p
def Z9e:Q0d:=mkP 131 [] true [.one (.int .u32)] [] (λargs rows=>Qb3 (argI args 0)) (λargs rows=>Qgg (argI args 0)) (λX=> .tup [.agg (Q0g.cells (X.1)), .bool (X.2)]) (λX=>[])
theorem Z62:Q05 Tryz.prog Z9e:=Q0n Q0i Q0j (.cons Ql (.cons Z3f (.cons Qil (.cons Zc6 (.nil))))) Tryz.func131 Tryz.call131 (λargs rows=>Q6w (argI args 0)) [] [] 2 (λ_ _ _=>by kernel_rfl) (λ_ _=>rfl) (λ_ _ h=>h) (λ_ X=>by kernel_rfl)
def Q5a(a:Int)(b:Int):Tree (Int×Int):=
.br (b==0) (.lf (4294967295,a)) (let T1:Tree ((Int×Int)):= .cn (decide (wrap i32 b≠0)) (.cn (decide (wrap i32 b≠0)) (.lf (wrap u32 (wrap i32 (Int.tdiv (wrap i32 a) (wrap i32 b))),wrap u32 (Int.tmod (wrap i32 a) (wrap i32 b))))); .br (a==2147483648) (.br (b==4294967295) (.lf (a,0)) T1) T1)
def Qbx(a:Int)(b:Int):(Int×Int):=(Q5a a b).m
abbrev Q7t(a:Int)(b:Int):Prop:=(Q5a a b).p
def Z4r:Q0d:=mkP 232 [] true [.one (.int .u32), .one (.int .u32)] [] (λargs rows=>Q7t (argI args 0) (argI args 1)) (λargs rows=>Qbx (argI args 0) (argI args 1)) (λX=> .tup [.int .u32 (X.1), .int .u32 (X.2)]) (λX=>[])
theorem Z0z:Q05 Tryz.prog Z4r:=Q0n Q0i Q0j (.nil) Tryz.func232 Tryz.call232 (λargs rows=>Q5a (argI args 0) (argI args 1)) [] [] 2 (λ_ _ _=>by kernel_rfl) (λ_ _=>rfl) (λ_ _ h=>h) (λ_ X=>by kernel_rfl)
def Qz5(b:Bool):Tree Int:=
.br b (.lf 1) (.lf 0)
def Qnh(b:Bool):Int:=(Qz5 b).m
def Zdj:Q0d:=mkR 233 [] true [.one (.bool)] [] (λargs rows=>Qnh (argB args 0)) (λX=> .int .u32 X) (λX=>[])
theorem Z9r:Q05 Tryz.prog Zdj:=Q0z Q0i Q0j (.nil) Tryz.func233 Tryz.call233 (λargs rows=>Qz5 (argB args 0)) [] [] 2 (λ_ _ _=>by kernel_rfl) (λ_ _=>rfl) (λ_ _=>Tree.free_ok (by kernel_rfl)) (λ_ X=>by kernel_rfl)
def Qer(op:Int)(a:Int)(b:Int):Tree (Int×Bool):=
.br (op==2) (.lf (wrap u32 (a+wrap u32 (0-b)),true)) (.br (op==1) (.lf (wrap u32 (a+b),true)) (.br (op==16) (.lf (wrap u32 (a+b),true)) (.br (op==3) (.lf (iand u32 a b,true)) (.br (op==17) (.lf (iand u32 a b,true)) (.br (op==4) (.lf (ior u32 a b,true)) (.br (op==18) (.lf (ior u32 a b,true)) (.br (op==5) (.lf (ixor u32 a b,true)) (.br (op==19) (.lf (ixor u32 a b,true)) (.br (op==6) (.lf (ishl u32 a (iand u32 b 31),true)) (.br (op==20) (.lf (ishl u32 a (iand u32 b 31),true)) (.br (op==7) (.lf (ishr u32 a (iand u32 b 31),true)) (.br (op==21) (.lf (ishr u32 a (iand u32 b 31),true)) (let E1:=(wrap u32 (ishr i32 (wrap i32 a) (iand u32 b 31)),true); .br (op==8) (.lf E1) (.br (op==22) (.lf E1) (.br (op==9) (.lf (wrap u32 (a*b),true)) (.br (op==10) (.an (Q7t a b) (.lv (Qbx a b) λ(x0:Int×Int)=> .lf (x0.1,true))) (.br (op==11) (.an (Q7t a b) (.lv (Qbx a b) λ(x1:Int×Int)=> .lf (x1.2,true))) (.br (op==12) (.lv (Qnh (decide (wrap i32 a<wrap i32 b))) λ(x2:Int)=> .lf (x2,true)) (.br (op==23) (.lv (Qnh (decide (wrap i32 a<wrap i32 b))) λ(x3:Int)=> .lf (x3,true)) (.br (op==13) (.lv (Qnh (decide (a<b))) λ(x4:Int)=> .lf (x4,true)) (.lf (0,false))))))))))))))))))))))
def Q4h(op:Int)(a:Int)(b:Int):(Int×Bool):=(Qer op a b).m
abbrev Qdi(op:Int)(a:Int)(b:Int):Prop:=(Qer op a b).p
def cpu_Alu_m:Q0d:=mkP 193 [] true [.one (.int .i64), .one (.int .u32), .one (.int .u32)] [] (λargs rows=>Qdi (argI args 0) (argI args 1) (argI args 2)) (λargs rows=>Q4h (argI args 0) (argI args 1) (argI args 2)) (λX=> .tup [.int .u32 (X.1), .bool (X.2)]) (λX=>[])
theorem Zji:Q05 Tryz.prog cpu_Alu_m:=Q0n Q0i Q0j (.cons Z0z (.cons Z9r (.nil))) Tryz.func193 Tryz.call193 (λargs rows=>Qer (argI args 0) (argI args 1) (argI args 2)) [] [] 2 (λ_ _ _=>by kernel_rfl) (λ_ _=>rfl) (λ_ _ h=>h) (λ_ X=>by kernel_rfl)
end
end Go.Proofs.YtpcbkbalabgnlaaGreat

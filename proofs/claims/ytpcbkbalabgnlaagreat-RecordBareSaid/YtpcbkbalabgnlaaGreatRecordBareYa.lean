/-
  Functions of the program: models, and that its calls come to them (by a program: gen3.py).
-/
import Derived.Test.YtpcbkbalabgnlaaGreatRecordBareBase
set_option maxRecDepth 100000
set_option linter.unusedVariables false
set_option linter.unusedSimpArgs false
namespace Go.Proofs.YtpcbkbalabgnlaaGreat
open Go Go.GD Go.IntKind
noncomputable section
def Q02(s:(List Int)):(List Int):=
s
def Q05(s:(List Int)):Prop:=
s.length≤35184372088832
def Q4i(s:(List Int)):List D:=[.sl 1 (.ints .u32 s) false]
def Q2y(s:(List Int)):List Row:=[]
def Q1r(X:(List Int)):D:= .all 0
def Q1q(X:(List Int)):List Row:=[⟨false,23,1, .ints .u32 X⟩]
def Qeh:List Dir:=[.row 23 1 (.ints .u32)]
def Q8b:List PT:=[.one (.ints .u32)]
def Q7w:List RT:=[]
def Qfw(args:List D)(rows:List Row):(List Int):=Q02 (argL .u32 args 0)
def Qfj(args:List D)(rows:List Row):Prop:=Q05 (argL .u32 args 0)
def Qgn:Q0d:=mkP 72 [] true Q8b Q7w Qfj Qfw Q1r Q1q
def Q5j(s:(List Int))(Leaf:(List Int)→Prop):Prop:=
(s=[]→Leaf [])∧cand (decide ((4:Nat)*((0:Nat)+s.length)≤(140737488355328:Nat))) (Leaf s)
set_option maxRecDepth 100000 in
theorem Qgc(s:(List Int))(Q:D→List Row→Prop):(fnVC tab [] (LL tab [] Tryz.f72.ntmps 0 [] 2) Tryz.f72 (Q4i s) (Q2y s) λd R=>Qcw (Q2y s).length Qeh d R Q)=Q5j s (λX=>Q (Q1r X) (Q1q X)):=by kernel_rfl
theorem Qe7(s:(List Int))(Leaf:(List Int)→Prop)(hw:Q05 s)(h:Leaf (Q02 s)):
Q5j s Leaf:=by
 delta Q5j
 refine⟨λe=>by rw[e]at h;exact h,?_⟩
 rw[Q09]
 refine⟨decide_eq_true ?_,h⟩
 have:s.length≤35184372088832:=hw
 omega
set_option maxRecDepth 100000 in
theorem Qdr(s:(List Int))(hw:Q05 s):Q5g Tryz.prog 72 (Q4i s) (Q2y s) (Q1r (Q02 s)) (Q1q (Q02 s)):=
 have hG:Q9l Tryz.prog []:= .nil
 FnOK.calls Q0j Q0k hG Tryz.func72 (Zk2 Q0j Q0k hG 2 (invs:=[])) (FnOK.of (Qgc s _) (Qe7 s (λX=>Q1r X=Q1r (Q02 s)∧Q1q X=Q1q (Q02 s)) hw ⟨rfl,rfl⟩))
set_option maxRecDepth 100000 in
theorem Qef(args:List D)(rows:List Row):Qkb Q8b args 0=Q4i (argL .u32 args 0):=by kernel_rfl
set_option maxRecDepth 100000 in
theorem Qdq(args:List D)(rows:List Row):Q9i Q7w rows 0=Q2y (argL .u32 args 0):=by kernel_rfl
set_option maxRecDepth 100000 in
theorem Qg2(X:(List Int)):(ffB (Q1r X)&&ffBR (Q1q X))=true:=by kernel_rfl
theorem Q0t:Q07 Tryz.prog Qgn:=Qyp Tryz.call72 (λargs rows hp=>by rw[Qef args rows,Qdq args rows];exact Qdr (argL .u32 args 0) hp) (λ_ X=>Qg2 X)
def Q91(m:(List Int)):Tree Int:=
.br (Int.tmod (m.length:Int) (32:Int) !=(0:Int)) (.lf 0) (.br (decide ((m.length:Int)>(1024:Int))) (.lf 0) (.lf (wrap i64 (Int.tdiv (m.length:Int) 32))))
def Q0w(m:(List Int)):Int:=(Q91 m).m
def Z2v:Q0d:=mkR 89 [] true [.one (.ints .u32)] [] (λargs rows=>Q0w (argL .u32 args 0)) (λX=> .int .i64 X) (λX=>[])
theorem Q4r:Q07 Tryz.prog Z2v:=Q10 Q0j Q0k (.nil) Tryz.func89 Tryz.call89 (λargs rows=>Q91 (argL .u32 args 0)) [] [] 2 (λ_ _ _=>by kernel_rfl) (λ_ _=>rfl) (λ_ _=>Tree.free_ok (by kernel_rfl)) (λ_ X=>by kernel_rfl)
def Q3a(m:(List Int))(addr:Int)(size:Int):Tree Bool:=
let T1:Tree (Bool):= .cn (decide (wrap u32 size≠0)) (.br (Int.tmod addr (wrap u32 size) !=0) (.lf false) (.lv (Q0w m) λ(x0:Int)=> .lf (decide (wrap u64 (wrap u64 addr+wrap u64 size)≤wrap u64 (wrap u64 x0*128))))); .br (size !=1) (.br (size !=4) (.lf false) T1) T1
def Qgo(m:(List Int))(addr:Int)(size:Int):Bool:=(Q3a m addr size).m
abbrev Q5z(m:(List Int))(addr:Int)(size:Int):Prop:=(Q3a m addr size).p
def Qz7:Q0d:=mkP 228 [] true [.one (.ints .u32), .one (.int .u32), .one (.int .i64)] [] (λargs rows=>Q5z (argL .u32 args 0) (argI args 1) (argI args 2)) (λargs rows=>Qgo (argL .u32 args 0) (argI args 1) (argI args 2)) (λX=> .bool X) (λX=>[])
theorem Qma:Q07 Tryz.prog Qz7:=Q0p Q0j Q0k (.cons Q4r (.nil)) Tryz.func228 Tryz.call228 (λargs rows=>Q3a (argL .u32 args 0) (argI args 1) (argI args 2)) [] [] 2 (λ_ _ _=>by kernel_rfl) (λ_ _=>rfl) (λ_ _ h=>h) (λ_ X=>by kernel_rfl)
def Qah(n:Int):Tree Int:=
.br (decide (n≥32)) (.lf 4294967295) (.cn (decide (0≤wrap u64 n)) (.lf (wrap u32 (ishl u32 1 (wrap u64 n)-1))))
def Z1t(n:Int):Int:=(Qah n).m
abbrev Qb3(n:Int):Prop:=(Qah n).p
def Zga:Q0d:=mkP 229 [] true [.one (.int .i64)] [] (λargs rows=>Qb3 (argI args 0)) (λargs rows=>Z1t (argI args 0)) (λX=> .int .u32 X) (λX=>[])
theorem Qwm:Q07 Tryz.prog Zga:=Q0p Q0j Q0k (.nil) Tryz.func229 Tryz.call229 (λargs rows=>Qah (argI args 0)) [] [] 2 (λ_ _ _=>by kernel_rfl) (λ_ _=>rfl) (λ_ _ h=>h) (λ_ X=>by kernel_rfl)
def Q88(w:Int)(low:Int)(n:Int):Tree Int:=
.br (decide (low<0)) (.lf 0) (.br (decide (low>31)) (.lf 0) (.br (decide (n<1)) (.lf 0) (.cn (decide (0≤wrap u64 low)) (.an (Qb3 n) (.lv (Z1t n) λ(x0:Int)=> .lf (iand u32 (ishr u32 w (wrap u64 low)) x0))))))
def Q3j(w:Int)(low:Int)(n:Int):Int:=(Q88 w low n).m
abbrev Q3r(w:Int)(low:Int)(n:Int):Prop:=(Q88 w low n).p
def Zc6:Q0d:=mkP 183 [] true [.one (.int .u32), .one (.int .i64), .one (.int .i64)] [] (λargs rows=>Q3r (argI args 0) (argI args 1) (argI args 2)) (λargs rows=>Q3j (argI args 0) (argI args 1) (argI args 2)) (λX=> .int .u32 X) (λX=>[])
theorem Qlg:Q07 Tryz.prog Zc6:=Q0p Q0j Q0k (.cons Qwm (.nil)) Tryz.func183 Tryz.call183 (λargs rows=>Q88 (argI args 0) (argI args 1) (argI args 2)) [] [] 2 (λ_ _ _=>by kernel_rfl) (λ_ _=>rfl) (λ_ _ h=>h) (λ_ X=>by kernel_rfl)
def Q4t(w:Int)(low:Int)(n:Int)(v:Int):Tree Int:=
.br (decide (low<0)) (.lf w) (.br (decide (low>31)) (.lf w) (.br (decide (n<1)) (.lf w) (.an (Qb3 n) (.lv (Z1t n) λ(x0:Int)=> .cn (decide (0≤wrap u64 low)) (.cn (decide (0≤wrap u64 low)) (.lf (ior u32 (Qgm u32 w (ishl u32 x0 (wrap u64 low))) (ishl u32 (iand u32 v x0) (wrap u64 low)))))))))
def Q8g(w:Int)(low:Int)(n:Int)(v:Int):Int:=(Q4t w low n v).m
abbrev Q7y(w:Int)(low:Int)(n:Int)(v:Int):Prop:=(Q4t w low n v).p
def Z0j:Q0d:=mkP 231 [] true [.one (.int .u32), .one (.int .i64), .one (.int .i64), .one (.int .u32)] [] (λargs rows=>Q7y (argI args 0) (argI args 1) (argI args 2) (argI args 3)) (λargs rows=>Q8g (argI args 0) (argI args 1) (argI args 2) (argI args 3)) (λX=> .int .u32 X) (λX=>[])
theorem Qxi:Q07 Tryz.prog Z0j:=Q0p Q0j Q0k (.cons Qwm (.nil)) Tryz.func231 Tryz.call231 (λargs rows=>Q4t (argI args 0) (argI args 1) (argI args 2) (argI args 3)) [] [] 2 (λ_ _ _=>by kernel_rfl) (λ_ _=>rfl) (λ_ _ h=>h) (λ_ X=>by kernel_rfl)
def Q4l(m:(List Int))(addr:Int)(size:Int)(v:Int):Tree ((List Int)×Bool):=
.an (Q05 m) (.lv (Q02 m) λ(x0:List Int)=> .an (Q5z m addr size) (.lv (Qgo m addr size) λ(x1:Bool)=> .br (!x1) (.lf (x0,false)) (let E1:=Nat.beq 1 1&&Nat.blt 0 1&&decide (0≤wrap u32 (Int.tdiv addr 4)∧wrap u32 (Int.tdiv addr 4)<(x0.length:Int));let E2:=Int.toNat (wrap u32 (Int.tdiv addr 4)); .br (size==1) (.cn E1 (let E3:=wrap i64 (wrap i64 (Int.tmod addr 4)*8); .an (Q7y (x0.getD E2 0) E3 8 v) (.lv (Q8g (x0.getD E2 0) E3 8 v) λ(x2:Int)=> .cn E1 (.lf (List.set x0 E2 x2,true))))) (.cn E1 (.lf (List.set x0 E2 v,true))))))
def Q9o(m:(List Int))(addr:Int)(size:Int)(v:Int):((List Int)×Bool):=(Q4l m addr size v).m
abbrev Q59(m:(List Int))(addr:Int)(size:Int)(v:Int):Prop:=(Q4l m addr size v).p
def Z3s:Q0d:=mkP 189 [] true [.one (.ints .u32), .one (.int .u32), .one (.int .i64), .one (.int .u32)] [] (λargs rows=>Q59 (argL .u32 args 0) (argI args 1) (argI args 2) (argI args 3)) (λargs rows=>Q9o (argL .u32 args 0) (argI args 1) (argI args 2) (argI args 3)) (λX=> .tup [.all 0, .bool (X.2)]) (λX=>[⟨false,23,1, .ints .u32 (X.1)⟩])
theorem Qnt:Q07 Tryz.prog Z3s:=Q0p Q0j Q0k (.cons Q0t (.cons Qma (.cons Qxi (.nil)))) Tryz.func189 Tryz.call189 (λargs rows=>Q4l (argL .u32 args 0) (argI args 1) (argI args 2) (argI args 3)) [.row 23 1 (.ints .u32)] [] 2 (λ_ _ _=>by kernel_rfl) (λ_ _=>rfl) (λ_ _ h=>h) (λ_ X=>by kernel_rfl)
def Zad(op:Int):Tree (Q9d×Bool):=
.br (op==1) (.lf ({a:=true,b:=true,c:=true,low:=0,D6:=0},true)) (.br (op==2) (.lf ({a:=true,b:=true,c:=true,low:=0,D6:=0},true)) (.br (op==3) (.lf ({a:=true,b:=true,c:=true,low:=0,D6:=0},true)) (.br (op==4) (.lf ({a:=true,b:=true,c:=true,low:=0,D6:=0},true)) (.br (op==5) (.lf ({a:=true,b:=true,c:=true,low:=0,D6:=0},true)) (.br (op==6) (.lf ({a:=true,b:=true,c:=true,low:=0,D6:=0},true)) (.br (op==7) (.lf ({a:=true,b:=true,c:=true,low:=0,D6:=0},true)) (.br (op==8) (.lf ({a:=true,b:=true,c:=true,low:=0,D6:=0},true)) (.br (op==9) (.lf ({a:=true,b:=true,c:=true,low:=0,D6:=0},true)) (.br (op==10) (.lf ({a:=true,b:=true,c:=true,low:=0,D6:=0},true)) (.br (op==11) (.lf ({a:=true,b:=true,c:=true,low:=0,D6:=0},true)) (.br (op==12) (.lf ({a:=true,b:=true,c:=true,low:=0,D6:=0},true)) (.br (op==13) (.lf ({a:=true,b:=true,c:=true,low:=0,D6:=0},true)) (.br (op==16) (.lf ({a:=true,b:=true,c:=false,low:=(-32768),D6:=32767},true)) (.br (op==23) (.lf ({a:=true,b:=true,c:=false,low:=(-32768),D6:=32767},true)) (.br (op==32) (.lf ({a:=true,b:=true,c:=false,low:=(-32768),D6:=32767},true)) (.br (op==33) (.lf ({a:=true,b:=true,c:=false,low:=(-32768),D6:=32767},true)) (.br (op==34) (.lf ({a:=true,b:=true,c:=false,low:=(-32768),D6:=32767},true)) (.br (op==35) (.lf ({a:=true,b:=true,c:=false,low:=(-32768),D6:=32767},true)) (.br (op==36) (.lf ({a:=true,b:=true,c:=false,low:=(-32768),D6:=32767},true)) (.br (op==40) (.lf ({a:=true,b:=true,c:=false,low:=(-32768),D6:=32767},true)) (.br (op==41) (.lf ({a:=true,b:=true,c:=false,low:=(-32768),D6:=32767},true)) (.br (op==42) (.lf ({a:=true,b:=true,c:=false,low:=(-32768),D6:=32767},true)) (.br (op==43) (.lf ({a:=true,b:=true,c:=false,low:=(-32768),D6:=32767},true)) (.br (op==44) (.lf ({a:=true,b:=true,c:=false,low:=(-32768),D6:=32767},true)) (.br (op==45) (.lf ({a:=true,b:=true,c:=false,low:=(-32768),D6:=32767},true)) (.br (op==49) (.lf ({a:=true,b:=true,c:=false,low:=(-32768),D6:=32767},true)) (.br (op==17) (.lf ({a:=true,b:=true,c:=false,low:=0,D6:=65535},true)) (.br (op==18) (.lf ({a:=true,b:=true,c:=false,low:=0,D6:=65535},true)) (.br (op==19) (.lf ({a:=true,b:=true,c:=false,low:=0,D6:=65535},true)) (.br (op==20) (.lf ({a:=true,b:=true,c:=false,low:=0,D6:=31},true)) (.br (op==21) (.lf ({a:=true,b:=true,c:=false,low:=0,D6:=31},true)) (.br (op==22) (.lf ({a:=true,b:=true,c:=false,low:=0,D6:=31},true)) (.br (op==24) (.lf ({a:=true,b:=false,c:=false,low:=0,D6:=65535},true)) (.br (op==48) (.lf ({a:=true,b:=false,c:=false,low:=(-32768),D6:=32767},true)) (.br (op==58) (.lf ({a:=true,b:=false,c:=false,low:=0,D6:=7},true)) (.br (op==59) (.lf ({a:=true,b:=false,c:=false,low:=0,D6:=7},true)) (.br (op==60) (.lf ({a:=true,b:=false,c:=false,low:=0,D6:=11},true)) (.br (op==61) (.lf ({a:=true,b:=false,c:=false,low:=0,D6:=11},true)) (.br (op==56) (.lf ({a:=false,b:=false,c:=false,low:=0,D6:=0},true)) (.br (op==57) (.lf ({a:=false,b:=false,c:=false,low:=0,D6:=0},true)) (.br (op==62) (.lf ({a:=false,b:=false,c:=false,low:=0,D6:=0},true)) (.br (op==63) (.lf ({a:=false,b:=false,c:=false,low:=0,D6:=0},true)) (.br (op==64) (.lf ({a:=false,b:=false,c:=false,low:=0,D6:=0},true)) (.lf ({a:=false,b:=false,c:=false,low:=0,D6:=0},false)))))))))))))))))))))))))))))))))))))))))))))
def Qz8(op:Int):(Q9d×Bool):=(Zad op).m
def isa_use_m:Q0d:=mkR 184 [] true [.one (.int .i64)] [] (λargs rows=>Qz8 (argI args 0)) (λX=> .tup [.agg (Q9d.cells (X.1)), .bool (X.2)]) (λX=>[])
theorem Z56:Q07 Tryz.prog isa_use_m:=Q10 Q0j Q0k (.nil) Tryz.func184 Tryz.call184 (λargs rows=>Zad (argI args 0)) [] [] 2 (λ_ _ _=>by kernel_rfl) (λ_ _=>rfl) (λ_ _=>Tree.free_ok (by kernel_rfl)) (λ_ X=>by kernel_rfl)
def Q3k(x:Int)(n:Int):Tree Int:=
.br (decide (n<1)) (.lf 0) (.br (decide (n≥32)) (.lf x) (let E1:=decide (0≤wrap u64 (wrap i64 (32-n))); .cn E1 (.cn E1 (.lf (wrap u32 (ishr i32 (wrap i32 (ishl u32 x (wrap u64 (wrap i64 (32-n))))) (wrap u64 (wrap i64 (32-n)))))))))
def Q2n(x:Int)(n:Int):Int:=(Q3k x n).m
abbrev Q4b(x:Int)(n:Int):Prop:=(Q3k x n).p
def Qvj:Q0d:=mkP 185 [] true [.one (.int .u32), .one (.int .i64)] [] (λargs rows=>Q4b (argI args 0) (argI args 1)) (λargs rows=>Q2n (argI args 0) (argI args 1)) (λX=> .int .u32 X) (λX=>[])
theorem Qjl:Q07 Tryz.prog Qvj:=Q0p Q0j Q0k (.nil) Tryz.func185 Tryz.call185 (λargs rows=>Q3k (argI args 0) (argI args 1)) [] [] 2 (λ_ _ _=>by kernel_rfl) (λ_ _=>rfl) (λ_ _ h=>h) (λ_ X=>by kernel_rfl)
def Qes(r:Int)(used:Bool):Tree Bool:=
.br used (.br (decide (r≥0)) (.lf (decide (r≤15))) (.lf false)) (.lf (r==0))
def Q9n(r:Int)(used:Bool):Bool:=(Qes r used).m
def Z3t:Q0d:=mkR 230 [] true [.one (.int .i64), .one (.bool)] [] (λargs rows=>Q9n (argI args 0) (argB args 1)) (λX=> .bool X) (λX=>[])
theorem Z1h:Q07 Tryz.prog Z3t:=Q10 Q0j Q0k (.nil) Tryz.func230 Tryz.call230 (λargs rows=>Qes (argI args 0) (argB args 1)) [] [] 2 (λ_ _ _=>by kernel_rfl) (λ_ _=>rfl) (λ_ _=>Tree.free_ok (by kernel_rfl)) (λ_ X=>by kernel_rfl)
def Qin(i:Q0i):Tree Bool:=
.lv (Qz8 i.Op) λ(x0:Q9d×Bool)=> .br x0.2 (.lv (Q9n i.A x0.1.a) λ(x1:Bool)=> .br x1 (.lv (Q9n i.B x0.1.b) λ(x2:Bool)=> .br x2 (.lv (Q9n i.C x0.1.c) λ(x3:Bool)=> .br x3 (.br (decide (i.Imm≥x0.1.low)) (.lf (decide (i.Imm≤x0.1.D6))) (.lf false)) (.lf false)) (.lf false)) (.lf false)) (.lf false)
def Qfh(i:Q0i):Bool:=(Qin i).m
def Zfn:Q0d:=mkR 186 [] true [.agg Q0i.sig] [] (λargs rows=>Qfh (Q0i.of (args.getD 0 .dead).cells)) (λX=> .bool X) (λX=>[])
theorem Za1:Q07 Tryz.prog Zfn:=Q10 Q0j Q0k (.cons Z56 (.cons Z1h (.nil))) Tryz.func186 Tryz.call186 (λargs rows=>Qin (Q0i.of (args.getD 0 .dead).cells)) [] [] 2 (λ_ _ _=>by kernel_rfl) (λ_ _=>rfl) (λ_ _=>Tree.free_ok (by kernel_rfl)) (λ_ X=>by kernel_rfl)
def Q6u(w:Int):Tree (Q0i×Bool):=
.an (Q3r w 24 8) (.lv (Q3j w 24 8) λ(x0:Int)=> .an (Q3r w 20 4) (.lv (Q3j w 20 4) λ(x1:Int)=> .an (Q3r w 16 4) (.lv (Q3j w 16 4) λ(x2:Int)=> .lv (Qz8 (wrap i64 x0)) λ(x3:Q9d×Bool)=>let E1:=({Op:=0,A:=0,B:=0,C:=0,Imm:=0}:Q0i); .br (!x3.2) (.lf (E1,false)) (.an (Q3r w 0 16) (.lv (Q3j w 0 16) λ(x4:Int)=> .br x3.1.c (let E2:=({Op:=wrap i64 x0,A:=wrap i64 x1,B:=wrap i64 x2,C:=wrap i64 x4,Imm:=0}:Q0i); .lv (Qfh E2) λ(x5:Bool)=> .br (!x5) (.lf (E1,false)) (.lf (E2,true))) (.br (decide (x3.1.low<0)) (.an (Q4b x4 16) (.lv (Q2n x4 16) λ(x6:Int)=>let E3:=({Op:=wrap i64 x0,A:=wrap i64 x1,B:=wrap i64 x2,C:=0,Imm:=wrap i32 x6}:Q0i); .lv (Qfh E3) λ(x7:Bool)=> .br (!x7) (.lf (E1,false)) (.lf (E3,true)))) (let E4:=({Op:=wrap i64 x0,A:=wrap i64 x1,B:=wrap i64 x2,C:=0,Imm:=wrap i32 x4}:Q0i); .lv (Qfh E4) λ(x8:Bool)=> .br (!x8) (.lf (E1,false)) (.lf (E4,true)))))))))
def Qh(w:Int):(Q0i×Bool):=(Q6u w).m
abbrev Qbi(w:Int):Prop:=(Q6u w).p
def Zb0:Q0d:=mkP 131 [] true [.one (.int .u32)] [] (λargs rows=>Qbi (argI args 0)) (λargs rows=>Qh (argI args 0)) (λX=> .tup [.agg (Q0i.cells (X.1)), .bool (X.2)]) (λX=>[])
theorem Z77:Q07 Tryz.prog Zb0:=Q0p Q0j Q0k (.cons Qlg (.cons Z56 (.cons Qjl (.cons Za1 (.nil))))) Tryz.func131 Tryz.call131 (λargs rows=>Q6u (argI args 0)) [] [] 2 (λ_ _ _=>by kernel_rfl) (λ_ _=>rfl) (λ_ _ h=>h) (λ_ X=>by kernel_rfl)
def Q5n(a:Int)(b:Int):Tree (Int×Int):=
.br (b==0) (.lf (4294967295,a)) (let T1:Tree ((Int×Int)):= .cn (decide (wrap i32 b≠0)) (.cn (decide (wrap i32 b≠0)) (.lf (wrap u32 (wrap i32 (Int.tdiv (wrap i32 a) (wrap i32 b))),wrap u32 (Int.tmod (wrap i32 a) (wrap i32 b))))); .br (a==2147483648) (.br (b==4294967295) (.lf (a,0)) T1) T1)
def Qc4(a:Int)(b:Int):(Int×Int):=(Q5n a b).m
abbrev Q87(a:Int)(b:Int):Prop:=(Q5n a b).p
def Z8h:Q0d:=mkP 232 [] true [.one (.int .u32), .one (.int .u32)] [] (λargs rows=>Q87 (argI args 0) (argI args 1)) (λargs rows=>Qc4 (argI args 0) (argI args 1)) (λX=> .tup [.int .u32 (X.1), .int .u32 (X.2)]) (λX=>[])
theorem Z2f:Q07 Tryz.prog Z8h:=Q0p Q0j Q0k (.nil) Tryz.func232 Tryz.call232 (λargs rows=>Q5n (argI args 0) (argI args 1)) [] [] 2 (λ_ _ _=>by kernel_rfl) (λ_ _=>rfl) (λ_ _ h=>h) (λ_ X=>by kernel_rfl)
def Z03(b:Bool):Tree Int:=
.br b (.lf 1) (.lf 0)
def Qnu(b:Bool):Int:=(Z03 b).m
def Zf:Q0d:=mkR 233 [] true [.one (.bool)] [] (λargs rows=>Qnu (argB args 0)) (λX=> .int .u32 X) (λX=>[])
theorem Zaw:Q07 Tryz.prog Zf:=Q10 Q0j Q0k (.nil) Tryz.func233 Tryz.call233 (λargs rows=>Z03 (argB args 0)) [] [] 2 (λ_ _ _=>by kernel_rfl) (λ_ _=>rfl) (λ_ _=>Tree.free_ok (by kernel_rfl)) (λ_ X=>by kernel_rfl)
def Qf7(op:Int)(a:Int)(b:Int):Tree (Int×Bool):=
.br (op==2) (.lf (wrap u32 (a+wrap u32 (0-b)),true)) (.br (op==1) (.lf (wrap u32 (a+b),true)) (.br (op==16) (.lf (wrap u32 (a+b),true)) (.br (op==3) (.lf (iand u32 a b,true)) (.br (op==17) (.lf (iand u32 a b,true)) (.br (op==4) (.lf (ior u32 a b,true)) (.br (op==18) (.lf (ior u32 a b,true)) (.br (op==5) (.lf (ixor u32 a b,true)) (.br (op==19) (.lf (ixor u32 a b,true)) (.br (op==6) (.lf (ishl u32 a (iand u32 b 31),true)) (.br (op==20) (.lf (ishl u32 a (iand u32 b 31),true)) (.br (op==7) (.lf (ishr u32 a (iand u32 b 31),true)) (.br (op==21) (.lf (ishr u32 a (iand u32 b 31),true)) (let E1:=(wrap u32 (ishr i32 (wrap i32 a) (iand u32 b 31)),true); .br (op==8) (.lf E1) (.br (op==22) (.lf E1) (.br (op==9) (.lf (wrap u32 (a*b),true)) (.br (op==10) (.an (Q87 a b) (.lv (Qc4 a b) λ(x0:Int×Int)=> .lf (x0.1,true))) (.br (op==11) (.an (Q87 a b) (.lv (Qc4 a b) λ(x1:Int×Int)=> .lf (x1.2,true))) (.br (op==12) (.lv (Qnu (decide (wrap i32 a<wrap i32 b))) λ(x2:Int)=> .lf (x2,true)) (.br (op==23) (.lv (Qnu (decide (wrap i32 a<wrap i32 b))) λ(x3:Int)=> .lf (x3,true)) (.br (op==13) (.lv (Qnu (decide (a<b))) λ(x4:Int)=> .lf (x4,true)) (.lf (0,false))))))))))))))))))))))
def Q4u(op:Int)(a:Int)(b:Int):(Int×Bool):=(Qf7 op a b).m
abbrev Qej(op:Int)(a:Int)(b:Int):Prop:=(Qf7 op a b).p
def cpu_Alu_m:Q0d:=mkP 193 [] true [.one (.int .i64), .one (.int .u32), .one (.int .u32)] [] (λargs rows=>Qej (argI args 0) (argI args 1) (argI args 2)) (λargs rows=>Q4u (argI args 0) (argI args 1) (argI args 2)) (λX=> .tup [.int .u32 (X.1), .bool (X.2)]) (λX=>[])
theorem Zjt:Q07 Tryz.prog cpu_Alu_m:=Q0p Q0j Q0k (.cons Z2f (.cons Zaw (.nil))) Tryz.func193 Tryz.call193 (λargs rows=>Qf7 (argI args 0) (argI args 1) (argI args 2)) [] [] 2 (λ_ _ _=>by kernel_rfl) (λ_ _=>rfl) (λ_ _ h=>h) (λ_ X=>by kernel_rfl)
end
end Go.Proofs.YtpcbkbalabgnlaaGreat

/-
  Functions of the program: models, and that its calls come to them (by a program: gen3.py).
-/
import Derived.Test.YtpcbkbalabgnlaaGreatRecordTellsBase
set_option maxRecDepth 100000
set_option linter.unusedVariables false
set_option linter.unusedSimpArgs false
namespace Go.Proofs.YtpcbkbalabgnlaaGreat
open Go Go.GD Go.IntKind
noncomputable section
def Q03(s:(List Int)):(List Int):=
s
def Q08(s:(List Int)):Prop:=
s.length≤35184372088832
def Q4k(s:(List Int)):List D:=[.sl 1 (.ints .u32 s) false]
def Q2x(s:(List Int)):List Row:=[]
def Q1r(X:(List Int)):D:= .all 0
def Q1s(X:(List Int)):List Row:=[⟨false,23,1, .ints .u32 X⟩]
def Qeu:List Dir:=[.row 23 1 (.ints .u32)]
def Q8v:List PT:=[.one (.ints .u32)]
def Q8r:List RT:=[]
def Qfu(args:List D)(rows:List Row):(List Int):=Q03 (argL .u32 args 0)
def Qgf(args:List D)(rows:List Row):Prop:=Q08 (argL .u32 args 0)
def Qh3:Q0d:=mkP 72 [] true Q8v Q8r Qgf Qfu Q1r Q1s
def Q5y(s:(List Int))(Leaf:(List Int)→Prop):Prop:=
(s=[]→Leaf [])∧cand (decide ((4:Nat)*((0:Nat)+s.length)≤(140737488355328:Nat))) (Leaf s)
set_option maxRecDepth 100000 in
theorem Qgq(s:(List Int))(Q:D→List Row→Prop):(fnVC tab [] (LL tab [] Tryz.f72.ntmps 0 [] 2) Tryz.f72 (Q4k s) (Q2x s) λd R=>Qdn (Q2x s).length Qeu d R Q)=Q5y s (λX=>Q (Q1r X) (Q1s X)):=by kernel_rfl
theorem Qew(s:(List Int))(Leaf:(List Int)→Prop)(hw:Q08 s)(h:Leaf (Q03 s)):
Q5y s Leaf:=by
 delta Q5y
 refine⟨λe=>by rw[e]at h;exact h,?_⟩
 rw[Q09]
 refine⟨decide_eq_true ?_,h⟩
 have:s.length≤35184372088832:=hw
 omega
set_option maxRecDepth 100000 in
theorem Qef(s:(List Int))(hw:Q08 s):Q5c Tryz.prog 72 (Q4k s) (Q2x s) (Q1r (Q03 s)) (Q1s (Q03 s)):=
 have hG:Qa1 Tryz.prog []:= .nil
 FnOK.calls Q0j Q0i hG Tryz.func72 (Zkf Q0j Q0i hG 2 (invs:=[])) (FnOK.of (Qgq s _) (Qew s (λX=>Q1r X=Q1r (Q03 s)∧Q1s X=Q1s (Q03 s)) hw ⟨rfl,rfl⟩))
set_option maxRecDepth 100000 in
theorem Qeo(args:List D)(rows:List Row):Qlf Q8v args 0=Q4k (argL .u32 args 0):=by kernel_rfl
set_option maxRecDepth 100000 in
theorem Qee(args:List D)(rows:List Row):Qa Q8r rows 0=Q2x (argL .u32 args 0):=by kernel_rfl
set_option maxRecDepth 100000 in
theorem Qgo(X:(List Int)):(ffB (Q1r X)&&ffBR (Q1s X))=true:=by kernel_rfl
theorem Q0x:Q05 Tryz.prog Qh3:=Z2f Tryz.call72 (λargs rows hp=>by rw[Qeo args rows,Qee args rows];exact Qef (argL .u32 args 0) hp) (λ_ X=>Qgo X)
def Q9m(m:(List Int)):Tree Int:=
.br (Int.tmod (m.length:Int) (32:Int) !=(0:Int)) (.lf 0) (.br (decide ((m.length:Int)>(1024:Int))) (.lf 0) (.lf (wrap i64 (Int.tdiv (m.length:Int) 32))))
def Q0v(m:(List Int)):Int:=(Q9m m).m
def Z37:Q0d:=mkR 89 [] true [.one (.ints .u32)] [] (λargs rows=>Q0v (argL .u32 args 0)) (λX=> .int .i64 X) (λX=>[])
theorem Q54:Q05 Tryz.prog Z37:=Q11 Q0j Q0i (.nil) Tryz.func89 Tryz.call89 (λargs rows=>Q9m (argL .u32 args 0)) [] [] 2 (λ_ _ _=>by kernel_rfl) (λ_ _=>rfl) (λ_ _=>Tree.free_ok (by kernel_rfl)) (λ_ X=>by kernel_rfl)
def Q3c(m:(List Int))(addr:Int)(size:Int):Tree Bool:=
let T1:Tree (Bool):= .cn (decide (wrap u32 size≠0)) (.br (Int.tmod addr (wrap u32 size) !=0) (.lf false) (.lv (Q0v m) λ(x0:Int)=> .lf (decide (wrap u64 (wrap u64 addr+wrap u64 size)≤wrap u64 (wrap u64 x0*128))))); .br (size !=1) (.br (size !=4) (.lf false) T1) T1
def Qhe(m:(List Int))(addr:Int)(size:Int):Bool:=(Q3c m addr size).m
abbrev Q6c(m:(List Int))(addr:Int)(size:Int):Prop:=(Q3c m addr size).p
def Z25:Q0d:=mkP 228 [] true [.one (.ints .u32), .one (.int .u32), .one (.int .i64)] [] (λargs rows=>Q6c (argL .u32 args 0) (argI args 1) (argI args 2)) (λargs rows=>Qhe (argL .u32 args 0) (argI args 1) (argI args 2)) (λX=> .bool X) (λX=>[])
theorem Qmw:Q05 Tryz.prog Z25:=Q0k Q0j Q0i (.cons Q54 (.nil)) Tryz.func228 Tryz.call228 (λargs rows=>Q3c (argL .u32 args 0) (argI args 1) (argI args 2)) [] [] 2 (λ_ _ _=>by kernel_rfl) (λ_ _=>rfl) (λ_ _ h=>h) (λ_ X=>by kernel_rfl)
def Qa6(n:Int):Tree Int:=
.br (decide (n≥32)) (.lf 4294967295) (.cn (decide (0≤wrap u64 n)) (.lf (wrap u32 (ishl u32 1 (wrap u64 n)-1))))
def Z29(n:Int):Int:=(Qa6 n).m
abbrev Qbo(n:Int):Prop:=(Qa6 n).p
def Zfp:Q0d:=mkP 229 [] true [.one (.int .i64)] [] (λargs rows=>Qbo (argI args 0)) (λargs rows=>Z29 (argI args 0)) (λX=> .int .u32 X) (λX=>[])
theorem Qxl:Q05 Tryz.prog Zfp:=Q0k Q0j Q0i (.nil) Tryz.func229 Tryz.call229 (λargs rows=>Qa6 (argI args 0)) [] [] 2 (λ_ _ _=>by kernel_rfl) (λ_ _=>rfl) (λ_ _ h=>h) (λ_ X=>by kernel_rfl)
def Q8s(w:Int)(low:Int)(n:Int):Tree Int:=
.br (decide (low<0)) (.lf 0) (.br (decide (low>31)) (.lf 0) (.br (decide (n<1)) (.lf 0) (.cn (decide (0≤wrap u64 low)) (.an (Qbo n) (.lv (Z29 n) λ(x0:Int)=> .lf (iand u32 (ishr u32 w (wrap u64 low)) x0))))))
def Q3q(w:Int)(low:Int)(n:Int):Int:=(Q8s w low n).m
abbrev Q3v(w:Int)(low:Int)(n:Int):Prop:=(Q8s w low n).p
def Zbu:Q0d:=mkP 183 [] true [.one (.int .u32), .one (.int .i64), .one (.int .i64)] [] (λargs rows=>Q3v (argI args 0) (argI args 1) (argI args 2)) (λargs rows=>Q3q (argI args 0) (argI args 1) (argI args 2)) (λX=> .int .u32 X) (λX=>[])
theorem Qml:Q05 Tryz.prog Zbu:=Q0k Q0j Q0i (.cons Qxl (.nil)) Tryz.func183 Tryz.call183 (λargs rows=>Q8s (argI args 0) (argI args 1) (argI args 2)) [] [] 2 (λ_ _ _=>by kernel_rfl) (λ_ _=>rfl) (λ_ _ h=>h) (λ_ X=>by kernel_rfl)
def Q4y(w:Int)(low:Int)(n:Int)(v:Int):Tree Int:=
.br (decide (low<0)) (.lf w) (.br (decide (low>31)) (.lf w) (.br (decide (n<1)) (.lf w) (.an (Qbo n) (.lv (Z29 n) λ(x0:Int)=> .cn (decide (0≤wrap u64 low)) (.cn (decide (0≤wrap u64 low)) (.lf (ior u32 (Qhf u32 w (ishl u32 x0 (wrap u64 low))) (ishl u32 (iand u32 v x0) (wrap u64 low)))))))))
def Q8y(w:Int)(low:Int)(n:Int)(v:Int):Int:=(Q4y w low n v).m
abbrev Q8e(w:Int)(low:Int)(n:Int)(v:Int):Prop:=(Q4y w low n v).p
def Z0o:Q0d:=mkP 231 [] true [.one (.int .u32), .one (.int .i64), .one (.int .i64), .one (.int .u32)] [] (λargs rows=>Q8e (argI args 0) (argI args 1) (argI args 2) (argI args 3)) (λargs rows=>Q8y (argI args 0) (argI args 1) (argI args 2) (argI args 3)) (λX=> .int .u32 X) (λX=>[])
theorem Qy7:Q05 Tryz.prog Z0o:=Q0k Q0j Q0i (.cons Qxl (.nil)) Tryz.func231 Tryz.call231 (λargs rows=>Q4y (argI args 0) (argI args 1) (argI args 2) (argI args 3)) [] [] 2 (λ_ _ _=>by kernel_rfl) (λ_ _=>rfl) (λ_ _ h=>h) (λ_ X=>by kernel_rfl)
def Q4t(m:(List Int))(addr:Int)(size:Int)(v:Int):Tree ((List Int)×Bool):=
.an (Q08 m) (.lv (Q03 m) λ(x0:List Int)=> .an (Q6c m addr size) (.lv (Qhe m addr size) λ(x1:Bool)=> .br (!x1) (.lf (x0,false)) (let E1:=Nat.beq 1 1&&Nat.blt 0 1&&decide (0≤wrap u32 (Int.tdiv addr 4)∧wrap u32 (Int.tdiv addr 4)<(x0.length:Int));let E2:=Int.toNat (wrap u32 (Int.tdiv addr 4)); .br (size==1) (.cn E1 (let E3:=wrap i64 (wrap i64 (Int.tmod addr 4)*8); .an (Q8e (x0.getD E2 0) E3 8 v) (.lv (Q8y (x0.getD E2 0) E3 8 v) λ(x2:Int)=> .cn E1 (.lf (List.set x0 E2 x2,true))))) (.cn E1 (.lf (List.set x0 E2 v,true))))))
def Qap(m:(List Int))(addr:Int)(size:Int)(v:Int):((List Int)×Bool):=(Q4t m addr size v).m
abbrev Q5j(m:(List Int))(addr:Int)(size:Int)(v:Int):Prop:=(Q4t m addr size v).p
def Z4q:Q0d:=mkP 189 [] true [.one (.ints .u32), .one (.int .u32), .one (.int .i64), .one (.int .u32)] [] (λargs rows=>Q5j (argL .u32 args 0) (argI args 1) (argI args 2) (argI args 3)) (λargs rows=>Qap (argL .u32 args 0) (argI args 1) (argI args 2) (argI args 3)) (λX=> .tup [.all 0, .bool (X.2)]) (λX=>[⟨false,23,1, .ints .u32 (X.1)⟩])
theorem Qou:Q05 Tryz.prog Z4q:=Q0k Q0j Q0i (.cons Q0x (.cons Qmw (.cons Qy7 (.nil)))) Tryz.func189 Tryz.call189 (λargs rows=>Q4t (argL .u32 args 0) (argI args 1) (argI args 2) (argI args 3)) [.row 23 1 (.ints .u32)] [] 2 (λ_ _ _=>by kernel_rfl) (λ_ _=>rfl) (λ_ _ h=>h) (λ_ X=>by kernel_rfl)
def Zec(op:Int):Tree (Qa0×Bool):=
.br (op==1) (.lf ({a:=true,b:=true,c:=true,low:=0,D5:=0},true)) (.br (op==2) (.lf ({a:=true,b:=true,c:=true,low:=0,D5:=0},true)) (.br (op==3) (.lf ({a:=true,b:=true,c:=true,low:=0,D5:=0},true)) (.br (op==4) (.lf ({a:=true,b:=true,c:=true,low:=0,D5:=0},true)) (.br (op==5) (.lf ({a:=true,b:=true,c:=true,low:=0,D5:=0},true)) (.br (op==6) (.lf ({a:=true,b:=true,c:=true,low:=0,D5:=0},true)) (.br (op==7) (.lf ({a:=true,b:=true,c:=true,low:=0,D5:=0},true)) (.br (op==8) (.lf ({a:=true,b:=true,c:=true,low:=0,D5:=0},true)) (.br (op==9) (.lf ({a:=true,b:=true,c:=true,low:=0,D5:=0},true)) (.br (op==10) (.lf ({a:=true,b:=true,c:=true,low:=0,D5:=0},true)) (.br (op==11) (.lf ({a:=true,b:=true,c:=true,low:=0,D5:=0},true)) (.br (op==12) (.lf ({a:=true,b:=true,c:=true,low:=0,D5:=0},true)) (.br (op==13) (.lf ({a:=true,b:=true,c:=true,low:=0,D5:=0},true)) (.br (op==16) (.lf ({a:=true,b:=true,c:=false,low:=(-32768),D5:=32767},true)) (.br (op==23) (.lf ({a:=true,b:=true,c:=false,low:=(-32768),D5:=32767},true)) (.br (op==32) (.lf ({a:=true,b:=true,c:=false,low:=(-32768),D5:=32767},true)) (.br (op==33) (.lf ({a:=true,b:=true,c:=false,low:=(-32768),D5:=32767},true)) (.br (op==34) (.lf ({a:=true,b:=true,c:=false,low:=(-32768),D5:=32767},true)) (.br (op==35) (.lf ({a:=true,b:=true,c:=false,low:=(-32768),D5:=32767},true)) (.br (op==36) (.lf ({a:=true,b:=true,c:=false,low:=(-32768),D5:=32767},true)) (.br (op==40) (.lf ({a:=true,b:=true,c:=false,low:=(-32768),D5:=32767},true)) (.br (op==41) (.lf ({a:=true,b:=true,c:=false,low:=(-32768),D5:=32767},true)) (.br (op==42) (.lf ({a:=true,b:=true,c:=false,low:=(-32768),D5:=32767},true)) (.br (op==43) (.lf ({a:=true,b:=true,c:=false,low:=(-32768),D5:=32767},true)) (.br (op==44) (.lf ({a:=true,b:=true,c:=false,low:=(-32768),D5:=32767},true)) (.br (op==45) (.lf ({a:=true,b:=true,c:=false,low:=(-32768),D5:=32767},true)) (.br (op==49) (.lf ({a:=true,b:=true,c:=false,low:=(-32768),D5:=32767},true)) (.br (op==17) (.lf ({a:=true,b:=true,c:=false,low:=0,D5:=65535},true)) (.br (op==18) (.lf ({a:=true,b:=true,c:=false,low:=0,D5:=65535},true)) (.br (op==19) (.lf ({a:=true,b:=true,c:=false,low:=0,D5:=65535},true)) (.br (op==20) (.lf ({a:=true,b:=true,c:=false,low:=0,D5:=31},true)) (.br (op==21) (.lf ({a:=true,b:=true,c:=false,low:=0,D5:=31},true)) (.br (op==22) (.lf ({a:=true,b:=true,c:=false,low:=0,D5:=31},true)) (.br (op==24) (.lf ({a:=true,b:=false,c:=false,low:=0,D5:=65535},true)) (.br (op==48) (.lf ({a:=true,b:=false,c:=false,low:=(-32768),D5:=32767},true)) (.br (op==58) (.lf ({a:=true,b:=false,c:=false,low:=0,D5:=7},true)) (.br (op==59) (.lf ({a:=true,b:=false,c:=false,low:=0,D5:=7},true)) (.br (op==60) (.lf ({a:=true,b:=false,c:=false,low:=0,D5:=11},true)) (.br (op==61) (.lf ({a:=true,b:=false,c:=false,low:=0,D5:=11},true)) (.br (op==56) (.lf ({a:=false,b:=false,c:=false,low:=0,D5:=0},true)) (.br (op==57) (.lf ({a:=false,b:=false,c:=false,low:=0,D5:=0},true)) (.br (op==62) (.lf ({a:=false,b:=false,c:=false,low:=0,D5:=0},true)) (.br (op==63) (.lf ({a:=false,b:=false,c:=false,low:=0,D5:=0},true)) (.br (op==64) (.lf ({a:=false,b:=false,c:=false,low:=0,D5:=0},true)) (.lf ({a:=false,b:=false,c:=false,low:=0,D5:=0},false)))))))))))))))))))))))))))))))))))))))))))))
def Z2t(op:Int):(Qa0×Bool):=(Zec op).m
def isa_use_m:Q0d:=mkR 184 [] true [.one (.int .i64)] [] (λargs rows=>Z2t (argI args 0)) (λX=> .tup [.agg (Qa0.cells (X.1)), .bool (X.2)]) (λX=>[])
theorem Z5j:Q05 Tryz.prog isa_use_m:=Q11 Q0j Q0i (.nil) Tryz.func184 Tryz.call184 (λargs rows=>Zec (argI args 0)) [] [] 2 (λ_ _ _=>by kernel_rfl) (λ_ _=>rfl) (λ_ _=>Tree.free_ok (by kernel_rfl)) (λ_ X=>by kernel_rfl)
def Q3r(x:Int)(n:Int):Tree Int:=
.br (decide (n<1)) (.lf 0) (.br (decide (n≥32)) (.lf x) (let E1:=decide (0≤wrap u64 (wrap i64 (32-n))); .cn E1 (.cn E1 (.lf (wrap u32 (ishr i32 (wrap i32 (ishl u32 x (wrap u64 (wrap i64 (32-n))))) (wrap u64 (wrap i64 (32-n)))))))))
def Q2r(x:Int)(n:Int):Int:=(Q3r x n).m
abbrev Q4i(x:Int)(n:Int):Prop:=(Q3r x n).p
def Qub:Q0d:=mkP 185 [] true [.one (.int .u32), .one (.int .i64)] [] (λargs rows=>Q4i (argI args 0) (argI args 1)) (λargs rows=>Q2r (argI args 0) (argI args 1)) (λX=> .int .u32 X) (λX=>[])
theorem Qk5:Q05 Tryz.prog Qub:=Q0k Q0j Q0i (.nil) Tryz.func185 Tryz.call185 (λargs rows=>Q3r (argI args 0) (argI args 1)) [] [] 2 (λ_ _ _=>by kernel_rfl) (λ_ _=>rfl) (λ_ _ h=>h) (λ_ X=>by kernel_rfl)
def Qfm(r:Int)(used:Bool):Tree Bool:=
.br used (.br (decide (r≥0)) (.lf (decide (r≤15))) (.lf false)) (.lf (r==0))
def Qak(r:Int)(used:Bool):Bool:=(Qfm r used).m
def Z4g:Q0d:=mkR 230 [] true [.one (.int .i64), .one (.bool)] [] (λargs rows=>Qak (argI args 0) (argB args 1)) (λX=> .bool X) (λX=>[])
theorem Z1z:Q05 Tryz.prog Z4g:=Q11 Q0j Q0i (.nil) Tryz.func230 Tryz.call230 (λargs rows=>Qfm (argI args 0) (argB args 1)) [] [] 2 (λ_ _ _=>by kernel_rfl) (λ_ _=>rfl) (λ_ _=>Tree.free_ok (by kernel_rfl)) (λ_ X=>by kernel_rfl)
def Qil(i:Q0h):Tree Bool:=
.lv (Z2t i.Op) λ(x0:Qa0×Bool)=> .br x0.2 (.lv (Qak i.A x0.1.a) λ(x1:Bool)=> .br x1 (.lv (Qak i.B x0.1.b) λ(x2:Bool)=> .br x2 (.lv (Qak i.C x0.1.c) λ(x3:Bool)=> .br x3 (.br (decide (i.Imm≥x0.1.low)) (.lf (decide (i.Imm≤x0.1.D5))) (.lf false)) (.lf false)) (.lf false)) (.lf false)) (.lf false)
def Qft(i:Q0h):Bool:=(Qil i).m
def Zfg:Q0d:=mkR 186 [] true [.agg Q0h.sig] [] (λargs rows=>Qft (Q0h.of (args.getD 0 .dead).cells)) (λX=> .bool X) (λX=>[])
theorem Zci:Q05 Tryz.prog Zfg:=Q11 Q0j Q0i (.cons Z5j (.cons Z1z (.nil))) Tryz.func186 Tryz.call186 (λargs rows=>Qil (Q0h.of (args.getD 0 .dead).cells)) [] [] 2 (λ_ _ _=>by kernel_rfl) (λ_ _=>rfl) (λ_ _=>Tree.free_ok (by kernel_rfl)) (λ_ X=>by kernel_rfl)
def Q7p(w:Int):Tree (Q0h×Bool):=
.an (Q3v w 24 8) (.lv (Q3q w 24 8) λ(x0:Int)=> .an (Q3v w 20 4) (.lv (Q3q w 20 4) λ(x1:Int)=> .an (Q3v w 16 4) (.lv (Q3q w 16 4) λ(x2:Int)=> .lv (Z2t (wrap i64 x0)) λ(x3:Qa0×Bool)=>let E1:=({Op:=0,A:=0,B:=0,C:=0,Imm:=0}:Q0h); .br (!x3.2) (.lf (E1,false)) (.an (Q3v w 0 16) (.lv (Q3q w 0 16) λ(x4:Int)=> .br x3.1.c (let E2:=({Op:=wrap i64 x0,A:=wrap i64 x1,B:=wrap i64 x2,C:=wrap i64 x4,Imm:=0}:Q0h); .lv (Qft E2) λ(x5:Bool)=> .br (!x5) (.lf (E1,false)) (.lf (E2,true))) (.br (decide (x3.1.low<0)) (.an (Q4i x4 16) (.lv (Q2r x4 16) λ(x6:Int)=>let E3:=({Op:=wrap i64 x0,A:=wrap i64 x1,B:=wrap i64 x2,C:=0,Imm:=wrap i32 x6}:Q0h); .lv (Qft E3) λ(x7:Bool)=> .br (!x7) (.lf (E1,false)) (.lf (E3,true)))) (let E4:=({Op:=wrap i64 x0,A:=wrap i64 x1,B:=wrap i64 x2,C:=0,Imm:=wrap i32 x4}:Q0h); .lv (Qft E4) λ(x8:Bool)=> .br (!x8) (.lf (E1,false)) (.lf (E4,true)))))))))
def Qhu(w:Int):(Q0h×Bool):=(Q7p w).m
abbrev Qc6(w:Int):Prop:=(Q7p w).p
def Zb2:Q0d:=mkP 131 [] true [.one (.int .u32)] [] (λargs rows=>Qc6 (argI args 0)) (λargs rows=>Qhu (argI args 0)) (λX=> .tup [.agg (Q0h.cells (X.1)), .bool (X.2)]) (λX=>[])
theorem Z9:Q05 Tryz.prog Zb2:=Q0k Q0j Q0i (.cons Qml (.cons Z5j (.cons Qk5 (.cons Zci (.nil))))) Tryz.func131 Tryz.call131 (λargs rows=>Q7p (argI args 0)) [] [] 2 (λ_ _ _=>by kernel_rfl) (λ_ _=>rfl) (λ_ _ h=>h) (λ_ X=>by kernel_rfl)
def Q5w(a:Int)(b:Int):Tree (Int×Int):=
.br (b==0) (.lf (4294967295,a)) (let T1:Tree ((Int×Int)):= .cn (decide (wrap i32 b≠0)) (.cn (decide (wrap i32 b≠0)) (.lf (wrap u32 (wrap i32 (Int.tdiv (wrap i32 a) (wrap i32 b))),wrap u32 (Int.tmod (wrap i32 a) (wrap i32 b))))); .br (a==2147483648) (.br (b==4294967295) (.lf (a,0)) T1) T1)
def Qco(a:Int)(b:Int):(Int×Int):=(Q5w a b).m
abbrev Q8g(a:Int)(b:Int):Prop:=(Q5w a b).p
def Z81:Q0d:=mkP 232 [] true [.one (.int .u32), .one (.int .u32)] [] (λargs rows=>Q8g (argI args 0) (argI args 1)) (λargs rows=>Qco (argI args 0) (argI args 1)) (λX=> .tup [.int .u32 (X.1), .int .u32 (X.2)]) (λX=>[])
theorem Z39:Q05 Tryz.prog Z81:=Q0k Q0j Q0i (.nil) Tryz.func232 Tryz.call232 (λargs rows=>Q5w (argI args 0) (argI args 1)) [] [] 2 (λ_ _ _=>by kernel_rfl) (λ_ _=>rfl) (λ_ _ h=>h) (λ_ X=>by kernel_rfl)
def Z2u(b:Bool):Tree Int:=
.br b (.lf 1) (.lf 0)
def Qom(b:Bool):Int:=(Z2u b).m
def Zf2:Q0d:=mkR 233 [] true [.one (.bool)] [] (λargs rows=>Qom (argB args 0)) (λX=> .int .u32 X) (λX=>[])
theorem Zed:Q05 Tryz.prog Zf2:=Q11 Q0j Q0i (.nil) Tryz.func233 Tryz.call233 (λargs rows=>Z2u (argB args 0)) [] [] 2 (λ_ _ _=>by kernel_rfl) (λ_ _=>rfl) (λ_ _=>Tree.free_ok (by kernel_rfl)) (λ_ X=>by kernel_rfl)
def Qgc(op:Int)(a:Int)(b:Int):Tree (Int×Bool):=
.br (op==2) (.lf (wrap u32 (a+wrap u32 (0-b)),true)) (.br (op==1) (.lf (wrap u32 (a+b),true)) (.br (op==16) (.lf (wrap u32 (a+b),true)) (.br (op==3) (.lf (iand u32 a b,true)) (.br (op==17) (.lf (iand u32 a b,true)) (.br (op==4) (.lf (ior u32 a b,true)) (.br (op==18) (.lf (ior u32 a b,true)) (.br (op==5) (.lf (ixor u32 a b,true)) (.br (op==19) (.lf (ixor u32 a b,true)) (.br (op==6) (.lf (ishl u32 a (iand u32 b 31),true)) (.br (op==20) (.lf (ishl u32 a (iand u32 b 31),true)) (.br (op==7) (.lf (ishr u32 a (iand u32 b 31),true)) (.br (op==21) (.lf (ishr u32 a (iand u32 b 31),true)) (let E1:=(wrap u32 (ishr i32 (wrap i32 a) (iand u32 b 31)),true); .br (op==8) (.lf E1) (.br (op==22) (.lf E1) (.br (op==9) (.lf (wrap u32 (a*b),true)) (.br (op==10) (.an (Q8g a b) (.lv (Qco a b) λ(x0:Int×Int)=> .lf (x0.1,true))) (.br (op==11) (.an (Q8g a b) (.lv (Qco a b) λ(x1:Int×Int)=> .lf (x1.2,true))) (.br (op==12) (.lv (Qom (decide (wrap i32 a<wrap i32 b))) λ(x2:Int)=> .lf (x2,true)) (.br (op==23) (.lv (Qom (decide (wrap i32 a<wrap i32 b))) λ(x3:Int)=> .lf (x3,true)) (.br (op==13) (.lv (Qom (decide (a<b))) λ(x4:Int)=> .lf (x4,true)) (.lf (0,false))))))))))))))))))))))
def Q4w(op:Int)(a:Int)(b:Int):(Int×Bool):=(Qgc op a b).m
abbrev Qf0(op:Int)(a:Int)(b:Int):Prop:=(Qgc op a b).p
def cpu_Alu_m:Q0d:=mkP 193 [] true [.one (.int .i64), .one (.int .u32), .one (.int .u32)] [] (λargs rows=>Qf0 (argI args 0) (argI args 1) (argI args 2)) (λargs rows=>Q4w (argI args 0) (argI args 1) (argI args 2)) (λX=> .tup [.int .u32 (X.1), .bool (X.2)]) (λX=>[])
theorem Zkh:Q05 Tryz.prog cpu_Alu_m:=Q0k Q0j Q0i (.cons Z39 (.cons Zed (.nil))) Tryz.func193 Tryz.call193 (λargs rows=>Qgc (argI args 0) (argI args 1) (argI args 2)) [] [] 2 (λ_ _ _=>by kernel_rfl) (λ_ _=>rfl) (λ_ _ h=>h) (λ_ X=>by kernel_rfl)
end
end Go.Proofs.YtpcbkbalabgnlaaGreat

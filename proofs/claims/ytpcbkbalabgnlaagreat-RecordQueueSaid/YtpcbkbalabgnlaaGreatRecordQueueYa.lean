/-
  Functions of the program: models, and that its calls come to them (by a program: gen3.py).
-/
import Derived.Test.YtpcbkbalabgnlaaGreatRecordQueueBase
set_option linter.unusedVariables false
set_option linter.unusedSimpArgs false
namespace Go.Proofs.YtpcbkbalabgnlaaGreat
open Go Go.GD Go.IntKind
set_option maxRecDepth 100000
noncomputable section
def Q02(s:(List Int)):(List Int):=
s
def Q04(s:(List Int)):Prop:=
s.length≤35184372088832
def Q3v(s:(List Int)):List D:=[.sl 1 (.ints .u32 s) false]
def Q2f(s:(List Int)):List Row:=[]
def Q1f(X:(List Int)):D:= .all 0
def Q1g(X:(List Int)):List Row:=[⟨false,23,1, .ints .u32 X⟩]
def Qc4:List Dir:=[.row 23 1 (.ints .u32)]
def Q75:List PT:=[.one (.ints .u32)]
def Q6t:List RT:=[]
def Qcv(args:List D)(rows:List Row):(List Int):=Q02 (argL .u32 args 0)
def Qd(args:List D)(rows:List Row):Prop:=Q04 (argL .u32 args 0)
def Qe4:Q0f:=mkP 72 [] true Q75 Q6t Qd Qcv Q1f Q1g
def Q5(s:(List Int))(Leaf:(List Int)→Prop):Prop:=
(s=[]→Leaf [])∧cand (decide ((4:Nat)*((0:Nat)+s.length)≤(140737488355328:Nat))) (Leaf s)
set_option maxRecDepth 100000 in
theorem Qdp(s:(List Int))(Q:D→List Row→Prop):(fnVC tab [] (LL tab [] Tryz.f72.ntmps 0 [] 2) Tryz.f72 (Q3v s) (Q2f s) λd R=>Qbh (Q2f s).length Qc4 d R Q)=Q5 s (λX=>Q (Q1f X) (Q1g X)):=by kernel_rfl
theorem Qc3(s:(List Int))(Leaf:(List Int)→Prop)(hw:Q04 s)(h:Leaf (Q02 s)):
Q5 s Leaf:=by
 delta Q5
 refine⟨λe=>by rw[e]at h;exact h,?_⟩
 rw[Q05]
 refine⟨decide_eq_true ?_,h⟩
 have:s.length≤35184372088832:=hw
 omega
set_option maxRecDepth 100000 in
theorem Qbs(s:(List Int))(hw:Q04 s):Q4o Tryz.prog 72 (Q3v s) (Q2f s) (Q1f (Q02 s)) (Q1g (Q02 s)):=
 have hG:Q86 Tryz.prog []:= .nil
 FnOK.calls Q0o Q0p hG Tryz.func72 (Za6 Q0o Q0p hG 2 (invs:=[])) (FnOK.of (Qdp s _) (Qc3 s (λX=>Q1f X=Q1f (Q02 s)∧Q1g X=Q1g (Q02 s)) hw ⟨rfl,rfl⟩))
set_option maxRecDepth 100000 in
theorem Qce(args:List D)(rows:List Row):Qh7 Q75 args 0=Q3v (argL .u32 args 0):=by kernel_rfl
set_option maxRecDepth 100000 in
theorem Qbu(args:List D)(rows:List Row):Q83 Q6t rows 0=Q2f (argL .u32 args 0):=by kernel_rfl
set_option maxRecDepth 100000 in
theorem Qdt(X:(List Int)):(ffB (Q1f X)&&ffBR (Q1g X))=true:=by kernel_rfl
theorem Q0m:Q09 Tryz.prog Qe4:=Quh Tryz.call72 (λargs rows hp=>by rw[Qce args rows,Qbu args rows];exact Qbs (argL .u32 args 0) hp) (λ_ X=>Qdt X)
def Q9z(m:(List Int)):Tree Int:=
.br (Int.tmod (m.length:Int) (32:Int) !=(0:Int)) (.lf 0) (.br (decide ((m.length:Int)>(1024:Int))) (.lf 0) (.lf (wrap i64 (Int.tdiv (m.length:Int) 32))))
def Q0n(m:(List Int)):Int:=(Q9z m).m
def Qwz:Q0f:=mkR 89 [] true [.one (.ints .u32)] [] (λargs rows=>Q0n (argL .u32 args 0)) (λX=> .int .i64 X) (λX=>[])
theorem Q49:Q09 Tryz.prog Qwz:=Q27 Q0o Q0p (.nil) Tryz.func89 Tryz.call89 (λargs rows=>Q9z (argL .u32 args 0)) [] [] 2 (λ_ _ _=>by kernel_rfl) (λ_ _=>rfl) (λ_ _=>Tree.free_ok (by kernel_rfl)) (λ_ X=>by kernel_rfl)
def Q2s(m:(List Int))(addr:Int)(size:Int):Tree Bool:=
let T1:Tree (Bool):= .cn (decide (wrap u32 size≠0)) (.br (Int.tmod addr (wrap u32 size) !=0) (.lf false) (.lv (Q0n m) λ(x0:Int)=> .lf (decide (wrap u64 (wrap u64 addr+wrap u64 size)≤wrap u64 (wrap u64 x0*128))))); .br (size !=1) (.br (size !=4) (.lf false) T1) T1
def Qe6(m:(List Int))(addr:Int)(size:Int):Bool:=(Q2s m addr size).m
abbrev Q59(m:(List Int))(addr:Int)(size:Int):Prop:=(Q2s m addr size).p
def Qt:Q0f:=mkP 228 [] true [.one (.ints .u32), .one (.int .u32), .one (.int .i64)] [] (λargs rows=>Q59 (argL .u32 args 0) (argI args 1) (argI args 2)) (λargs rows=>Qe6 (argL .u32 args 0) (argI args 1) (argI args 2)) (λX=> .bool X) (λX=>[])
theorem Qiy:Q09 Tryz.prog Qt:=Q0x Q0o Q0p (.cons Q49 (.nil)) Tryz.func228 Tryz.call228 (λargs rows=>Q2s (argL .u32 args 0) (argI args 1) (argI args 2)) [] [] 2 (λ_ _ _=>by kernel_rfl) (λ_ _=>rfl) (λ_ _ h=>h) (λ_ X=>by kernel_rfl)
def Q8b(n:Int):Tree Int:=
.br (decide (n≥32)) (.lf 4294967295) (.cn (decide (0≤wrap u64 n)) (.lf (wrap u32 (ishl u32 1 (wrap u64 n)-1))))
def Qus(n:Int):Int:=(Q8b n).m
abbrev Q96(n:Int):Prop:=(Q8b n).p
def Z7z:Q0f:=mkP 229 [] true [.one (.int .i64)] [] (λargs rows=>Q96 (argI args 0)) (λargs rows=>Qus (argI args 0)) (λX=> .int .u32 X) (λX=>[])
theorem Qr:Q09 Tryz.prog Z7z:=Q0x Q0o Q0p (.nil) Tryz.func229 Tryz.call229 (λargs rows=>Q8b (argI args 0)) [] [] 2 (λ_ _ _=>by kernel_rfl) (λ_ _=>rfl) (λ_ _ h=>h) (λ_ X=>by kernel_rfl)
def Q74(w:Int)(low:Int)(n:Int):Tree Int:=
.br (decide (low<0)) (.lf 0) (.br (decide (low>31)) (.lf 0) (.br (decide (n<1)) (.lf 0) (.cn (decide (0≤wrap u64 low)) (.an (Q96 n) (.lv (Qus n) λ(x0:Int)=> .lf (iand u32 (ishr u32 w (wrap u64 low)) x0))))))
def Q35(w:Int)(low:Int)(n:Int):Int:=(Q74 w low n).m
abbrev Q39(w:Int)(low:Int)(n:Int):Prop:=(Q74 w low n).p
def Z2m:Q0f:=mkP 183 [] true [.one (.int .u32), .one (.int .i64), .one (.int .i64)] [] (λargs rows=>Q39 (argI args 0) (argI args 1) (argI args 2)) (λargs rows=>Q35 (argI args 0) (argI args 1) (argI args 2)) (λX=> .int .u32 X) (λX=>[])
theorem Qi6:Q09 Tryz.prog Z2m:=Q0x Q0o Q0p (.cons Qr (.nil)) Tryz.func183 Tryz.call183 (λargs rows=>Q74 (argI args 0) (argI args 1) (argI args 2)) [] [] 2 (λ_ _ _=>by kernel_rfl) (λ_ _=>rfl) (λ_ _ h=>h) (λ_ X=>by kernel_rfl)
def Q40(w:Int)(low:Int)(n:Int)(v:Int):Tree Int:=
.br (decide (low<0)) (.lf w) (.br (decide (low>31)) (.lf w) (.br (decide (n<1)) (.lf w) (.an (Q96 n) (.lv (Qus n) λ(x0:Int)=> .cn (decide (0≤wrap u64 low)) (.cn (decide (0≤wrap u64 low)) (.lf (ior u32 (Qe8 u32 w (ishl u32 x0 (wrap u64 low))) (ishl u32 (iand u32 v x0) (wrap u64 low)))))))))
def Q7l(w:Int)(low:Int)(n:Int)(v:Int):Int:=(Q40 w low n v).m
abbrev Q6s(w:Int)(low:Int)(n:Int)(v:Int):Prop:=(Q40 w low n v).p
def Qvf:Q0f:=mkP 231 [] true [.one (.int .u32), .one (.int .i64), .one (.int .i64), .one (.int .u32)] [] (λargs rows=>Q6s (argI args 0) (argI args 1) (argI args 2) (argI args 3)) (λargs rows=>Q7l (argI args 0) (argI args 1) (argI args 2) (argI args 3)) (λX=> .int .u32 X) (λX=>[])
theorem Qrv:Q09 Tryz.prog Qvf:=Q0x Q0o Q0p (.cons Qr (.nil)) Tryz.func231 Tryz.call231 (λargs rows=>Q40 (argI args 0) (argI args 1) (argI args 2) (argI args 3)) [] [] 2 (λ_ _ _=>by kernel_rfl) (λ_ _=>rfl) (λ_ _ h=>h) (λ_ X=>by kernel_rfl)
def Q3x(m:(List Int))(addr:Int)(size:Int)(v:Int):Tree ((List Int)×Bool):=
.an (Q04 m) (.lv (Q02 m) λ(x0:List Int)=> .an (Q59 m addr size) (.lv (Qe6 m addr size) λ(x1:Bool)=> .br (!x1) (.lf (x0,false)) (let E1:=Nat.beq 1 1&&Nat.blt 0 1&&decide (0≤wrap u32 (Int.tdiv addr 4)∧wrap u32 (Int.tdiv addr 4)<(x0.length:Int));let E2:=Int.toNat (wrap u32 (Int.tdiv addr 4)); .br (size==1) (.cn E1 (let E3:=wrap i64 (wrap i64 (Int.tmod addr 4)*8); .an (Q6s (x0.getD E2 0) E3 8 v) (.lv (Q7l (x0.getD E2 0) E3 8 v) λ(x2:Int)=> .cn E1 (.lf (List.set x0 E2 x2,true))))) (.cn E1 (.lf (List.set x0 E2 v,true))))))
def Q8u(m:(List Int))(addr:Int)(size:Int)(v:Int):((List Int)×Bool):=(Q3x m addr size v).m
abbrev Q4j(m:(List Int))(addr:Int)(size:Int)(v:Int):Prop:=(Q3x m addr size v).p
def Qx7:Q0f:=mkP 189 [] true [.one (.ints .u32), .one (.int .u32), .one (.int .i64), .one (.int .u32)] [] (λargs rows=>Q4j (argL .u32 args 0) (argI args 1) (argI args 2) (argI args 3)) (λargs rows=>Q8u (argL .u32 args 0) (argI args 1) (argI args 2) (argI args 3)) (λX=> .tup [.all 0, .bool (X.2)]) (λX=>[⟨false,23,1, .ints .u32 (X.1)⟩])
theorem Qj:Q09 Tryz.prog Qx7:=Q0x Q0o Q0p (.cons Q0m (.cons Qiy (.cons Qrv (.nil)))) Tryz.func189 Tryz.call189 (λargs rows=>Q3x (argL .u32 args 0) (argI args 1) (argI args 2) (argI args 3)) [.row 23 1 (.ints .u32)] [] 2 (λ_ _ _=>by kernel_rfl) (λ_ _=>rfl) (λ_ _ h=>h) (λ_ X=>by kernel_rfl)
def Z47(op:Int):Tree (Q84×Bool):=
.br (op==1) (.lf ({a:=true,b:=true,c:=true,low:=0,D3:=0},true)) (.br (op==2) (.lf ({a:=true,b:=true,c:=true,low:=0,D3:=0},true)) (.br (op==3) (.lf ({a:=true,b:=true,c:=true,low:=0,D3:=0},true)) (.br (op==4) (.lf ({a:=true,b:=true,c:=true,low:=0,D3:=0},true)) (.br (op==5) (.lf ({a:=true,b:=true,c:=true,low:=0,D3:=0},true)) (.br (op==6) (.lf ({a:=true,b:=true,c:=true,low:=0,D3:=0},true)) (.br (op==7) (.lf ({a:=true,b:=true,c:=true,low:=0,D3:=0},true)) (.br (op==8) (.lf ({a:=true,b:=true,c:=true,low:=0,D3:=0},true)) (.br (op==9) (.lf ({a:=true,b:=true,c:=true,low:=0,D3:=0},true)) (.br (op==10) (.lf ({a:=true,b:=true,c:=true,low:=0,D3:=0},true)) (.br (op==11) (.lf ({a:=true,b:=true,c:=true,low:=0,D3:=0},true)) (.br (op==12) (.lf ({a:=true,b:=true,c:=true,low:=0,D3:=0},true)) (.br (op==13) (.lf ({a:=true,b:=true,c:=true,low:=0,D3:=0},true)) (.br (op==16) (.lf ({a:=true,b:=true,c:=false,low:=(-32768),D3:=32767},true)) (.br (op==23) (.lf ({a:=true,b:=true,c:=false,low:=(-32768),D3:=32767},true)) (.br (op==32) (.lf ({a:=true,b:=true,c:=false,low:=(-32768),D3:=32767},true)) (.br (op==33) (.lf ({a:=true,b:=true,c:=false,low:=(-32768),D3:=32767},true)) (.br (op==34) (.lf ({a:=true,b:=true,c:=false,low:=(-32768),D3:=32767},true)) (.br (op==35) (.lf ({a:=true,b:=true,c:=false,low:=(-32768),D3:=32767},true)) (.br (op==36) (.lf ({a:=true,b:=true,c:=false,low:=(-32768),D3:=32767},true)) (.br (op==40) (.lf ({a:=true,b:=true,c:=false,low:=(-32768),D3:=32767},true)) (.br (op==41) (.lf ({a:=true,b:=true,c:=false,low:=(-32768),D3:=32767},true)) (.br (op==42) (.lf ({a:=true,b:=true,c:=false,low:=(-32768),D3:=32767},true)) (.br (op==43) (.lf ({a:=true,b:=true,c:=false,low:=(-32768),D3:=32767},true)) (.br (op==44) (.lf ({a:=true,b:=true,c:=false,low:=(-32768),D3:=32767},true)) (.br (op==45) (.lf ({a:=true,b:=true,c:=false,low:=(-32768),D3:=32767},true)) (.br (op==49) (.lf ({a:=true,b:=true,c:=false,low:=(-32768),D3:=32767},true)) (.br (op==17) (.lf ({a:=true,b:=true,c:=false,low:=0,D3:=65535},true)) (.br (op==18) (.lf ({a:=true,b:=true,c:=false,low:=0,D3:=65535},true)) (.br (op==19) (.lf ({a:=true,b:=true,c:=false,low:=0,D3:=65535},true)) (.br (op==20) (.lf ({a:=true,b:=true,c:=false,low:=0,D3:=31},true)) (.br (op==21) (.lf ({a:=true,b:=true,c:=false,low:=0,D3:=31},true)) (.br (op==22) (.lf ({a:=true,b:=true,c:=false,low:=0,D3:=31},true)) (.br (op==24) (.lf ({a:=true,b:=false,c:=false,low:=0,D3:=65535},true)) (.br (op==48) (.lf ({a:=true,b:=false,c:=false,low:=(-32768),D3:=32767},true)) (.br (op==58) (.lf ({a:=true,b:=false,c:=false,low:=0,D3:=7},true)) (.br (op==59) (.lf ({a:=true,b:=false,c:=false,low:=0,D3:=7},true)) (.br (op==60) (.lf ({a:=true,b:=false,c:=false,low:=0,D3:=11},true)) (.br (op==61) (.lf ({a:=true,b:=false,c:=false,low:=0,D3:=11},true)) (.br (op==56) (.lf ({a:=false,b:=false,c:=false,low:=0,D3:=0},true)) (.br (op==57) (.lf ({a:=false,b:=false,c:=false,low:=0,D3:=0},true)) (.br (op==62) (.lf ({a:=false,b:=false,c:=false,low:=0,D3:=0},true)) (.br (op==63) (.lf ({a:=false,b:=false,c:=false,low:=0,D3:=0},true)) (.br (op==64) (.lf ({a:=false,b:=false,c:=false,low:=0,D3:=0},true)) (.lf ({a:=false,b:=false,c:=false,low:=0,D3:=0},false)))))))))))))))))))))))))))))))))))))))))))))
def Que(op:Int):(Q84×Bool):=(Z47 op).m
def isa_use_m:Q0f:=mkR 184 [] true [.one (.int .i64)] [] (λargs rows=>Que (argI args 0)) (λX=> .tup [.agg (Q84.cells (X.1)), .bool (X.2)]) (λX=>[])
theorem Qyw:Q09 Tryz.prog isa_use_m:=Q27 Q0o Q0p (.nil) Tryz.func184 Tryz.call184 (λargs rows=>Z47 (argI args 0)) [] [] 2 (λ_ _ _=>by kernel_rfl) (λ_ _=>rfl) (λ_ _=>Tree.free_ok (by kernel_rfl)) (λ_ X=>by kernel_rfl)
def Q33(x:Int)(n:Int):Tree Int:=
.br (decide (n<1)) (.lf 0) (.br (decide (n≥32)) (.lf x) (let E1:=decide (0≤wrap u64 (wrap i64 (32-n))); .cn E1 (.cn E1 (.lf (wrap u32 (ishr i32 (wrap i32 (ishl u32 x (wrap u64 (wrap i64 (32-n))))) (wrap u64 (wrap i64 (32-n)))))))))
def Q28(x:Int)(n:Int):Int:=(Q33 x n).m
abbrev Q3s(x:Int)(n:Int):Prop:=(Q33 x n).p
def Qor:Q0f:=mkP 185 [] true [.one (.int .u32), .one (.int .i64)] [] (λargs rows=>Q3s (argI args 0) (argI args 1)) (λargs rows=>Q28 (argI args 0) (argI args 1)) (λX=> .int .u32 X) (λX=>[])
theorem Qga:Q09 Tryz.prog Qor:=Q0x Q0o Q0p (.nil) Tryz.func185 Tryz.call185 (λargs rows=>Q33 (argI args 0) (argI args 1)) [] [] 2 (λ_ _ _=>by kernel_rfl) (λ_ _=>rfl) (λ_ _ h=>h) (λ_ X=>by kernel_rfl)
def Qcs(r:Int)(used:Bool):Tree Bool:=
.br used (.br (decide (r≥0)) (.lf (decide (r≤15))) (.lf false)) (.lf (r==0))
def Q8n(r:Int)(used:Bool):Bool:=(Qcs r used).m
def Qxc:Q0f:=mkR 230 [] true [.one (.int .i64), .one (.bool)] [] (λargs rows=>Q8n (argI args 0) (argB args 1)) (λX=> .bool X) (λX=>[])
theorem Qv4:Q09 Tryz.prog Qxc:=Q27 Q0o Q0p (.nil) Tryz.func230 Tryz.call230 (λargs rows=>Qcs (argI args 0) (argB args 1)) [] [] 2 (λ_ _ _=>by kernel_rfl) (λ_ _=>rfl) (λ_ _=>Tree.free_ok (by kernel_rfl)) (λ_ X=>by kernel_rfl)
def Qfs(i:Q0g):Tree Bool:=
.lv (Que i.Op) λ(x0:Q84×Bool)=> .br x0.2 (.lv (Q8n i.A x0.1.a) λ(x1:Bool)=> .br x1 (.lv (Q8n i.B x0.1.b) λ(x2:Bool)=> .br x2 (.lv (Q8n i.C x0.1.c) λ(x3:Bool)=> .br x3 (.br (decide (i.Imm≥x0.1.low)) (.lf (decide (i.Imm≤x0.1.D3))) (.lf false)) (.lf false)) (.lf false)) (.lf false)) (.lf false)
def Qcy(i:Q0g):Bool:=(Qfs i).m
def Z6l:Q0f:=mkR 186 [] true [.agg Q0g.sig] [] (λargs rows=>Qcy (Q0g.of (args.getD 0 .dead).cells)) (λX=> .bool X) (λX=>[])
theorem Z46:Q09 Tryz.prog Z6l:=Q27 Q0o Q0p (.cons Qyw (.cons Qv4 (.nil))) Tryz.func186 Tryz.call186 (λargs rows=>Qfs (Q0g.of (args.getD 0 .dead).cells)) [] [] 2 (λ_ _ _=>by kernel_rfl) (λ_ _=>rfl) (λ_ _=>Tree.free_ok (by kernel_rfl)) (λ_ X=>by kernel_rfl)
def Q6f(w:Int):Tree (Q0g×Bool):=
.an (Q39 w 24 8) (.lv (Q35 w 24 8) λ(x0:Int)=> .an (Q39 w 20 4) (.lv (Q35 w 20 4) λ(x1:Int)=> .an (Q39 w 16 4) (.lv (Q35 w 16 4) λ(x2:Int)=> .lv (Que (wrap i64 x0)) λ(x3:Q84×Bool)=>let E1:=({Op:=0,A:=0,B:=0,C:=0,Imm:=0}:Q0g); .br (!x3.2) (.lf (E1,false)) (.an (Q39 w 0 16) (.lv (Q35 w 0 16) λ(x4:Int)=> .br x3.1.c (let E2:=({Op:=wrap i64 x0,A:=wrap i64 x1,B:=wrap i64 x2,C:=wrap i64 x4,Imm:=0}:Q0g); .lv (Qcy E2) λ(x5:Bool)=> .br (!x5) (.lf (E1,false)) (.lf (E2,true))) (.br (decide (x3.1.low<0)) (.an (Q3s x4 16) (.lv (Q28 x4 16) λ(x6:Int)=>let E3:=({Op:=wrap i64 x0,A:=wrap i64 x1,B:=wrap i64 x2,C:=0,Imm:=wrap i32 x6}:Q0g); .lv (Qcy E3) λ(x7:Bool)=> .br (!x7) (.lf (E1,false)) (.lf (E3,true)))) (let E4:=({Op:=wrap i64 x0,A:=wrap i64 x1,B:=wrap i64 x2,C:=0,Imm:=wrap i32 x4}:Q0g); .lv (Qcy E4) λ(x8:Bool)=> .br (!x8) (.lf (E1,false)) (.lf (E4,true)))))))))
def Qel(w:Int):(Q0g×Bool):=(Q6f w).m
abbrev Qa5(w:Int):Prop:=(Q6f w).p
def Z2h:Q0f:=mkP 131 [] true [.one (.int .u32)] [] (λargs rows=>Qa5 (argI args 0)) (λargs rows=>Qel (argI args 0)) (λX=> .tup [.agg (Q0g.cells (X.1)), .bool (X.2)]) (λX=>[])
theorem Z1y:Q09 Tryz.prog Z2h:=Q0x Q0o Q0p (.cons Qi6 (.cons Qyw (.cons Qga (.cons Z46 (.nil))))) Tryz.func131 Tryz.call131 (λargs rows=>Q6f (argI args 0)) [] [] 2 (λ_ _ _=>by kernel_rfl) (λ_ _=>rfl) (λ_ _ h=>h) (λ_ X=>by kernel_rfl)
def Q4y(a:Int)(b:Int):Tree (Int×Int):=
.br (b==0) (.lf (4294967295,a)) (let T1:Tree ((Int×Int)):= .cn (decide (wrap i32 b≠0)) (.cn (decide (wrap i32 b≠0)) (.lf (wrap u32 (wrap i32 (Int.tdiv (wrap i32 a) (wrap i32 b))),wrap u32 (Int.tmod (wrap i32 a) (wrap i32 b))))); .br (a==2147483648) (.br (b==4294967295) (.lf (a,0)) T1) T1)
def Qaq(a:Int)(b:Int):(Int×Int):=(Q4y a b).m
abbrev Q6v(a:Int)(b:Int):Prop:=(Q4y a b).p
def Z0s:Q0f:=mkP 232 [] true [.one (.int .u32), .one (.int .u32)] [] (λargs rows=>Q6v (argI args 0) (argI args 1)) (λargs rows=>Qaq (argI args 0) (argI args 1)) (λX=> .tup [.int .u32 (X.1), .int .u32 (X.2)]) (λX=>[])
theorem Qw9:Q09 Tryz.prog Z0s:=Q0x Q0o Q0p (.nil) Tryz.func232 Tryz.call232 (λargs rows=>Q4y (argI args 0) (argI args 1)) [] [] 2 (λ_ _ _=>by kernel_rfl) (λ_ _=>rfl) (λ_ _ h=>h) (λ_ X=>by kernel_rfl)
def Qv2(b:Bool):Tree Int:=
.br b (.lf 1) (.lf 0)
def Qjq(b:Bool):Int:=(Qv2 b).m
def Z7:Q0f:=mkR 233 [] true [.one (.bool)] [] (λargs rows=>Qjq (argB args 0)) (λX=> .int .u32 X) (λX=>[])
theorem Z4n:Q09 Tryz.prog Z7:=Q27 Q0o Q0p (.nil) Tryz.func233 Tryz.call233 (λargs rows=>Qv2 (argB args 0)) [] [] 2 (λ_ _ _=>by kernel_rfl) (λ_ _=>rfl) (λ_ _=>Tree.free_ok (by kernel_rfl)) (λ_ X=>by kernel_rfl)
def Qd0(op:Int)(a:Int)(b:Int):Tree (Int×Bool):=
.br (op==2) (.lf (wrap u32 (a+wrap u32 (0-b)),true)) (.br (op==1) (.lf (wrap u32 (a+b),true)) (.br (op==16) (.lf (wrap u32 (a+b),true)) (.br (op==3) (.lf (iand u32 a b,true)) (.br (op==17) (.lf (iand u32 a b,true)) (.br (op==4) (.lf (ior u32 a b,true)) (.br (op==18) (.lf (ior u32 a b,true)) (.br (op==5) (.lf (ixor u32 a b,true)) (.br (op==19) (.lf (ixor u32 a b,true)) (.br (op==6) (.lf (ishl u32 a (iand u32 b 31),true)) (.br (op==20) (.lf (ishl u32 a (iand u32 b 31),true)) (.br (op==7) (.lf (ishr u32 a (iand u32 b 31),true)) (.br (op==21) (.lf (ishr u32 a (iand u32 b 31),true)) (let E1:=(wrap u32 (ishr i32 (wrap i32 a) (iand u32 b 31)),true); .br (op==8) (.lf E1) (.br (op==22) (.lf E1) (.br (op==9) (.lf (wrap u32 (a*b),true)) (.br (op==10) (.an (Q6v a b) (.lv (Qaq a b) λ(x0:Int×Int)=> .lf (x0.1,true))) (.br (op==11) (.an (Q6v a b) (.lv (Qaq a b) λ(x1:Int×Int)=> .lf (x1.2,true))) (.br (op==12) (.lv (Qjq (decide (wrap i32 a<wrap i32 b))) λ(x2:Int)=> .lf (x2,true)) (.br (op==23) (.lv (Qjq (decide (wrap i32 a<wrap i32 b))) λ(x3:Int)=> .lf (x3,true)) (.br (op==13) (.lv (Qjq (decide (a<b))) λ(x4:Int)=> .lf (x4,true)) (.lf (0,false))))))))))))))))))))))
def Q45(op:Int)(a:Int)(b:Int):(Int×Bool):=(Qd0 op a b).m
abbrev Qcc(op:Int)(a:Int)(b:Int):Prop:=(Qd0 op a b).p
def cpu_Alu_m:Q0f:=mkP 193 [] true [.one (.int .i64), .one (.int .u32), .one (.int .u32)] [] (λargs rows=>Qcc (argI args 0) (argI args 1) (argI args 2)) (λargs rows=>Q45 (argI args 0) (argI args 1) (argI args 2)) (λX=> .tup [.int .u32 (X.1), .bool (X.2)]) (λX=>[])
theorem Zc5:Q09 Tryz.prog cpu_Alu_m:=Q0x Q0o Q0p (.cons Qw9 (.cons Z4n (.nil))) Tryz.func193 Tryz.call193 (λargs rows=>Qd0 (argI args 0) (argI args 1) (argI args 2)) [] [] 2 (λ_ _ _=>by kernel_rfl) (λ_ _=>rfl) (λ_ _ h=>h) (λ_ X=>by kernel_rfl)
end
end Go.Proofs.YtpcbkbalabgnlaaGreat

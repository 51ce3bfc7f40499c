/-
  Functions of the program: models, and that its calls come to them (by a program: gen3.py).
-/
import Derived.Test.YtjaifpiopmhmlaaGreatBareIgnoresBase
set_option maxRecDepth 100000
set_option linter.all false
namespace Go.Proofs.YtjaifpiopmhmlaaGreat
open Go Go.GD Go.IntKind
noncomputable section
def Q03(s:(List Int)):(List Int):=
s
def Q06(s:(List Int)):Prop:=
s.length<=35184372088832
def Q3i(s:(List Int)):List D:=[.sl 1 (.ints .u32 s) false]
def Q2d(s:(List Int)):List Row:=[]
def Q1g(X:(List Int)):D:= .all 0
def Q1j(X:(List Int)):List Row:=[⟨false,23,1, .ints .u32 X⟩]
def Qcv:List Dir:=[.row 23 1 (.ints .u32)]
def Q71:List PT:=[.one (.ints .u32)]
def Q6k:List RT:=[]
def Qf(args:List D)(rows:List Row):(List Int):=Q03 (argL .u32 args 0)
def Qf0(args:List D)(rows:List Row):Prop:=Q06 (argL .u32 args 0)
def Qg:Q0c:=mkP 67 [] true Q71 Q6k Qf0 Qf Q1g Q1j
def Q4r(s:(List Int))(Leaf:(List Int)->Prop):Prop:=
(s=[]->Leaf [])/\cand (decide ((4:Nat)*((0:Nat)+s.length)<=(140737488355328:Nat))) (Leaf s)
set_option maxRecDepth 100000 in
theorem Qf2(s:(List Int))(Q:D->List Row->Prop):(fnVC tab [] (LL tab [] Tryz.f67.ntmps 0 [] 2) Tryz.f67 (Q3i s) (Q2d s) λd R=>Qdc (Q2d s).length Qcv d R Q)=Q4r s (λX=>Q (Q1g X) (Q1j X)):=by kernel_rfl
theorem Qdl(s:(List Int))(Leaf:(List Int)->Prop)(hw:Q06 s)(h:Leaf (Q03 s)):
Q4r s Leaf:=by
 delta Q4r
 refine⟨λe=>by rw[e]at h;exact h,?_⟩
 rw[Q08]
 refine⟨decide_eq_true ?_,h⟩
 have:s.length<=35184372088832:=hw
 omega
set_option maxRecDepth 100000 in
theorem Qcn(s:(List Int))(hw:Q06 s):Q40 Tryz.prog 67 (Q3i s) (Q2d s) (Q1g (Q03 s)) (Q1j (Q03 s)):=
 have hG:Q9i Tryz.prog []:= .nil
 FnOK.calls Q0j Q0k hG Tryz.func67 (LL_ok Q0j Q0k hG 2 (invs:=[])) (FnOK.of (Qf2 s _) (Qdl s (λX=>Q1g X=Q1g (Q03 s)/\Q1j X=Q1j (Q03 s)) hw ⟨rfl,rfl⟩))
set_option maxRecDepth 100000 in
theorem Qdf(args:List D)(rows:List Row):Qih Q71 args 0=Q3i (argL .u32 args 0):=by kernel_rfl
set_option maxRecDepth 100000 in
theorem Qcl(args:List D)(rows:List Row):Q70 Q6k rows 0=Q2d (argL .u32 args 0):=by kernel_rfl
set_option maxRecDepth 100000 in
theorem Qf9(X:(List Int)):(ffB (Q1g X)&&ffBR (Q1j X))=true:=by kernel_rfl
theorem Q0w:Q05 Tryz.prog Qg:=Z4t Tryz.call67 (λargs rows hp=>by rw[Qdf args rows,Qcl args rows];exact Qcn (argL .u32 args 0) hp) (λ_ X=>Qf9 X)
def Q85(m:(List Int)):Tree Int:=
.br (Int.tmod (m.length:Int) (32:Int) !=(0:Int)) (.lf 0) (.br (decide ((m.length:Int)>(1024:Int))) (.lf 0) (.lf (wrap i64 (Int.tdiv (m.length:Int) 32))))
def Q0v(m:(List Int)):Int:=(Q85 m).m
def Z33:Q0c:=mkR 84 [] true [.one (.ints .u32)] [] (λargs rows=>Q0v (argL .u32 args 0)) (λX=> .int .i64 X) (λX=>[])
theorem Q41:Q05 Tryz.prog Z33:=Q0z Q0j Q0k (.nil) Tryz.func84 Tryz.call84 (λargs rows=>Q85 (argL .u32 args 0)) [] [] 2 (λ_ _ _=>by kernel_rfl) (λ_ _=>rfl) (λ_ _=>Tree.free_ok (by kernel_rfl)) (λ_ X=>by kernel_rfl)
def Q32(m:(List Int))(addr:Int)(size:Int):Tree Bool:=
let T1:Tree (Bool):= .cn (decide (wrap u32 size≠0)) (.br (Int.tmod addr (wrap u32 size) !=0) (.lf false) (.lv (Q0v m) λ(x0:Int)=> .lf (decide (wrap u64 (wrap u64 addr+wrap u64 size)<=wrap u64 (wrap u64 x0*128))))); .br (size !=1) (.br (size !=4) (.lf false) T1) T1
def Qfo(m:(List Int))(addr:Int)(size:Int):Bool:=(Q32 m addr size).m
abbrev Q9l(m:(List Int))(addr:Int)(size:Int):Prop:=(Q32 m addr size).p
def Qz8:Q0c:=mkP 252 [] true [.one (.ints .u32), .one (.int .u32), .one (.int .i64)] [] (λargs rows=>Q9l (argL .u32 args 0) (argI args 1) (argI args 2)) (λargs rows=>Qfo (argL .u32 args 0) (argI args 1) (argI args 2)) (λX=> .bool X) (λX=>[])
theorem Qm0:Q05 Tryz.prog Qz8:=Q0n Q0j Q0k (.cons Q41 (.nil)) Tryz.func252 Tryz.call252 (λargs rows=>Q32 (argL .u32 args 0) (argI args 1) (argI args 2)) [] [] 2 (λ_ _ _=>by kernel_rfl) (λ_ _=>rfl) (λ_ _ h=>h) (λ_ X=>by kernel_rfl)
def Qb0(n:Int):Tree Int:=
.br (decide (n>=32)) (.lf 4294967295) (.cn (decide (0<=wrap u64 n)) (.lf (wrap u32 (ishl u32 1 (wrap u64 n)-1))))
def Qzw(n:Int):Int:=(Qb0 n).m
abbrev Qg0(n:Int):Prop:=(Qb0 n).p
def Zea:Q0c:=mkP 253 [] true [.one (.int .i64)] [] (λargs rows=>Qg0 (argI args 0)) (λargs rows=>Qzw (argI args 0)) (λX=> .int .u32 X) (λX=>[])
theorem Qw3:Q05 Tryz.prog Zea:=Q0n Q0j Q0k (.nil) Tryz.func253 Tryz.call253 (λargs rows=>Qb0 (argI args 0)) [] [] 2 (λ_ _ _=>by kernel_rfl) (λ_ _=>rfl) (λ_ _ h=>h) (λ_ X=>by kernel_rfl)
def Q8o(w:Int)(low:Int)(n:Int):Tree Int:=
.br (decide (low<0)) (.lf 0) (.br (decide (low>31)) (.lf 0) (.br (decide (n<1)) (.lf 0) (.cn (decide (0<=wrap u64 low)) (.an (Qg0 n) (.lv (Qzw n) λ(x0:Int)=> .lf (iand u32 (ishr u32 w (wrap u64 low)) x0))))))
def Q2p(w:Int)(low:Int)(n:Int):Int:=(Q8o w low n).m
abbrev Q4z(w:Int)(low:Int)(n:Int):Prop:=(Q8o w low n).p
def Zbw:Q0c:=mkP 212 [] true [.one (.int .u32), .one (.int .i64), .one (.int .i64)] [] (λargs rows=>Q4z (argI args 0) (argI args 1) (argI args 2)) (λargs rows=>Q2p (argI args 0) (argI args 1) (argI args 2)) (λX=> .int .u32 X) (λX=>[])
theorem Ql4:Q05 Tryz.prog Zbw:=Q0n Q0j Q0k (.cons Qw3 (.nil)) Tryz.func212 Tryz.call212 (λargs rows=>Q8o (argI args 0) (argI args 1) (argI args 2)) [] [] 2 (λ_ _ _=>by kernel_rfl) (λ_ _=>rfl) (λ_ _ h=>h) (λ_ X=>by kernel_rfl)
def Q9f(w:Int)(low:Int)(n:Int)(v:Int):Tree Int:=
.br (decide (low<0)) (.lf w) (.br (decide (low>31)) (.lf w) (.br (decide (n<1)) (.lf w) (.an (Qg0 n) (.lv (Qzw n) λ(x0:Int)=> .cn (decide (0<=wrap u64 low)) (.cn (decide (0<=wrap u64 low)) (.lf (ior u32 (Qft u32 w (ishl u32 x0 (wrap u64 low))) (ishl u32 (iand u32 v x0) (wrap u64 low)))))))))
def Q7k(w:Int)(low:Int)(n:Int)(v:Int):Int:=(Q9f w low n v).m
abbrev Qjj(w:Int)(low:Int)(n:Int)(v:Int):Prop:=(Q9f w low n v).p
def Z0f:Q0c:=mkP 255 [] true [.one (.int .u32), .one (.int .i64), .one (.int .i64), .one (.int .u32)] [] (λargs rows=>Qjj (argI args 0) (argI args 1) (argI args 2) (argI args 3)) (λargs rows=>Q7k (argI args 0) (argI args 1) (argI args 2) (argI args 3)) (λX=> .int .u32 X) (λX=>[])
theorem Qx3:Q05 Tryz.prog Z0f:=Q0n Q0j Q0k (.cons Qw3 (.nil)) Tryz.func255 Tryz.call255 (λargs rows=>Q9f (argI args 0) (argI args 1) (argI args 2) (argI args 3)) [] [] 2 (λ_ _ _=>by kernel_rfl) (λ_ _=>rfl) (λ_ _ h=>h) (λ_ X=>by kernel_rfl)
def Q89(m:(List Int))(addr:Int)(size:Int)(v:Int):Tree ((List Int)×Bool):=
.an (Q06 m) (.lv (Q03 m) λ(x0:List Int)=> .an (Q9l m addr size) (.lv (Qfo m addr size) λ(x1:Bool)=> .br (!x1) (.lf (x0,false)) (let E1:=Nat.beq 1 1&&Nat.blt 0 1&&decide (0<=wrap u32 (Int.tdiv addr 4)/\wrap u32 (Int.tdiv addr 4)<(x0.length:Int));let E2:=Int.toNat (wrap u32 (Int.tdiv addr 4)); .br (size==1) (.cn E1 (let E3:=wrap i64 (wrap i64 (Int.tmod addr 4)*8); .an (Qjj (x0.getD E2 0) E3 8 v) (.lv (Q7k (x0.getD E2 0) E3 8 v) λ(x2:Int)=> .cn E1 (.lf (List.set x0 E2 x2,true))))) (.cn E1 (.lf (List.set x0 E2 v,true))))))
def Q92(m:(List Int))(addr:Int)(size:Int)(v:Int):((List Int)×Bool):=(Q89 m addr size v).m
abbrev Qam(m:(List Int))(addr:Int)(size:Int)(v:Int):Prop:=(Q89 m addr size v).p
def Z2p:Q0c:=mkP 218 [] true [.one (.ints .u32), .one (.int .u32), .one (.int .i64), .one (.int .u32)] [] (λargs rows=>Qam (argL .u32 args 0) (argI args 1) (argI args 2) (argI args 3)) (λargs rows=>Q92 (argL .u32 args 0) (argI args 1) (argI args 2) (argI args 3)) (λX=> .tup [.all 0, .bool (X.2)]) (λX=>[⟨false,23,1, .ints .u32 (X.1)⟩])
theorem Qmu:Q05 Tryz.prog Z2p:=Q0n Q0j Q0k (.cons Q0w (.cons Qm0 (.cons Qx3 (.nil)))) Tryz.func218 Tryz.call218 (λargs rows=>Q89 (argL .u32 args 0) (argI args 1) (argI args 2) (argI args 3)) [.row 23 1 (.ints .u32)] [] 2 (λ_ _ _=>by kernel_rfl) (λ_ _=>rfl) (λ_ _ h=>h) (λ_ X=>by kernel_rfl)
def Zc3(op:Int):Tree (Q8h×Bool):=
.br (op==1) (.lf ({a:=true,b:=true,c:=true,low:=0,D6:=0},true)) (.br (op==2) (.lf ({a:=true,b:=true,c:=true,low:=0,D6:=0},true)) (.br (op==3) (.lf ({a:=true,b:=true,c:=true,low:=0,D6:=0},true)) (.br (op==4) (.lf ({a:=true,b:=true,c:=true,low:=0,D6:=0},true)) (.br (op==5) (.lf ({a:=true,b:=true,c:=true,low:=0,D6:=0},true)) (.br (op==6) (.lf ({a:=true,b:=true,c:=true,low:=0,D6:=0},true)) (.br (op==7) (.lf ({a:=true,b:=true,c:=true,low:=0,D6:=0},true)) (.br (op==8) (.lf ({a:=true,b:=true,c:=true,low:=0,D6:=0},true)) (.br (op==9) (.lf ({a:=true,b:=true,c:=true,low:=0,D6:=0},true)) (.br (op==10) (.lf ({a:=true,b:=true,c:=true,low:=0,D6:=0},true)) (.br (op==11) (.lf ({a:=true,b:=true,c:=true,low:=0,D6:=0},true)) (.br (op==12) (.lf ({a:=true,b:=true,c:=true,low:=0,D6:=0},true)) (.br (op==13) (.lf ({a:=true,b:=true,c:=true,low:=0,D6:=0},true)) (.br (op==16) (.lf ({a:=true,b:=true,c:=false,low:=(-32768),D6:=32767},true)) (.br (op==23) (.lf ({a:=true,b:=true,c:=false,low:=(-32768),D6:=32767},true)) (.br (op==32) (.lf ({a:=true,b:=true,c:=false,low:=(-32768),D6:=32767},true)) (.br (op==33) (.lf ({a:=true,b:=true,c:=false,low:=(-32768),D6:=32767},true)) (.br (op==34) (.lf ({a:=true,b:=true,c:=false,low:=(-32768),D6:=32767},true)) (.br (op==35) (.lf ({a:=true,b:=true,c:=false,low:=(-32768),D6:=32767},true)) (.br (op==36) (.lf ({a:=true,b:=true,c:=false,low:=(-32768),D6:=32767},true)) (.br (op==40) (.lf ({a:=true,b:=true,c:=false,low:=(-32768),D6:=32767},true)) (.br (op==41) (.lf ({a:=true,b:=true,c:=false,low:=(-32768),D6:=32767},true)) (.br (op==42) (.lf ({a:=true,b:=true,c:=false,low:=(-32768),D6:=32767},true)) (.br (op==43) (.lf ({a:=true,b:=true,c:=false,low:=(-32768),D6:=32767},true)) (.br (op==44) (.lf ({a:=true,b:=true,c:=false,low:=(-32768),D6:=32767},true)) (.br (op==45) (.lf ({a:=true,b:=true,c:=false,low:=(-32768),D6:=32767},true)) (.br (op==49) (.lf ({a:=true,b:=true,c:=false,low:=(-32768),D6:=32767},true)) (.br (op==17) (.lf ({a:=true,b:=true,c:=false,low:=0,D6:=65535},true)) (.br (op==18) (.lf ({a:=true,b:=true,c:=false,low:=0,D6:=65535},true)) (.br (op==19) (.lf ({a:=true,b:=true,c:=false,low:=0,D6:=65535},true)) (.br (op==20) (.lf ({a:=true,b:=true,c:=false,low:=0,D6:=31},true)) (.br (op==21) (.lf ({a:=true,b:=true,c:=false,low:=0,D6:=31},true)) (.br (op==22) (.lf ({a:=true,b:=true,c:=false,low:=0,D6:=31},true)) (.br (op==24) (.lf ({a:=true,b:=false,c:=false,low:=0,D6:=65535},true)) (.br (op==48) (.lf ({a:=true,b:=false,c:=false,low:=(-32768),D6:=32767},true)) (.br (op==58) (.lf ({a:=true,b:=false,c:=false,low:=0,D6:=7},true)) (.br (op==59) (.lf ({a:=true,b:=false,c:=false,low:=0,D6:=7},true)) (.br (op==60) (.lf ({a:=true,b:=false,c:=false,low:=0,D6:=11},true)) (.br (op==61) (.lf ({a:=true,b:=false,c:=false,low:=0,D6:=11},true)) (.br (op==56) (.lf ({a:=false,b:=false,c:=false,low:=0,D6:=0},true)) (.br (op==57) (.lf ({a:=false,b:=false,c:=false,low:=0,D6:=0},true)) (.br (op==62) (.lf ({a:=false,b:=false,c:=false,low:=0,D6:=0},true)) (.br (op==63) (.lf ({a:=false,b:=false,c:=false,low:=0,D6:=0},true)) (.br (op==64) (.lf ({a:=false,b:=false,c:=false,low:=0,D6:=0},true)) (.lf ({a:=false,b:=false,c:=false,low:=0,D6:=0},false)))))))))))))))))))))))))))))))))))))))))))))
def Z0z(op:Int):(Q8h×Bool):=(Zc3 op).m
def zA:Q0c:=mkR 213 [] true [.one (.int .i64)] [] (λargs rows=>Z0z (argI args 0)) (λX=> .tup [.agg (Q8h.cells (X.1)), .bool (X.2)]) (λX=>[])
theorem Z4s:Q05 Tryz.prog zA:=Q0z Q0j Q0k (.nil) Tryz.func213 Tryz.call213 (λargs rows=>Zc3 (argI args 0)) [] [] 2 (λ_ _ _=>by kernel_rfl) (λ_ _=>rfl) (λ_ _=>Tree.free_ok (by kernel_rfl)) (λ_ X=>by kernel_rfl)
def Q6r(x:Int)(n:Int):Tree Int:=
.br (decide (n<1)) (.lf 0) (.br (decide (n>=32)) (.lf x) (let E1:=decide (0<=wrap u64 (wrap i64 (32-n))); .cn E1 (.cn E1 (.lf (wrap u32 (ishr i32 (wrap i32 (ishl u32 x (wrap u64 (wrap i64 (32-n))))) (wrap u64 (wrap i64 (32-n)))))))))
def Q28(x:Int)(n:Int):Int:=(Q6r x n).m
abbrev Qb1(x:Int)(n:Int):Prop:=(Q6r x n).p
def Qtq:Q0c:=mkP 214 [] true [.one (.int .u32), .one (.int .i64)] [] (λargs rows=>Qb1 (argI args 0) (argI args 1)) (λargs rows=>Q28 (argI args 0) (argI args 1)) (λX=> .int .u32 X) (λX=>[])
theorem Qij:Q05 Tryz.prog Qtq:=Q0n Q0j Q0k (.nil) Tryz.func214 Tryz.call214 (λargs rows=>Q6r (argI args 0) (argI args 1)) [] [] 2 (λ_ _ _=>by kernel_rfl) (λ_ _=>rfl) (λ_ _ h=>h) (λ_ X=>by kernel_rfl)
def Qdy(r:Int)(used:Bool):Tree Bool:=
.br used (.br (decide (r>=0)) (.lf (decide (r<=15))) (.lf false)) (.lf (r==0))
def Q8t(r:Int)(used:Bool):Bool:=(Qdy r used).m
def Z3d:Q0c:=mkR 254 [] true [.one (.int .i64), .one (.bool)] [] (λargs rows=>Q8t (argI args 0) (argB args 1)) (λX=> .bool X) (λX=>[])
theorem Z18:Q05 Tryz.prog Z3d:=Q0z Q0j Q0k (.nil) Tryz.func254 Tryz.call254 (λargs rows=>Qdy (argI args 0) (argB args 1)) [] [] 2 (λ_ _ _=>by kernel_rfl) (λ_ _=>rfl) (λ_ _=>Tree.free_ok (by kernel_rfl)) (λ_ X=>by kernel_rfl)
def Qh0(i:Q0i):Tree Bool:=
.lv (Z0z i.Op) λ(x0:Q8h×Bool)=> .br x0.2 (.lv (Q8t i.A x0.1.a) λ(x1:Bool)=> .br x1 (.lv (Q8t i.B x0.1.b) λ(x2:Bool)=> .br x2 (.lv (Q8t i.C x0.1.c) λ(x3:Bool)=> .br x3 (.br (decide (i.Imm>=x0.1.low)) (.lf (decide (i.Imm<=x0.1.D6))) (.lf false)) (.lf false)) (.lf false)) (.lf false)) (.lf false)
def Qe4(i:Q0i):Bool:=(Qh0 i).m
def Zef:Q0c:=mkR 215 [] true [.agg Q0i.sig] [] (λargs rows=>Qe4 (Q0i.of (args.getD 0 .dead).cells)) (λX=> .bool X) (λX=>[])
theorem Zbs:Q05 Tryz.prog Zef:=Q0z Q0j Q0k (.cons Z4s (.cons Z18 (.nil))) Tryz.func215 Tryz.call215 (λargs rows=>Qh0 (Q0i.of (args.getD 0 .dead).cells)) [] [] 2 (λ_ _ _=>by kernel_rfl) (λ_ _=>rfl) (λ_ _=>Tree.free_ok (by kernel_rfl)) (λ_ X=>by kernel_rfl)
def Q74(w:Int):Tree (Q0i×Bool):=
.an (Q4z w 24 8) (.lv (Q2p w 24 8) λ(x0:Int)=> .an (Q4z w 20 4) (.lv (Q2p w 20 4) λ(x1:Int)=> .an (Q4z w 16 4) (.lv (Q2p w 16 4) λ(x2:Int)=> .lv (Z0z (wrap i64 x0)) λ(x3:Q8h×Bool)=>let E1:=({Op:=0,A:=0,B:=0,C:=0,Imm:=0}:Q0i); .br (!x3.2) (.lf (E1,false)) (.an (Q4z w 0 16) (.lv (Q2p w 0 16) λ(x4:Int)=> .br x3.1.c (let E2:=({Op:=wrap i64 x0,A:=wrap i64 x1,B:=wrap i64 x2,C:=wrap i64 x4,Imm:=0}:Q0i); .lv (Qe4 E2) λ(x5:Bool)=> .br (!x5) (.lf (E1,false)) (.lf (E2,true))) (.br (decide (x3.1.low<0)) (.an (Qb1 x4 16) (.lv (Q28 x4 16) λ(x6:Int)=>let E3:=({Op:=wrap i64 x0,A:=wrap i64 x1,B:=wrap i64 x2,C:=0,Imm:=wrap i32 x6}:Q0i); .lv (Qe4 E3) λ(x7:Bool)=> .br (!x7) (.lf (E1,false)) (.lf (E3,true)))) (let E4:=({Op:=wrap i64 x0,A:=wrap i64 x1,B:=wrap i64 x2,C:=0,Imm:=wrap i32 x4}:Q0i); .lv (Qe4 E4) λ(x8:Bool)=> .br (!x8) (.lf (E1,false)) (.lf (E4,true)))))))))
def Qgj(w:Int):(Q0i×Bool):=(Q74 w).m
abbrev Qj4(w:Int):Prop:=(Q74 w).p
def Zdk:Q0c:=mkP 156 [] true [.one (.int .u32)] [] (λargs rows=>Qj4 (argI args 0)) (λargs rows=>Qgj (argI args 0)) (λX=> .tup [.agg (Q0i.cells (X.1)), .bool (X.2)]) (λX=>[])
theorem Z7v:Q05 Tryz.prog Zdk:=Q0n Q0j Q0k (.cons Ql4 (.cons Z4s (.cons Qij (.cons Zbs (.nil))))) Tryz.func156 Tryz.call156 (λargs rows=>Q74 (argI args 0)) [] [] 2 (λ_ _ _=>by kernel_rfl) (λ_ _=>rfl) (λ_ _ h=>h) (λ_ X=>by kernel_rfl)
def Q9x(a:Int)(b:Int):Tree (Int×Int):=
.br (b==0) (.lf (4294967295,a)) (let T1:Tree ((Int×Int)):= .cn (decide (wrap i32 b≠0)) (.cn (decide (wrap i32 b≠0)) (.lf (wrap u32 (wrap i32 (Int.tdiv (wrap i32 a) (wrap i32 b))),wrap u32 (Int.tmod (wrap i32 a) (wrap i32 b))))); .br (a==2147483648) (.br (b==4294967295) (.lf (a,0)) T1) T1)
def Qb2(a:Int)(b:Int):(Int×Int):=(Q9x a b).m
abbrev Qhe(a:Int)(b:Int):Prop:=(Q9x a b).p
def Z8l:Q0c:=mkP 256 [] true [.one (.int .u32), .one (.int .u32)] [] (λargs rows=>Qhe (argI args 0) (argI args 1)) (λargs rows=>Qb2 (argI args 0) (argI args 1)) (λX=> .tup [.int .u32 (X.1), .int .u32 (X.2)]) (λX=>[])
theorem Z2k:Q05 Tryz.prog Z8l:=Q0n Q0j Q0k (.nil) Tryz.func256 Tryz.call256 (λargs rows=>Q9x (argI args 0) (argI args 1)) [] [] 2 (λ_ _ _=>by kernel_rfl) (λ_ _=>rfl) (λ_ _ h=>h) (λ_ X=>by kernel_rfl)
def Qzj(b:Bool):Tree Int:=
.br b (.lf 1) (.lf 0)
def Qmk(b:Bool):Int:=(Qzj b).m
def Zgx:Q0c:=mkR 257 [] true [.one (.bool)] [] (λargs rows=>Qmk (argB args 0)) (λX=> .int .u32 X) (λX=>[])
theorem Zd6:Q05 Tryz.prog Zgx:=Q0z Q0j Q0k (.nil) Tryz.func257 Tryz.call257 (λargs rows=>Qzj (argB args 0)) [] [] 2 (λ_ _ _=>by kernel_rfl) (λ_ _=>rfl) (λ_ _=>Tree.free_ok (by kernel_rfl)) (λ_ X=>by kernel_rfl)
def Qmz(op:Int)(a:Int)(b:Int):Tree (Int×Bool):=
.br (op==2) (.lf (wrap u32 (a+wrap u32 (0-b)),true)) (.br (op==1) (.lf (wrap u32 (a+b),true)) (.br (op==16) (.lf (wrap u32 (a+b),true)) (.br (op==3) (.lf (iand u32 a b,true)) (.br (op==17) (.lf (iand u32 a b,true)) (.br (op==4) (.lf (ior u32 a b,true)) (.br (op==18) (.lf (ior u32 a b,true)) (.br (op==5) (.lf (ixor u32 a b,true)) (.br (op==19) (.lf (ixor u32 a b,true)) (.br (op==6) (.lf (ishl u32 a (iand u32 b 31),true)) (.br (op==20) (.lf (ishl u32 a (iand u32 b 31),true)) (.br (op==7) (.lf (ishr u32 a (iand u32 b 31),true)) (.br (op==21) (.lf (ishr u32 a (iand u32 b 31),true)) (let E1:=(wrap u32 (ishr i32 (wrap i32 a) (iand u32 b 31)),true); .br (op==8) (.lf E1) (.br (op==22) (.lf E1) (.br (op==9) (.lf (wrap u32 (a*b),true)) (.br (op==10) (.an (Qhe a b) (.lv (Qb2 a b) λ(x0:Int×Int)=> .lf (x0.1,true))) (.br (op==11) (.an (Qhe a b) (.lv (Qb2 a b) λ(x1:Int×Int)=> .lf (x1.2,true))) (.br (op==12) (.lv (Qmk (decide (wrap i32 a<wrap i32 b))) λ(x2:Int)=> .lf (x2,true)) (.br (op==23) (.lv (Qmk (decide (wrap i32 a<wrap i32 b))) λ(x3:Int)=> .lf (x3,true)) (.br (op==13) (.lv (Qmk (decide (a<b))) λ(x4:Int)=> .lf (x4,true)) (.lf (0,false))))))))))))))))))))))
def Q42(op:Int)(a:Int)(b:Int):(Int×Bool):=(Qmz op a b).m
abbrev Qqb(op:Int)(a:Int)(b:Int):Prop:=(Qmz op a b).p
def yA:Q0c:=mkP 222 [] true [.one (.int .i64), .one (.int .u32), .one (.int .u32)] [] (λargs rows=>Qqb (argI args 0) (argI args 1) (argI args 2)) (λargs rows=>Q42 (argI args 0) (argI args 1) (argI args 2)) (λX=> .tup [.int .u32 (X.1), .bool (X.2)]) (λX=>[])
theorem Zjs:Q05 Tryz.prog yA:=Q0n Q0j Q0k (.cons Z2k (.cons Zd6 (.nil))) Tryz.func222 Tryz.call222 (λargs rows=>Qmz (argI args 0) (argI args 1) (argI args 2)) [] [] 2 (λ_ _ _=>by kernel_rfl) (λ_ _=>rfl) (λ_ _ h=>h) (λ_ X=>by kernel_rfl)
end
end Go.Proofs.YtjaifpiopmhmlaaGreat

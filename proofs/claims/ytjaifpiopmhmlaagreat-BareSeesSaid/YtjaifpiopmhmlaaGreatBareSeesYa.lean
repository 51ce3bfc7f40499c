/-
  Functions of the program: models, and that its calls come to them (by a program: gen3.py).
-/
import Derived.Test.YtjaifpiopmhmlaaGreatBareSeesBase
set_option maxRecDepth 100000
set_option linter.all false
namespace Go.Proofs.YtjaifpiopmhmlaaGreat
open Go Go.GD Go.IntKind
noncomputable section
def Q04(s:(List Int)):(List Int):=
s
def Q06(s:(List Int)):Prop:=
s.length<=35184372088832
def Q3c(s:(List Int)):List D:=[.sl 1 (.ints .u32 s) false]
def Q2b(s:(List Int)):List Row:=[]
def Q1g(X:(List Int)):D:= .all 0
def Q1j(X:(List Int)):List Row:=[⟨false,23,1, .ints .u32 X⟩]
def Qcy:List Dir:=[.row 23 1 (.ints .u32)]
def Q72:List PT:=[.one (.ints .u32)]
def Q6r:List RT:=[]
def Qf(args:List D)(rows:List Row):(List Int):=Q04 (argL .u32 args 0)
def Qe9(args:List D)(rows:List Row):Prop:=Q06 (argL .u32 args 0)
def Qg1:Q0b:=mkP 67 [] true Q72 Q6r Qe9 Qf Q1g Q1j
def Q4s(s:(List Int))(Leaf:(List Int)->Prop):Prop:=
(s=[]->Leaf [])/\cand (decide ((4:Nat)*((0:Nat)+s.length)<=(140737488355328:Nat))) (Leaf s)
set_option maxRecDepth 100000 in
theorem Qff(s:(List Int))(Q:D->List Row->Prop):(fnVC tab [] (LL tab [] Tryz.f67.ntmps 0 [] 2) Tryz.f67 (Q3c s) (Q2b s) λd R=>Qde (Q2b s).length Qcy d R Q)=Q4s s (λX=>Q (Q1g X) (Q1j X)):=by kernel_rfl
theorem Qdk(s:(List Int))(Leaf:(List Int)->Prop)(hw:Q06 s)(h:Leaf (Q04 s)):
Q4s s Leaf:=by
 delta Q4s
 refine⟨λe=>by rw[e]at h;exact h,?_⟩
 rw[Q08]
 refine⟨decide_eq_true ?_,h⟩
 have:s.length<=35184372088832:=hw
 omega
set_option maxRecDepth 100000 in
theorem Qcs(s:(List Int))(hw:Q06 s):Q3l Tryz.prog 67 (Q3c s) (Q2b s) (Q1g (Q04 s)) (Q1j (Q04 s)):=
 have hG:Q9c Tryz.prog []:= .nil
 FnOK.calls Q0j Q0h hG Tryz.func67 (LL_ok Q0j Q0h hG 2 (invs:=[])) (FnOK.of (Qff s _) (Qdk s (λX=>Q1g X=Q1g (Q04 s)/\Q1j X=Q1j (Q04 s)) hw ⟨rfl,rfl⟩))
set_option maxRecDepth 100000 in
theorem Qd9(args:List D)(rows:List Row):Qil Q72 args 0=Q3c (argL .u32 args 0):=by kernel_rfl
set_option maxRecDepth 100000 in
theorem Qct(args:List D)(rows:List Row):Q77 Q6r rows 0=Q2b (argL .u32 args 0):=by kernel_rfl
set_option maxRecDepth 100000 in
theorem Qf9(X:(List Int)):(ffB (Q1g X)&&ffBR (Q1j X))=true:=by kernel_rfl
theorem Q0u:Q05 Tryz.prog Qg1:=Z56 Tryz.call67 (λargs rows hp=>by rw[Qd9 args rows,Qct args rows];exact Qcs (argL .u32 args 0) hp) (λ_ X=>Qf9 X)
def Q8c(m:(List Int)):Tree Int:=
.br (Int.tmod (m.length:Int) (32:Int) !=(0:Int)) (.lf 0) (.br (decide ((m.length:Int)>(1024:Int))) (.lf 0) (.lf (wrap i64 (Int.tdiv (m.length:Int) 32))))
def Q0t(m:(List Int)):Int:=(Q8c m).m
def Z3z:Q0b:=mkR 84 [] true [.one (.ints .u32)] [] (λargs rows=>Q0t (argL .u32 args 0)) (λX=> .int .i64 X) (λX=>[])
theorem Q3w:Q05 Tryz.prog Z3z:=Q0x Q0j Q0h (.nil) Tryz.func84 Tryz.call84 (λargs rows=>Q8c (argL .u32 args 0)) [] [] 2 (λ_ _ _=>by kernel_rfl) (λ_ _=>rfl) (λ_ _=>Tree.free_ok (by kernel_rfl)) (λ_ X=>by kernel_rfl)
def Q3(m:(List Int))(addr:Int)(size:Int):Tree Bool:=
let T1:Tree (Bool):= .cn (decide (wrap u32 size≠0)) (.br (Int.tmod addr (wrap u32 size) !=0) (.lf false) (.lv (Q0t m) λ(x0:Int)=> .lf (decide (wrap u64 (wrap u64 addr+wrap u64 size)<=wrap u64 (wrap u64 x0*128))))); .br (size !=1) (.br (size !=4) (.lf false) T1) T1
def Qg4(m:(List Int))(addr:Int)(size:Int):Bool:=(Q3 m addr size).m
abbrev Q9y(m:(List Int))(addr:Int)(size:Int):Prop:=(Q3 m addr size).p
def Qyr:Q0b:=mkP 252 [] true [.one (.ints .u32), .one (.int .u32), .one (.int .i64)] [] (λargs rows=>Q9y (argL .u32 args 0) (argI args 1) (argI args 2)) (λargs rows=>Qg4 (argL .u32 args 0) (argI args 1) (argI args 2)) (λX=> .bool X) (λX=>[])
theorem Qm0:Q05 Tryz.prog Qyr:=Q0k Q0j Q0h (.cons Q3w (.nil)) Tryz.func252 Tryz.call252 (λargs rows=>Q3 (argL .u32 args 0) (argI args 1) (argI args 2)) [] [] 2 (λ_ _ _=>by kernel_rfl) (λ_ _=>rfl) (λ_ _ h=>h) (λ_ X=>by kernel_rfl)
def Qb1(n:Int):Tree Int:=
.br (decide (n>=32)) (.lf 4294967295) (.cn (decide (0<=wrap u64 n)) (.lf (wrap u32 (ishl u32 1 (wrap u64 n)-1))))
def Z1r(n:Int):Int:=(Qb1 n).m
abbrev Qfy(n:Int):Prop:=(Qb1 n).p
def Zfb:Q0b:=mkP 253 [] true [.one (.int .i64)] [] (λargs rows=>Qfy (argI args 0)) (λargs rows=>Z1r (argI args 0)) (λX=> .int .u32 X) (λX=>[])
theorem Qwa:Q05 Tryz.prog Zfb:=Q0k Q0j Q0h (.nil) Tryz.func253 Tryz.call253 (λargs rows=>Qb1 (argI args 0)) [] [] 2 (λ_ _ _=>by kernel_rfl) (λ_ _=>rfl) (λ_ _ h=>h) (λ_ X=>by kernel_rfl)
def Q8l(w:Int)(low:Int)(n:Int):Tree Int:=
.br (decide (low<0)) (.lf 0) (.br (decide (low>31)) (.lf 0) (.br (decide (n<1)) (.lf 0) (.cn (decide (0<=wrap u64 low)) (.an (Qfy n) (.lv (Z1r n) λ(x0:Int)=> .lf (iand u32 (ishr u32 w (wrap u64 low)) x0))))))
def Q2p(w:Int)(low:Int)(n:Int):Int:=(Q8l w low n).m
abbrev Q4y(w:Int)(low:Int)(n:Int):Prop:=(Q8l w low n).p
def Zb9:Q0b:=mkP 212 [] true [.one (.int .u32), .one (.int .i64), .one (.int .i64)] [] (λargs rows=>Q4y (argI args 0) (argI args 1) (argI args 2)) (λargs rows=>Q2p (argI args 0) (argI args 1) (argI args 2)) (λX=> .int .u32 X) (λX=>[])
theorem Ql9:Q05 Tryz.prog Zb9:=Q0k Q0j Q0h (.cons Qwa (.nil)) Tryz.func212 Tryz.call212 (λargs rows=>Q8l (argI args 0) (argI args 1) (argI args 2)) [] [] 2 (λ_ _ _=>by kernel_rfl) (λ_ _=>rfl) (λ_ _ h=>h) (λ_ X=>by kernel_rfl)
def Q9a(w:Int)(low:Int)(n:Int)(v:Int):Tree Int:=
.br (decide (low<0)) (.lf w) (.br (decide (low>31)) (.lf w) (.br (decide (n<1)) (.lf w) (.an (Qfy n) (.lv (Z1r n) λ(x0:Int)=> .cn (decide (0<=wrap u64 low)) (.cn (decide (0<=wrap u64 low)) (.lf (ior u32 (Qg5 u32 w (ishl u32 x0 (wrap u64 low))) (ishl u32 (iand u32 v x0) (wrap u64 low)))))))))
def Q7r(w:Int)(low:Int)(n:Int)(v:Int):Int:=(Q9a w low n v).m
abbrev Qjz(w:Int)(low:Int)(n:Int)(v:Int):Prop:=(Q9a w low n v).p
def Qzh:Q0b:=mkP 255 [] true [.one (.int .u32), .one (.int .i64), .one (.int .i64), .one (.int .u32)] [] (λargs rows=>Qjz (argI args 0) (argI args 1) (argI args 2) (argI args 3)) (λargs rows=>Q7r (argI args 0) (argI args 1) (argI args 2) (argI args 3)) (λX=> .int .u32 X) (λX=>[])
theorem Qy5:Q05 Tryz.prog Qzh:=Q0k Q0j Q0h (.cons Qwa (.nil)) Tryz.func255 Tryz.call255 (λargs rows=>Q9a (argI args 0) (argI args 1) (argI args 2) (argI args 3)) [] [] 2 (λ_ _ _=>by kernel_rfl) (λ_ _=>rfl) (λ_ _ h=>h) (λ_ X=>by kernel_rfl)
def Q89(m:(List Int))(addr:Int)(size:Int)(v:Int):Tree ((List Int)×Bool):=
.an (Q06 m) (.lv (Q04 m) λ(x0:List Int)=> .an (Q9y m addr size) (.lv (Qg4 m addr size) λ(x1:Bool)=> .br (!x1) (.lf (x0,false)) (let E1:=Nat.beq 1 1&&Nat.blt 0 1&&decide (0<=wrap u32 (Int.tdiv addr 4)/\wrap u32 (Int.tdiv addr 4)<(x0.length:Int));let E2:=Int.toNat (wrap u32 (Int.tdiv addr 4)); .br (size==1) (.cn E1 (let E3:=wrap i64 (wrap i64 (Int.tmod addr 4)*8); .an (Qjz (x0.getD E2 0) E3 8 v) (.lv (Q7r (x0.getD E2 0) E3 8 v) λ(x2:Int)=> .cn E1 (.lf (List.set x0 E2 x2,true))))) (.cn E1 (.lf (List.set x0 E2 v,true))))))
def Q98(m:(List Int))(addr:Int)(size:Int)(v:Int):((List Int)×Bool):=(Q89 m addr size v).m
abbrev Qao(m:(List Int))(addr:Int)(size:Int)(v:Int):Prop:=(Q89 m addr size v).p
def Z2k:Q0b:=mkP 218 [] true [.one (.ints .u32), .one (.int .u32), .one (.int .i64), .one (.int .u32)] [] (λargs rows=>Qao (argL .u32 args 0) (argI args 1) (argI args 2) (argI args 3)) (λargs rows=>Q98 (argL .u32 args 0) (argI args 1) (argI args 2) (argI args 3)) (λX=> .tup [.all 0, .bool (X.2)]) (λX=>[⟨false,23,1, .ints .u32 (X.1)⟩])
theorem Qoc:Q05 Tryz.prog Z2k:=Q0k Q0j Q0h (.cons Q0u (.cons Qm0 (.cons Qy5 (.nil)))) Tryz.func218 Tryz.call218 (λargs rows=>Q89 (argL .u32 args 0) (argI args 1) (argI args 2) (argI args 3)) [.row 23 1 (.ints .u32)] [] 2 (λ_ _ _=>by kernel_rfl) (λ_ _=>rfl) (λ_ _ h=>h) (λ_ X=>by kernel_rfl)
def Zbw(op:Int):Tree (Q8f×Bool):=
.br (op==1) (.lf ({a:=true,b:=true,c:=true,low:=0,D8:=0},true)) (.br (op==2) (.lf ({a:=true,b:=true,c:=true,low:=0,D8:=0},true)) (.br (op==3) (.lf ({a:=true,b:=true,c:=true,low:=0,D8:=0},true)) (.br (op==4) (.lf ({a:=true,b:=true,c:=true,low:=0,D8:=0},true)) (.br (op==5) (.lf ({a:=true,b:=true,c:=true,low:=0,D8:=0},true)) (.br (op==6) (.lf ({a:=true,b:=true,c:=true,low:=0,D8:=0},true)) (.br (op==7) (.lf ({a:=true,b:=true,c:=true,low:=0,D8:=0},true)) (.br (op==8) (.lf ({a:=true,b:=true,c:=true,low:=0,D8:=0},true)) (.br (op==9) (.lf ({a:=true,b:=true,c:=true,low:=0,D8:=0},true)) (.br (op==10) (.lf ({a:=true,b:=true,c:=true,low:=0,D8:=0},true)) (.br (op==11) (.lf ({a:=true,b:=true,c:=true,low:=0,D8:=0},true)) (.br (op==12) (.lf ({a:=true,b:=true,c:=true,low:=0,D8:=0},true)) (.br (op==13) (.lf ({a:=true,b:=true,c:=true,low:=0,D8:=0},true)) (.br (op==16) (.lf ({a:=true,b:=true,c:=false,low:=(-32768),D8:=32767},true)) (.br (op==23) (.lf ({a:=true,b:=true,c:=false,low:=(-32768),D8:=32767},true)) (.br (op==32) (.lf ({a:=true,b:=true,c:=false,low:=(-32768),D8:=32767},true)) (.br (op==33) (.lf ({a:=true,b:=true,c:=false,low:=(-32768),D8:=32767},true)) (.br (op==34) (.lf ({a:=true,b:=true,c:=false,low:=(-32768),D8:=32767},true)) (.br (op==35) (.lf ({a:=true,b:=true,c:=false,low:=(-32768),D8:=32767},true)) (.br (op==36) (.lf ({a:=true,b:=true,c:=false,low:=(-32768),D8:=32767},true)) (.br (op==40) (.lf ({a:=true,b:=true,c:=false,low:=(-32768),D8:=32767},true)) (.br (op==41) (.lf ({a:=true,b:=true,c:=false,low:=(-32768),D8:=32767},true)) (.br (op==42) (.lf ({a:=true,b:=true,c:=false,low:=(-32768),D8:=32767},true)) (.br (op==43) (.lf ({a:=true,b:=true,c:=false,low:=(-32768),D8:=32767},true)) (.br (op==44) (.lf ({a:=true,b:=true,c:=false,low:=(-32768),D8:=32767},true)) (.br (op==45) (.lf ({a:=true,b:=true,c:=false,low:=(-32768),D8:=32767},true)) (.br (op==49) (.lf ({a:=true,b:=true,c:=false,low:=(-32768),D8:=32767},true)) (.br (op==17) (.lf ({a:=true,b:=true,c:=false,low:=0,D8:=65535},true)) (.br (op==18) (.lf ({a:=true,b:=true,c:=false,low:=0,D8:=65535},true)) (.br (op==19) (.lf ({a:=true,b:=true,c:=false,low:=0,D8:=65535},true)) (.br (op==20) (.lf ({a:=true,b:=true,c:=false,low:=0,D8:=31},true)) (.br (op==21) (.lf ({a:=true,b:=true,c:=false,low:=0,D8:=31},true)) (.br (op==22) (.lf ({a:=true,b:=true,c:=false,low:=0,D8:=31},true)) (.br (op==24) (.lf ({a:=true,b:=false,c:=false,low:=0,D8:=65535},true)) (.br (op==48) (.lf ({a:=true,b:=false,c:=false,low:=(-32768),D8:=32767},true)) (.br (op==58) (.lf ({a:=true,b:=false,c:=false,low:=0,D8:=7},true)) (.br (op==59) (.lf ({a:=true,b:=false,c:=false,low:=0,D8:=7},true)) (.br (op==60) (.lf ({a:=true,b:=false,c:=false,low:=0,D8:=11},true)) (.br (op==61) (.lf ({a:=true,b:=false,c:=false,low:=0,D8:=11},true)) (.br (op==56) (.lf ({a:=false,b:=false,c:=false,low:=0,D8:=0},true)) (.br (op==57) (.lf ({a:=false,b:=false,c:=false,low:=0,D8:=0},true)) (.br (op==62) (.lf ({a:=false,b:=false,c:=false,low:=0,D8:=0},true)) (.br (op==63) (.lf ({a:=false,b:=false,c:=false,low:=0,D8:=0},true)) (.br (op==64) (.lf ({a:=false,b:=false,c:=false,low:=0,D8:=0},true)) (.lf ({a:=false,b:=false,c:=false,low:=0,D8:=0},false)))))))))))))))))))))))))))))))))))))))))))))
def Qzy(op:Int):(Q8f×Bool):=(Zbw op).m
def yA:Q0b:=mkR 213 [] true [.one (.int .i64)] [] (λargs rows=>Qzy (argI args 0)) (λX=> .tup [.agg (Q8f.cells (X.1)), .bool (X.2)]) (λX=>[])
theorem Z6j:Q05 Tryz.prog yA:=Q0x Q0j Q0h (.nil) Tryz.func213 Tryz.call213 (λargs rows=>Zbw (argI args 0)) [] [] 2 (λ_ _ _=>by kernel_rfl) (λ_ _=>rfl) (λ_ _=>Tree.free_ok (by kernel_rfl)) (λ_ X=>by kernel_rfl)
def Q6u(x:Int)(n:Int):Tree Int:=
.br (decide (n<1)) (.lf 0) (.br (decide (n>=32)) (.lf x) (let E1:=decide (0<=wrap u64 (wrap i64 (32-n))); .cn E1 (.cn E1 (.lf (wrap u32 (ishr i32 (wrap i32 (ishl u32 x (wrap u64 (wrap i64 (32-n))))) (wrap u64 (wrap i64 (32-n)))))))))
def Q28(x:Int)(n:Int):Int:=(Q6u x n).m
abbrev Qb(x:Int)(n:Int):Prop:=(Q6u x n).p
def Qty:Q0b:=mkP 214 [] true [.one (.int .u32), .one (.int .i64)] [] (λargs rows=>Qb (argI args 0) (argI args 1)) (λargs rows=>Q28 (argI args 0) (argI args 1)) (λX=> .int .u32 X) (λX=>[])
theorem Qir:Q05 Tryz.prog Qty:=Q0k Q0j Q0h (.nil) Tryz.func214 Tryz.call214 (λargs rows=>Q6u (argI args 0) (argI args 1)) [] [] 2 (λ_ _ _=>by kernel_rfl) (λ_ _=>rfl) (λ_ _ h=>h) (λ_ X=>by kernel_rfl)
def Qdv(r:Int)(used:Bool):Tree Bool:=
.br used (.br (decide (r>=0)) (.lf (decide (r<=15))) (.lf false)) (.lf (r==0))
def Q91(r:Int)(used:Bool):Bool:=(Qdv r used).m
def Z30:Q0b:=mkR 254 [] true [.one (.int .i64), .one (.bool)] [] (λargs rows=>Q91 (argI args 0) (argB args 1)) (λX=> .bool X) (λX=>[])
theorem Z2e:Q05 Tryz.prog Z30:=Q0x Q0j Q0h (.nil) Tryz.func254 Tryz.call254 (λargs rows=>Qdv (argI args 0) (argB args 1)) [] [] 2 (λ_ _ _=>by kernel_rfl) (λ_ _=>rfl) (λ_ _=>Tree.free_ok (by kernel_rfl)) (λ_ X=>by kernel_rfl)
def Qhg(i:Q0i):Tree Bool:=
.lv (Qzy i.Op) λ(x0:Q8f×Bool)=> .br x0.2 (.lv (Q91 i.A x0.1.a) λ(x1:Bool)=> .br x1 (.lv (Q91 i.B x0.1.b) λ(x2:Bool)=> .br x2 (.lv (Q91 i.C x0.1.c) λ(x3:Bool)=> .br x3 (.br (decide (i.Imm>=x0.1.low)) (.lf (decide (i.Imm<=x0.1.D8))) (.lf false)) (.lf false)) (.lf false)) (.lf false)) (.lf false)
def Qf2(i:Q0i):Bool:=(Qhg i).m
def Zg:Q0b:=mkR 215 [] true [.agg Q0i.sig] [] (λargs rows=>Qf2 (Q0i.of (args.getD 0 .dead).cells)) (λX=> .bool X) (λX=>[])
theorem Zcq:Q05 Tryz.prog Zg:=Q0x Q0j Q0h (.cons Z6j (.cons Z2e (.nil))) Tryz.func215 Tryz.call215 (λargs rows=>Qhg (Q0i.of (args.getD 0 .dead).cells)) [] [] 2 (λ_ _ _=>by kernel_rfl) (λ_ _=>rfl) (λ_ _=>Tree.free_ok (by kernel_rfl)) (λ_ X=>by kernel_rfl)
def Q79(w:Int):Tree (Q0i×Bool):=
.an (Q4y w 24 8) (.lv (Q2p w 24 8) λ(x0:Int)=> .an (Q4y w 20 4) (.lv (Q2p w 20 4) λ(x1:Int)=> .an (Q4y w 16 4) (.lv (Q2p w 16 4) λ(x2:Int)=> .lv (Qzy (wrap i64 x0)) λ(x3:Q8f×Bool)=>let E1:=({Op:=0,A:=0,B:=0,C:=0,Imm:=0}:Q0i); .br (!x3.2) (.lf (E1,false)) (.an (Q4y w 0 16) (.lv (Q2p w 0 16) λ(x4:Int)=> .br x3.1.c (let E2:=({Op:=wrap i64 x0,A:=wrap i64 x1,B:=wrap i64 x2,C:=wrap i64 x4,Imm:=0}:Q0i); .lv (Qf2 E2) λ(x5:Bool)=> .br (!x5) (.lf (E1,false)) (.lf (E2,true))) (.br (decide (x3.1.low<0)) (.an (Qb x4 16) (.lv (Q28 x4 16) λ(x6:Int)=>let E3:=({Op:=wrap i64 x0,A:=wrap i64 x1,B:=wrap i64 x2,C:=0,Imm:=wrap i32 x6}:Q0i); .lv (Qf2 E3) λ(x7:Bool)=> .br (!x7) (.lf (E1,false)) (.lf (E3,true)))) (let E4:=({Op:=wrap i64 x0,A:=wrap i64 x1,B:=wrap i64 x2,C:=0,Imm:=wrap i32 x4}:Q0i); .lv (Qf2 E4) λ(x8:Bool)=> .br (!x8) (.lf (E1,false)) (.lf (E4,true)))))))))
def Qgo(w:Int):(Q0i×Bool):=(Q79 w).m
abbrev Qjm(w:Int):Prop:=(Q79 w).p
def Zb1:Q0b:=mkP 156 [] true [.one (.int .u32)] [] (λargs rows=>Qjm (argI args 0)) (λargs rows=>Qgo (argI args 0)) (λX=> .tup [.agg (Q0i.cells (X.1)), .bool (X.2)]) (λX=>[])
theorem Z8q:Q05 Tryz.prog Zb1:=Q0k Q0j Q0h (.cons Ql9 (.cons Z6j (.cons Qir (.cons Zcq (.nil))))) Tryz.func156 Tryz.call156 (λargs rows=>Q79 (argI args 0)) [] [] 2 (λ_ _ _=>by kernel_rfl) (λ_ _=>rfl) (λ_ _ h=>h) (λ_ X=>by kernel_rfl)
def Q9r(a:Int)(b:Int):Tree (Int×Int):=
.br (b==0) (.lf (4294967295,a)) (let T1:Tree ((Int×Int)):= .cn (decide (wrap i32 b≠0)) (.cn (decide (wrap i32 b≠0)) (.lf (wrap u32 (wrap i32 (Int.tdiv (wrap i32 a) (wrap i32 b))),wrap u32 (Int.tmod (wrap i32 a) (wrap i32 b))))); .br (a==2147483648) (.br (b==4294967295) (.lf (a,0)) T1) T1)
def Qb7(a:Int)(b:Int):(Int×Int):=(Q9r a b).m
abbrev Qi9(a:Int)(b:Int):Prop:=(Q9r a b).p
def Z7s:Q0b:=mkP 256 [] true [.one (.int .u32), .one (.int .u32)] [] (λargs rows=>Qi9 (argI args 0) (argI args 1)) (λargs rows=>Qb7 (argI args 0) (argI args 1)) (λX=> .tup [.int .u32 (X.1), .int .u32 (X.2)]) (λX=>[])
theorem Z40:Q05 Tryz.prog Z7s:=Q0k Q0j Q0h (.nil) Tryz.func256 Tryz.call256 (λargs rows=>Q9r (argI args 0) (argI args 1)) [] [] 2 (λ_ _ _=>by kernel_rfl) (λ_ _=>rfl) (λ_ _ h=>h) (λ_ X=>by kernel_rfl)
def Z0i(b:Bool):Tree Int:=
.br b (.lf 1) (.lf 0)
def Qo9(b:Bool):Int:=(Z0i b).m
def Zf7:Q0b:=mkR 257 [] true [.one (.bool)] [] (λargs rows=>Qo9 (argB args 0)) (λX=> .int .u32 X) (λX=>[])
theorem Zam:Q05 Tryz.prog Zf7:=Q0x Q0j Q0h (.nil) Tryz.func257 Tryz.call257 (λargs rows=>Z0i (argB args 0)) [] [] 2 (λ_ _ _=>by kernel_rfl) (λ_ _=>rfl) (λ_ _=>Tree.free_ok (by kernel_rfl)) (λ_ X=>by kernel_rfl)
def Qmp(op:Int)(a:Int)(b:Int):Tree (Int×Bool):=
.br (op==2) (.lf (wrap u32 (a+wrap u32 (0-b)),true)) (.br (op==1) (.lf (wrap u32 (a+b),true)) (.br (op==16) (.lf (wrap u32 (a+b),true)) (.br (op==3) (.lf (iand u32 a b,true)) (.br (op==17) (.lf (iand u32 a b,true)) (.br (op==4) (.lf (ior u32 a b,true)) (.br (op==18) (.lf (ior u32 a b,true)) (.br (op==5) (.lf (ixor u32 a b,true)) (.br (op==19) (.lf (ixor u32 a b,true)) (.br (op==6) (.lf (ishl u32 a (iand u32 b 31),true)) (.br (op==20) (.lf (ishl u32 a (iand u32 b 31),true)) (.br (op==7) (.lf (ishr u32 a (iand u32 b 31),true)) (.br (op==21) (.lf (ishr u32 a (iand u32 b 31),true)) (let E1:=(wrap u32 (ishr i32 (wrap i32 a) (iand u32 b 31)),true); .br (op==8) (.lf E1) (.br (op==22) (.lf E1) (.br (op==9) (.lf (wrap u32 (a*b),true)) (.br (op==10) (.an (Qi9 a b) (.lv (Qb7 a b) λ(x0:Int×Int)=> .lf (x0.1,true))) (.br (op==11) (.an (Qi9 a b) (.lv (Qb7 a b) λ(x1:Int×Int)=> .lf (x1.2,true))) (.br (op==12) (.lv (Qo9 (decide (wrap i32 a<wrap i32 b))) λ(x2:Int)=> .lf (x2,true)) (.br (op==23) (.lv (Qo9 (decide (wrap i32 a<wrap i32 b))) λ(x3:Int)=> .lf (x3,true)) (.br (op==13) (.lv (Qo9 (decide (a<b))) λ(x4:Int)=> .lf (x4,true)) (.lf (0,false))))))))))))))))))))))
def Q3z(op:Int)(a:Int)(b:Int):(Int×Bool):=(Qmp op a b).m
abbrev Qqr(op:Int)(a:Int)(b:Int):Prop:=(Qmp op a b).p
def vA:Q0b:=mkP 222 [] true [.one (.int .i64), .one (.int .u32), .one (.int .u32)] [] (λargs rows=>Qqr (argI args 0) (argI args 1) (argI args 2)) (λargs rows=>Q3z (argI args 0) (argI args 1) (argI args 2)) (λX=> .tup [.int .u32 (X.1), .bool (X.2)]) (λX=>[])
theorem Zjs:Q05 Tryz.prog vA:=Q0k Q0j Q0h (.cons Z40 (.cons Zam (.nil))) Tryz.func222 Tryz.call222 (λargs rows=>Qmp (argI args 0) (argI args 1) (argI args 2)) [] [] 2 (λ_ _ _=>by kernel_rfl) (λ_ _=>rfl) (λ_ _ h=>h) (λ_ X=>by kernel_rfl)
end
end Go.Proofs.YtjaifpiopmhmlaaGreat

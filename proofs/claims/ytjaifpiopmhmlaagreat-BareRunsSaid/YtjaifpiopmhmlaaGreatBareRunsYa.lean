import Derived.Test.YtjaifpiopmhmlaaGreatBareRunsBase
set_option maxRecDepth 100000
set_option linter.all false
namespace Go.Proofs.YtjaifpiopmhmlaaGreat
open Go Go.GD Go.IntKind
noncomputable section
def Q03(s:(List Int)):(List Int):=
s
def Q08(s:(List Int)):Prop:=
s.length<=35184372088832
def Q3p(s:(List Int)):List D:=[.sl 1 (.ints .u32 s) false]
def Q2i(s:(List Int)):List Row:=[]
def Q1n(X:(List Int)):D:= .all 0
def Q1m(X:(List Int)):List Row:=[⟨false,23,1, .ints .u32 X⟩]
def Qdf:List Dir:=[.row 23 1 (.ints .u32)]
def Q7f:List PT:=[.one (.ints .u32)]
def Q6v:List RT:=[]
def Qf4(args:List D)(rows:List Row):(List Int):=Q03 (argL .u32 args 0)
def Qf7(args:List D)(rows:List Row):Prop:=Q08 (argL .u32 args 0)
def Qg5:Q0c:=mkP 67 [] true Q7f Q6v Qf7 Qf4 Q1n Q1m
def Q54(s:(List Int))(Leaf:(List Int)->Prop):Prop:=
(s=[]->Leaf [])/\cand (decide ((4:Nat)*((0:Nat)+s.length)<=(140737488355328:Nat))) (Leaf s)
set_option maxRecDepth 100000 in
theorem Qfm(s:(List Int))(Q:D->List Row->Prop):(fnVC tab [] (LL tab [] Tryz.f67.ntmps 0 [] 2) Tryz.f67 (Q3p s) (Q2i s) λd R=>Qdy (Q2i s).length Qdf d R Q)=Q54 s (λX=>Q (Q1n X) (Q1m X)):=by kernel_rfl
theorem Qde(s:(List Int))(Leaf:(List Int)->Prop)(hw:Q08 s)(h:Leaf (Q03 s)):
Q54 s Leaf:=by
 delta Q54
 refine⟨λe=>by rw[e]at h;exact h,?_⟩
 rw[Q09]
 refine⟨decide_eq_true ?_,h⟩
 have:s.length<=35184372088832:=hw
 omega
set_option maxRecDepth 100000 in
theorem Qd1(s:(List Int))(hw:Q08 s):Q3w Tryz.prog 67 (Q3p s) (Q2i s) (Q1n (Q03 s)) (Q1m (Q03 s)):=
 have hG:Q8y Tryz.prog []:= .nil
 FnOK.calls Q0j Q0l hG Tryz.func67 (LL_ok Q0j Q0l hG 2 (invs:=[])) (FnOK.of (Qfm s _) (Qde s (λX=>Q1n X=Q1n (Q03 s)/\Q1m X=Q1m (Q03 s)) hw ⟨rfl,rfl⟩))
set_option maxRecDepth 100000 in
theorem Qdl(args:List D)(rows:List Row):Qix Q7f args 0=Q3p (argL .u32 args 0):=by kernel_rfl
set_option maxRecDepth 100000 in
theorem Qd0(args:List D)(rows:List Row):Q7b Q6v rows 0=Q2i (argL .u32 args 0):=by kernel_rfl
set_option maxRecDepth 100000 in
theorem Qfk(X:(List Int)):(ffB (Q1n X)&&ffBR (Q1m X))=true:=by kernel_rfl
theorem Q0w:Q06 Tryz.prog Qg5:=Z6m Tryz.call67 (λargs rows hp=>by rw[Qdl args rows,Qd0 args rows];exact Qd1 (argL .u32 args 0) hp) (λ_ X=>Qfk X)
def Q8b(m:(List Int)):Tree Int:=
.br (Int.tmod (m.length:Int) (32:Int) !=(0:Int)) (.lf 0) (.br (decide ((m.length:Int)>(1024:Int))) (.lf 0) (.lf (wrap i64 (Int.tdiv (m.length:Int) 32))))
def Q0u(m:(List Int)):Int:=(Q8b m).m
def Z4a:Q0c:=mkR 84 [] true [.one (.ints .u32)] [] (λargs rows=>Q0u (argL .u32 args 0)) (λX=> .int .i64 X) (λX=>[])
theorem Q4b:Q06 Tryz.prog Z4a:=Q0z Q0j Q0l (.nil) Tryz.func84 Tryz.call84 (λargs rows=>Q8b (argL .u32 args 0)) [] [] 2
def Q37(m:(List Int))(addr:Int)(size:Int):Tree Bool:=
let T1:Tree (Bool):= .cn (decide (wrap u32 size≠0)) (.br (Int.tmod addr (wrap u32 size) !=0) (.lf false) (.lv (Q0u m) λ(x0:Int)=> .lf (decide (wrap u64 (wrap u64 addr+wrap u64 size)<=wrap u64 (wrap u64 x0*128))))); .br (size !=1) (.br (size !=4) (.lf false) T1) T1
def Qg1(m:(List Int))(addr:Int)(size:Int):Bool:=(Q37 m addr size).m
abbrev Qa2(m:(List Int))(addr:Int)(size:Int):Prop:=(Q37 m addr size).p
def Z01:Q0c:=mkP 252 [] true [.one (.ints .u32), .one (.int .u32), .one (.int .i64)] [] (λargs rows=>Qa2 (argL .u32 args 0) (argI args 1) (argI args 2)) (λargs rows=>Qg1 (argL .u32 args 0) (argI args 1) (argI args 2)) (λX=> .bool X) (λX=>[])
theorem Qmm:Q06 Tryz.prog Z01:=Q0n Q0j Q0l (.cons Q4b (.nil)) Tryz.func252 Tryz.call252 (λargs rows=>Q37 (argL .u32 args 0) (argI args 1) (argI args 2)) [] [] 2
def Qba(n:Int):Tree Int:=
.br (decide (n>=32)) (.lf 4294967295) (.cn (decide (0<=wrap u64 n)) (.lf (wrap u32 (ishl u32 1 (wrap u64 n)-1))))
def Z0z(n:Int):Int:=(Qba n).m
abbrev Qgc(n:Int):Prop:=(Qba n).p
def Zhu:Q0c:=mkP 253 [] true [.one (.int .i64)] [] (λargs rows=>Qgc (argI args 0)) (λargs rows=>Z0z (argI args 0)) (λX=> .int .u32 X) (λX=>[])
theorem Qx4:Q06 Tryz.prog Zhu:=Q0n Q0j Q0l (.nil) Tryz.func253 Tryz.call253 (λargs rows=>Qba (argI args 0)) [] [] 2
def Q9s(w:Int)(low:Int)(n:Int):Tree Int:=
.br (decide (low<0)) (.lf 0) (.br (decide (low>31)) (.lf 0) (.br (decide (n<1)) (.lf 0) (.cn (decide (0<=wrap u64 low)) (.an (Qgc n) (.lv (Z0z n) λ(x0:Int)=> .lf (iand u32 (ishr u32 w (wrap u64 low)) x0))))))
def Q2z(w:Int)(low:Int)(n:Int):Int:=(Q9s w low n).m
abbrev Q58(w:Int)(low:Int)(n:Int):Prop:=(Q9s w low n).p
def Zbj:Q0c:=mkP 212 [] true [.one (.int .u32), .one (.int .i64), .one (.int .i64)] [] (λargs rows=>Q58 (argI args 0) (argI args 1) (argI args 2)) (λargs rows=>Q2z (argI args 0) (argI args 1) (argI args 2)) (λX=> .int .u32 X) (λX=>[])
theorem Qlk:Q06 Tryz.prog Zbj:=Q0n Q0j Q0l (.cons Qx4 (.nil)) Tryz.func212 Tryz.call212 (λargs rows=>Q9s (argI args 0) (argI args 1) (argI args 2)) [] [] 2
def Q8w(w:Int)(low:Int)(n:Int)(v:Int):Tree Int:=
.br (decide (low<0)) (.lf w) (.br (decide (low>31)) (.lf w) (.br (decide (n<1)) (.lf w) (.an (Qgc n) (.lv (Z0z n) λ(x0:Int)=> .cn (decide (0<=wrap u64 low)) (.cn (decide (0<=wrap u64 low)) (.lf (ior u32 (Qg7 u32 w (ishl u32 x0 (wrap u64 low))) (ishl u32 (iand u32 v x0) (wrap u64 low)))))))))
def Q7r(w:Int)(low:Int)(n:Int)(v:Int):Int:=(Q8w w low n v).m
abbrev Qk7(w:Int)(low:Int)(n:Int)(v:Int):Prop:=(Q8w w low n v).p
def Qzs:Q0c:=mkP 255 [] true [.one (.int .u32), .one (.int .i64), .one (.int .i64), .one (.int .u32)] [] (λargs rows=>Qk7 (argI args 0) (argI args 1) (argI args 2) (argI args 3)) (λargs rows=>Q7r (argI args 0) (argI args 1) (argI args 2) (argI args 3)) (λX=> .int .u32 X) (λX=>[])
theorem Qyi:Q06 Tryz.prog Qzs:=Q0n Q0j Q0l (.cons Qx4 (.nil)) Tryz.func255 Tryz.call255 (λargs rows=>Q8w (argI args 0) (argI args 1) (argI args 2) (argI args 3)) [] [] 2
def Q8f(m:(List Int))(addr:Int)(size:Int)(v:Int):Tree ((List Int)×Bool):=
.an (Q08 m) (.lv (Q03 m) λ(x0:List Int)=> .an (Qa2 m addr size) (.lv (Qg1 m addr size) λ(x1:Bool)=> .br (!x1) (.lf (x0,false)) (let E1:=Nat.beq 1 1&&Nat.blt 0 1&&decide (0<=wrap u32 (Int.tdiv addr 4)/\wrap u32 (Int.tdiv addr 4)<(x0.length:Int));let E2:=Int.toNat (wrap u32 (Int.tdiv addr 4)); .br (size==1) (.cn E1 (let E3:=wrap i64 (wrap i64 (Int.tmod addr 4)*8); .an (Qk7 (x0.getD E2 0) E3 8 v) (.lv (Q7r (x0.getD E2 0) E3 8 v) λ(x2:Int)=> .cn E1 (.lf (List.set x0 E2 x2,true))))) (.cn E1 (.lf (List.set x0 E2 v,true))))))
def Q9r(m:(List Int))(addr:Int)(size:Int)(v:Int):((List Int)×Bool):=(Q8f m addr size v).m
abbrev Qaz(m:(List Int))(addr:Int)(size:Int)(v:Int):Prop:=(Q8f m addr size v).p
def Z3z:Q0c:=mkP 218 [] true [.one (.ints .u32), .one (.int .u32), .one (.int .i64), .one (.int .u32)] [] (λargs rows=>Qaz (argL .u32 args 0) (argI args 1) (argI args 2) (argI args 3)) (λargs rows=>Q9r (argL .u32 args 0) (argI args 1) (argI args 2) (argI args 3)) (λX=> .tup [.all 0, .bool (X.2)]) (λX=>[⟨false,23,1, .ints .u32 (X.1)⟩])
theorem Qnz:Q06 Tryz.prog Z3z:=Q0n Q0j Q0l (.cons Q0w (.cons Qmm (.cons Qyi (.nil)))) Tryz.func218 Tryz.call218 (λargs rows=>Q8f (argL .u32 args 0) (argI args 1) (argI args 2) (argI args 3)) [.row 23 1 (.ints .u32)] [] 2
def Zd9(op:Int):Tree (Q8p×Bool):=
.br (op==1) (.lf ({a:=true,b:=true,c:=true,low:=0,D6:=0},true)) (.br (op==2) (.lf ({a:=true,b:=true,c:=true,low:=0,D6:=0},true)) (.br (op==3) (.lf ({a:=true,b:=true,c:=true,low:=0,D6:=0},true)) (.br (op==4) (.lf ({a:=true,b:=true,c:=true,low:=0,D6:=0},true)) (.br (op==5) (.lf ({a:=true,b:=true,c:=true,low:=0,D6:=0},true)) (.br (op==6) (.lf ({a:=true,b:=true,c:=true,low:=0,D6:=0},true)) (.br (op==7) (.lf ({a:=true,b:=true,c:=true,low:=0,D6:=0},true)) (.br (op==8) (.lf ({a:=true,b:=true,c:=true,low:=0,D6:=0},true)) (.br (op==9) (.lf ({a:=true,b:=true,c:=true,low:=0,D6:=0},true)) (.br (op==10) (.lf ({a:=true,b:=true,c:=true,low:=0,D6:=0},true)) (.br (op==11) (.lf ({a:=true,b:=true,c:=true,low:=0,D6:=0},true)) (.br (op==12) (.lf ({a:=true,b:=true,c:=true,low:=0,D6:=0},true)) (.br (op==13) (.lf ({a:=true,b:=true,c:=true,low:=0,D6:=0},true)) (.br (op==16) (.lf ({a:=true,b:=true,c:=false,low:=(-32768),D6:=32767},true)) (.br (op==23) (.lf ({a:=true,b:=true,c:=false,low:=(-32768),D6:=32767},true)) (.br (op==32) (.lf ({a:=true,b:=true,c:=false,low:=(-32768),D6:=32767},true)) (.br (op==33) (.lf ({a:=true,b:=true,c:=false,low:=(-32768),D6:=32767},true)) (.br (op==34) (.lf ({a:=true,b:=true,c:=false,low:=(-32768),D6:=32767},true)) (.br (op==35) (.lf ({a:=true,b:=true,c:=false,low:=(-32768),D6:=32767},true)) (.br (op==36) (.lf ({a:=true,b:=true,c:=false,low:=(-32768),D6:=32767},true)) (.br (op==40) (.lf ({a:=true,b:=true,c:=false,low:=(-32768),D6:=32767},true)) (.br (op==41) (.lf ({a:=true,b:=true,c:=false,low:=(-32768),D6:=32767},true)) (.br (op==42) (.lf ({a:=true,b:=true,c:=false,low:=(-32768),D6:=32767},true)) (.br (op==43) (.lf ({a:=true,b:=true,c:=false,low:=(-32768),D6:=32767},true)) (.br (op==44) (.lf ({a:=true,b:=true,c:=false,low:=(-32768),D6:=32767},true)) (.br (op==45) (.lf ({a:=true,b:=true,c:=false,low:=(-32768),D6:=32767},true)) (.br (op==49) (.lf ({a:=true,b:=true,c:=false,low:=(-32768),D6:=32767},true)) (.br (op==17) (.lf ({a:=true,b:=true,c:=false,low:=0,D6:=65535},true)) (.br (op==18) (.lf ({a:=true,b:=true,c:=false,low:=0,D6:=65535},true)) (.br (op==19) (.lf ({a:=true,b:=true,c:=false,low:=0,D6:=65535},true)) (.br (op==20) (.lf ({a:=true,b:=true,c:=false,low:=0,D6:=31},true)) (.br (op==21) (.lf ({a:=true,b:=true,c:=false,low:=0,D6:=31},true)) (.br (op==22) (.lf ({a:=true,b:=true,c:=false,low:=0,D6:=31},true)) (.br (op==24) (.lf ({a:=true,b:=false,c:=false,low:=0,D6:=65535},true)) (.br (op==48) (.lf ({a:=true,b:=false,c:=false,low:=(-32768),D6:=32767},true)) (.br (op==58) (.lf ({a:=true,b:=false,c:=false,low:=0,D6:=7},true)) (.br (op==59) (.lf ({a:=true,b:=false,c:=false,low:=0,D6:=7},true)) (.br (op==60) (.lf ({a:=true,b:=false,c:=false,low:=0,D6:=11},true)) (.br (op==61) (.lf ({a:=true,b:=false,c:=false,low:=0,D6:=11},true)) (.br (op==56) (.lf ({a:=false,b:=false,c:=false,low:=0,D6:=0},true)) (.br (op==57) (.lf ({a:=false,b:=false,c:=false,low:=0,D6:=0},true)) (.br (op==62) (.lf ({a:=false,b:=false,c:=false,low:=0,D6:=0},true)) (.br (op==63) (.lf ({a:=false,b:=false,c:=false,low:=0,D6:=0},true)) (.br (op==64) (.lf ({a:=false,b:=false,c:=false,low:=0,D6:=0},true)) (.lf ({a:=false,b:=false,c:=false,low:=0,D6:=0},false)))))))))))))))))))))))))))))))))))))))))))))
def Z28(op:Int):(Q8p×Bool):=(Zd9 op).m
def zz:Q0c:=mkR 213 [] true [.one (.int .i64)] [] (λargs rows=>Z28 (argI args 0)) (λX=> .tup [.agg (Q8p.cells (X.1)), .bool (X.2)]) (λX=>[])
theorem Z67:Q06 Tryz.prog zz:=Q0z Q0j Q0l (.nil) Tryz.func213 Tryz.call213 (λargs rows=>Zd9 (argI args 0)) [] [] 2
def Q72(x:Int)(n:Int):Tree Int:=
.br (decide (n<1)) (.lf 0) (.br (decide (n>=32)) (.lf x) (let E1:=decide (0<=wrap u64 (wrap i64 (32-n))); .cn E1 (.cn E1 (.lf (wrap u32 (ishr i32 (wrap i32 (ishl u32 x (wrap u64 (wrap i64 (32-n))))) (wrap u64 (wrap i64 (32-n)))))))))
def Q2f(x:Int)(n:Int):Int:=(Q72 x n).m
abbrev Qb4(x:Int)(n:Int):Prop:=(Q72 x n).p
def Qvc:Q0c:=mkP 214 [] true [.one (.int .u32), .one (.int .i64)] [] (λargs rows=>Qb4 (argI args 0) (argI args 1)) (λargs rows=>Q2f (argI args 0) (argI args 1)) (λX=> .int .u32 X) (λX=>[])
theorem Qj1:Q06 Tryz.prog Qvc:=Q0n Q0j Q0l (.nil) Tryz.func214 Tryz.call214 (λargs rows=>Q72 (argI args 0) (argI args 1)) [] [] 2
def Qe8(r:Int)(used:Bool):Tree Bool:=
.br used (.br (decide (r>=0)) (.lf (decide (r<=15))) (.lf false)) (.lf (r==0))
def Q92(r:Int)(used:Bool):Bool:=(Qe8 r used).m
def Z3b:Q0c:=mkR 254 [] true [.one (.int .i64), .one (.bool)] [] (λargs rows=>Q92 (argI args 0) (argB args 1)) (λX=> .bool X) (λX=>[])
theorem Z22:Q06 Tryz.prog Z3b:=Q0z Q0j Q0l (.nil) Tryz.func254 Tryz.call254 (λargs rows=>Qe8 (argI args 0) (argB args 1)) [] [] 2
def Qin(i:Q0k):Tree Bool:=
.lv (Z28 i.Op) λ(x0:Q8p×Bool)=> .br x0.2 (.lv (Q92 i.A x0.1.a) λ(x1:Bool)=> .br x1 (.lv (Q92 i.B x0.1.b) λ(x2:Bool)=> .br x2 (.lv (Q92 i.C x0.1.c) λ(x3:Bool)=> .br x3 (.br (decide (i.Imm>=x0.1.low)) (.lf (decide (i.Imm<=x0.1.D6))) (.lf false)) (.lf false)) (.lf false)) (.lf false)) (.lf false)
def Qf3(i:Q0k):Bool:=(Qin i).m
def Zh5:Q0c:=mkR 215 [] true [.agg Q0k.sig] [] (λargs rows=>Qf3 (Q0k.of (aC args 0))) (λX=> .bool X) (λX=>[])
theorem Zdo:Q06 Tryz.prog Zh5:=Q0z Q0j Q0l (.cons Z67 (.cons Z22 (.nil))) Tryz.func215 Tryz.call215 (λargs rows=>Qin (Q0k.of (aC args 0))) [] [] 2
def Q7a(w:Int):Tree (Q0k×Bool):=
.an (Q58 w 24 8) (.lv (Q2z w 24 8) λ(x0:Int)=> .an (Q58 w 20 4) (.lv (Q2z w 20 4) λ(x1:Int)=> .an (Q58 w 16 4) (.lv (Q2z w 16 4) λ(x2:Int)=> .lv (Z28 (wrap i64 x0)) λ(x3:Q8p×Bool)=>let E1:=({Op:=0,A:=0,B:=0,C:=0,Imm:=0}:Q0k); .br (!x3.2) (.lf (E1,false)) (.an (Q58 w 0 16) (.lv (Q2z w 0 16) λ(x4:Int)=> .br x3.1.c (let E2:=({Op:=wrap i64 x0,A:=wrap i64 x1,B:=wrap i64 x2,C:=wrap i64 x4,Imm:=0}:Q0k); .lv (Qf3 E2) λ(x5:Bool)=> .br (!x5) (.lf (E1,false)) (.lf (E2,true))) (.br (decide (x3.1.low<0)) (.an (Qb4 x4 16) (.lv (Q2f x4 16) λ(x6:Int)=>let E3:=({Op:=wrap i64 x0,A:=wrap i64 x1,B:=wrap i64 x2,C:=0,Imm:=wrap i32 x6}:Q0k); .lv (Qf3 E3) λ(x7:Bool)=> .br (!x7) (.lf (E1,false)) (.lf (E3,true)))) (let E4:=({Op:=wrap i64 x0,A:=wrap i64 x1,B:=wrap i64 x2,C:=0,Imm:=wrap i32 x4}:Q0k); .lv (Qf3 E4) λ(x8:Bool)=> .br (!x8) (.lf (E1,false)) (.lf (E4,true)))))))))
def Qgx(w:Int):(Q0k×Bool):=(Q7a w).m
abbrev Qjq(w:Int):Prop:=(Q7a w).p
def Zc3:Q0c:=mkP 156 [] true [.one (.int .u32)] [] (λargs rows=>Qjq (argI args 0)) (λargs rows=>Qgx (argI args 0)) (λX=> .tup [.agg (Q0k.cells (X.1)), .bool (X.2)]) (λX=>[])
theorem Z9:Q06 Tryz.prog Zc3:=Q0n Q0j Q0l (.cons Qlk (.cons Z67 (.cons Qj1 (.cons Zdo (.nil))))) Tryz.func156 Tryz.call156 (λargs rows=>Q7a (argI args 0)) [] [] 2
def Qad(a:Int)(b:Int):Tree (Int×Int):=
.br (b==0) (.lf (4294967295,a)) (let T1:Tree ((Int×Int)):= .cn (decide (wrap i32 b≠0)) (.cn (decide (wrap i32 b≠0)) (.lf (wrap u32 (wrap i32 (Int.tdiv (wrap i32 a) (wrap i32 b))),wrap u32 (Int.tmod (wrap i32 a) (wrap i32 b))))); .br (a==2147483648) (.br (b==4294967295) (.lf (a,0)) T1) T1)
def Qb8(a:Int)(b:Int):(Int×Int):=(Qad a b).m
abbrev Qh(a:Int)(b:Int):Prop:=(Qad a b).p
def Z8a:Q0c:=mkP 256 [] true [.one (.int .u32), .one (.int .u32)] [] (λargs rows=>Qh (argI args 0) (argI args 1)) (λargs rows=>Qb8 (argI args 0) (argI args 1)) (λX=> .tup [.int .u32 (X.1), .int .u32 (X.2)]) (λX=>[])
theorem Z4m:Q06 Tryz.prog Z8a:=Q0n Q0j Q0l (.nil) Tryz.func256 Tryz.call256 (λargs rows=>Qad (argI args 0) (argI args 1)) [] [] 2
def Z2w(b:Bool):Tree Int:=
.br b (.lf 1) (.lf 0)
def Qn2(b:Bool):Int:=(Z2w b).m
def Zgp:Q0c:=mkR 257 [] true [.one (.bool)] [] (λargs rows=>Qn2 (argB args 0)) (λX=> .int .u32 X) (λX=>[])
theorem Zdm:Q06 Tryz.prog Zgp:=Q0z Q0j Q0l (.nil) Tryz.func257 Tryz.call257 (λargs rows=>Z2w (argB args 0)) [] [] 2
def Qop(op:Int)(a:Int)(b:Int):Tree (Int×Bool):=
.br (op==2) (.lf (wrap u32 (a+wrap u32 (0-b)),true)) (.br (op==1) (.lf (wrap u32 (a+b),true)) (.br (op==16) (.lf (wrap u32 (a+b),true)) (.br (op==3) (.lf (iand u32 a b,true)) (.br (op==17) (.lf (iand u32 a b,true)) (.br (op==4) (.lf (ior u32 a b,true)) (.br (op==18) (.lf (ior u32 a b,true)) (.br (op==5) (.lf (ixor u32 a b,true)) (.br (op==19) (.lf (ixor u32 a b,true)) (.br (op==6) (.lf (ishl u32 a (iand u32 b 31),true)) (.br (op==20) (.lf (ishl u32 a (iand u32 b 31),true)) (.br (op==7) (.lf (ishr u32 a (iand u32 b 31),true)) (.br (op==21) (.lf (ishr u32 a (iand u32 b 31),true)) (let E1:=(wrap u32 (ishr i32 (wrap i32 a) (iand u32 b 31)),true); .br (op==8) (.lf E1) (.br (op==22) (.lf E1) (.br (op==9) (.lf (wrap u32 (a*b),true)) (.br (op==10) (.an (Qh a b) (.lv (Qb8 a b) λ(x0:Int×Int)=> .lf (x0.1,true))) (.br (op==11) (.an (Qh a b) (.lv (Qb8 a b) λ(x1:Int×Int)=> .lf (x1.2,true))) (.br (op==12) (.lv (Qn2 (decide (wrap i32 a<wrap i32 b))) λ(x2:Int)=> .lf (x2,true)) (.br (op==23) (.lv (Qn2 (decide (wrap i32 a<wrap i32 b))) λ(x3:Int)=> .lf (x3,true)) (.br (op==13) (.lv (Qn2 (decide (a<b))) λ(x4:Int)=> .lf (x4,true)) (.lf (0,false))))))))))))))))))))))
def Q4c(op:Int)(a:Int)(b:Int):(Int×Bool):=(Qop op a b).m
abbrev Qr7(op:Int)(a:Int)(b:Int):Prop:=(Qop op a b).p
def yz:Q0c:=mkP 222 [] true [.one (.int .i64), .one (.int .u32), .one (.int .u32)] [] (λargs rows=>Qr7 (argI args 0) (argI args 1) (argI args 2)) (λargs rows=>Q4c (argI args 0) (argI args 1) (argI args 2)) (λX=> .tup [.int .u32 (X.1), .bool (X.2)]) (λX=>[])
theorem Zkv:Q06 Tryz.prog yz:=Q0n Q0j Q0l (.cons Z4m (.cons Zdm (.nil))) Tryz.func222 Tryz.call222 (λargs rows=>Qop (argI args 0) (argI args 1) (argI args 2)) [] [] 2
end
end Go.Proofs.YtjaifpiopmhmlaaGreat

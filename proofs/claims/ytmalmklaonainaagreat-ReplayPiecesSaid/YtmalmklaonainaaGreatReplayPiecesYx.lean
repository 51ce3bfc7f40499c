import Derived.Test.YtmalmklaonainaaGreatReplayPiecesBase
set_option maxRecDepth 100000
set_option linter.all false
namespace Go.Proofs.YtmalmklaonainaaGreat
open Go Go.GD Go.IntKind
noncomputable section
def Q03(s:(List Int)):(List Int):=
s
def Q08(s:(List Int)):Prop:=
s.length<=35184372088832
def Q3y(s:(List Int)):List D:=[.sl 1 (.ints .u32 s) false]
def Q2h(s:(List Int)):List Row:=[]
def Q1t(X:(List Int)):D:= .all 0
def Q1s(X:(List Int)):List Row:=[⟨false,25,1, .ints .u32 X⟩]
def Qf2:List Dir:=[.row 25 1 (.ints .u32)]
def Q80:List PT:=[.one (.ints .u32)]
def Q7r:List RT:=[]
def Qg(args:List D)(rows:List Row):(List Int):=Q03 (argL .u32 args 0)
def Qgt(args:List D)(rows:List Row):Prop:=Q08 (argL .u32 args 0)
def Qhr:Q0d:=mkP 129 [] true Q80 Q7r Qgt Qg Q1t Q1s
def Q5c(s:(List Int))(Leaf:(List Int)->Prop):Prop:=
(s=[]->Leaf [])/\cand (decide ((4:Nat)*((0:Nat)+s.length)<=(140737488355328:Nat))) (Leaf s)
set_option maxRecDepth 100000 in
theorem Qgz(s:(List Int))(Q:D->List Row->Prop):(fnVC tab [] (LL tab [] Tryz.f129.ntmps 0 [] 2) Tryz.f129 (Q3y s) (Q2h s) λd R=>Q9w (Q2h s).length Qf2 d R Q)=Q5c s (λX=>Q (Q1t X) (Q1s X)):=by kernel_rfl
theorem Qfe(s:(List Int))(Leaf:(List Int)->Prop)(hw:Q08 s)(h:Leaf (Q03 s)):
Q5c s Leaf:=by
 delta Q5c
 refine⟨λe=>by rw[e]at h;exact h,?_⟩
 rw[Q07]
 refine⟨dY ?_,h⟩
 have:s.length<=35184372088832:=hw
 omega
set_option maxRecDepth 100000 in
theorem Qei(s:(List Int))(hw:Q08 s):Q4e pG 129 (Q3y s) (Q2h s) (Q1t (Q03 s)) (Q1s (Q03 s)):=
 have hG:Q7a pG []:= .nil
 FnOK.calls drawn Q0k hG Tryz.func129 (rf:=none) (λ_ _=>trivial) (Zng drawn Q0k hG (.inl rfl) 2 (invs:=[])) (FnOK.of (Qgz s _) (Qfe s (λX=>Q1t X=Q1t (Q03 s)/\Q1s X=Q1s (Q03 s)) hw ⟨rfl,rfl⟩))
set_option maxRecDepth 100000 in
theorem Qfg(args:List D)(rows:List Row):Qga Q80 args 0=Q3y (argL .u32 args 0):=by kernel_rfl
set_option maxRecDepth 100000 in
theorem Qeh(args:List D)(rows:List Row):Q67 Q7r rows 0=Q2h (argL .u32 args 0):=by kernel_rfl
set_option maxRecDepth 100000 in
theorem Qh7(X:(List Int)):(ffB (Q1t X)&&ffBR (Q1s X))=true:=by kernel_rfl
theorem Q0w:Q06 pG Qhr:=Qz0 Tryz.call129 (λargs rows hp=>by rw[Qfg args rows,Qeh args rows];exact Qei (argL .u32 args 0) hp) (λ_ X=>Qh7 X)
def Q8u(m:(List Int)):Tree Int:=
.br (Int.tmod (m.length:Int) (32:Int) !=(0:Int)) (.lf 0) (.br (decide ((m.length:Int)>(1024:Int))) (.lf 0) (.lf (wrap i64 (Int.tdiv (m.length:Int) 32))))
def Q0x(m:(List Int)):Int:=(Q8u m).m
def Z5v:Q0d:=mkR 43 [] true [.one (.ints .u32)] [] (λargs rows=>Q0x (argL .u32 args 0)) (λX=> .int .i64 X) (λX=>[])
theorem Q4m:Q06 pG Z5v:=Q11 drawn Q0k (.nil) Tryz.func43 Tryz.call43 (λargs rows=>Q8u (argL .u32 args 0)) [] [] 2
def Q3h(m:(List Int))(addr:Int)(size:Int):Tree Bool:=
let T1:Tree (Bool):= .cn (decide (wrap u32 size≠0)) (.br (Int.tmod addr (wrap u32 size) !=0) (.lf false) (.lv (Q0x m) λ(x0:Int)=> .lf (decide (wrap u64 (wrap u64 addr+wrap u64 size)<=wrap u64 (wrap u64 x0*128))))); .br (size !=1) (.br (size !=4) (.lf false) T1) T1
def Qhq(m:(List Int))(addr:Int)(size:Int):Bool:=(Q3h m addr size).m
abbrev Qb0(m:(List Int))(addr:Int)(size:Int):Prop:=(Q3h m addr size).p
def Z51:Q0d:=mkP 275 [] true [.one (.ints .u32), .one (.int .u32), .one (.int .i64)] [] (λargs rows=>Qb0 (argL .u32 args 0) (argI args 1) (argI args 2)) (λargs rows=>Qhq (argL .u32 args 0) (argI args 1) (argI args 2)) (λX=> .bool X) (λX=>[])
theorem Qng:Q06 pG Z51:=Q0p drawn Q0k (.cons Q4m (.nil)) Tryz.func275 Tryz.call275 (λargs rows=>Q3h (argL .u32 args 0) (argI args 1) (argI args 2)) [] [] 2
def Qc9(n:Int):Tree Int:=
.br (decide (n>=32)) (.lf 4294967295) (.cn (decide (0<=wrap u64 n)) (.lf (wrap u32 (ishl u32 1 (wrap u64 n)-1))))
def Z24(n:Int):Int:=(Qc9 n).m
abbrev Qhi(n:Int):Prop:=(Qc9 n).p
def Zj0:Q0d:=mkP 276 [] true [.one (.int .i64)] [] (λargs rows=>Qhi (argI args 0)) (λargs rows=>Z24 (argI args 0)) (λX=> .int .u32 X) (λX=>[])
theorem Qz2:Q06 pG Zj0:=Q0p drawn Q0k (.nil) Tryz.func276 Tryz.call276 (λargs rows=>Qc9 (argI args 0)) [] [] 2
def Q9t(w:Int)(low:Int)(n:Int):Tree Int:=
.br (decide (low<0)) (.lf 0) (.br (decide (low>31)) (.lf 0) (.br (decide (n<1)) (.lf 0) (.cn (decide (0<=wrap u64 low)) (.an (Qhi n) (.lv (Z24 n) λ(x0:Int)=> .lf (iand u32 (ishr u32 w (wrap u64 low)) x0))))))
def Q30(w:Int)(low:Int)(n:Int):Int:=(Q9t w low n).m
abbrev Q5d(w:Int)(low:Int)(n:Int):Prop:=(Q9t w low n).p
def Ze2:Q0d:=mkP 233 [] true [.one (.int .u32), .one (.int .i64), .one (.int .i64)] [] (λargs rows=>Q5d (argI args 0) (argI args 1) (argI args 2)) (λargs rows=>Q30 (argI args 0) (argI args 1) (argI args 2)) (λX=> .int .u32 X) (λX=>[])
theorem Qnc:Q06 pG Ze2:=Q0p drawn Q0k (.cons Qz2 (.nil)) Tryz.func233 Tryz.call233 (λargs rows=>Q9t (argI args 0) (argI args 1) (argI args 2)) [] [] 2
def Qa7(w:Int)(low:Int)(n:Int)(v:Int):Tree Int:=
.br (decide (low<0)) (.lf w) (.br (decide (low>31)) (.lf w) (.br (decide (n<1)) (.lf w) (.an (Qhi n) (.lv (Z24 n) λ(x0:Int)=> .cn (decide (0<=wrap u64 low)) (.cn (decide (0<=wrap u64 low)) (.lf (ior u32 (Qhu u32 w (ishl u32 x0 (wrap u64 low))) (ishl u32 (iand u32 v x0) (wrap u64 low)))))))))
def Q84(w:Int)(low:Int)(n:Int)(v:Int):Int:=(Qa7 w low n v).m
abbrev Qle(w:Int)(low:Int)(n:Int)(v:Int):Prop:=(Qa7 w low n v).p
def Z3k:Q0d:=mkP 278 [] true [.one (.int .u32), .one (.int .i64), .one (.int .i64), .one (.int .u32)] [] (λargs rows=>Qle (argI args 0) (argI args 1) (argI args 2) (argI args 3)) (λargs rows=>Q84 (argI args 0) (argI args 1) (argI args 2) (argI args 3)) (λX=> .int .u32 X) (λX=>[])
theorem Z0m:Q06 pG Z3k:=Q0p drawn Q0k (.cons Qz2 (.nil)) Tryz.func278 Tryz.call278 (λargs rows=>Qa7 (argI args 0) (argI args 1) (argI args 2) (argI args 3)) [] [] 2
def Q90(m:(List Int))(addr:Int)(size:Int)(v:Int):Tree ((List Int)×Bool):=
.an (Q08 m) (.lv (Q03 m) λ(x0:List Int)=> .an (Qb0 m addr size) (.lv (Qhq m addr size) λ(x1:Bool)=> .br (!x1) (.lf (x0,false)) (let E1:=Nat.beq 1 1&&Nat.blt 0 1&&decide (0<=wrap u32 (Int.tdiv addr 4)/\wrap u32 (Int.tdiv addr 4)<(x0.length:Int));let E2:=Int.toNat (wrap u32 (Int.tdiv addr 4)); .br (size==1) (.cn E1 (let E3:=wrap i64 (wrap i64 (Int.tmod addr 4)*8); .an (Qle (x0.getD E2 0) E3 8 v) (.lv (Q84 (x0.getD E2 0) E3 8 v) λ(x2:Int)=> .cn E1 (.lf (List.set x0 E2 x2,true))))) (.cn E1 (.lf (List.set x0 E2 v,true))))))
def Qa2(m:(List Int))(addr:Int)(size:Int)(v:Int):((List Int)×Bool):=(Q90 m addr size v).m
abbrev Qc1(m:(List Int))(addr:Int)(size:Int)(v:Int):Prop:=(Q90 m addr size v).p
def Z63:Q0d:=mkP 239 [] true [.one (.ints .u32), .one (.int .u32), .one (.int .i64), .one (.int .u32)] [] (λargs rows=>Qc1 (argL .u32 args 0) (argI args 1) (argI args 2) (argI args 3)) (λargs rows=>Qa2 (argL .u32 args 0) (argI args 1) (argI args 2) (argI args 3)) (λX=> .tup [.all 0, .bool (X.2)]) (λX=>[⟨false,25,1, .ints .u32 (X.1)⟩])
theorem Qos:Q06 pG Z63:=Q0p drawn Q0k (.cons Q0w (.cons Qng (.cons Z0m (.nil)))) Tryz.func239 Tryz.call239 (λargs rows=>Q90 (argL .u32 args 0) (argI args 1) (argI args 2) (argI args 3)) [.row 25 1 (.ints .u32)] [] 2
def Zgu(op:Int):Tree (Q98×Bool):=
.br (op==1) (.lf ({a:=true,b:=true,c:=true,low:=0,D6:=0},true)) (.br (op==2) (.lf ({a:=true,b:=true,c:=true,low:=0,D6:=0},true)) (.br (op==3) (.lf ({a:=true,b:=true,c:=true,low:=0,D6:=0},true)) (.br (op==4) (.lf ({a:=true,b:=true,c:=true,low:=0,D6:=0},true)) (.br (op==5) (.lf ({a:=true,b:=true,c:=true,low:=0,D6:=0},true)) (.br (op==6) (.lf ({a:=true,b:=true,c:=true,low:=0,D6:=0},true)) (.br (op==7) (.lf ({a:=true,b:=true,c:=true,low:=0,D6:=0},true)) (.br (op==8) (.lf ({a:=true,b:=true,c:=true,low:=0,D6:=0},true)) (.br (op==9) (.lf ({a:=true,b:=true,c:=true,low:=0,D6:=0},true)) (.br (op==10) (.lf ({a:=true,b:=true,c:=true,low:=0,D6:=0},true)) (.br (op==11) (.lf ({a:=true,b:=true,c:=true,low:=0,D6:=0},true)) (.br (op==12) (.lf ({a:=true,b:=true,c:=true,low:=0,D6:=0},true)) (.br (op==13) (.lf ({a:=true,b:=true,c:=true,low:=0,D6:=0},true)) (.br (op==16) (.lf ({a:=true,b:=true,c:=false,low:=(-32768),D6:=32767},true)) (.br (op==23) (.lf ({a:=true,b:=true,c:=false,low:=(-32768),D6:=32767},true)) (.br (op==32) (.lf ({a:=true,b:=true,c:=false,low:=(-32768),D6:=32767},true)) (.br (op==33) (.lf ({a:=true,b:=true,c:=false,low:=(-32768),D6:=32767},true)) (.br (op==34) (.lf ({a:=true,b:=true,c:=false,low:=(-32768),D6:=32767},true)) (.br (op==35) (.lf ({a:=true,b:=true,c:=false,low:=(-32768),D6:=32767},true)) (.br (op==36) (.lf ({a:=true,b:=true,c:=false,low:=(-32768),D6:=32767},true)) (.br (op==40) (.lf ({a:=true,b:=true,c:=false,low:=(-32768),D6:=32767},true)) (.br (op==41) (.lf ({a:=true,b:=true,c:=false,low:=(-32768),D6:=32767},true)) (.br (op==42) (.lf ({a:=true,b:=true,c:=false,low:=(-32768),D6:=32767},true)) (.br (op==43) (.lf ({a:=true,b:=true,c:=false,low:=(-32768),D6:=32767},true)) (.br (op==44) (.lf ({a:=true,b:=true,c:=false,low:=(-32768),D6:=32767},true)) (.br (op==45) (.lf ({a:=true,b:=true,c:=false,low:=(-32768),D6:=32767},true)) (.br (op==49) (.lf ({a:=true,b:=true,c:=false,low:=(-32768),D6:=32767},true)) (.br (op==17) (.lf ({a:=true,b:=true,c:=false,low:=0,D6:=65535},true)) (.br (op==18) (.lf ({a:=true,b:=true,c:=false,low:=0,D6:=65535},true)) (.br (op==19) (.lf ({a:=true,b:=true,c:=false,low:=0,D6:=65535},true)) (.br (op==20) (.lf ({a:=true,b:=true,c:=false,low:=0,D6:=31},true)) (.br (op==21) (.lf ({a:=true,b:=true,c:=false,low:=0,D6:=31},true)) (.br (op==22) (.lf ({a:=true,b:=true,c:=false,low:=0,D6:=31},true)) (.br (op==24) (.lf ({a:=true,b:=false,c:=false,low:=0,D6:=65535},true)) (.br (op==48) (.lf ({a:=true,b:=false,c:=false,low:=(-32768),D6:=32767},true)) (.br (op==58) (.lf ({a:=true,b:=false,c:=false,low:=0,D6:=7},true)) (.br (op==59) (.lf ({a:=true,b:=false,c:=false,low:=0,D6:=7},true)) (.br (op==60) (.lf ({a:=true,b:=false,c:=false,low:=0,D6:=11},true)) (.br (op==61) (.lf ({a:=true,b:=false,c:=false,low:=0,D6:=11},true)) (.br (op==56) (.lf ({a:=false,b:=false,c:=false,low:=0,D6:=0},true)) (.br (op==57) (.lf ({a:=false,b:=false,c:=false,low:=0,D6:=0},true)) (.br (op==62) (.lf ({a:=false,b:=false,c:=false,low:=0,D6:=0},true)) (.br (op==63) (.lf ({a:=false,b:=false,c:=false,low:=0,D6:=0},true)) (.br (op==64) (.lf ({a:=false,b:=false,c:=false,low:=0,D6:=0},true)) (.lf ({a:=false,b:=false,c:=false,low:=0,D6:=0},false)))))))))))))))))))))))))))))))))))))))))))))
def Z4j(op:Int):(Q98×Bool):=(Zgu op).m
def xA:Q0d:=mkR 234 [] true [.one (.int .i64)] [] (λargs rows=>Z4j (argI args 0)) (λX=> .tup [.agg (Q98.cells (X.1)), .bool (X.2)]) (λX=>[])
theorem Z8c:Q06 pG xA:=Q11 drawn Q0k (.nil) Tryz.func234 Tryz.call234 (λargs rows=>Zgu (argI args 0)) [] [] 2
def Q7o(x:Int)(n:Int):Tree Int:=
.br (decide (n<1)) (.lf 0) (.br (decide (n>=32)) (.lf x) (let E1:=decide (0<=wrap u64 (wrap i64 (32-n))); .cn E1 (.cn E1 (.lf (wrap u32 (ishr i32 (wrap i32 (ishl u32 x (wrap u64 (wrap i64 (32-n))))) (wrap u64 (wrap i64 (32-n)))))))))
def Q2b(x:Int)(n:Int):Int:=(Q7o x n).m
abbrev Qck(x:Int)(n:Int):Prop:=(Q7o x n).p
def Qwt:Q0d:=mkP 235 [] true [.one (.int .u32), .one (.int .i64)] [] (λargs rows=>Qck (argI args 0) (argI args 1)) (λargs rows=>Q2b (argI args 0) (argI args 1)) (λX=> .int .u32 X) (λX=>[])
theorem Qk3:Q06 pG Qwt:=Q0p drawn Q0k (.nil) Tryz.func235 Tryz.call235 (λargs rows=>Q7o (argI args 0) (argI args 1)) [] [] 2
def Qfr(r:Int)(used:Bool):Tree Bool:=
.br used (.br (decide (r>=0)) (.lf (decide (r<=15))) (.lf false)) (.lf (r==0))
def Q9m(r:Int)(used:Bool):Bool:=(Qfr r used).m
def Z6e:Q0d:=mkR 277 [] true [.one (.int .i64), .one (.bool)] [] (λargs rows=>Q9m (argI args 0) (argB args 1)) (λX=> .bool X) (λX=>[])
theorem Z3g:Q06 pG Z6e:=Q11 drawn Q0k (.nil) Tryz.func277 Tryz.call277 (λargs rows=>Qfr (argI args 0) (argB args 1)) [] [] 2
def Qis(i:Q0l):Tree Bool:=
.lv (Z4j i.Op) λ(x0:Q98×Bool)=> .br x0.2 (.lv (Q9m i.A x0.1.a) λ(x1:Bool)=> .br x1 (.lv (Q9m i.B x0.1.b) λ(x2:Bool)=> .br x2 (.lv (Q9m i.C x0.1.c) λ(x3:Bool)=> .br x3 (.br (decide (i.Imm>=x0.1.low)) (.lf (decide (i.Imm<=x0.1.D6))) (.lf false)) (.lf false)) (.lf false)) (.lf false)) (.lf false)
def Qgn(i:Q0l):Bool:=(Qis i).m
def Zkl:Q0d:=mkR 236 [] true [.agg Q0l.sig] [] (λargs rows=>Qgn (Q0l.of (aC args 0))) (λX=> .bool X) (λX=>[])
theorem Zfa:Q06 pG Zkl:=Q11 drawn Q0k (.cons Z8c (.cons Z3g (.nil))) Tryz.func236 Tryz.call236 (λargs rows=>Qis (Q0l.of (aC args 0))) [] [] 2
def Q8(w:Int):Tree (Q0l×Bool):=
.an (Q5d w 24 8) (.lv (Q30 w 24 8) λ(x0:Int)=> .an (Q5d w 20 4) (.lv (Q30 w 20 4) λ(x1:Int)=> .an (Q5d w 16 4) (.lv (Q30 w 16 4) λ(x2:Int)=> .lv (Z4j (wrap i64 x0)) λ(x3:Q98×Bool)=>let E1:=({Op:=0,A:=0,B:=0,C:=0,Imm:=0}:Q0l); .br (!x3.2) (.lf (E1,false)) (.an (Q5d w 0 16) (.lv (Q30 w 0 16) λ(x4:Int)=> .br x3.1.c (let E2:=({Op:=wrap i64 x0,A:=wrap i64 x1,B:=wrap i64 x2,C:=wrap i64 x4,Imm:=0}:Q0l); .lv (Qgn E2) λ(x5:Bool)=> .br (!x5) (.lf (E1,false)) (.lf (E2,true))) (.br (decide (x3.1.low<0)) (.an (Qck x4 16) (.lv (Q2b x4 16) λ(x6:Int)=>let E3:=({Op:=wrap i64 x0,A:=wrap i64 x1,B:=wrap i64 x2,C:=0,Imm:=wrap i32 x6}:Q0l); .lv (Qgn E3) λ(x7:Bool)=> .br (!x7) (.lf (E1,false)) (.lf (E3,true)))) (let E4:=({Op:=wrap i64 x0,A:=wrap i64 x1,B:=wrap i64 x2,C:=0,Imm:=wrap i32 x4}:Q0l); .lv (Qgn E4) λ(x8:Bool)=> .br (!x8) (.lf (E1,false)) (.lf (E4,true)))))))))
def Qi5(w:Int):(Q0l×Bool):=(Q8 w).m
abbrev Qky(w:Int):Prop:=(Q8 w).p
def Zdd:Q0d:=mkP 180 [] true [.one (.int .u32)] [] (λargs rows=>Qky (argI args 0)) (λargs rows=>Qi5 (argI args 0)) (λX=> .tup [.agg (Q0l.cells (X.1)), .bool (X.2)]) (λX=>[])
theorem Zbj:Q06 pG Zdd:=Q0p drawn Q0k (.cons Qnc (.cons Z8c (.cons Qk3 (.cons Zfa (.nil))))) Tryz.func180 Tryz.call180 (λargs rows=>Q8 (argI args 0)) [] [] 2
def Qaj(a:Int)(b:Int):Tree (Int×Int):=
.br (b==0) (.lf (4294967295,a)) (let T1:Tree ((Int×Int)):= .cn (decide (wrap i32 b≠0)) (.cn (decide (wrap i32 b≠0)) (.lf (wrap u32 (wrap i32 (Int.tdiv (wrap i32 a) (wrap i32 b))),wrap u32 (Int.tmod (wrap i32 a) (wrap i32 b))))); .br (a==2147483648) (.br (b==4294967295) (.lf (a,0)) T1) T1)
def Qcn(a:Int)(b:Int):(Int×Int):=(Qaj a b).m
abbrev Qjj(a:Int)(b:Int):Prop:=(Qaj a b).p
def Za:Q0d:=mkP 279 [] true [.one (.int .u32), .one (.int .u32)] [] (λargs rows=>Qjj (argI args 0) (argI args 1)) (λargs rows=>Qcn (argI args 0) (argI args 1)) (λX=> .tup [.int .u32 (X.1), .int .u32 (X.2)]) (λX=>[])
theorem Z7d:Q06 pG Za:=Q0p drawn Q0k (.nil) Tryz.func279 Tryz.call279 (λargs rows=>Qaj (argI args 0) (argI args 1)) [] [] 2
def Z3s(b:Bool):Tree Int:=
.br b (.lf 1) (.lf 0)
def Qpc(b:Bool):Int:=(Z3s b).m
def Zij:Q0d:=mkR 280 [] true [.one (.bool)] [] (λargs rows=>Qpc (argB args 0)) (λX=> .int .u32 X) (λX=>[])
theorem Ze:Q06 pG Zij:=Q11 drawn Q0k (.nil) Tryz.func280 Tryz.call280 (λargs rows=>Z3s (argB args 0)) [] [] 2
def Qpr(op:Int)(a:Int)(b:Int):Tree (Int×Bool):=
.br (op==2) (.lf (wrap u32 (a+wrap u32 (0-b)),true)) (.br (op==1) (.lf (wrap u32 (a+b),true)) (.br (op==16) (.lf (wrap u32 (a+b),true)) (.br (op==3) (.lf (iand u32 a b,true)) (.br (op==17) (.lf (iand u32 a b,true)) (.br (op==4) (.lf (ior u32 a b,true)) (.br (op==18) (.lf (ior u32 a b,true)) (.br (op==5) (.lf (ixor u32 a b,true)) (.br (op==19) (.lf (ixor u32 a b,true)) (.br (op==6) (.lf (ishl u32 a (iand u32 b 31),true)) (.br (op==20) (.lf (ishl u32 a (iand u32 b 31),true)) (.br (op==7) (.lf (ishr u32 a (iand u32 b 31),true)) (.br (op==21) (.lf (ishr u32 a (iand u32 b 31),true)) (let E1:=(wrap u32 (ishr i32 (wrap i32 a) (iand u32 b 31)),true); .br (op==8) (.lf E1) (.br (op==22) (.lf E1) (.br (op==9) (.lf (wrap u32 (a*b),true)) (.br (op==10) (.an (Qjj a b) (.lv (Qcn a b) λ(x0:Int×Int)=> .lf (x0.1,true))) (.br (op==11) (.an (Qjj a b) (.lv (Qcn a b) λ(x1:Int×Int)=> .lf (x1.2,true))) (.br (op==12) (.lv (Qpc (decide (wrap i32 a<wrap i32 b))) λ(x2:Int)=> .lf (x2,true)) (.br (op==23) (.lv (Qpc (decide (wrap i32 a<wrap i32 b))) λ(x3:Int)=> .lf (x3,true)) (.br (op==13) (.lv (Qpc (decide (a<b))) λ(x4:Int)=> .lf (x4,true)) (.lf (0,false))))))))))))))))))))))
def Q4i(op:Int)(a:Int)(b:Int):(Int×Bool):=(Qpr op a b).m
abbrev Qsj(op:Int)(a:Int)(b:Int):Prop:=(Qpr op a b).p
def zA:Q0d:=mkP 243 [] true [.one (.int .i64), .one (.int .u32), .one (.int .u32)] [] (λargs rows=>Qsj (argI args 0) (argI args 1) (argI args 2)) (λargs rows=>Q4i (argI args 0) (argI args 1) (argI args 2)) (λX=> .tup [.int .u32 (X.1), .bool (X.2)]) (λX=>[])
theorem Zno:Q06 pG zA:=Q0p drawn Q0k (.cons Z7d (.cons Ze (.nil))) Tryz.func243 Tryz.call243 (λargs rows=>Qpr (argI args 0) (argI args 1) (argI args 2)) [] [] 2
end
noncomputable section
def Qql(status:Int)(from0:Int)(to:Int):Tree Int:=
.br (iand u32 status from0 !=0) (.lf (ior u32 status to)) (.lf (Qhu u32 status to))
def Q96(status:Int)(from0:Int)(to:Int):Int:=(Qql status from0 to).m
def Zp9:Q0d:=mkR 230 [] true [.one (.int .u32), .one (.int .u32), .one (.int .u32)] [] (λargs rows=>Q96 (argI args 0) (argI args 1) (argI args 2)) (λX=> .int .u32 X) (λX=>[])
theorem Z41:Q06 pG Zp9:=Q11 drawn Q0k (.nil) Tryz.func230 Tryz.call230 (λargs rows=>Qql (argI args 0) (argI args 1) (argI args 2)) [] [] 2
def Qli(c:Q05)(cause:Int)(bad:Int):Tree Q05:=
.lv (Q96 c.B5.a0 1 8) λ(x0:Int)=> .lv (Q96 x0 2 16) λ(x1:Int)=> .lf ({X:=c.X,Pc:=c.B5.a1,B5:={a0:=Qhu u32 (ior u32 x1 1) 2,a1:=c.B5.a1,a2:=c.Pc,a3:=wrap u32 cause,a4:=bad,a5:=c.B5.a5,a6:=c.B5.a6,a7:=c.B5.a7}})
def Q4p(c:Q05)(cause:Int)(bad:Int):Q05:=(Qli c cause bad).m
def Zn8:Q0d:=mkR 178 [] true [.agg Q05.sig, .one (.int .i64), .one (.int .u32)] [] (λargs rows=>Q4p (Q05.of (aC args 0)) (argI args 1) (argI args 2)) (λX=> .agg (Q05.cells X)) (λX=>[])
theorem Qju:Q06 pG Zn8:=Q11 drawn Q0k (.cons Z41 (.nil)) Tryz.func178 Tryz.call178 (λargs rows=>Qli (Q05.of (aC args 0)) (argI args 1) (argI args 2)) [] [] 2
def Qtb(access:Int):Tree (Int×Bool):=
.br (access==1) (.lf (4,true)) (.br (access==2) (.lf (5,true)) (.br (access==3) (.lf (6,true)) (.lf (5,false))))
def Qsc(access:Int):(Int×Bool):=(Qtb access).m
def Zd:Q0d:=mkR 272 [] true [.one (.int .i64)] [] (λargs rows=>Qsc (argI args 0)) (λX=> .tup [.int .i64 (X.1), .bool (X.2)]) (λX=>[])
theorem Z6b:Q06 pG Zd:=Q11 drawn Q0k (.nil) Tryz.func272 Tryz.call272 (λargs rows=>Qtb (argI args 0)) [] [] 2
def Qz4(c:Q05):Tree Bool:=
.lf (iand u32 c.B5.a0 (1:Int) !=(0:Int))
def Qag(c:Q05):Bool:=(Qz4 c).m
def Zd5:Q0d:=mkR 182 [] true [.agg Q05.sig] [] (λargs rows=>Qag (Q05.of (aC args 0))) (λX=> .bool X) (λX=>[])
theorem Qve:Q06 pG Zd5:=Q11 drawn Q0k (.nil) Tryz.func182 Tryz.call182 (λargs rows=>Qz4 (Q05.of (aC args 0))) [] [] 2
def Qny(access:Int):Tree (Int×Bool):=
.br (access==1) (.lf (4,true)) (.br (access==2) (.lf (5,true)) (.br (access==3) (.lf (6,true)) (.lf (5,false))))
def Ql(access:Int):(Int×Bool):=(Qny access).m
def Z0s:Q0d:=mkR 306 [] true [.one (.int .i64)] [] (λargs rows=>Ql (argI args 0)) (λX=> .tup [.int .i64 (X.1), .bool (X.2)]) (λX=>[])
theorem Qy3:Q06 pG Z0s:=Q11 drawn Q0k (.nil) Tryz.func306 Tryz.call306 (λargs rows=>Qny (argI args 0)) [] [] 2
def Qiw(m:(List Int))(frame:Int):Tree Bool:=
.lv (Q0x m) λ(x0:Int)=> .lf (decide (wrap u64 frame<wrap u64 x0))
def Qat(m:(List Int))(frame:Int):Bool:=(Qiw m frame).m
def Z4q:Q0d:=mkR 307 [] true [.one (.ints .u32), .one (.int .u32)] [] (λargs rows=>Qat (argL .u32 args 0) (argI args 1)) (λX=> .bool X) (λX=>[])
theorem Z05:Q06 pG Z4q:=Q11 drawn Q0k (.cons Q4m (.nil)) Tryz.func307 Tryz.call307 (λargs rows=>Qiw (argL .u32 args 0) (argI args 1)) [] [] 2
def Q6s(m:(List Int))(addr:Int)(size:Int):Tree (Int×Bool):=
.an (Qb0 m addr size) (.lv (Qhq m addr size) λ(x0:Bool)=> .br (!x0) (.lf (0,false)) (.cn (Nat.beq 1 1&&Nat.blt 0 1&&decide (0<=wrap u32 (Int.tdiv addr 4)/\wrap u32 (Int.tdiv addr 4)<(m.length:Int))) (let E1:=Int.toNat (wrap u32 (Int.tdiv addr 4)); .br (size==1) (let E2:=wrap i64 (wrap i64 (Int.tmod addr 4)*8); .an (Q5d (m.getD E1 0) E2 8) (.lv (Q30 (m.getD E1 0) E2 8) λ(x1:Int)=> .lf (x1,true))) (.lf (m.getD E1 0,true)))))
def Q51(m:(List Int))(addr:Int)(size:Int):(Int×Bool):=(Q6s m addr size).m
abbrev Q3j(m:(List Int))(addr:Int)(size:Int):Prop:=(Q6s m addr size).p
def Z9t:Q0d:=mkP 232 [] true [.one (.ints .u32), .one (.int .u32), .one (.int .i64)] [] (λargs rows=>Q3j (argL .u32 args 0) (argI args 1) (argI args 2)) (λargs rows=>Q51 (argL .u32 args 0) (argI args 1) (argI args 2)) (λX=> .tup [.int .u32 (X.1), .bool (X.2)]) (λX=>[])
theorem Qbx:Q06 pG Z9t:=Q0p drawn Q0k (.cons Qng (.cons Qnc (.nil))) Tryz.func232 Tryz.call232 (λargs rows=>Q6s (argL .u32 args 0) (argI args 1) (argI args 2)) [] [] 2
def Qnt(pte:Int)(access:Int):Tree Bool:=
.br (iand u32 pte (1:Int)==(0:Int)) (.lf false) (.br (access==3) (.lf (iand u32 pte (2:Int) !=(0:Int))) (.br (access==1) (.lf (iand u32 pte (4:Int) !=(0:Int))) (.lf true)))
def Qbk(pte:Int)(access:Int):Bool:=(Qnt pte access).m
def Qzq:Q0d:=mkR 308 [] true [.one (.int .u32), .one (.int .i64)] [] (λargs rows=>Qbk (argI args 0) (argI args 1)) (λX=> .bool X) (λX=>[])
theorem Qxr:Q06 pG Qzq:=Q11 drawn Q0k (.nil) Tryz.func308 Tryz.call308 (λargs rows=>Qnt (argI args 0) (argI args 1)) [] [] 2
def Q8q(pte:Int):Tree Int:=
.an (Q5d pte 8 8) (.lv (Q30 pte 8 8) λ(x0:Int)=> .lf x0)
def Qfo(pte:Int):Int:=(Q8q pte).m
abbrev Qdg(pte:Int):Prop:=(Q8q pte).p
def Z0z:Q0d:=mkP 309 [] true [.one (.int .u32)] [] (λargs rows=>Qdg (argI args 0)) (λargs rows=>Qfo (argI args 0)) (λX=> .int .u32 X) (λX=>[])
theorem Qw4:Q06 pG Z0z:=Q0p drawn Q0k (.cons Qnc (.nil)) Tryz.func309 Tryz.call309 (λargs rows=>Q8q (argI args 0)) [] [] 2
def Qae(m:(List Int))(root:Int)(va:Int)(access:Int):Tree Q19:=
.lv (Ql access) λ(x0:Int×Bool)=>let E1:=({Addr:=0,F2:=0,F0:=x0.1}:Q19); .br (!x0.2) (.lf (E1)) (.br (decide (va>=4096)) (.lf (E1)) (.lv (Qat m root) λ(x1:Bool)=> .br (!x1) (.lf (E1)) (let E2:=wrap u32 (root*128)+wrap u32 (4*wrap u32 (Int.tdiv va 128)); .an (Q3j m (wrap u32 E2) 4) (.lv (Q51 m (wrap u32 E2) 4) λ(x2:Int×Bool)=> .br (!x2.2) (.lf (E1)) (.lv (Qbk x2.1 access) λ(x3:Bool)=> .br (!x3) (.lf (E1)) (.an (Qdg x2.1) (.lv (Qfo x2.1) λ(x4:Int)=> .lv (Qat m x4) λ(x5:Bool)=> .br (!x5) (.lf (E1)) (.an (Qdg x2.1) (.lv (Qfo x2.1) λ(x6:Int)=> .lf ({Addr:=wrap u32 (wrap u32 (x6*128)+Int.tmod va 128),F2:=wrap u32 E2,F0:=0}))))))))))
def Qjq(m:(List Int))(root:Int)(va:Int)(access:Int):Q19:=(Qae m root va access).m
abbrev Qiz(m:(List Int))(root:Int)(va:Int)(access:Int):Prop:=(Qae m root va access).p
def Za9:Q0d:=mkP 273 [] true [.one (.ints .u32), .one (.int .u32), .one (.int .u32), .one (.int .i64)] [] (λargs rows=>Qiz (argL .u32 args 0) (argI args 1) (argI args 2) (argI args 3)) (λargs rows=>Qjq (argL .u32 args 0) (argI args 1) (argI args 2) (argI args 3)) (λX=> .agg (Q19.cells X)) (λX=>[])
theorem Z6k:Q06 pG Za9:=Q0p drawn Q0k (.cons Qy3 (.cons Z05 (.cons Qbx (.cons Qxr (.cons Qw4 (.nil)))))) Tryz.func273 Tryz.call273 (λargs rows=>Qae (argL .u32 args 0) (argI args 1) (argI args 2) (argI args 3)) [] [] 2
def Q93(m:(List Int))(entry:Int)(access:Int):Tree (List Int):=
.an (Q3j m entry 4) (.lv (Q51 m entry 4) λ(x0:Int×Bool)=> .br (!x0.2) (.an (Q08 m) (.lv (Q03 m) λ(x1:List Int)=> .lf x1)) (.br (access==3) (.an (Qc1 m entry 4 (ior u32 (ior u32 x0.1 8) 16)) (.lv (Qa2 m entry 4 (ior u32 (ior u32 x0.1 8) 16)) λ(x2:List Int×Bool)=> .lf x2.1)) (.an (Qc1 m entry 4 (ior u32 x0.1 8)) (.lv (Qa2 m entry 4 (ior u32 x0.1 8)) λ(x3:List Int×Bool)=> .lf x3.1))))
def Qd(m:(List Int))(entry:Int)(access:Int):(List Int):=(Q93 m entry access).m
abbrev Qgw(m:(List Int))(entry:Int)(access:Int):Prop:=(Q93 m entry access).p
def Z6s:Q0d:=mkP 274 [] true [.one (.ints .u32), .one (.int .u32), .one (.int .i64)] [] (λargs rows=>Qgw (argL .u32 args 0) (argI args 1) (argI args 2)) (λargs rows=>Qd (argL .u32 args 0) (argI args 1) (argI args 2)) (λX=> .all 0) (λX=>[⟨false,25,1, .ints .u32 X⟩])
theorem Z2i:Q06 pG Z6s:=Q0p drawn Q0k (.cons Qbx (.cons Q0w (.cons Qos (.nil)))) Tryz.func274 Tryz.call274 (λargs rows=>Q93 (argL .u32 args 0) (argI args 1) (argI args 2)) [.row 25 1 (.ints .u32)] [] 2
def Q6t(c:Q05)(m:(List Int))(va:Int)(size:Int)(access:Int):Tree (Int×(List Int)×Int):=
.lv (Qsc access) λ(x0:Int×Bool)=>let T3:Tree ((Int×(List Int)×Int)):= .an (Q08 m) (.lv (Q03 m) λ(x1:List Int)=> .lf (0,x1,5)); .br (!x0.2) T3 (let T1:Tree ((Int×(List Int)×Int)):= .cn (decide (wrap u32 size≠0)) (.br (Int.tmod va (wrap u32 size) !=0) (.an (Q08 m) (.lv (Q03 m) λ(x3:List Int)=> .lf (0,x3,3))) (.lv (Qag c) λ(x4:Bool)=>let T2:Tree ((Int×(List Int)×Int)):= .an (Q3j m va size) (.lv (Q51 m va size) λ(x8:Int×Bool)=> .br (!x8.2) (.an (Q08 m) (.lv (Q03 m) λ(x9:List Int)=> .lf (0,x9,x0.1))) (.an (Q08 m) (.lv (Q03 m) λ(x10:List Int)=> .lf (va,x10,0)))); .br (!x4) (.br (iand u32 c.B5.a0 (4:Int) !=(0:Int)) (.an (Qiz m c.B5.a6 va access) (.lv (Qjq m c.B5.a6 va access) λ(x5:Q19)=> .br (x5.F0 !=0) (.an (Q08 m) (.lv (Q03 m) λ(x6:List Int)=> .lf (0,x6,x5.F0))) (.an (Qgw m x5.F2 access) (.lv (Qd m x5.F2 access) λ(x7:List Int)=> .lf (x5.Addr,x7,0))))) T2) T2)); .br (size !=1) (.br (size !=4) T3 T1) T1)
def Q25(c:Q05)(m:(List Int))(va:Int)(size:Int)(access:Int):(Int×(List Int)×Int):=(Q6t c m va size access).m
abbrev Q9z(c:Q05)(m:(List Int))(va:Int)(size:Int)(access:Int):Prop:=(Q6t c m va size access).p
def Zar:Q0d:=mkP 231 [] true [.agg Q05.sig, .one (.ints .u32), .one (.int .u32), .one (.int .i64), .one (.int .i64)] [] (λargs rows=>Q9z (Q05.of (aC args 0)) (argL .u32 args 1) (argI args 2) (argI args 3) (argI args 4)) (λargs rows=>Q25 (Q05.of (aC args 0)) (argL .u32 args 1) (argI args 2) (argI args 3) (argI args 4)) (λX=> .tup [.int .u32 (X.1), .all 0, .int .i64 (X.2.2)]) (λX=>[⟨false,25,1, .ints .u32 (X.2.1)⟩])
theorem Qku:Q06 pG Zar:=Q0p drawn Q0k (.cons Z6b (.cons Q0w (.cons Qve (.cons Z6k (.cons Z2i (.cons Qbx (.nil))))))) Tryz.func231 Tryz.call231 (λargs rows=>Q6t (Q05.of (aC args 0)) (argL .u32 args 1) (argI args 2) (argI args 3) (argI args 4)) [.row 25 1 (.ints .u32)] [] 2
def Qcb(c:Q05)(m:(List Int)):Tree (Int×(List Int)×Int):=
.an (Q9z c m c.Pc 4 1) (.lv (Q25 c m c.Pc 4 1) λ(x0:Int×List Int×Int)=> .br (x0.2.2 !=0) (.lf (0,x0.2.1,x0.2.2)) (.an (Q3j x0.2.1 x0.1 4) (.lv (Q51 x0.2.1 x0.1 4) λ(x1:Int×Bool)=> .lf (x1.1,x0.2.1,0))))
def Qp(c:Q05)(m:(List Int)):(Int×(List Int)×Int):=(Qcb c m).m
abbrev Qme(c:Q05)(m:(List Int)):Prop:=(Qcb c m).p
def Zjy:Q0d:=mkP 179 [] true [.agg Q05.sig, .one (.ints .u32)] [] (λargs rows=>Qme (Q05.of (aC args 0)) (argL .u32 args 1)) (λargs rows=>Qp (Q05.of (aC args 0)) (argL .u32 args 1)) (λX=> .tup [.int .u32 (X.1), .all 0, .int .i64 (X.2.2)]) (λX=>[⟨false,25,1, .ints .u32 (X.2.1)⟩])
theorem Zg9:Q06 pG Zjy:=Q0p drawn Q0k (.cons Qku (.cons Qbx (.nil))) Tryz.func179 Tryz.call179 (λargs rows=>Qcb (Q05.of (aC args 0)) (argL .u32 args 1)) [.row 25 1 (.ints .u32)] [] 2
def Qnw(op:Int):Tree Bool:=
.br (op==57) (.lf true) (.br (op==58) (.lf true) (.br (op==59) (.lf true) (.br (op==60) (.lf true) (.br (op==61) (.lf true) (.br (op==62) (.lf true) (.br (op==63) (.lf true) (.br (op==64) (.lf true) (.lf false))))))))
def Q8y(op:Int):Bool:=(Qnw op).m
def Z0d:Q0d:=mkR 181 [] true [.one (.int .i64)] [] (λargs rows=>Q8y (argI args 0)) (λX=> .bool X) (λX=>[])
theorem Qwf:Q06 pG Z0d:=Q11 drawn Q0k (.nil) Tryz.func181 Tryz.call181 (λargs rows=>Qnw (argI args 0)) [] [] 2
def Qsh(op:Int):Tree Int:=
.br (op==32) (.lf 4) (.br (op==35) (.lf 4) (.lf 1))
def Qgo(op:Int):Int:=(Qsh op).m
def Zi7:Q0d:=mkR 237 [] true [.one (.int .i64)] [] (λargs rows=>Qgo (argI args 0)) (λX=> .int .i64 X) (λX=>[])
theorem Qyw:Q06 pG Zi7:=Q11 drawn Q0k (.nil) Tryz.func237 Tryz.call237 (λargs rows=>Qsh (argI args 0)) [] [] 2
def Qe5(c:Q05)(register:Int)(v:Int):Tree Q05:=
.br (register !=0) (.cn (Nat.blt 0 1&&decide (0<=register/\register<(↑16:Int))) (.lf ({X:=A16.of 0 (List.set (A16.l c.X) register.toNat v),Pc:=c.Pc,B5:=c.B5}))) (.lf c)
def Qbd(c:Q05)(register:Int)(v:Int):Q05:=(Qe5 c register v).m
abbrev Q8i(c:Q05)(register:Int)(v:Int):Prop:=(Qe5 c register v).p
def yA:Q0d:=mkP 238 [] true [.agg Q05.sig, .one (.int .i64), .one (.int .u32)] [] (λargs rows=>Q8i (Q05.of (aC args 0)) (argI args 1) (argI args 2)) (λargs rows=>Qbd (Q05.of (aC args 0)) (argI args 1) (argI args 2)) (λX=> .agg (Q05.cells X)) (λX=>[])
theorem Z8l:Q06 pG yA:=Q0p drawn Q0k (.nil) Tryz.func238 Tryz.call238 (λargs rows=>Qe5 (Q05.of (aC args 0)) (argI args 1) (argI args 2)) [] [] 2
def Qf6(c:Q05)(m:(List Int))(i:Q0l):Tree (Q05×(List Int)):=
.cn (Nat.blt 0 1&&decide (0<=i.B/\i.B<(↑16:Int))) (.lv (Qgo i.Op) λ(x0:Int)=>let E1:=wrap u32 (List.getD (A16.l c.X) i.B.toNat 0+wrap u32 i.Imm); .an (Q9z c m E1 x0 2) (.lv (Q25 c m E1 x0 2) λ(x1:Int×List Int×Int)=> .br (x1.2.2 !=0) (.lv (Q4p c x1.2.2 E1) λ(x2:Q05)=> .lf (x2,x1.2.1)) (.lv (Qgo i.Op) λ(x3:Int)=> .an (Q3j x1.2.1 x1.1 x3) (.lv (Q51 x1.2.1 x1.1 x3) λ(x4:Int×Bool)=> .br (i.Op==33) (.an (Qck x4.1 8) (.lv (Q2b x4.1 8) λ(x5:Int)=> .an (Q8i c i.A x5) (.lv (Qbd c i.A x5) λ(x6:Q05)=> .lf ({X:=x6.X,Pc:=wrap u32 (x6.Pc+4),B5:=x6.B5},x1.2.1)))) (.an (Q8i c i.A x4.1) (.lv (Qbd c i.A x4.1) λ(x7:Q05)=> .lf ({X:=x7.X,Pc:=wrap u32 (x7.Pc+4),B5:=x7.B5},x1.2.1)))))))
def Q6w(c:Q05)(m:(List Int))(i:Q0l):(Q05×(List Int)):=(Qf6 c m i).m
abbrev Qzm(c:Q05)(m:(List Int))(i:Q0l):Prop:=(Qf6 c m i).p
def Zok:Q0d:=mkP 183 [] true [.agg Q05.sig, .one (.ints .u32), .agg Q0l.sig] [] (λargs rows=>Qzm (Q05.of (aC args 0)) (argL .u32 args 1) (Q0l.of (aC args 2))) (λargs rows=>Q6w (Q05.of (aC args 0)) (argL .u32 args 1) (Q0l.of (aC args 2))) (λX=> .tup [.agg (Q05.cells (X.1)), .all 0]) (λX=>[⟨false,25,1, .ints .u32 (X.2)⟩])
theorem Zjf:Q06 pG Zok:=Q0p drawn Q0k (.cons Qku (.cons Qyw (.cons Qju (.cons Qbx (.cons Qk3 (.cons Z8l (.nil))))))) Tryz.func183 Tryz.call183 (λargs rows=>Qf6 (Q05.of (aC args 0)) (argL .u32 args 1) (Q0l.of (aC args 2))) [.row 25 1 (.ints .u32)] [] 2
def Qci(c:Q05)(m:(List Int))(i:Q0l):Tree (Q05×(List Int)):=
.cn (Nat.blt 0 1&&decide (0<=i.B/\i.B<(↑16:Int))) (.lv (Qgo i.Op) λ(x0:Int)=>let E1:=wrap u32 (List.getD (A16.l c.X) i.B.toNat 0+wrap u32 i.Imm); .an (Q9z c m E1 x0 3) (.lv (Q25 c m E1 x0 3) λ(x1:Int×List Int×Int)=> .br (x1.2.2 !=0) (.lv (Q4p c x1.2.2 E1) λ(x2:Q05)=> .lf (x2,x1.2.1)) (.lv (Qgo i.Op) λ(x3:Int)=> .cn (Nat.blt 0 1&&decide (0<=i.A/\i.A<(↑16:Int))) (let E2:=List.getD (A16.l c.X) i.A.toNat 0; .an (Qc1 x1.2.1 x1.1 x3 E2) (.lv (Qa2 x1.2.1 x1.1 x3 E2) λ(x4:List Int×Bool)=> .lf ({X:=c.X,Pc:=wrap u32 (c.Pc+4),B5:=c.B5},x4.1))))))
def Q8n(c:Q05)(m:(List Int))(i:Q0l):(Q05×(List Int)):=(Qci c m i).m
abbrev Qu4(c:Q05)(m:(List Int))(i:Q0l):Prop:=(Qci c m i).p
def Zkw:Q0d:=mkP 184 [] true [.agg Q05.sig, .one (.ints .u32), .agg Q0l.sig] [] (λargs rows=>Qu4 (Q05.of (aC args 0)) (argL .u32 args 1) (Q0l.of (aC args 2))) (λargs rows=>Q8n (Q05.of (aC args 0)) (argL .u32 args 1) (Q0l.of (aC args 2))) (λX=> .tup [.agg (Q05.cells (X.1)), .all 0]) (λX=>[⟨false,25,1, .ints .u32 (X.2)⟩])
theorem Zf:Q06 pG Zkw:=Q0p drawn Q0k (.cons Qku (.cons Qyw (.cons Qju (.cons Qos (.nil))))) Tryz.func184 Tryz.call184 (λargs rows=>Qci (Q05.of (aC args 0)) (argL .u32 args 1) (Q0l.of (aC args 2))) [.row 25 1 (.ints .u32)] [] 2
def Z4h(op:Int)(a:Int)(b:Int):Tree Bool:=
.br (op==40) (.lf (a==b)) (.br (op==41) (.lf (a !=b)) (.br (op==42) (.lf (decide (wrap i32 a<wrap i32 b))) (.br (op==43) (.lf (decide (wrap i32 a>=wrap i32 b))) (.br (op==44) (.lf (decide (a<b))) (.lf (decide (a>=b)))))))
def Zej(op:Int)(a:Int)(b:Int):Bool:=(Z4h op a b).m
def Zkv:Q0d:=mkR 240 [] true [.one (.int .i64), .one (.int .u32), .one (.int .u32)] [] (λargs rows=>Zej (argI args 0) (argI args 1) (argI args 2)) (λX=> .bool X) (λX=>[])
theorem Zhk:Q06 pG Zkv:=Q11 drawn Q0k (.nil) Tryz.func240 Tryz.call240 (λargs rows=>Z4h (argI args 0) (argI args 1) (argI args 2)) [] [] 2
def Qfy(c:Q05):Tree Q05:=
.lv (Q96 c.B5.a0 8 1) λ(x0:Int)=> .lv (Q96 x0 16 2) λ(x1:Int)=> .lf ({X:=c.X,Pc:=c.B5.a2,B5:={a0:=x1,a1:=c.B5.a1,a2:=c.B5.a2,a3:=c.B5.a3,a4:=c.B5.a4,a5:=c.B5.a5,a6:=c.B5.a6,a7:=c.B5.a7}})
def Qf9(c:Q05):Q05:=(Qfy c).m
def Zf5:Q0d:=mkR 241 [] true [.agg Q05.sig] [] (λargs rows=>Qf9 (Q05.of (aC args 0))) (λX=> .agg (Q05.cells X)) (λX=>[])
theorem Zb9:Q06 pG Zf5:=Q11 drawn Q0k (.cons Z41 (.nil)) Tryz.func241 Tryz.call241 (λargs rows=>Qfy (Q05.of (aC args 0))) [] [] 2
def Qc7(c:Q05)(csr:Int)(v:Int):Tree Q05:=
let E4:=Nat.blt 0 1&&decide (0<=csr/\csr<(↑8:Int));let T2:Tree (Q05):= .cn E4 (.lf ({X:=c.X,Pc:=c.Pc,B5:=A8.of 0 (List.set (A8.l c.B5) csr.toNat (iand u32 v 31))})); .br (csr==0) T2 (.br (csr==7) T2 (.br (csr==6) (.cn E4 (.lf ({X:=c.X,Pc:=c.Pc,B5:=A8.of 0 (List.set (A8.l c.B5) csr.toNat (iand u32 v 255))}))) (let T3:Tree (Q05):= .cn E4 (.lf ({X:=c.X,Pc:=c.Pc,B5:=A8.of 0 (List.set (A8.l c.B5) csr.toNat (Qhu u32 v 3))})); .br (csr==1) T3 (.br (csr==2) T3 (let T1:Tree (Q05):= .cn E4 (.lf ({X:=c.X,Pc:=c.Pc,B5:=A8.of 0 (List.set (A8.l c.B5) csr.toNat v)})); .br (csr==3) T1 (.br (csr==4) T1 (.br (csr==5) T1 (.lf c))))))))
def Zho(c:Q05)(csr:Int)(v:Int):Q05:=(Qc7 c csr v).m
abbrev Qud(c:Q05)(csr:Int)(v:Int):Prop:=(Qc7 c csr v).p
def Zkq:Q0d:=mkP 242 [] true [.agg Q05.sig, .one (.int .i64), .one (.int .u32)] [] (λargs rows=>Qud (Q05.of (aC args 0)) (argI args 1) (argI args 2)) (λargs rows=>Zho (Q05.of (aC args 0)) (argI args 1) (argI args 2)) (λX=> .agg (Q05.cells X)) (λX=>[])
theorem Zht:Q06 pG Zkq:=Q0p drawn Q0k (.nil) Tryz.func242 Tryz.call242 (λargs rows=>Qc7 (Q05.of (aC args 0)) (argI args 1) (argI args 2)) [] [] 2
def Q58(c:Q05)(i:Q0l):Tree (Q05×Q16):=
.cn (Nat.blt 0 1&&decide (0<=i.A/\i.A<(↑16:Int))) (.cn (Nat.blt 0 1&&decide (0<=i.B/\i.B<(↑16:Int))) (.br (i.Op==24) (.an (Q8i c i.A (ishl u32 (wrap u32 i.Imm) 16)) (.lv (Qbd c i.A (ishl u32 (wrap u32 i.Imm) 16)) λ(x0:Q05)=> .lf ({X:=x0.X,Pc:=wrap u32 (c.Pc+4),B5:=x0.B5},{B6:=0,D1:=0,D9:=0,Value:=0}))) (let E2:=({X:=c.X,Pc:=wrap u32 (c.Pc+4),B5:=c.B5}:Q05);let E3:=List.getD (A16.l c.X) i.B.toNat 0;let E4:=List.getD (A16.l c.X) i.A.toNat 0;let T1:Tree ((Q05×Q16)):= .lv (Zej i.Op E4 E3) λ(x1:Bool)=> .br x1 (.lf ({X:=c.X,Pc:=wrap u32 (c.Pc+wrap u32 (4*wrap u32 i.Imm)),B5:=c.B5},{B6:=0,D1:=0,D9:=0,Value:=0})) (.lf (E2,{B6:=0,D1:=0,D9:=0,Value:=0})); .br (i.Op==40) T1 (.br (i.Op==41) T1 (.br (i.Op==42) T1 (.br (i.Op==43) T1 (.br (i.Op==44) T1 (.br (i.Op==45) T1 (.br (i.Op==48) (.an (Q8i c i.A (wrap u32 (c.Pc+4))) (.lv (Qbd c i.A (wrap u32 (c.Pc+4))) λ(x7:Q05)=> .lf ({X:=x7.X,Pc:=wrap u32 (x7.Pc+wrap u32 (4*wrap u32 i.Imm)),B5:=x7.B5},{B6:=0,D1:=0,D9:=0,Value:=0}))) (.br (i.Op==49) (.an (Q8i c i.A (wrap u32 (c.Pc+4))) (.lv (Qbd c i.A (wrap u32 (c.Pc+4))) λ(x8:Q05)=> .lf ({X:=x8.X,Pc:=wrap u32 (List.getD (A16.l c.X) i.B.toNat 0+wrap u32 i.Imm),B5:=x8.B5},{B6:=0,D1:=0,D9:=0,Value:=0}))) (.br (i.Op==56) (.lv (Q4p c 7 0) λ(x9:Q05)=> .lf (x9,{B6:=0,D1:=0,D9:=0,Value:=0})) (.br (i.Op==57) (.lv (Qf9 c) λ(x10:Q05)=> .lf (x10,{B6:=0,D1:=0,D9:=0,Value:=0})) (.br (i.Op==58) (.cn (Nat.blt 0 1&&decide (0<=i.Imm/\i.Imm<(↑8:Int))) (let E5:=List.getD (A8.l c.B5) i.Imm.toNat 0; .an (Q8i c i.A E5) (.lv (Qbd c i.A E5) λ(x11:Q05)=> .lf ({X:=x11.X,Pc:=wrap u32 (c.Pc+4),B5:=x11.B5},{B6:=0,D1:=0,D9:=0,Value:=0})))) (.br (i.Op==59) (.an (Qud c (wrap i64 i.Imm) E4) (.lv (Zho c (wrap i64 i.Imm) E4) λ(x12:Q05)=> .lf ({X:=x12.X,Pc:=wrap u32 (c.Pc+4),B5:=x12.B5},{B6:=0,D1:=0,D9:=0,Value:=0}))) (.br (i.Op==60) (.lf (E2,{B6:=1,D1:=wrap i64 i.Imm,D9:=i.A,Value:=0})) (.br (i.Op==61) (.lf (E2,{B6:=2,D1:=wrap i64 i.Imm,D9:=0,Value:=List.getD (A16.l c.X) i.A.toNat 0})) (.br (i.Op==62) (.lf (E2,{B6:=3,D1:=0,D9:=0,Value:=0})) (.br (i.Op==63) (.lf (E2,{B6:=5,D1:=0,D9:=0,Value:=0})) (.br (i.Op==64) (.lf (E2,{B6:=4,D1:=0,D9:=0,Value:=0})) (.cn (Nat.blt 0 1&&decide (0<=i.C/\i.C<(↑16:Int))) (.br (decide (i.Op>=16)) (.an (Qsj i.Op E3 (wrap u32 i.Imm)) (.lv (Q4i i.Op E3 (wrap u32 i.Imm)) λ(x13:Int×Bool)=> .an (Q8i c i.A x13.1) (.lv (Qbd c i.A x13.1) λ(x14:Q05)=> .lf ({X:=x14.X,Pc:=wrap u32 (c.Pc+4),B5:=x14.B5},{B6:=0,D1:=0,D9:=0,Value:=0})))) (let E6:=List.getD (A16.l c.X) i.C.toNat 0; .an (Qsj i.Op E3 E6) (.lv (Q4i i.Op E3 E6) λ(x15:Int×Bool)=> .an (Q8i c i.A x15.1) (.lv (Qbd c i.A x15.1) λ(x16:Q05)=> .lf ({X:=x16.X,Pc:=wrap u32 (c.Pc+4),B5:=x16.B5},{B6:=0,D1:=0,D9:=0,Value:=0})))))))))))))))))))))))))
def Qn1(c:Q05)(i:Q0l):(Q05×Q16):=(Q58 c i).m
abbrev Qp7(c:Q05)(i:Q0l):Prop:=(Q58 c i).p
def Z9u:Q0d:=mkP 185 [] true [.agg Q05.sig, .agg Q0l.sig] [] (λargs rows=>Qp7 (Q05.of (aC args 0)) (Q0l.of (aC args 1))) (λargs rows=>Qn1 (Q05.of (aC args 0)) (Q0l.of (aC args 1))) (λX=> .tup [.agg (Q05.cells (X.1)), .agg (Q16.cells (X.2))]) (λX=>[])
theorem Z6h:Q06 pG Z9u:=Q0p drawn Q0k (.cons Z8l (.cons Zhk (.cons Qju (.cons Zb9 (.cons Zht (.cons Zno (.nil))))))) Tryz.func185 Tryz.call185 (λargs rows=>Q58 (Q05.of (aC args 0)) (Q0l.of (aC args 1))) [] [] 2
def Q7s(c:Q05)(m:(List Int)):Tree (Q05×(List Int)×Q16):=
.an (Qme c m) (.lv (Qp c m) λ(x0:Int×List Int×Int)=> .br (x0.2.2 !=0) (.lv (Q4p c x0.2.2 c.Pc) λ(x1:Q05)=> .lf (x1,x0.2.1,{B6:=0,D1:=0,D9:=0,Value:=0})) (.an (Qky x0.1) (.lv (Qi5 x0.1) λ(x2:Q0l×Bool)=> .br (!x2.2) (.lv (Q4p c 1 x0.1) λ(x3:Q05)=> .lf (x3,x0.2.1,{B6:=0,D1:=0,D9:=0,Value:=0})) (.lv (Q8y x2.1.Op) λ(x4:Bool)=>let T1:Tree ((Q05×(List Int)×Q16)):=let T2:Tree ((Q05×(List Int)×Q16)):= .an (Qzm c x0.2.1 x2.1) (.lv (Q6w c x0.2.1 x2.1) λ(x7:Q05×List Int)=> .lf (x7.1,x7.2,{B6:=0,D1:=0,D9:=0,Value:=0})); .br (x2.1.Op==32) T2 (.br (x2.1.Op==33) T2 (.br (x2.1.Op==34) T2 (let T3:Tree ((Q05×(List Int)×Q16)):= .an (Qu4 c x0.2.1 x2.1) (.lv (Q8n c x0.2.1 x2.1) λ(x10:Q05×List Int)=> .lf (x10.1,x10.2,{B6:=0,D1:=0,D9:=0,Value:=0})); .br (x2.1.Op==35) T3 (.br (x2.1.Op==36) T3 (.an (Qp7 c x2.1) (.lv (Qn1 c x2.1) λ(x12:Q05×Q16)=> .lf (x12.1,x0.2.1,x12.2))))))); .br x4 (.lv (Qag c) λ(x5:Bool)=> .br (!x5) (.lv (Q4p c 2 x0.1) λ(x6:Q05)=> .lf (x6,x0.2.1,{B6:=0,D1:=0,D9:=0,Value:=0})) T1) T1))))
def Q81(c:Q05)(m:(List Int)):(Q05×(List Int)×Q16):=(Q7s c m).m
abbrev Qk8(c:Q05)(m:(List Int)):Prop:=(Q7s c m).p
def Zop:Q0d:=mkP 114 [] true [.agg Q05.sig, .one (.ints .u32)] [] (λargs rows=>Qk8 (Q05.of (aC args 0)) (argL .u32 args 1)) (λargs rows=>Q81 (Q05.of (aC args 0)) (argL .u32 args 1)) (λX=> .tup [.agg (Q05.cells (X.1)), .all 0, .agg (Q16.cells (X.2.2))]) (λX=>[⟨false,25,1, .ints .u32 (X.2.1)⟩])
theorem Z4z:Q06 pG Zop:=Q0p drawn Q0k (.cons Zg9 (.cons Qju (.cons Zbj (.cons Qwf (.cons Qve (.cons Zjf (.cons Zf (.cons Z6h (.nil))))))))) Tryz.func114 Tryz.call114 (λargs rows=>Q7s (Q05.of (aC args 0)) (argL .u32 args 1)) [.row 25 1 (.ints .u32)] [] 2
end
noncomputable section
def tblYc0:List UInt8:=[(0:UInt8),1,2,2,3,3,3,3,4,4,4,4,4,4,4,4,5,5,5,5,5,5,5,5,5,5,5,5,5,5,5,5,6,6,6,6,6,6,6,6,6,6,6,6,6,6,6,6,6,6,6,6,6,6,6,6,6,6,6,6,6,6,6,6]
def Zf9:List UInt8:=[(7:UInt8),7,7,7,7,7,7,7,7,7,7,7,7,7,7,7,7,7,7,7,7,7,7,7,7,7,7,7,7,7,7,7,7,7,7,7,7,7,7,7,7,7,7,7,7,7,7,7,7,7,7,7,7,7,7,7,7,7,7,7,7,7,7,7]
def Qrt:List UInt8:=[(8:UInt8),8,8,8,8,8,8,8,8,8,8,8,8,8,8,8,8,8,8,8,8,8,8,8,8,8,8,8,8,8,8,8,8,8,8,8,8,8,8,8,8,8,8,8,8,8,8,8,8,8,8,8,8,8,8,8,8,8,8,8,8,8,8,8]
def Zl1:List UInt8:=[(1:UInt8),2,2,3,3,3,3,4,4,4,4,4,4,4,4,5,5,5,5,5,5,5,5,5,5,5,5,5,5,5,5,6,6,6,6,6,6,6,6,6,6,6,6,6,6,6,6,6,6,6,6,6,6,6,6,6,6,6,6,6,6,6,6]
def tblYc4:List UInt8:=[(0:UInt8),1,1,2,1,2,2,3,1,2,2,3,2,3,3,4,1,2,2,3,2,3,3,4,2,3,3,4,3,4,4,5,1,2,2,3,2,3,3,4,2,3,3,4,3,4,4,5,2,3,3,4,3,4,4,5,3,4,4,5,4,5,5,6]
def Qrl:List UInt8:=[(1:UInt8),2,2,3,2,3,3,4,2,3,3,4,3,4,4,5,2,3,3,4,3,4,4,5,3,4,4,5,4,5,5,6,2,3,3,4,3,4,4,5,3,4,4,5,4,5,5,6,3,4,4,5,4,5,5,6,4,5,5,6,5,6,6,7]
def Zf2:List UInt8:=[(2:UInt8),3,3,4,3,4,4,5,3,4,4,5,4,5,5,6,3,4,4,5,4,5,5,6,4,5,5,6,5,6,6,7,3,4,4,5,4,5,5,6,4,5,5,6,5,6,6,7,4,5,5,6,5,6,6,7,5,6,6,7,6,7,7,8]
def Zl6:List UInt8:=[(1:UInt8),1,2,1,2,2,3,1,2,2,3,2,3,3,4,1,2,2,3,2,3,3,4,2,3,3,4,3,4,4,5,1,2,2,3,2,3,3,4,2,3,3,4,3,4,4,5,2,3,3,4,3,4,4,5,3,4,4,5,4,5,5,6]
def Qta(c:Q0c):Tree Bool:=
.lf (decide ((c.D3.length:Int)<=(16:Int)))
def Q2c(c:Q0c):Bool:=(Qta c).m
def Zcf:Q0d:=mkR 171 [] true [.agg Q0c.sig] [] (λargs rows=>Q2c (Q0c.of (aC args 0))) (λX=> .bool X) (λX=>[])
theorem Z70:Q06 pG Zcf:=Q11 drawn Q0k (.nil) Tryz.func171 Tryz.call171 (λargs rows=>Qta (Q0c.of (aC args 0))) [] [] 2
def Qmv(t:Q0i):Tree Bool:=
.br t.D2 (.br (!t.D5) (.lf (t.C9 !=0)) (.lf false)) (.br t.D5 (.lf true) (.lf (t.C9==0)))
def Q4h(t:Q0i):Bool:=(Qmv t).m
def Ziw:Q0d:=mkR 172 [] true [.agg Q0i.sig] [] (λargs rows=>Q4h (Q0i.of (aC args 0))) (λX=> .bool X) (λX=>[])
theorem Zgf:Q06 pG Ziw:=Q11 drawn Q0k (.nil) Tryz.func172 Tryz.call172 (λargs rows=>Qmv (Q0i.of (aC args 0))) [] [] 2
def Q7x(d0:Q0f):Tree Bool:=
.br (d0.D8==1) (.lf (decide (d0.C3=[]))) (.br (d0.D8==2) (.lf ((d0.C3.length:Int)==(128:Int))) (.lf false))
def Q9f(d0:Q0f):Bool:=(Q7x d0).m
def Qw5:Q0d:=mkR 227 [] true [.agg Q0f.sig] [] (λargs rows=>Q9f (Q0f.of (aC args 0))) (λX=> .bool X) (λX=>[])
theorem Qu6:Q06 pG Qw5:=Q11 drawn Q0k (.nil) Tryz.func227 Tryz.call227 (λargs rows=>Q7x (Q0f.of (aC args 0))) [] [] 2
def Q6d(d0:Q0f)(pages:Int):Tree Bool:=
.br (decide (d0.Blocks>64)) (.lf false) (let T1:Tree (Bool):= .br (d0.D8==0) (.br (d0.B7==0) (.br (d0.B3==0) (.lf (decide (d0.C3=[]))) (.lf false)) (.lf false)) (.lf false); .br (d0.C1==0) T1 (.br (d0.C1==2) T1 (.br (d0.C1==3) T1 (.br (d0.C1==1) (.lv (Q9f d0) λ(x0:Bool)=> .br x0 (.br (decide (d0.B7<d0.Blocks)) (.lf (decide (wrap i64 d0.B3<pages))) (.lf false)) (.lf false)) (.lf false)))))
def Q1l(d0:Q0f)(pages:Int):Bool:=(Q6d d0 pages).m
def Znf:Q0d:=mkR 173 [] true [.agg Q0f.sig, .one (.int .i64)] [] (λargs rows=>Q1l (Q0f.of (aC args 0)) (argI args 1)) (λX=> .bool X) (λX=>[])
theorem Ziv:Q06 pG Znf:=Q11 drawn Q0k (.cons Qu6 (.nil)) Tryz.func173 Tryz.call173 (λargs rows=>Q6d (Q0f.of (aC args 0)) (argI args 1)) [] [] 2
def Qly(n:Q0r)(pages:Int):Tree Bool:=
let T1:Tree (Bool):=let T2:Tree (Bool):= .br n.B8 (.br (decide (n.F1>=1)) (.lf (decide (n.F1<=128))) (.lf false)) (.lf (n.F1==0)); .br n.C6 (.br (decide (wrap i64 n.B9>=pages)) (.lf false) T2) (.br (n.B9 !=0) (.lf false) T2); .br n.C6 (.br n.B8 (.lf false) T1) T1
def Q68(n:Q0r)(pages:Int):Bool:=(Qly n pages).m
def vA:Q0d:=mkR 174 [] true [.agg Q0r.sig, .one (.int .i64)] [] (λargs rows=>Q68 (Q0r.of (aC args 0)) (argI args 1)) (λX=> .bool X) (λX=>[])
theorem Znq:Q06 pG vA:=Q11 drawn Q0k (.nil) Tryz.func174 Tryz.call174 (λargs rows=>Qly (Q0r.of (aC args 0)) (argI args 1)) [] [] 2
def Q1v(x:Int):Tree Int:=
let E1:=(↑(List.length (List.append (List.append tblYc0 Zf9) (List.append Qrt Qrt))):Int); .br (decide (x>=65536)) (.br (decide (ishr u32 x (16:Int)>=(256:Int))) (.cn (decide (0<=wrap u8 (ishr u32 (ishr u32 x 16) 8)/\wrap u8 (ishr u32 (ishr u32 x 16) 8)<E1)) (.lf (wrap i64 (wrap i64 ((16:Int)+(8:Int))+wrap i64 (↑(UInt8.toNat (List.getD ((0:UInt8)::(Zl1++Zf9++(Qrt++Qrt))) (Int.toNat (wrap u8 (ishr u32 (ishr u32 x 16) 8))) (0:UInt8))):Int))))) (.cn (decide (0<=wrap u8 (ishr u32 x 16)/\wrap u8 (ishr u32 x 16)<E1)) (.lf (wrap i64 (16+wrap i64 (↑(UInt8.toNat (List.getD ((0:UInt8)::(Zl1++Zf9++(Qrt++Qrt))) (Int.toNat (wrap u8 (ishr u32 x 16))) (0:UInt8))):Int)))))) (.br (decide (x>=256)) (.cn (decide (0<=wrap u8 (ishr u32 x 8)/\wrap u8 (ishr u32 x 8)<E1)) (.lf (wrap i64 (wrap i64 ((0:Int)+(8:Int))+wrap i64 (↑(UInt8.toNat (List.getD ((0:UInt8)::(Zl1++Zf9++(Qrt++Qrt))) (Int.toNat (wrap u8 (ishr u32 x 8))) (0:UInt8))):Int))))) (.cn (decide (0<=wrap u8 x/\wrap u8 x<E1)) (.lf (wrap i64 (0+wrap i64 (↑(UInt8.toNat (List.getD ((0:UInt8)::(Zl1++Zf9++(Qrt++Qrt))) (Int.toNat (wrap u8 x)) (0:UInt8))):Int))))))
def Q1n(x:Int):Int:=(Q1v x).m
abbrev Qcg(x:Int):Prop:=(Q1v x).p
def Qwq:Q0d:=mkP 228 [] true [.one (.int .u32)] [] (λargs rows=>Qcg (argI args 0)) (λargs rows=>Q1n (argI args 0)) (λX=> .int .i64 X) (λX=>[])
theorem Qv:Q06 pG Qwq:=Q0p drawn Q0k (.nil) Tryz.func228 Tryz.call228 (λargs rows=>Q1v (argI args 0)) [] [] 2
def Q42(b:Q09)(pages:Int):Tree Bool:=
.an (Qcg b.C2) (.lv (Q1n b.C2) λ(x0:Int)=> .lf (decide (x0<=if 0>pages then 0 else pages)))
def Q2o(b:Q09)(pages:Int):Bool:=(Q42 b pages).m
abbrev Qe3(b:Q09)(pages:Int):Prop:=(Q42 b pages).p
def Zd4:Q0d:=mkP 175 [] true [.agg Q09.sig, .one (.int .i64)] [] (λargs rows=>Qe3 (Q09.of (aC args 0)) (argI args 1)) (λargs rows=>Q2o (Q09.of (aC args 0)) (argI args 1)) (λX=> .bool X) (λX=>[])
theorem Z6j:Q06 pG Zd4:=Q0p drawn Q0k (.cons Qv (.nil)) Tryz.func175 Tryz.call175 (λargs rows=>Q42 (Q09.of (aC args 0)) (argI args 1)) [] [] 2
def Q1u(m:Q00):Tree Bool:=
.lv (Q0x m.Mem) λ(x0:Int)=> .lv (Q2c m.A4) λ(x1:Bool)=> .br x1 (.lv (Q4h m.B0) λ(x2:Bool)=> .br x2 (.lv (Q1l m.B1 x0) λ(x3:Bool)=> .br x3 (.lv (Q68 m.C4 x0) λ(x4:Bool)=> .br x4 (.an (Qe3 m.A2 x0) (.lv (Q2o m.A2 x0) λ(x5:Bool)=> .lf x5)) (.lf false)) (.lf false)) (.lf false)) (.lf false)
def Q10(m:Q00):Bool:=(Q1u m).m
abbrev Q2s(m:Q00):Prop:=(Q1u m).p
def Qr0:Q0d:=mkP 92 [] true [.agg Q00.sig] [] (λargs rows=>Q2s (Q00.of (aC args 0))) (λargs rows=>Q10 (Q00.of (aC args 0))) (λX=> .bool X) (λX=>[])
theorem Qot:Q06 pG Qr0:=Q0p drawn Q0k (.cons Q4m (.cons Z70 (.cons Zgf (.cons Ziv (.cons Znq (.cons Z6j (.nil))))))) Tryz.func92 Tryz.call92 (λargs rows=>Q1u (Q00.of (aC args 0))) [] [] 2
def Q5a(m:Q00):Tree Bool:=
.lv (Q0x m.Mem) λ(x0:Int)=> .br (x0==0) (.lf false) (.br (m.B2.X.a0 !=0) (.lf false) (.br (decide (m.B2.B5.a0>31)) (.lf false) (.br (decide (m.B2.B5.a7>31)) (.lf false) (.br (decide (m.B2.B5.a6>255)) (.lf false) (.br (Int.tmod m.B2.B5.a1 (4:Int) !=(0:Int)) (.lf false) (.br (decide (m.A1>1152921504606846976)) (.lf false) (.br m.A7 (.br m.A9 (.lf false) (.an (Q2s m) (.lv (Q10 m) λ(x1:Bool)=> .lf x1))) (.an (Q2s m) (.lv (Q10 m) λ(x2:Bool)=> .lf x2)))))))))
def Q1f(m:Q00):Bool:=(Q5a m).m
abbrev Q47(m:Q00):Prop:=(Q5a m).p
def Zd0:Q0d:=mkP 24 [] true [.agg Q00.sig] [] (λargs rows=>Q47 (Q00.of (aC args 0))) (λargs rows=>Q1f (Q00.of (aC args 0))) (λX=> .bool X) (λX=>[])
theorem Qbm:Q06 pG Zd0:=Q0p drawn Q0k (.cons Q4m (.cons Qot (.nil))) Tryz.func24 Tryz.call24 (λargs rows=>Q5a (Q00.of (aC args 0))) [] [] 2
def Qoz(t:Q0i):Tree Bool:=
.lf t.D5
def Qhf(t:Q0i):Bool:=(Qoz t).m
def Z3p:Q0d:=mkR 99 [] true [.agg Q0i.sig] [] (λargs rows=>Qhf (Q0i.of (aC args 0))) (λX=> .bool X) (λX=>[])
theorem Z0k:Q06 pG Z3p:=Q11 drawn Q0k (.nil) Tryz.func99 Tryz.call99 (λargs rows=>Qoz (Q0i.of (aC args 0))) [] [] 2
def Qlh(c:Q0c):Tree Bool:=
.lf (!decide (c.D3=[]))
def Q9g(c:Q0c):Bool:=(Qlh c).m
def Qwi:Q0d:=mkR 100 [] true [.agg Q0c.sig] [] (λargs rows=>Q9g (Q0c.of (aC args 0))) (λX=> .bool X) (λX=>[])
theorem Qvp:Q06 pG Qwi:=Q11 drawn Q0k (.nil) Tryz.func100 Tryz.call100 (λargs rows=>Qlh (Q0c.of (aC args 0))) [] [] 2
def Qkw(d0:Q0f):Tree Bool:=
.br (d0.C1==2) (.lf true) (.lf (d0.C1==3))
def Qa0(d0:Q0f):Bool:=(Qkw d0).m
def Z6z:Q0d:=mkR 101 [] true [.agg Q0f.sig] [] (λargs rows=>Qa0 (Q0f.of (aC args 0))) (λX=> .bool X) (λX=>[])
theorem Qpq:Q06 pG Z6z:=Q11 drawn Q0k (.nil) Tryz.func101 Tryz.call101 (λargs rows=>Qkw (Q0f.of (aC args 0))) [] [] 2
def Qt1(n:Q0r):Tree Bool:=
.lf n.B8
def Qn(n:Q0r):Bool:=(Qt1 n).m
def Zb:Q0d:=mkR 102 [] true [.agg Q0r.sig] [] (λargs rows=>Qn (Q0r.of (aC args 0))) (λX=> .bool X) (λX=>[])
theorem Z61:Q06 pG Zb:=Q11 drawn Q0k (.nil) Tryz.func102 Tryz.call102 (λargs rows=>Qt1 (Q0r.of (aC args 0))) [] [] 2
def Q3i(x:Int):Tree Int:=
let E1:=(↑(List.length (List.append (List.append tblYc4 Qrl) (List.append Qrl Zf2))):Int); .cn (decide (0<=ishr u32 x 24/\ishr u32 x 24<E1)) (.cn (decide (0<=iand u32 (ishr u32 x 16) 255/\iand u32 (ishr u32 x 16) 255<E1)) (.cn (decide (0<=iand u32 (ishr u32 x 8) 255/\iand u32 (ishr u32 x 8) 255<E1)) (.cn (decide (0<=iand u32 x 255/\iand u32 x 255<E1)) (.lf (wrap i64 (wrap u8 (wrap u8 (wrap u8 ((↑(UInt8.toNat (List.getD ((0:UInt8)::(Zl6++Qrl++(Qrl++Zf2))) (Int.toNat (ishr u32 x 24)) (0:UInt8))):Int)+(↑(UInt8.toNat (List.getD ((0:UInt8)::(Zl6++Qrl++(Qrl++Zf2))) (Int.toNat (iand u32 (ishr u32 x 16) 255)) (0:UInt8))):Int))+(↑(UInt8.toNat (List.getD ((0:UInt8)::(Zl6++Qrl++(Qrl++Zf2))) (Int.toNat (iand u32 (ishr u32 x 8) 255)) (0:UInt8))):Int))+(↑(UInt8.toNat (List.getD ((0:UInt8)::(Zl6++Qrl++(Qrl++Zf2))) (Int.toNat (iand u32 x 255)) (0:UInt8))):Int))))))))
def Q6x(x:Int):Int:=(Q3i x).m
abbrev Qbe(x:Int):Prop:=(Q3i x).p
def Qnb:Q0d:=mkP 229 [] true [.one (.int .u32)] [] (λargs rows=>Qbe (argI args 0)) (λargs rows=>Q6x (argI args 0)) (λX=> .int .i64 X) (λX=>[])
theorem Qla:Q06 pG Qnb:=Q0p drawn Q0k (.nil) Tryz.func229 Tryz.call229 (λargs rows=>Q3i (argI args 0)) [] [] 2
def Qa1(b:Q09):Tree Int:=
.an (Qbe b.C2) (.lv (Q6x b.C2) λ(x0:Int)=> .lf x0)
def Qdz(b:Q09):Int:=(Qa1 b).m
abbrev Qeu(b:Q09):Prop:=(Qa1 b).p
def Z1q:Q0d:=mkP 176 [] true [.agg Q09.sig] [] (λargs rows=>Qeu (Q09.of (aC args 0))) (λargs rows=>Qdz (Q09.of (aC args 0))) (λX=> .int .i64 X) (λX=>[])
theorem Qnz:Q06 pG Z1q:=Q0p drawn Q0k (.cons Qla (.nil)) Tryz.func176 Tryz.call176 (λargs rows=>Qa1 (Q09.of (aC args 0))) [] [] 2
def Q5q(b:Q09):Tree Bool:=
.an (Qeu b) (.lv (Qdz b) λ(x0:Int)=> .lf (wrap u32 x0 !=b.D0))
def Q7n(b:Q09):Bool:=(Q5q b).m
abbrev Qiy(b:Q09):Prop:=(Q5q b).p
def Qxy:Q0d:=mkP 103 [] true [.agg Q09.sig] [] (λargs rows=>Qiy (Q09.of (aC args 0))) (λargs rows=>Q7n (Q09.of (aC args 0))) (λX=> .bool X) (λX=>[])
theorem Qvf:Q06 pG Qxy:=Q0p drawn Q0k (.cons Qnz (.nil)) Tryz.func103 Tryz.call103 (λargs rows=>Q5q (Q09.of (aC args 0))) [] [] 2
def Qja(m:Q00)(z:(Int)×(Int)):Nat:=(5-z.2).toNat
def Q7l(m:Q00):Tree Int:=
.lv (Qhf m.B0) λ(x0:Bool)=> .lv (Q9g m.A4) λ(x1:Bool)=> .lv (Qa0 m.B1) λ(x2:Bool)=> .lv (Qn m.C4) λ(x3:Bool)=> .an (Qiy m.A2) (.lv (Q7n m.A2) λ(x4:Bool)=> .lp inferInstance (Qja m (0,0)+1) ((rE (0:Int)/\(rE (x0:Bool)/\rE (x1:Bool)/\rE (x2:Bool)/\rE (x3:Bool)/\rE (x4:Bool)/\True)/\rE (0:Int)/\True)/\True) (0,0) λ(v0:Int×Int)=> .br (decide (v0.2<5)) (.cn (Nat.beq 1 1&&(Nat.beq 5 5&&decide (0<=v0.2/\v0.2<(↑5:Int)))) (.br (List.getD [x0,x1,x2,x3,x4] v0.2.toNat false) (.cn (decide (0<=v0.2)) (.nx ((rE ((ior u32 v0.1 (ishl u32 1 v0.2)):Int)/\(rE (x0:Bool)/\rE (x1:Bool)/\rE (x2:Bool)/\rE (x3:Bool)/\rE (x4:Bool)/\True)/\rE ((wrap i64 (v0.2+1)):Int)/\True)/\True) (Sum.inl (ior u32 v0.1 (ishl u32 1 v0.2),wrap i64 (v0.2+1))))) (.nx ((rE v0.1/\(rE (x0:Bool)/\rE (x1:Bool)/\rE (x2:Bool)/\rE (x3:Bool)/\rE (x4:Bool)/\True)/\rE ((wrap i64 (v0.2+1)):Int)/\True)/\True) (Sum.inl (v0.1,wrap i64 (v0.2+1)))))) (.lf (Sum.inr v0.1)))
def Qe1(m:Q00):Int:=(Q7l m).m
abbrev Qlv(m:Q00):Prop:=(Q7l m).p
def Z0x:LInv:={
 α:=(Int)×(Int)
 F:=λst a=>([(4, .int u32 a.1),(23,(lk st 23)),(24, .int i64 a.2)],[])
 a0:=λst=>((lk st 4).toInt,(lk st 24).toInt)
 ex0:=λst=>[]++[]}
def Qur:List (Nat×LInv):=[(4,Z0x)]
def Z3w:Q0d:=mkP 26 [] true [.agg Q00.sig] [] (λargs rows=>Qlv (Q00.of (aC args 0))) (λargs rows=>Qe1 (Q00.of (aC args 0))) (λX=> .int .u32 X) (λX=>[])
theorem Z0j:Q06 pG Z3w:=Q0p drawn Q0k (.cons Z0k (.cons Qvp (.cons Qpq (.cons Z61 (.cons Qvf (.nil)))))) Tryz.func26 Tryz.call26 (λargs rows=>Q7l (Q00.of (aC args 0))) [] Qur 3
def Q32(m:Q00):Tree Int:=
.an (Qlv m) (.lv (Qe1 m) λ(x0:Int)=> .lf (iand u32 x0 m.B2.B5.a7))
def Q63(m:Q00):Int:=(Q32 m).m
abbrev Qcq(m:Q00):Prop:=(Q32 m).p
def Qxa:Q0d:=mkP 110 [] true [.agg Q00.sig] [] (λargs rows=>Qcq (Q00.of (aC args 0))) (λargs rows=>Q63 (Q00.of (aC args 0))) (λX=> .int .u32 X) (λX=>[])
theorem Qkc:Q06 pG Qxa:=Q0p drawn Q0k (.cons Z0j (.nil)) Tryz.func110 Tryz.call110 (λargs rows=>Q32 (Q00.of (aC args 0))) [] [] 2
def Q38(m:Q00):Tree Bool:=
.br m.A7 (.an (Qcq m) (.lv (Q63 m) λ(x0:Int)=> .lf (x0==0))) (.lf false)
def Q4a(m:Q00):Bool:=(Q38 m).m
abbrev Q8k(m:Q00):Prop:=(Q38 m).p
def Z5i:Q0d:=mkP 28 [] true [.agg Q00.sig] [] (λargs rows=>Q8k (Q00.of (aC args 0))) (λargs rows=>Q4a (Q00.of (aC args 0))) (λX=> .bool X) (λX=>[])
theorem Qji:Q06 pG Z5i:=Q0p drawn Q0k (.cons Qkc (.nil)) Tryz.func28 Tryz.call28 (λargs rows=>Q38 (Q00.of (aC args 0))) [] [] 2

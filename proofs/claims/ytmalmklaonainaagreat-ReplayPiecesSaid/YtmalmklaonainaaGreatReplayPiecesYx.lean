import Derived.Test.YtmalmklaonainaaGreatReplayPiecesFh
set_option maxRecDepth 100000
set_option linter.all false
namespace Go.Proofs.YtmalmklaonainaaGreat
open Go Go.GD Go.IntKind
noncomputable section
def Q03(s:(List Int)):(List Int):=
s
def Q08(s:(List Int)):Prop:=
s.length<=35184372088832
def Q4(s:(List Int)):List D:=[.sl 1 (.ints .u32 s) false]
def Q2i(s:(List Int)):List Row:=[]
def Q1q(X:(List Int)):D:= .all 0
def Q1s(X:(List Int)):List Row:=[⟨false,25,1, .ints .u32 X⟩]
def Qep:List Dir:=[.row 25 1 (.ints .u32)]
def Q8:List PT:=[.one (.ints .u32)]
def Q7r:List RT:=[]
def Qg4(args:List D)(rows:List Row):(List Int):=Q03 (argL .u32 args 0)
def Qgn(args:List D)(rows:List Row):Prop:=Q08 (argL .u32 args 0)
def Qhi:Q0d:=mkP 129 [] true Q8 Q7r Qgn Qg4 Q1q Q1s
def Q59(s:(List Int))(Leaf:(List Int)->Prop):Prop:=
(s=[]->Leaf [])/\cand (decide ((4:Nat)*((0:Nat)+s.length)<=(140737488355328:Nat))) (Leaf s)
set_option maxRecDepth 100000 in
theorem Qh1(s:(List Int))(Q:D->List Row->Prop):(fnVC tab [] (LL tab [] Tryz.f129.ntmps 0 [] 2) Tryz.f129 (Q4 s) (Q2i s) λd R=>Q9d (Q2i s).length Qep d R Q)=Q59 s (λX=>Q (Q1q X) (Q1s X)):=by kernel_rfl
theorem Qfb(s:(List Int))(Leaf:(List Int)->Prop)(hw:Q08 s)(h:Leaf (Q03 s)):
Q59 s Leaf:=by
 delta Q59
 refine⟨λe=>by rw[e]at h;exact h,?_⟩
 rw[Q07]
 refine⟨dY ?_,h⟩
 have:s.length<=35184372088832:=hw
 omega
set_option maxRecDepth 100000 in
theorem Qei(s:(List Int))(hw:Q08 s):Q4c pG 129 (Q4 s) (Q2i s) (Q1q (Q03 s)) (Q1s (Q03 s)):=
 have hG:Q7b pG []:= .nil
 FnOK.calls drawn Q0k hG Tryz.func129 (rf:=none) (λ_ _=>trivial) (Znc drawn Q0k hG (.inl rfl) 2 (invs:=[])) (FnOK.of (Qh1 s _) (Qfb s (λX=>Q1q X=Q1q (Q03 s)/\Q1s X=Q1s (Q03 s)) hw ⟨rfl,rfl⟩))
set_option maxRecDepth 100000 in
theorem Qf7(args:List D)(rows:List Row):Qg9 Q8 args 0=Q4 (argL .u32 args 0):=by kernel_rfl
set_option maxRecDepth 100000 in
theorem Qeh(args:List D)(rows:List Row):Q67 Q7r rows 0=Q2i (argL .u32 args 0):=by kernel_rfl
set_option maxRecDepth 100000 in
theorem Qgx(X:(List Int)):(ffB (Q1q X)&&ffBR (Q1s X))=true:=by kernel_rfl
theorem Q0w:Q06 pG Qhi:=Qyx Tryz.call129 (λargs rows hp=>by rw[Qf7 args rows,Qeh args rows];exact Qei (argL .u32 args 0) hp) (λ_ X=>Qgx X)
def Q8z(m:(List Int)):Tree Int:=
.br (Int.tmod (m.length:Int) (32:Int) !=(0:Int)) (.lf 0) (.br (decide ((m.length:Int)>(1024:Int))) (.lf 0) (.lf (wrap i64 (Int.tdiv (m.length:Int) 32))))
def Q0y(m:(List Int)):Int:=(Q8z m).m
def Z72:Q0d:=mkR 43 [] true [.one (.ints .u32)] [] (λargs rows=>Q0y (argL .u32 args 0)) (λX=> .int .i64 X) (λX=>[])
theorem Q47:Q06 pG Z72:=Q11 drawn Q0k (.nil) Tryz.func43 Tryz.call43 (λargs rows=>Q8z (argL .u32 args 0)) [] [] 2
def Q3c(m:(List Int))(addr:Int)(size:Int):Tree Bool:=
let T1:Tree (Bool):= .cn (decide (wrap u32 size≠0)) (.br (Int.tmod addr (wrap u32 size) !=0) (.lf false) (.lv (Q0y m) λ(x0:Int)=> .lf (decide (wrap u64 (wrap u64 addr+wrap u64 size)<=wrap u64 (wrap u64 x0*128))))); .br (size !=1) (.br (size !=4) (.lf false) T1) T1
def Qho(m:(List Int))(addr:Int)(size:Int):Bool:=(Q3c m addr size).m
abbrev Qax(m:(List Int))(addr:Int)(size:Int):Prop:=(Q3c m addr size).p
def Z1w:Q0d:=mkP 275 [] true [.one (.ints .u32), .one (.int .u32), .one (.int .i64)] [] (λargs rows=>Qax (argL .u32 args 0) (argI args 1) (argI args 2)) (λargs rows=>Qho (argL .u32 args 0) (argI args 1) (argI args 2)) (λX=> .bool X) (λX=>[])
theorem Qnz:Q06 pG Z1w:=Q0p drawn Q0k (.cons Q47 (.nil)) Tryz.func275 Tryz.call275 (λargs rows=>Q3c (argL .u32 args 0) (argI args 1) (argI args 2)) [] [] 2
def Qcb(n:Int):Tree Int:=
.br (decide (n>=32)) (.lf 4294967295) (.cn (decide (0<=wrap u64 n)) (.lf (wrap u32 (ishl u32 1 (wrap u64 n)-1))))
def Z1q(n:Int):Int:=(Qcb n).m
abbrev Qhs(n:Int):Prop:=(Qcb n).p
def Zi9:Q0d:=mkP 276 [] true [.one (.int .i64)] [] (λargs rows=>Qhs (argI args 0)) (λargs rows=>Z1q (argI args 0)) (λX=> .int .u32 X) (λX=>[])
theorem Qz8:Q06 pG Zi9:=Q0p drawn Q0k (.nil) Tryz.func276 Tryz.call276 (λargs rows=>Qcb (argI args 0)) [] [] 2
def Q9h(w:Int)(low:Int)(n:Int):Tree Int:=
.br (decide (low<0)) (.lf 0) (.br (decide (low>31)) (.lf 0) (.br (decide (n<1)) (.lf 0) (.cn (decide (0<=wrap u64 low)) (.an (Qhs n) (.lv (Z1q n) λ(x0:Int)=> .lf (iand u32 (ishr u32 w (wrap u64 low)) x0))))))
def Q30(w:Int)(low:Int)(n:Int):Int:=(Q9h w low n).m
abbrev Q5e(w:Int)(low:Int)(n:Int):Prop:=(Q9h w low n).p
def Zfl:Q0d:=mkP 233 [] true [.one (.int .u32), .one (.int .i64), .one (.int .i64)] [] (λargs rows=>Q5e (argI args 0) (argI args 1) (argI args 2)) (λargs rows=>Q30 (argI args 0) (argI args 1) (argI args 2)) (λX=> .int .u32 X) (λX=>[])
theorem Qmi:Q06 pG Zfl:=Q0p drawn Q0k (.cons Qz8 (.nil)) Tryz.func233 Tryz.call233 (λargs rows=>Q9h (argI args 0) (argI args 1) (argI args 2)) [] [] 2
def Qa2(w:Int)(low:Int)(n:Int)(v:Int):Tree Int:=
.br (decide (low<0)) (.lf w) (.br (decide (low>31)) (.lf w) (.br (decide (n<1)) (.lf w) (.an (Qhs n) (.lv (Z1q n) λ(x0:Int)=> .cn (decide (0<=wrap u64 low)) (.cn (decide (0<=wrap u64 low)) (.lf (ior u32 (Qhk u32 w (ishl u32 x0 (wrap u64 low))) (ishl u32 (iand u32 v x0) (wrap u64 low)))))))))
def Q82(w:Int)(low:Int)(n:Int)(v:Int):Int:=(Qa2 w low n v).m
abbrev Qlr(w:Int)(low:Int)(n:Int)(v:Int):Prop:=(Qa2 w low n v).p
def Z3f:Q0d:=mkP 278 [] true [.one (.int .u32), .one (.int .i64), .one (.int .i64), .one (.int .u32)] [] (λargs rows=>Qlr (argI args 0) (argI args 1) (argI args 2) (argI args 3)) (λargs rows=>Q82 (argI args 0) (argI args 1) (argI args 2) (argI args 3)) (λX=> .int .u32 X) (λX=>[])
theorem Z0b:Q06 pG Z3f:=Q0p drawn Q0k (.cons Qz8 (.nil)) Tryz.func278 Tryz.call278 (λargs rows=>Qa2 (argI args 0) (argI args 1) (argI args 2) (argI args 3)) [] [] 2
def Q8s(m:(List Int))(addr:Int)(size:Int)(v:Int):Tree ((List Int)×Bool):=
.an (Q08 m) (.lv (Q03 m) λ(x0:List Int)=> .an (Qax m addr size) (.lv (Qho m addr size) λ(x1:Bool)=> .br (!x1) (.lf (x0,false)) (let E1:=Nat.beq 1 1&&Nat.blt 0 1&&decide (0<=wrap u32 (Int.tdiv addr 4)/\wrap u32 (Int.tdiv addr 4)<(x0.length:Int));let E2:=Int.toNat (wrap u32 (Int.tdiv addr 4)); .br (size==1) (.cn E1 (let E3:=wrap i64 (wrap i64 (Int.tmod addr 4)*8); .an (Qlr (x0.getD E2 0) E3 8 v) (.lv (Q82 (x0.getD E2 0) E3 8 v) λ(x2:Int)=> .cn E1 (.lf (List.set x0 E2 x2,true))))) (.cn E1 (.lf (List.set x0 E2 v,true))))))
def Q9z(m:(List Int))(addr:Int)(size:Int)(v:Int):((List Int)×Bool):=(Q8s m addr size v).m
abbrev Qc0(m:(List Int))(addr:Int)(size:Int)(v:Int):Prop:=(Q8s m addr size v).p
def Z6z:Q0d:=mkP 239 [] true [.one (.ints .u32), .one (.int .u32), .one (.int .i64), .one (.int .u32)] [] (λargs rows=>Qc0 (argL .u32 args 0) (argI args 1) (argI args 2) (argI args 3)) (λargs rows=>Q9z (argL .u32 args 0) (argI args 1) (argI args 2) (argI args 3)) (λX=> .tup [.all 0, .bool (X.2)]) (λX=>[⟨false,25,1, .ints .u32 (X.1)⟩])
theorem Qpn:Q06 pG Z6z:=Q0p drawn Q0k (.cons Q0w (.cons Qnz (.cons Z0b (.nil)))) Tryz.func239 Tryz.call239 (λargs rows=>Q8s (argL .u32 args 0) (argI args 1) (argI args 2) (argI args 3)) [.row 25 1 (.ints .u32)] [] 2
def Zfs(op:Int):Tree (Q96×Bool):=
.br (op==1) (.lf ({a:=true,b:=true,c:=true,low:=0,D6:=0},true)) (.br (op==2) (.lf ({a:=true,b:=true,c:=true,low:=0,D6:=0},true)) (.br (op==3) (.lf ({a:=true,b:=true,c:=true,low:=0,D6:=0},true)) (.br (op==4) (.lf ({a:=true,b:=true,c:=true,low:=0,D6:=0},true)) (.br (op==5) (.lf ({a:=true,b:=true,c:=true,low:=0,D6:=0},true)) (.br (op==6) (.lf ({a:=true,b:=true,c:=true,low:=0,D6:=0},true)) (.br (op==7) (.lf ({a:=true,b:=true,c:=true,low:=0,D6:=0},true)) (.br (op==8) (.lf ({a:=true,b:=true,c:=true,low:=0,D6:=0},true)) (.br (op==9) (.lf ({a:=true,b:=true,c:=true,low:=0,D6:=0},true)) (.br (op==10) (.lf ({a:=true,b:=true,c:=true,low:=0,D6:=0},true)) (.br (op==11) (.lf ({a:=true,b:=true,c:=true,low:=0,D6:=0},true)) (.br (op==12) (.lf ({a:=true,b:=true,c:=true,low:=0,D6:=0},true)) (.br (op==13) (.lf ({a:=true,b:=true,c:=true,low:=0,D6:=0},true)) (.br (op==16) (.lf ({a:=true,b:=true,c:=false,low:=(-32768),D6:=32767},true)) (.br (op==23) (.lf ({a:=true,b:=true,c:=false,low:=(-32768),D6:=32767},true)) (.br (op==32) (.lf ({a:=true,b:=true,c:=false,low:=(-32768),D6:=32767},true)) (.br (op==33) (.lf ({a:=true,b:=true,c:=false,low:=(-32768),D6:=32767},true)) (.br (op==34) (.lf ({a:=true,b:=true,c:=false,low:=(-32768),D6:=32767},true)) (.br (op==35) (.lf ({a:=true,b:=true,c:=false,low:=(-32768),D6:=32767},true)) (.br (op==36) (.lf ({a:=true,b:=true,c:=false,low:=(-32768),D6:=32767},true)) (.br (op==40) (.lf ({a:=true,b:=true,c:=false,low:=(-32768),D6:=32767},true)) (.br (op==41) (.lf ({a:=true,b:=true,c:=false,low:=(-32768),D6:=32767},true)) (.br (op==42) (.lf ({a:=true,b:=true,c:=false,low:=(-32768),D6:=32767},true)) (.br (op==43) (.lf ({a:=true,b:=true,c:=false,low:=(-32768),D6:=32767},true)) (.br (op==44) (.lf ({a:=true,b:=true,c:=false,low:=(-32768),D6:=32767},true)) (.br (op==45) (.lf ({a:=true,b:=true,c:=false,low:=(-32768),D6:=32767},true)) (.br (op==49) (.lf ({a:=true,b:=true,c:=false,low:=(-32768),D6:=32767},true)) (.br (op==17) (.lf ({a:=true,b:=true,c:=false,low:=0,D6:=65535},true)) (.br (op==18) (.lf ({a:=true,b:=true,c:=false,low:=0,D6:=65535},true)) (.br (op==19) (.lf ({a:=true,b:=true,c:=false,low:=0,D6:=65535},true)) (.br (op==20) (.lf ({a:=true,b:=true,c:=false,low:=0,D6:=31},true)) (.br (op==21) (.lf ({a:=true,b:=true,c:=false,low:=0,D6:=31},true)) (.br (op==22) (.lf ({a:=true,b:=true,c:=false,low:=0,D6:=31},true)) (.br (op==24) (.lf ({a:=true,b:=false,c:=false,low:=0,D6:=65535},true)) (.br (op==48) (.lf ({a:=true,b:=false,c:=false,low:=(-32768),D6:=32767},true)) (.br (op==58) (.lf ({a:=true,b:=false,c:=false,low:=0,D6:=7},true)) (.br (op==59) (.lf ({a:=true,b:=false,c:=false,low:=0,D6:=7},true)) (.br (op==60) (.lf ({a:=true,b:=false,c:=false,low:=0,D6:=11},true)) (.br (op==61) (.lf ({a:=true,b:=false,c:=false,low:=0,D6:=11},true)) (.br (op==56) (.lf ({a:=false,b:=false,c:=false,low:=0,D6:=0},true)) (.br (op==57) (.lf ({a:=false,b:=false,c:=false,low:=0,D6:=0},true)) (.br (op==62) (.lf ({a:=false,b:=false,c:=false,low:=0,D6:=0},true)) (.br (op==63) (.lf ({a:=false,b:=false,c:=false,low:=0,D6:=0},true)) (.br (op==64) (.lf ({a:=false,b:=false,c:=false,low:=0,D6:=0},true)) (.lf ({a:=false,b:=false,c:=false,low:=0,D6:=0},false)))))))))))))))))))))))))))))))))))))))))))))
def Z1v(op:Int):(Q96×Bool):=(Zfs op).m
def xA:Q0d:=mkR 234 [] true [.one (.int .i64)] [] (λargs rows=>Z1v (argI args 0)) (λX=> .tup [.agg (Q96.cells (X.1)), .bool (X.2)]) (λX=>[])
theorem Z7p:Q06 pG xA:=Q11 drawn Q0k (.nil) Tryz.func234 Tryz.call234 (λargs rows=>Zfs (argI args 0)) [] [] 2
def Q7n(x:Int)(n:Int):Tree Int:=
.br (decide (n<1)) (.lf 0) (.br (decide (n>=32)) (.lf x) (let E1:=decide (0<=wrap u64 (wrap i64 (32-n))); .cn E1 (.cn E1 (.lf (wrap u32 (ishr i32 (wrap i32 (ishl u32 x (wrap u64 (wrap i64 (32-n))))) (wrap u64 (wrap i64 (32-n)))))))))
def Q2a(x:Int)(n:Int):Int:=(Q7n x n).m
abbrev Qcl(x:Int)(n:Int):Prop:=(Q7n x n).p
def Qwm:Q0d:=mkP 235 [] true [.one (.int .u32), .one (.int .i64)] [] (λargs rows=>Qcl (argI args 0) (argI args 1)) (λargs rows=>Q2a (argI args 0) (argI args 1)) (λX=> .int .u32 X) (λX=>[])
theorem Qka:Q06 pG Qwm:=Q0p drawn Q0k (.nil) Tryz.func235 Tryz.call235 (λargs rows=>Q7n (argI args 0) (argI args 1)) [] [] 2
def Qfk(r:Int)(used:Bool):Tree Bool:=
.br used (.br (decide (r>=0)) (.lf (decide (r<=15))) (.lf false)) (.lf (r==0))
def Q9m(r:Int)(used:Bool):Bool:=(Qfk r used).m
def Z6r:Q0d:=mkR 277 [] true [.one (.int .i64), .one (.bool)] [] (λargs rows=>Q9m (argI args 0) (argB args 1)) (λX=> .bool X) (λX=>[])
theorem Z2t:Q06 pG Z6r:=Q11 drawn Q0k (.nil) Tryz.func277 Tryz.call277 (λargs rows=>Qfk (argI args 0) (argB args 1)) [] [] 2
def Qiu(i:Q0l):Tree Bool:=
.lv (Z1v i.Op) λ(x0:Q96×Bool)=> .br x0.2 (.lv (Q9m i.A x0.1.a) λ(x1:Bool)=> .br x1 (.lv (Q9m i.B x0.1.b) λ(x2:Bool)=> .br x2 (.lv (Q9m i.C x0.1.c) λ(x3:Bool)=> .br x3 (.br (decide (i.Imm>=x0.1.low)) (.lf (decide (i.Imm<=x0.1.D6))) (.lf false)) (.lf false)) (.lf false)) (.lf false)) (.lf false)
def Qfw(i:Q0l):Bool:=(Qiu i).m
def Zjw:Q0d:=mkR 236 [] true [.agg Q0l.sig] [] (λargs rows=>Qfw (Q0l.of (aC args 0))) (λX=> .bool X) (λX=>[])
theorem Zh2:Q06 pG Zjw:=Q11 drawn Q0k (.cons Z7p (.cons Z2t (.nil))) Tryz.func236 Tryz.call236 (λargs rows=>Qiu (Q0l.of (aC args 0))) [] [] 2
def Q7y(w:Int):Tree (Q0l×Bool):=
.an (Q5e w 24 8) (.lv (Q30 w 24 8) λ(x0:Int)=> .an (Q5e w 20 4) (.lv (Q30 w 20 4) λ(x1:Int)=> .an (Q5e w 16 4) (.lv (Q30 w 16 4) λ(x2:Int)=> .lv (Z1v (wrap i64 x0)) λ(x3:Q96×Bool)=>let E1:=({Op:=0,A:=0,B:=0,C:=0,Imm:=0}:Q0l); .br (!x3.2) (.lf (E1,false)) (.an (Q5e w 0 16) (.lv (Q30 w 0 16) λ(x4:Int)=> .br x3.1.c (let E2:=({Op:=wrap i64 x0,A:=wrap i64 x1,B:=wrap i64 x2,C:=wrap i64 x4,Imm:=0}:Q0l); .lv (Qfw E2) λ(x5:Bool)=> .br (!x5) (.lf (E1,false)) (.lf (E2,true))) (.br (decide (x3.1.low<0)) (.an (Qcl x4 16) (.lv (Q2a x4 16) λ(x6:Int)=>let E3:=({Op:=wrap i64 x0,A:=wrap i64 x1,B:=wrap i64 x2,C:=0,Imm:=wrap i32 x6}:Q0l); .lv (Qfw E3) λ(x7:Bool)=> .br (!x7) (.lf (E1,false)) (.lf (E3,true)))) (let E4:=({Op:=wrap i64 x0,A:=wrap i64 x1,B:=wrap i64 x2,C:=0,Imm:=wrap i32 x4}:Q0l); .lv (Qfw E4) λ(x8:Bool)=> .br (!x8) (.lf (E1,false)) (.lf (E4,true)))))))))
def Qi5(w:Int):(Q0l×Bool):=(Q7y w).m
abbrev Qku(w:Int):Prop:=(Q7y w).p
def Ze7:Q0d:=mkP 180 [] true [.one (.int .u32)] [] (λargs rows=>Qku (argI args 0)) (λargs rows=>Qi5 (argI args 0)) (λX=> .tup [.agg (Q0l.cells (X.1)), .bool (X.2)]) (λX=>[])
theorem Zd1:Q06 pG Ze7:=Q0p drawn Q0k (.cons Qmi (.cons Z7p (.cons Qka (.cons Zh2 (.nil))))) Tryz.func180 Tryz.call180 (λargs rows=>Q7y (argI args 0)) [] [] 2
def Qaz(a:Int)(b:Int):Tree (Int×Int):=
.br (b==0) (.lf (4294967295,a)) (let T1:Tree ((Int×Int)):= .cn (decide (wrap i32 b≠0)) (.cn (decide (wrap i32 b≠0)) (.lf (wrap u32 (wrap i32 (Int.tdiv (wrap i32 a) (wrap i32 b))),wrap u32 (Int.tmod (wrap i32 a) (wrap i32 b))))); .br (a==2147483648) (.br (b==4294967295) (.lf (a,0)) T1) T1)
def Qcf(a:Int)(b:Int):(Int×Int):=(Qaz a b).m
abbrev Qic(a:Int)(b:Int):Prop:=(Qaz a b).p
def Zbg:Q0d:=mkP 279 [] true [.one (.int .u32), .one (.int .u32)] [] (λargs rows=>Qic (argI args 0) (argI args 1)) (λargs rows=>Qcf (argI args 0) (argI args 1)) (λX=> .tup [.int .u32 (X.1), .int .u32 (X.2)]) (λX=>[])
theorem Z7f:Q06 pG Zbg:=Q0p drawn Q0k (.nil) Tryz.func279 Tryz.call279 (λargs rows=>Qaz (argI args 0) (argI args 1)) [] [] 2
def Z2f(b:Bool):Tree Int:=
.br b (.lf 1) (.lf 0)
def Qo8(b:Bool):Int:=(Z2f b).m
def Zk4:Q0d:=mkR 280 [] true [.one (.bool)] [] (λargs rows=>Qo8 (argB args 0)) (λX=> .int .u32 X) (λX=>[])
theorem Zhv:Q06 pG Zk4:=Q11 drawn Q0k (.nil) Tryz.func280 Tryz.call280 (λargs rows=>Z2f (argB args 0)) [] [] 2
def Qoc(op:Int)(a:Int)(b:Int):Tree (Int×Bool):=
.br (op==2) (.lf (wrap u32 (a+wrap u32 (0-b)),true)) (.br (op==1) (.lf (wrap u32 (a+b),true)) (.br (op==16) (.lf (wrap u32 (a+b),true)) (.br (op==3) (.lf (iand u32 a b,true)) (.br (op==17) (.lf (iand u32 a b,true)) (.br (op==4) (.lf (ior u32 a b,true)) (.br (op==18) (.lf (ior u32 a b,true)) (.br (op==5) (.lf (ixor u32 a b,true)) (.br (op==19) (.lf (ixor u32 a b,true)) (.br (op==6) (.lf (ishl u32 a (iand u32 b 31),true)) (.br (op==20) (.lf (ishl u32 a (iand u32 b 31),true)) (.br (op==7) (.lf (ishr u32 a (iand u32 b 31),true)) (.br (op==21) (.lf (ishr u32 a (iand u32 b 31),true)) (let E1:=(wrap u32 (ishr i32 (wrap i32 a) (iand u32 b 31)),true); .br (op==8) (.lf E1) (.br (op==22) (.lf E1) (.br (op==9) (.lf (wrap u32 (a*b),true)) (.br (op==10) (.an (Qic a b) (.lv (Qcf a b) λ(x0:Int×Int)=> .lf (x0.1,true))) (.br (op==11) (.an (Qic a b) (.lv (Qcf a b) λ(x1:Int×Int)=> .lf (x1.2,true))) (.br (op==12) (.lv (Qo8 (decide (wrap i32 a<wrap i32 b))) λ(x2:Int)=> .lf (x2,true)) (.br (op==23) (.lv (Qo8 (decide (wrap i32 a<wrap i32 b))) λ(x3:Int)=> .lf (x3,true)) (.br (op==13) (.lv (Qo8 (decide (a<b))) λ(x4:Int)=> .lf (x4,true)) (.lf (0,false))))))))))))))))))))))
def Q49(op:Int)(a:Int)(b:Int):(Int×Bool):=(Qoc op a b).m
abbrev Qs6(op:Int)(a:Int)(b:Int):Prop:=(Qoc op a b).p
def zA:Q0d:=mkP 243 [] true [.one (.int .i64), .one (.int .u32), .one (.int .u32)] [] (λargs rows=>Qs6 (argI args 0) (argI args 1) (argI args 2)) (λargs rows=>Q49 (argI args 0) (argI args 1) (argI args 2)) (λX=> .tup [.int .u32 (X.1), .bool (X.2)]) (λX=>[])
theorem Zp4:Q06 pG zA:=Q0p drawn Q0k (.cons Z7f (.cons Zhv (.nil))) Tryz.func243 Tryz.call243 (λargs rows=>Qoc (argI args 0) (argI args 1) (argI args 2)) [] [] 2
end
noncomputable section
def Qq0(status:Int)(from0:Int)(to:Int):Tree Int:=
.br (iand u32 status from0 !=0) (.lf (ior u32 status to)) (.lf (Qhk u32 status to))
def Q95(status:Int)(from0:Int)(to:Int):Int:=(Qq0 status from0 to).m
def Zn9:Q0d:=mkR 230 [] true [.one (.int .u32), .one (.int .u32), .one (.int .u32)] [] (λargs rows=>Q95 (argI args 0) (argI args 1) (argI args 2)) (λX=> .int .u32 X) (λX=>[])
theorem Z33:Q06 pG Zn9:=Q11 drawn Q0k (.nil) Tryz.func230 Tryz.call230 (λargs rows=>Qq0 (argI args 0) (argI args 1) (argI args 2)) [] [] 2
def Qlh(c:Q05)(cause:Int)(bad:Int):Tree Q05:=
.lv (Q95 c.B5.a0 1 8) λ(x0:Int)=> .lv (Q95 x0 2 16) λ(x1:Int)=> .lf ({X:=c.X,Pc:=c.B5.a1,B5:={a0:=Qhk u32 (ior u32 x1 1) 2,a1:=c.B5.a1,a2:=c.Pc,a3:=wrap u32 cause,a4:=bad,a5:=c.B5.a5,a6:=c.B5.a6,a7:=c.B5.a7}})
def Q4v(c:Q05)(cause:Int)(bad:Int):Q05:=(Qlh c cause bad).m
def Zo5:Q0d:=mkR 178 [] true [.agg Q05.sig, .one (.int .i64), .one (.int .u32)] [] (λargs rows=>Q4v (Q05.of (aC args 0)) (argI args 1) (argI args 2)) (λX=> .agg (Q05.cells X)) (λX=>[])
theorem Qjc:Q06 pG Zo5:=Q11 drawn Q0k (.cons Z33 (.nil)) Tryz.func178 Tryz.call178 (λargs rows=>Qlh (Q05.of (aC args 0)) (argI args 1) (argI args 2)) [] [] 2
def Qud(access:Int):Tree (Int×Bool):=
.br (access==1) (.lf (4,true)) (.br (access==2) (.lf (5,true)) (.br (access==3) (.lf (6,true)) (.lf (5,false))))
def Qsu(access:Int):(Int×Bool):=(Qud access).m
def Zcl:Q0d:=mkR 272 [] true [.one (.int .i64)] [] (λargs rows=>Qsu (argI args 0)) (λX=> .tup [.int .i64 (X.1), .bool (X.2)]) (λX=>[])
theorem Z6s:Q06 pG Zcl:=Q11 drawn Q0k (.nil) Tryz.func272 Tryz.call272 (λargs rows=>Qud (argI args 0)) [] [] 2
def Qzm(c:Q05):Tree Bool:=
.lf (iand u32 c.B5.a0 (1:Int) !=(0:Int))
def Qae(c:Q05):Bool:=(Qzm c).m
def Zdn:Q0d:=mkR 182 [] true [.agg Q05.sig] [] (λargs rows=>Qae (Q05.of (aC args 0))) (λX=> .bool X) (λX=>[])
theorem Qtw:Q06 pG Zdn:=Q11 drawn Q0k (.nil) Tryz.func182 Tryz.call182 (λargs rows=>Qzm (Q05.of (aC args 0))) [] [] 2
def Qny(access:Int):Tree (Int×Bool):=
.br (access==1) (.lf (4,true)) (.br (access==2) (.lf (5,true)) (.br (access==3) (.lf (6,true)) (.lf (5,false))))
def Qkz(access:Int):(Int×Bool):=(Qny access).m
def Z0r:Q0d:=mkR 306 [] true [.one (.int .i64)] [] (λargs rows=>Qkz (argI args 0)) (λX=> .tup [.int .i64 (X.1), .bool (X.2)]) (λX=>[])
theorem Qwp:Q06 pG Z0r:=Q11 drawn Q0k (.nil) Tryz.func306 Tryz.call306 (λargs rows=>Qny (argI args 0)) [] [] 2
def Qio(m:(List Int))(frame:Int):Tree Bool:=
.lv (Q0y m) λ(x0:Int)=> .lf (decide (wrap u64 frame<wrap u64 x0))
def Qag(m:(List Int))(frame:Int):Bool:=(Qio m frame).m
def Z2j:Q0d:=mkR 307 [] true [.one (.ints .u32), .one (.int .u32)] [] (λargs rows=>Qag (argL .u32 args 0) (argI args 1)) (λX=> .bool X) (λX=>[])
theorem Qzw:Q06 pG Z2j:=Q11 drawn Q0k (.cons Q47 (.nil)) Tryz.func307 Tryz.call307 (λargs rows=>Qio (argL .u32 args 0) (argI args 1)) [] [] 2
def Q6o(m:(List Int))(addr:Int)(size:Int):Tree (Int×Bool):=
.an (Qax m addr size) (.lv (Qho m addr size) λ(x0:Bool)=> .br (!x0) (.lf (0,false)) (.cn (Nat.beq 1 1&&Nat.blt 0 1&&decide (0<=wrap u32 (Int.tdiv addr 4)/\wrap u32 (Int.tdiv addr 4)<(m.length:Int))) (let E1:=Int.toNat (wrap u32 (Int.tdiv addr 4)); .br (size==1) (let E2:=wrap i64 (wrap i64 (Int.tmod addr 4)*8); .an (Q5e (m.getD E1 0) E2 8) (.lv (Q30 (m.getD E1 0) E2 8) λ(x1:Int)=> .lf (x1,true))) (.lf (m.getD E1 0,true)))))
def Q52(m:(List Int))(addr:Int)(size:Int):(Int×Bool):=(Q6o m addr size).m
abbrev Q3d(m:(List Int))(addr:Int)(size:Int):Prop:=(Q6o m addr size).p
def Zbq:Q0d:=mkP 232 [] true [.one (.ints .u32), .one (.int .u32), .one (.int .i64)] [] (λargs rows=>Q3d (argL .u32 args 0) (argI args 1) (argI args 2)) (λargs rows=>Q52 (argL .u32 args 0) (argI args 1) (argI args 2)) (λX=> .tup [.int .u32 (X.1), .bool (X.2)]) (λX=>[])
theorem Qbw:Q06 pG Zbq:=Q0p drawn Q0k (.cons Qnz (.cons Qmi (.nil))) Tryz.func232 Tryz.call232 (λargs rows=>Q6o (argL .u32 args 0) (argI args 1) (argI args 2)) [] [] 2
def Qnn(pte:Int)(access:Int):Tree Bool:=
.br (iand u32 pte (1:Int)==(0:Int)) (.lf false) (.br (access==3) (.lf (iand u32 pte (2:Int) !=(0:Int))) (.br (access==1) (.lf (iand u32 pte (4:Int) !=(0:Int))) (.lf true)))
def Qbk(pte:Int)(access:Int):Bool:=(Qnn pte access).m
def Z0q:Q0d:=mkR 308 [] true [.one (.int .u32), .one (.int .i64)] [] (λargs rows=>Qbk (argI args 0) (argI args 1)) (λX=> .bool X) (λX=>[])
theorem Qwj:Q06 pG Z0q:=Q11 drawn Q0k (.nil) Tryz.func308 Tryz.call308 (λargs rows=>Qnn (argI args 0) (argI args 1)) [] [] 2
def Q8q(pte:Int):Tree Int:=
.an (Q5e pte 8 8) (.lv (Q30 pte 8 8) λ(x0:Int)=> .lf x0)
def Qft(pte:Int):Int:=(Q8q pte).m
abbrev Qdf(pte:Int):Prop:=(Q8q pte).p
def Qzz:Q0d:=mkP 309 [] true [.one (.int .u32)] [] (λargs rows=>Qdf (argI args 0)) (λargs rows=>Qft (argI args 0)) (λX=> .int .u32 X) (λX=>[])
theorem Qvr:Q06 pG Qzz:=Q0p drawn Q0k (.cons Qmi (.nil)) Tryz.func309 Tryz.call309 (λargs rows=>Q8q (argI args 0)) [] [] 2
def Qb1(m:(List Int))(root:Int)(va:Int)(access:Int):Tree Q19:=
.lv (Qkz access) λ(x0:Int×Bool)=>let E1:=({Addr:=0,F2:=0,F0:=x0.1}:Q19); .br (!x0.2) (.lf (E1)) (.br (decide (va>=4096)) (.lf (E1)) (.lv (Qag m root) λ(x1:Bool)=> .br (!x1) (.lf (E1)) (let E2:=wrap u32 (root*128)+wrap u32 (4*wrap u32 (Int.tdiv va 128)); .an (Q3d m (wrap u32 E2) 4) (.lv (Q52 m (wrap u32 E2) 4) λ(x2:Int×Bool)=> .br (!x2.2) (.lf (E1)) (.lv (Qbk x2.1 access) λ(x3:Bool)=> .br (!x3) (.lf (E1)) (.an (Qdf x2.1) (.lv (Qft x2.1) λ(x4:Int)=> .lv (Qag m x4) λ(x5:Bool)=> .br (!x5) (.lf (E1)) (.an (Qdf x2.1) (.lv (Qft x2.1) λ(x6:Int)=> .lf ({Addr:=wrap u32 (wrap u32 (x6*128)+Int.tmod va 128),F2:=wrap u32 E2,F0:=0}))))))))))
def Qj0(m:(List Int))(root:Int)(va:Int)(access:Int):Q19:=(Qb1 m root va access).m
abbrev Qif(m:(List Int))(root:Int)(va:Int)(access:Int):Prop:=(Qb1 m root va access).p
def Za7:Q0d:=mkP 273 [] true [.one (.ints .u32), .one (.int .u32), .one (.int .u32), .one (.int .i64)] [] (λargs rows=>Qif (argL .u32 args 0) (argI args 1) (argI args 2) (argI args 3)) (λargs rows=>Qj0 (argL .u32 args 0) (argI args 1) (argI args 2) (argI args 3)) (λX=> .agg (Q19.cells X)) (λX=>[])
theorem Z74:Q06 pG Za7:=Q0p drawn Q0k (.cons Qwp (.cons Qzw (.cons Qbw (.cons Qwj (.cons Qvr (.nil)))))) Tryz.func273 Tryz.call273 (λargs rows=>Qb1 (argL .u32 args 0) (argI args 1) (argI args 2) (argI args 3)) [] [] 2
def Q8x(m:(List Int))(entry:Int)(access:Int):Tree (List Int):=
.an (Q3d m entry 4) (.lv (Q52 m entry 4) λ(x0:Int×Bool)=> .br (!x0.2) (.an (Q08 m) (.lv (Q03 m) λ(x1:List Int)=> .lf x1)) (.br (access==3) (.an (Qc0 m entry 4 (ior u32 (ior u32 x0.1 8) 16)) (.lv (Q9z m entry 4 (ior u32 (ior u32 x0.1 8) 16)) λ(x2:List Int×Bool)=> .lf x2.1)) (.an (Qc0 m entry 4 (ior u32 x0.1 8)) (.lv (Q9z m entry 4 (ior u32 x0.1 8)) λ(x3:List Int×Bool)=> .lf x3.1))))
def Qd(m:(List Int))(entry:Int)(access:Int):(List Int):=(Q8x m entry access).m
abbrev Qgv(m:(List Int))(entry:Int)(access:Int):Prop:=(Q8x m entry access).p
def Z5u:Q0d:=mkP 274 [] true [.one (.ints .u32), .one (.int .u32), .one (.int .i64)] [] (λargs rows=>Qgv (argL .u32 args 0) (argI args 1) (argI args 2)) (λargs rows=>Qd (argL .u32 args 0) (argI args 1) (argI args 2)) (λX=> .all 0) (λX=>[⟨false,25,1, .ints .u32 X⟩])
theorem Z2b:Q06 pG Z5u:=Q0p drawn Q0k (.cons Qbw (.cons Q0w (.cons Qpn (.nil)))) Tryz.func274 Tryz.call274 (λargs rows=>Q8x (argL .u32 args 0) (argI args 1) (argI args 2)) [.row 25 1 (.ints .u32)] [] 2
def Q6r(c:Q05)(m:(List Int))(va:Int)(size:Int)(access:Int):Tree (Int×(List Int)×Int):=
.lv (Qsu access) λ(x0:Int×Bool)=>let T3:Tree ((Int×(List Int)×Int)):= .an (Q08 m) (.lv (Q03 m) λ(x1:List Int)=> .lf (0,x1,5)); .br (!x0.2) T3 (let T1:Tree ((Int×(List Int)×Int)):= .cn (decide (wrap u32 size≠0)) (.br (Int.tmod va (wrap u32 size) !=0) (.an (Q08 m) (.lv (Q03 m) λ(x3:List Int)=> .lf (0,x3,3))) (.lv (Qae c) λ(x4:Bool)=>let T2:Tree ((Int×(List Int)×Int)):= .an (Q3d m va size) (.lv (Q52 m va size) λ(x8:Int×Bool)=> .br (!x8.2) (.an (Q08 m) (.lv (Q03 m) λ(x9:List Int)=> .lf (0,x9,x0.1))) (.an (Q08 m) (.lv (Q03 m) λ(x10:List Int)=> .lf (va,x10,0)))); .br (!x4) (.br (iand u32 c.B5.a0 (4:Int) !=(0:Int)) (.an (Qif m c.B5.a6 va access) (.lv (Qj0 m c.B5.a6 va access) λ(x5:Q19)=> .br (x5.F0 !=0) (.an (Q08 m) (.lv (Q03 m) λ(x6:List Int)=> .lf (0,x6,x5.F0))) (.an (Qgv m x5.F2 access) (.lv (Qd m x5.F2 access) λ(x7:List Int)=> .lf (x5.Addr,x7,0))))) T2) T2)); .br (size !=1) (.br (size !=4) T3 T1) T1)
def Q25(c:Q05)(m:(List Int))(va:Int)(size:Int)(access:Int):(Int×(List Int)×Int):=(Q6r c m va size access).m
abbrev Q9u(c:Q05)(m:(List Int))(va:Int)(size:Int)(access:Int):Prop:=(Q6r c m va size access).p
def Za4:Q0d:=mkP 231 [] true [.agg Q05.sig, .one (.ints .u32), .one (.int .u32), .one (.int .i64), .one (.int .i64)] [] (λargs rows=>Q9u (Q05.of (aC args 0)) (argL .u32 args 1) (argI args 2) (argI args 3) (argI args 4)) (λargs rows=>Q25 (Q05.of (aC args 0)) (argL .u32 args 1) (argI args 2) (argI args 3) (argI args 4)) (λX=> .tup [.int .u32 (X.1), .all 0, .int .i64 (X.2.2)]) (λX=>[⟨false,25,1, .ints .u32 (X.2.1)⟩])
theorem Qks:Q06 pG Za4:=Q0p drawn Q0k (.cons Z6s (.cons Q0w (.cons Qtw (.cons Z74 (.cons Z2b (.cons Qbw (.nil))))))) Tryz.func231 Tryz.call231 (λargs rows=>Q6r (Q05.of (aC args 0)) (argL .u32 args 1) (argI args 2) (argI args 3) (argI args 4)) [.row 25 1 (.ints .u32)] [] 2
def Qcn(c:Q05)(m:(List Int)):Tree (Int×(List Int)×Int):=
.an (Q9u c m c.Pc 4 1) (.lv (Q25 c m c.Pc 4 1) λ(x0:Int×List Int×Int)=> .br (x0.2.2 !=0) (.lf (0,x0.2.1,x0.2.2)) (.an (Q3d x0.2.1 x0.1 4) (.lv (Q52 x0.2.1 x0.1 4) λ(x1:Int×Bool)=> .lf (x1.1,x0.2.1,0))))
def Qpe(c:Q05)(m:(List Int)):(Int×(List Int)×Int):=(Qcn c m).m
abbrev Qmq(c:Q05)(m:(List Int)):Prop:=(Qcn c m).p
def Zjl:Q0d:=mkP 179 [] true [.agg Q05.sig, .one (.ints .u32)] [] (λargs rows=>Qmq (Q05.of (aC args 0)) (argL .u32 args 1)) (λargs rows=>Qpe (Q05.of (aC args 0)) (argL .u32 args 1)) (λX=> .tup [.int .u32 (X.1), .all 0, .int .i64 (X.2.2)]) (λX=>[⟨false,25,1, .ints .u32 (X.2.1)⟩])
theorem Zhs:Q06 pG Zjl:=Q0p drawn Q0k (.cons Qks (.cons Qbw (.nil))) Tryz.func179 Tryz.call179 (λargs rows=>Qcn (Q05.of (aC args 0)) (argL .u32 args 1)) [.row 25 1 (.ints .u32)] [] 2
def Qnu(op:Int):Tree Bool:=
.br (op==57) (.lf true) (.br (op==58) (.lf true) (.br (op==59) (.lf true) (.br (op==60) (.lf true) (.br (op==61) (.lf true) (.br (op==62) (.lf true) (.br (op==63) (.lf true) (.br (op==64) (.lf true) (.lf false))))))))
def Q8v(op:Int):Bool:=(Qnu op).m
def Z0n:Q0d:=mkR 181 [] true [.one (.int .i64)] [] (λargs rows=>Q8v (argI args 0)) (λX=> .bool X) (λX=>[])
theorem Qw4:Q06 pG Z0n:=Q11 drawn Q0k (.nil) Tryz.func181 Tryz.call181 (λargs rows=>Qnu (argI args 0)) [] [] 2
def Qse(op:Int):Tree Int:=
.br (op==32) (.lf 4) (.br (op==35) (.lf 4) (.lf 1))
def Qgd(op:Int):Int:=(Qse op).m
def Zi8:Q0d:=mkR 237 [] true [.one (.int .i64)] [] (λargs rows=>Qgd (argI args 0)) (λX=> .int .i64 X) (λX=>[])
theorem Qyg:Q06 pG Zi8:=Q11 drawn Q0k (.nil) Tryz.func237 Tryz.call237 (λargs rows=>Qse (argI args 0)) [] [] 2
def Qdn(c:Q05)(register:Int)(v:Int):Tree Q05:=
.br (register !=0) (.cn (Nat.blt 0 1&&decide (0<=register/\register<(↑16:Int))) (.lf ({X:=A16.of 0 (List.set (A16.l c.X) register.toNat v),Pc:=c.Pc,B5:=c.B5}))) (.lf c)
def Qbd(c:Q05)(register:Int)(v:Int):Q05:=(Qdn c register v).m
abbrev Q8e(c:Q05)(register:Int)(v:Int):Prop:=(Qdn c register v).p
def yA:Q0d:=mkP 238 [] true [.agg Q05.sig, .one (.int .i64), .one (.int .u32)] [] (λargs rows=>Q8e (Q05.of (aC args 0)) (argI args 1) (argI args 2)) (λargs rows=>Qbd (Q05.of (aC args 0)) (argI args 1) (argI args 2)) (λX=> .agg (Q05.cells X)) (λX=>[])
theorem Z7m:Q06 pG yA:=Q0p drawn Q0k (.nil) Tryz.func238 Tryz.call238 (λargs rows=>Qdn (Q05.of (aC args 0)) (argI args 1) (argI args 2)) [] [] 2
def Qf6(c:Q05)(m:(List Int))(i:Q0l):Tree (Q05×(List Int)):=
.cn (Nat.blt 0 1&&decide (0<=i.B/\i.B<(↑16:Int))) (.lv (Qgd i.Op) λ(x0:Int)=>let E1:=wrap u32 (List.getD (A16.l c.X) i.B.toNat 0+wrap u32 i.Imm); .an (Q9u c m E1 x0 2) (.lv (Q25 c m E1 x0 2) λ(x1:Int×List Int×Int)=> .br (x1.2.2 !=0) (.lv (Q4v c x1.2.2 E1) λ(x2:Q05)=> .lf (x2,x1.2.1)) (.lv (Qgd i.Op) λ(x3:Int)=> .an (Q3d x1.2.1 x1.1 x3) (.lv (Q52 x1.2.1 x1.1 x3) λ(x4:Int×Bool)=> .br (i.Op==33) (.an (Qcl x4.1 8) (.lv (Q2a x4.1 8) λ(x5:Int)=> .an (Q8e c i.A x5) (.lv (Qbd c i.A x5) λ(x6:Q05)=> .lf ({X:=x6.X,Pc:=wrap u32 (x6.Pc+4),B5:=x6.B5},x1.2.1)))) (.an (Q8e c i.A x4.1) (.lv (Qbd c i.A x4.1) λ(x7:Q05)=> .lf ({X:=x7.X,Pc:=wrap u32 (x7.Pc+4),B5:=x7.B5},x1.2.1)))))))
def Q6n(c:Q05)(m:(List Int))(i:Q0l):(Q05×(List Int)):=(Qf6 c m i).m
abbrev Qya(c:Q05)(m:(List Int))(i:Q0l):Prop:=(Qf6 c m i).p
def Zpq:Q0d:=mkP 183 [] true [.agg Q05.sig, .one (.ints .u32), .agg Q0l.sig] [] (λargs rows=>Qya (Q05.of (aC args 0)) (argL .u32 args 1) (Q0l.of (aC args 2))) (λargs rows=>Q6n (Q05.of (aC args 0)) (argL .u32 args 1) (Q0l.of (aC args 2))) (λX=> .tup [.agg (Q05.cells (X.1)), .all 0]) (λX=>[⟨false,25,1, .ints .u32 (X.2)⟩])
theorem Zk3:Q06 pG Zpq:=Q0p drawn Q0k (.cons Qks (.cons Qyg (.cons Qjc (.cons Qbw (.cons Qka (.cons Z7m (.nil))))))) Tryz.func183 Tryz.call183 (λargs rows=>Qf6 (Q05.of (aC args 0)) (argL .u32 args 1) (Q0l.of (aC args 2))) [.row 25 1 (.ints .u32)] [] 2
def Qcg(c:Q05)(m:(List Int))(i:Q0l):Tree (Q05×(List Int)):=
.cn (Nat.blt 0 1&&decide (0<=i.B/\i.B<(↑16:Int))) (.lv (Qgd i.Op) λ(x0:Int)=>let E1:=wrap u32 (List.getD (A16.l c.X) i.B.toNat 0+wrap u32 i.Imm); .an (Q9u c m E1 x0 3) (.lv (Q25 c m E1 x0 3) λ(x1:Int×List Int×Int)=> .br (x1.2.2 !=0) (.lv (Q4v c x1.2.2 E1) λ(x2:Q05)=> .lf (x2,x1.2.1)) (.lv (Qgd i.Op) λ(x3:Int)=> .cn (Nat.blt 0 1&&decide (0<=i.A/\i.A<(↑16:Int))) (let E2:=List.getD (A16.l c.X) i.A.toNat 0; .an (Qc0 x1.2.1 x1.1 x3 E2) (.lv (Q9z x1.2.1 x1.1 x3 E2) λ(x4:List Int×Bool)=> .lf ({X:=c.X,Pc:=wrap u32 (c.Pc+4),B5:=c.B5},x4.1))))))
def Q8k(c:Q05)(m:(List Int))(i:Q0l):(Q05×(List Int)):=(Qcg c m i).m
abbrev Qtv(c:Q05)(m:(List Int))(i:Q0l):Prop:=(Qcg c m i).p
def Zia:Q0d:=mkP 184 [] true [.agg Q05.sig, .one (.ints .u32), .agg Q0l.sig] [] (λargs rows=>Qtv (Q05.of (aC args 0)) (argL .u32 args 1) (Q0l.of (aC args 2))) (λargs rows=>Q8k (Q05.of (aC args 0)) (argL .u32 args 1) (Q0l.of (aC args 2))) (λX=> .tup [.agg (Q05.cells (X.1)), .all 0]) (λX=>[⟨false,25,1, .ints .u32 (X.2)⟩])
theorem Zhm:Q06 pG Zia:=Q0p drawn Q0k (.cons Qks (.cons Qyg (.cons Qjc (.cons Qpn (.nil))))) Tryz.func184 Tryz.call184 (λargs rows=>Qcg (Q05.of (aC args 0)) (argL .u32 args 1) (Q0l.of (aC args 2))) [.row 25 1 (.ints .u32)] [] 2
def Z46(op:Int)(a:Int)(b:Int):Tree Bool:=
.br (op==40) (.lf (a==b)) (.br (op==41) (.lf (a !=b)) (.br (op==42) (.lf (decide (wrap i32 a<wrap i32 b))) (.br (op==43) (.lf (decide (wrap i32 a>=wrap i32 b))) (.br (op==44) (.lf (decide (a<b))) (.lf (decide (a>=b)))))))
def Zef(op:Int)(a:Int)(b:Int):Bool:=(Z46 op a b).m
def Zjt:Q0d:=mkR 240 [] true [.one (.int .i64), .one (.int .u32), .one (.int .u32)] [] (λargs rows=>Zef (argI args 0) (argI args 1) (argI args 2)) (λX=> .bool X) (λX=>[])
theorem Zgy:Q06 pG Zjt:=Q11 drawn Q0k (.nil) Tryz.func240 Tryz.call240 (λargs rows=>Z46 (argI args 0) (argI args 1) (argI args 2)) [] [] 2
def Qgs(c:Q05):Tree Q05:=
.lv (Q95 c.B5.a0 8 1) λ(x0:Int)=> .lv (Q95 x0 16 2) λ(x1:Int)=> .lf ({X:=c.X,Pc:=c.B5.a2,B5:={a0:=x1,a1:=c.B5.a1,a2:=c.B5.a2,a3:=c.B5.a3,a4:=c.B5.a4,a5:=c.B5.a5,a6:=c.B5.a6,a7:=c.B5.a7}})
def Qev(c:Q05):Q05:=(Qgs c).m
def Zgm:Q0d:=mkR 241 [] true [.agg Q05.sig] [] (λargs rows=>Qev (Q05.of (aC args 0))) (λX=> .agg (Q05.cells X)) (λX=>[])
theorem Zbx:Q06 pG Zgm:=Q11 drawn Q0k (.cons Z33 (.nil)) Tryz.func241 Tryz.call241 (λargs rows=>Qgs (Q05.of (aC args 0))) [] [] 2
def Qcm(c:Q05)(csr:Int)(v:Int):Tree Q05:=
let E4:=Nat.blt 0 1&&decide (0<=csr/\csr<(↑8:Int));let T2:Tree (Q05):= .cn E4 (.lf ({X:=c.X,Pc:=c.Pc,B5:=A8.of 0 (List.set (A8.l c.B5) csr.toNat (iand u32 v 31))})); .br (csr==0) T2 (.br (csr==7) T2 (.br (csr==6) (.cn E4 (.lf ({X:=c.X,Pc:=c.Pc,B5:=A8.of 0 (List.set (A8.l c.B5) csr.toNat (iand u32 v 255))}))) (let T3:Tree (Q05):= .cn E4 (.lf ({X:=c.X,Pc:=c.Pc,B5:=A8.of 0 (List.set (A8.l c.B5) csr.toNat (Qhk u32 v 3))})); .br (csr==1) T3 (.br (csr==2) T3 (let T1:Tree (Q05):= .cn E4 (.lf ({X:=c.X,Pc:=c.Pc,B5:=A8.of 0 (List.set (A8.l c.B5) csr.toNat v)})); .br (csr==3) T1 (.br (csr==4) T1 (.br (csr==5) T1 (.lf c))))))))
def Zej(c:Q05)(csr:Int)(v:Int):Q05:=(Qcm c csr v).m
abbrev Qvg(c:Q05)(csr:Int)(v:Int):Prop:=(Qcm c csr v).p
def Zjc:Q0d:=mkP 242 [] true [.agg Q05.sig, .one (.int .i64), .one (.int .u32)] [] (λargs rows=>Qvg (Q05.of (aC args 0)) (argI args 1) (argI args 2)) (λargs rows=>Zej (Q05.of (aC args 0)) (argI args 1) (argI args 2)) (λX=> .agg (Q05.cells X)) (λX=>[])
theorem Zfr:Q06 pG Zjc:=Q0p drawn Q0k (.nil) Tryz.func242 Tryz.call242 (λargs rows=>Qcm (Q05.of (aC args 0)) (argI args 1) (argI args 2)) [] [] 2
def Q5a(c:Q05)(i:Q0l):Tree (Q05×Q16):=
.cn (Nat.blt 0 1&&decide (0<=i.A/\i.A<(↑16:Int))) (.cn (Nat.blt 0 1&&decide (0<=i.B/\i.B<(↑16:Int))) (.br (i.Op==24) (.an (Q8e c i.A (ishl u32 (wrap u32 i.Imm) 16)) (.lv (Qbd c i.A (ishl u32 (wrap u32 i.Imm) 16)) λ(x0:Q05)=> .lf ({X:=x0.X,Pc:=wrap u32 (c.Pc+4),B5:=x0.B5},{B6:=0,D1:=0,D9:=0,Value:=0}))) (let E2:=({X:=c.X,Pc:=wrap u32 (c.Pc+4),B5:=c.B5}:Q05);let E3:=List.getD (A16.l c.X) i.B.toNat 0;let E4:=List.getD (A16.l c.X) i.A.toNat 0;let T1:Tree ((Q05×Q16)):= .lv (Zef i.Op E4 E3) λ(x1:Bool)=> .br x1 (.lf ({X:=c.X,Pc:=wrap u32 (c.Pc+wrap u32 (4*wrap u32 i.Imm)),B5:=c.B5},{B6:=0,D1:=0,D9:=0,Value:=0})) (.lf (E2,{B6:=0,D1:=0,D9:=0,Value:=0})); .br (i.Op==40) T1 (.br (i.Op==41) T1 (.br (i.Op==42) T1 (.br (i.Op==43) T1 (.br (i.Op==44) T1 (.br (i.Op==45) T1 (.br (i.Op==48) (.an (Q8e c i.A (wrap u32 (c.Pc+4))) (.lv (Qbd c i.A (wrap u32 (c.Pc+4))) λ(x7:Q05)=> .lf ({X:=x7.X,Pc:=wrap u32 (x7.Pc+wrap u32 (4*wrap u32 i.Imm)),B5:=x7.B5},{B6:=0,D1:=0,D9:=0,Value:=0}))) (.br (i.Op==49) (.an (Q8e c i.A (wrap u32 (c.Pc+4))) (.lv (Qbd c i.A (wrap u32 (c.Pc+4))) λ(x8:Q05)=> .lf ({X:=x8.X,Pc:=wrap u32 (List.getD (A16.l c.X) i.B.toNat 0+wrap u32 i.Imm),B5:=x8.B5},{B6:=0,D1:=0,D9:=0,Value:=0}))) (.br (i.Op==56) (.lv (Q4v c 7 0) λ(x9:Q05)=> .lf (x9,{B6:=0,D1:=0,D9:=0,Value:=0})) (.br (i.Op==57) (.lv (Qev c) λ(x10:Q05)=> .lf (x10,{B6:=0,D1:=0,D9:=0,Value:=0})) (.br (i.Op==58) (.cn (Nat.blt 0 1&&decide (0<=i.Imm/\i.Imm<(↑8:Int))) (let E5:=List.getD (A8.l c.B5) i.Imm.toNat 0; .an (Q8e c i.A E5) (.lv (Qbd c i.A E5) λ(x11:Q05)=> .lf ({X:=x11.X,Pc:=wrap u32 (c.Pc+4),B5:=x11.B5},{B6:=0,D1:=0,D9:=0,Value:=0})))) (.br (i.Op==59) (.an (Qvg c (wrap i64 i.Imm) E4) (.lv (Zej c (wrap i64 i.Imm) E4) λ(x12:Q05)=> .lf ({X:=x12.X,Pc:=wrap u32 (c.Pc+4),B5:=x12.B5},{B6:=0,D1:=0,D9:=0,Value:=0}))) (.br (i.Op==60) (.lf (E2,{B6:=1,D1:=wrap i64 i.Imm,D9:=i.A,Value:=0})) (.br (i.Op==61) (.lf (E2,{B6:=2,D1:=wrap i64 i.Imm,D9:=0,Value:=List.getD (A16.l c.X) i.A.toNat 0})) (.br (i.Op==62) (.lf (E2,{B6:=3,D1:=0,D9:=0,Value:=0})) (.br (i.Op==63) (.lf (E2,{B6:=5,D1:=0,D9:=0,Value:=0})) (.br (i.Op==64) (.lf (E2,{B6:=4,D1:=0,D9:=0,Value:=0})) (.cn (Nat.blt 0 1&&decide (0<=i.C/\i.C<(↑16:Int))) (.br (decide (i.Op>=16)) (.an (Qs6 i.Op E3 (wrap u32 i.Imm)) (.lv (Q49 i.Op E3 (wrap u32 i.Imm)) λ(x13:Int×Bool)=> .an (Q8e c i.A x13.1) (.lv (Qbd c i.A x13.1) λ(x14:Q05)=> .lf ({X:=x14.X,Pc:=wrap u32 (c.Pc+4),B5:=x14.B5},{B6:=0,D1:=0,D9:=0,Value:=0})))) (let E6:=List.getD (A16.l c.X) i.C.toNat 0; .an (Qs6 i.Op E3 E6) (.lv (Q49 i.Op E3 E6) λ(x15:Int×Bool)=> .an (Q8e c i.A x15.1) (.lv (Qbd c i.A x15.1) λ(x16:Q05)=> .lf ({X:=x16.X,Pc:=wrap u32 (c.Pc+4),B5:=x16.B5},{B6:=0,D1:=0,D9:=0,Value:=0})))))))))))))))))))))))))
def Qmn(c:Q05)(i:Q0l):(Q05×Q16):=(Q5a c i).m
abbrev Qp3(c:Q05)(i:Q0l):Prop:=(Q5a c i).p
def Zaf:Q0d:=mkP 185 [] true [.agg Q05.sig, .agg Q0l.sig] [] (λargs rows=>Qp3 (Q05.of (aC args 0)) (Q0l.of (aC args 1))) (λargs rows=>Qmn (Q05.of (aC args 0)) (Q0l.of (aC args 1))) (λX=> .tup [.agg (Q05.cells (X.1)), .agg (Q16.cells (X.2))]) (λX=>[])
theorem Z5s:Q06 pG Zaf:=Q0p drawn Q0k (.cons Z7m (.cons Zgy (.cons Qjc (.cons Zbx (.cons Zfr (.cons Zp4 (.nil))))))) Tryz.func185 Tryz.call185 (λargs rows=>Q5a (Q05.of (aC args 0)) (Q0l.of (aC args 1))) [] [] 2
def Q7s(c:Q05)(m:(List Int)):Tree (Q05×(List Int)×Q16):=
.an (Qmq c m) (.lv (Qpe c m) λ(x0:Int×List Int×Int)=> .br (x0.2.2 !=0) (.lv (Q4v c x0.2.2 c.Pc) λ(x1:Q05)=> .lf (x1,x0.2.1,{B6:=0,D1:=0,D9:=0,Value:=0})) (.an (Qku x0.1) (.lv (Qi5 x0.1) λ(x2:Q0l×Bool)=> .br (!x2.2) (.lv (Q4v c 1 x0.1) λ(x3:Q05)=> .lf (x3,x0.2.1,{B6:=0,D1:=0,D9:=0,Value:=0})) (.lv (Q8v x2.1.Op) λ(x4:Bool)=>let T1:Tree ((Q05×(List Int)×Q16)):=let T2:Tree ((Q05×(List Int)×Q16)):= .an (Qya c x0.2.1 x2.1) (.lv (Q6n c x0.2.1 x2.1) λ(x7:Q05×List Int)=> .lf (x7.1,x7.2,{B6:=0,D1:=0,D9:=0,Value:=0})); .br (x2.1.Op==32) T2 (.br (x2.1.Op==33) T2 (.br (x2.1.Op==34) T2 (let T3:Tree ((Q05×(List Int)×Q16)):= .an (Qtv c x0.2.1 x2.1) (.lv (Q8k c x0.2.1 x2.1) λ(x10:Q05×List Int)=> .lf (x10.1,x10.2,{B6:=0,D1:=0,D9:=0,Value:=0})); .br (x2.1.Op==35) T3 (.br (x2.1.Op==36) T3 (.an (Qp3 c x2.1) (.lv (Qmn c x2.1) λ(x12:Q05×Q16)=> .lf (x12.1,x0.2.1,x12.2))))))); .br x4 (.lv (Qae c) λ(x5:Bool)=> .br (!x5) (.lv (Q4v c 2 x0.1) λ(x6:Q05)=> .lf (x6,x0.2.1,{B6:=0,D1:=0,D9:=0,Value:=0})) T1) T1))))
def Q81(c:Q05)(m:(List Int)):(Q05×(List Int)×Q16):=(Q7s c m).m
abbrev Qko(c:Q05)(m:(List Int)):Prop:=(Q7s c m).p
def Zp3:Q0d:=mkP 114 [] true [.agg Q05.sig, .one (.ints .u32)] [] (λargs rows=>Qko (Q05.of (aC args 0)) (argL .u32 args 1)) (λargs rows=>Q81 (Q05.of (aC args 0)) (argL .u32 args 1)) (λX=> .tup [.agg (Q05.cells (X.1)), .all 0, .agg (Q16.cells (X.2.2))]) (λX=>[⟨false,25,1, .ints .u32 (X.2.1)⟩])
theorem Z37:Q06 pG Zp3:=Q0p drawn Q0k (.cons Zhs (.cons Qjc (.cons Zd1 (.cons Qw4 (.cons Qtw (.cons Zk3 (.cons Zhm (.cons Z5s (.nil))))))))) Tryz.func114 Tryz.call114 (λargs rows=>Q7s (Q05.of (aC args 0)) (argL .u32 args 1)) [.row 25 1 (.ints .u32)] [] 2
end
noncomputable section
def tblYc0:List UInt8:=[(0:UInt8),1,2,2,3,3,3,3,4,4,4,4,4,4,4,4,5,5,5,5,5,5,5,5,5,5,5,5,5,5,5,5,6,6,6,6,6,6,6,6,6,6,6,6,6,6,6,6,6,6,6,6,6,6,6,6,6,6,6,6,6,6,6,6]
def Zgg:List UInt8:=[(7:UInt8),7,7,7,7,7,7,7,7,7,7,7,7,7,7,7,7,7,7,7,7,7,7,7,7,7,7,7,7,7,7,7,7,7,7,7,7,7,7,7,7,7,7,7,7,7,7,7,7,7,7,7,7,7,7,7,7,7,7,7,7,7,7,7]
def Qrh:List UInt8:=[(8:UInt8),8,8,8,8,8,8,8,8,8,8,8,8,8,8,8,8,8,8,8,8,8,8,8,8,8,8,8,8,8,8,8,8,8,8,8,8,8,8,8,8,8,8,8,8,8,8,8,8,8,8,8,8,8,8,8,8,8,8,8,8,8,8,8]
def Zm4:List UInt8:=[(1:UInt8),2,2,3,3,3,3,4,4,4,4,4,4,4,4,5,5,5,5,5,5,5,5,5,5,5,5,5,5,5,5,6,6,6,6,6,6,6,6,6,6,6,6,6,6,6,6,6,6,6,6,6,6,6,6,6,6,6,6,6,6,6,6]
def tblYc4:List UInt8:=[(0:UInt8),1,1,2,1,2,2,3,1,2,2,3,2,3,3,4,1,2,2,3,2,3,3,4,2,3,3,4,3,4,4,5,1,2,2,3,2,3,3,4,2,3,3,4,3,4,4,5,2,3,3,4,3,4,4,5,3,4,4,5,4,5,5,6]
def Qrf:List UInt8:=[(1:UInt8),2,2,3,2,3,3,4,2,3,3,4,3,4,4,5,2,3,3,4,3,4,4,5,3,4,4,5,4,5,5,6,2,3,3,4,3,4,4,5,3,4,4,5,4,5,5,6,3,4,4,5,4,5,5,6,4,5,5,6,5,6,6,7]
def Zgj:List UInt8:=[(2:UInt8),3,3,4,3,4,4,5,3,4,4,5,4,5,5,6,3,4,4,5,4,5,5,6,4,5,5,6,5,6,6,7,3,4,4,5,4,5,5,6,4,5,5,6,5,6,6,7,4,5,5,6,5,6,6,7,5,6,6,7,6,7,7,8]
def Zl5:List UInt8:=[(1:UInt8),1,2,1,2,2,3,1,2,2,3,2,3,3,4,1,2,2,3,2,3,3,4,2,3,3,4,3,4,4,5,1,2,2,3,2,3,3,4,2,3,3,4,3,4,4,5,2,3,3,4,3,4,4,5,3,4,4,5,4,5,5,6]
def Qvi(c:Q0c):Tree Bool:=
.lf (decide ((c.D3.length:Int)<=(16:Int)))
def Q2c(c:Q0c):Bool:=(Qvi c).m
def Zas:Q0d:=mkR 171 [] true [.agg Q0c.sig] [] (λargs rows=>Q2c (Q0c.of (aC args 0))) (λX=> .bool X) (λX=>[])
theorem Z6x:Q06 pG Zas:=Q11 drawn Q0k (.nil) Tryz.func171 Tryz.call171 (λargs rows=>Qvi (Q0c.of (aC args 0))) [] [] 2
def Qmr(t:Q0i):Tree Bool:=
.br t.D2 (.br (!t.D5) (.lf (t.C9 !=0)) (.lf false)) (.br t.D5 (.lf true) (.lf (t.C9==0)))
def Q48(t:Q0i):Bool:=(Qmr t).m
def Zk5:Q0d:=mkR 172 [] true [.agg Q0i.sig] [] (λargs rows=>Q48 (Q0i.of (aC args 0))) (λX=> .bool X) (λX=>[])
theorem Ze1:Q06 pG Zk5:=Q11 drawn Q0k (.nil) Tryz.func172 Tryz.call172 (λargs rows=>Qmr (Q0i.of (aC args 0))) [] [] 2
def Q7j(d0:Q0f):Tree Bool:=
.br (d0.D8==1) (.lf (decide (d0.C3=[]))) (.br (d0.D8==2) (.lf ((d0.C3.length:Int)==(128:Int))) (.lf false))
def Q9v(d0:Q0f):Bool:=(Q7j d0).m
def Qx6:Q0d:=mkR 227 [] true [.agg Q0f.sig] [] (λargs rows=>Q9v (Q0f.of (aC args 0))) (λX=> .bool X) (λX=>[])
theorem Qu0:Q06 pG Qx6:=Q11 drawn Q0k (.nil) Tryz.func227 Tryz.call227 (λargs rows=>Q7j (Q0f.of (aC args 0))) [] [] 2
def Q6f(d0:Q0f)(pages:Int):Tree Bool:=
.br (decide (d0.Blocks>64)) (.lf false) (let T1:Tree (Bool):= .br (d0.D8==0) (.br (d0.B7==0) (.br (d0.B3==0) (.lf (decide (d0.C3=[]))) (.lf false)) (.lf false)) (.lf false); .br (d0.C1==0) T1 (.br (d0.C1==2) T1 (.br (d0.C1==3) T1 (.br (d0.C1==1) (.lv (Q9v d0) λ(x0:Bool)=> .br x0 (.br (decide (d0.B7<d0.Blocks)) (.lf (decide (wrap i64 d0.B3<pages))) (.lf false)) (.lf false)) (.lf false)))))
def Q1l(d0:Q0f)(pages:Int):Bool:=(Q6f d0 pages).m
def Zp8:Q0d:=mkR 173 [] true [.agg Q0f.sig, .one (.int .i64)] [] (λargs rows=>Q1l (Q0f.of (aC args 0)) (argI args 1)) (λX=> .bool X) (λX=>[])
theorem Zj7:Q06 pG Zp8:=Q11 drawn Q0k (.cons Qu0 (.nil)) Tryz.func173 Tryz.call173 (λargs rows=>Q6f (Q0f.of (aC args 0)) (argI args 1)) [] [] 2
def Qlf(n:Q0r)(pages:Int):Tree Bool:=
let T1:Tree (Bool):=let T2:Tree (Bool):= .br n.B8 (.br (decide (n.F1>=1)) (.lf (decide (n.F1<=128))) (.lf false)) (.lf (n.F1==0)); .br n.C6 (.br (decide (wrap i64 n.B9>=pages)) (.lf false) T2) (.br (n.B9 !=0) (.lf false) T2); .br n.C6 (.br n.B8 (.lf false) T1) T1
def Q68(n:Q0r)(pages:Int):Bool:=(Qlf n pages).m
def vA:Q0d:=mkR 174 [] true [.agg Q0r.sig, .one (.int .i64)] [] (λargs rows=>Q68 (Q0r.of (aC args 0)) (argI args 1)) (λX=> .bool X) (λX=>[])
theorem Zoe:Q06 pG vA:=Q11 drawn Q0k (.nil) Tryz.func174 Tryz.call174 (λargs rows=>Qlf (Q0r.of (aC args 0)) (argI args 1)) [] [] 2
def Q1v(x:Int):Tree Int:=
let E1:=(↑(List.length (List.append (List.append tblYc0 Zgg) (List.append Qrh Qrh))):Int); .br (decide (x>=65536)) (.br (decide (ishr u32 x (16:Int)>=(256:Int))) (.cn (decide (0<=wrap u8 (ishr u32 (ishr u32 x 16) 8)/\wrap u8 (ishr u32 (ishr u32 x 16) 8)<E1)) (.lf (wrap i64 (wrap i64 ((16:Int)+(8:Int))+wrap i64 (↑(UInt8.toNat (List.getD ((0:UInt8)::(Zm4++Zgg++(Qrh++Qrh))) (Int.toNat (wrap u8 (ishr u32 (ishr u32 x 16) 8))) (0:UInt8))):Int))))) (.cn (decide (0<=wrap u8 (ishr u32 x 16)/\wrap u8 (ishr u32 x 16)<E1)) (.lf (wrap i64 (16+wrap i64 (↑(UInt8.toNat (List.getD ((0:UInt8)::(Zm4++Zgg++(Qrh++Qrh))) (Int.toNat (wrap u8 (ishr u32 x 16))) (0:UInt8))):Int)))))) (.br (decide (x>=256)) (.cn (decide (0<=wrap u8 (ishr u32 x 8)/\wrap u8 (ishr u32 x 8)<E1)) (.lf (wrap i64 (wrap i64 ((0:Int)+(8:Int))+wrap i64 (↑(UInt8.toNat (List.getD ((0:UInt8)::(Zm4++Zgg++(Qrh++Qrh))) (Int.toNat (wrap u8 (ishr u32 x 8))) (0:UInt8))):Int))))) (.cn (decide (0<=wrap u8 x/\wrap u8 x<E1)) (.lf (wrap i64 (0+wrap i64 (↑(UInt8.toNat (List.getD ((0:UInt8)::(Zm4++Zgg++(Qrh++Qrh))) (Int.toNat (wrap u8 x)) (0:UInt8))):Int))))))
def Q1n(x:Int):Int:=(Q1v x).m
abbrev Qco(x:Int):Prop:=(Q1v x).p
def Qvt:Q0d:=mkP 228 [] true [.one (.int .u32)] [] (λargs rows=>Qco (argI args 0)) (λargs rows=>Q1n (argI args 0)) (λX=> .int .i64 X) (λX=>[])
theorem Qus:Q06 pG Qvt:=Q0p drawn Q0k (.nil) Tryz.func228 Tryz.call228 (λargs rows=>Q1v (argI args 0)) [] [] 2
def Q43(b:Q09)(pages:Int):Tree Bool:=
.an (Qco b.C2) (.lv (Q1n b.C2) λ(x0:Int)=> .lf (decide (x0<=if 0>pages then 0 else pages)))
def Q2m(b:Q09)(pages:Int):Bool:=(Q43 b pages).m
abbrev Qe8(b:Q09)(pages:Int):Prop:=(Q43 b pages).p
def Za:Q0d:=mkP 175 [] true [.agg Q09.sig, .one (.int .i64)] [] (λargs rows=>Qe8 (Q09.of (aC args 0)) (argI args 1)) (λargs rows=>Q2m (Q09.of (aC args 0)) (argI args 1)) (λX=> .bool X) (λX=>[])
theorem Z6e:Q06 pG Za:=Q0p drawn Q0k (.cons Qus (.nil)) Tryz.func175 Tryz.call175 (λargs rows=>Q43 (Q09.of (aC args 0)) (argI args 1)) [] [] 2
def Q1u(m:Q00):Tree Bool:=
.lv (Q0y m.Mem) λ(x0:Int)=> .lv (Q2c m.A4) λ(x1:Bool)=> .br x1 (.lv (Q48 m.B0) λ(x2:Bool)=> .br x2 (.lv (Q1l m.B1 x0) λ(x3:Bool)=> .br x3 (.lv (Q68 m.C4 x0) λ(x4:Bool)=> .br x4 (.an (Qe8 m.A2 x0) (.lv (Q2m m.A2 x0) λ(x5:Bool)=> .lf x5)) (.lf false)) (.lf false)) (.lf false)) (.lf false)
def Q10(m:Q00):Bool:=(Q1u m).m
abbrev Q2t(m:Q00):Prop:=(Q1u m).p
def Qqu:Q0d:=mkP 92 [] true [.agg Q00.sig] [] (λargs rows=>Q2t (Q00.of (aC args 0))) (λargs rows=>Q10 (Q00.of (aC args 0))) (λX=> .bool X) (λX=>[])
theorem Qoi:Q06 pG Qqu:=Q0p drawn Q0k (.cons Q47 (.cons Z6x (.cons Ze1 (.cons Zj7 (.cons Zoe (.cons Z6e (.nil))))))) Tryz.func92 Tryz.call92 (λargs rows=>Q1u (Q00.of (aC args 0))) [] [] 2
def Q5b(m:Q00):Tree Bool:=
.lv (Q0y m.Mem) λ(x0:Int)=> .br (x0==0) (.lf false) (.br (m.B2.X.a0 !=0) (.lf false) (.br (decide (m.B2.B5.a0>31)) (.lf false) (.br (decide (m.B2.B5.a7>31)) (.lf false) (.br (decide (m.B2.B5.a6>255)) (.lf false) (.br (Int.tmod m.B2.B5.a1 (4:Int) !=(0:Int)) (.lf false) (.br (decide (m.A1>1152921504606846976)) (.lf false) (.br m.A7 (.br m.A9 (.lf false) (.an (Q2t m) (.lv (Q10 m) λ(x1:Bool)=> .lf x1))) (.an (Q2t m) (.lv (Q10 m) λ(x2:Bool)=> .lf x2)))))))))
def Q1f(m:Q00):Bool:=(Q5b m).m
abbrev Q46(m:Q00):Prop:=(Q5b m).p
def Zba:Q0d:=mkP 24 [] true [.agg Q00.sig] [] (λargs rows=>Q46 (Q00.of (aC args 0))) (λargs rows=>Q1f (Q00.of (aC args 0))) (λX=> .bool X) (λX=>[])
theorem Qbi:Q06 pG Zba:=Q0p drawn Q0k (.cons Q47 (.cons Qoi (.nil))) Tryz.func24 Tryz.call24 (λargs rows=>Q5b (Q00.of (aC args 0))) [] [] 2
def Qob(t:Q0i):Tree Bool:=
.lf t.D5
def Qhr(t:Q0i):Bool:=(Qob t).m
def Z2g:Q0d:=mkR 99 [] true [.agg Q0i.sig] [] (λargs rows=>Qhr (Q0i.of (aC args 0))) (λX=> .bool X) (λX=>[])
theorem Z06:Q06 pG Z2g:=Q11 drawn Q0k (.nil) Tryz.func99 Tryz.call99 (λargs rows=>Qob (Q0i.of (aC args 0))) [] [] 2
def Qln(c:Q0c):Tree Bool:=
.lf (!decide (c.D3=[]))
def Q9t(c:Q0c):Bool:=(Qln c).m
def Qxv:Q0d:=mkR 100 [] true [.agg Q0c.sig] [] (λargs rows=>Q9t (Q0c.of (aC args 0))) (λX=> .bool X) (λX=>[])
theorem Qtx:Q06 pG Qxv:=Q11 drawn Q0k (.nil) Tryz.func100 Tryz.call100 (λargs rows=>Qln (Q0c.of (aC args 0))) [] [] 2
def Ql4(d0:Q0f):Tree Bool:=
.br (d0.C1==2) (.lf true) (.lf (d0.C1==3))
def Q9q(d0:Q0f):Bool:=(Ql4 d0).m
def Z5i:Q0d:=mkR 101 [] true [.agg Q0f.sig] [] (λargs rows=>Q9q (Q0f.of (aC args 0))) (λX=> .bool X) (λX=>[])
theorem Qp6:Q06 pG Z5i:=Q11 drawn Q0k (.nil) Tryz.func101 Tryz.call101 (λargs rows=>Ql4 (Q0f.of (aC args 0))) [] [] 2
def Quc(n:Q0r):Tree Bool:=
.lf n.B8
def Qmo(n:Q0r):Bool:=(Quc n).m
def Za6:Q0d:=mkR 102 [] true [.agg Q0r.sig] [] (λargs rows=>Qmo (Q0r.of (aC args 0))) (λX=> .bool X) (λX=>[])
theorem Z6o:Q06 pG Za6:=Q11 drawn Q0k (.nil) Tryz.func102 Tryz.call102 (λargs rows=>Quc (Q0r.of (aC args 0))) [] [] 2
def Q3g(x:Int):Tree Int:=
let E1:=(↑(List.length (List.append (List.append tblYc4 Qrf) (List.append Qrf Zgj))):Int); .cn (decide (0<=ishr u32 x 24/\ishr u32 x 24<E1)) (.cn (decide (0<=iand u32 (ishr u32 x 16) 255/\iand u32 (ishr u32 x 16) 255<E1)) (.cn (decide (0<=iand u32 (ishr u32 x 8) 255/\iand u32 (ishr u32 x 8) 255<E1)) (.cn (decide (0<=iand u32 x 255/\iand u32 x 255<E1)) (.lf (wrap i64 (wrap u8 (wrap u8 (wrap u8 ((↑(UInt8.toNat (List.getD ((0:UInt8)::(Zl5++Qrf++(Qrf++Zgj))) (Int.toNat (ishr u32 x 24)) (0:UInt8))):Int)+(↑(UInt8.toNat (List.getD ((0:UInt8)::(Zl5++Qrf++(Qrf++Zgj))) (Int.toNat (iand u32 (ishr u32 x 16) 255)) (0:UInt8))):Int))+(↑(UInt8.toNat (List.getD ((0:UInt8)::(Zl5++Qrf++(Qrf++Zgj))) (Int.toNat (iand u32 (ishr u32 x 8) 255)) (0:UInt8))):Int))+(↑(UInt8.toNat (List.getD ((0:UInt8)::(Zl5++Qrf++(Qrf++Zgj))) (Int.toNat (iand u32 x 255)) (0:UInt8))):Int))))))))
def Q6s(x:Int):Int:=(Q3g x).m
abbrev Qby(x:Int):Prop:=(Q3g x).p
def Qn3:Q0d:=mkP 229 [] true [.one (.int .u32)] [] (λargs rows=>Qby (argI args 0)) (λargs rows=>Q6s (argI args 0)) (λX=> .int .i64 X) (λX=>[])
theorem Ql6:Q06 pG Qn3:=Q0p drawn Q0k (.nil) Tryz.func229 Tryz.call229 (λargs rows=>Q3g (argI args 0)) [] [] 2
def Q9o(b:Q09):Tree Int:=
.an (Qby b.C2) (.lv (Q6s b.C2) λ(x0:Int)=> .lf x0)
def Qds(b:Q09):Int:=(Q9o b).m
abbrev Qfa(b:Q09):Prop:=(Q9o b).p
def Z2d:Q0d:=mkP 176 [] true [.agg Q09.sig] [] (λargs rows=>Qfa (Q09.of (aC args 0))) (λargs rows=>Qds (Q09.of (aC args 0))) (λX=> .int .i64 X) (λX=>[])
theorem Qnr:Q06 pG Z2d:=Q0p drawn Q0k (.cons Ql6 (.nil)) Tryz.func176 Tryz.call176 (λargs rows=>Q9o (Q09.of (aC args 0))) [] [] 2
def Q5p(b:Q09):Tree Bool:=
.an (Qfa b) (.lv (Qds b) λ(x0:Int)=> .lf (wrap u32 x0 !=b.D0))
def Q7x(b:Q09):Bool:=(Q5p b).m
abbrev Qjx(b:Q09):Prop:=(Q5p b).p
def Qwx:Q0d:=mkP 103 [] true [.agg Q09.sig] [] (λargs rows=>Qjx (Q09.of (aC args 0))) (λargs rows=>Q7x (Q09.of (aC args 0))) (λX=> .bool X) (λX=>[])
theorem Qug:Q06 pG Qwx:=Q0p drawn Q0k (.cons Qnr (.nil)) Tryz.func103 Tryz.call103 (λargs rows=>Q5p (Q09.of (aC args 0))) [] [] 2
def Qjs(m:Q00)(z:(Int)×(Int)):Nat:=(5-z.2).toNat
def Q7w(m:Q00):Tree Int:=
.lv (Qhr m.B0) λ(x0:Bool)=> .lv (Q9t m.A4) λ(x1:Bool)=> .lv (Q9q m.B1) λ(x2:Bool)=> .lv (Qmo m.C4) λ(x3:Bool)=> .an (Qjx m.A2) (.lv (Q7x m.A2) λ(x4:Bool)=> .lp inferInstance (Qjs m (0,0)+1) ((rE (0:Int)/\(rE (x0:Bool)/\rE (x1:Bool)/\rE (x2:Bool)/\rE (x3:Bool)/\rE (x4:Bool)/\True)/\rE (0:Int)/\True)/\True) (0,0) λ(v0:Int×Int)=> .br (decide (v0.2<5)) (.cn (Nat.beq 1 1&&(Nat.beq 5 5&&decide (0<=v0.2/\v0.2<(↑5:Int)))) (.br (List.getD [x0,x1,x2,x3,x4] v0.2.toNat false) (.cn (decide (0<=v0.2)) (.nx ((rE ((ior u32 v0.1 (ishl u32 1 v0.2)):Int)/\(rE (x0:Bool)/\rE (x1:Bool)/\rE (x2:Bool)/\rE (x3:Bool)/\rE (x4:Bool)/\True)/\rE ((wrap i64 (v0.2+1)):Int)/\True)/\True) (Sum.inl (ior u32 v0.1 (ishl u32 1 v0.2),wrap i64 (v0.2+1))))) (.nx ((rE v0.1/\(rE (x0:Bool)/\rE (x1:Bool)/\rE (x2:Bool)/\rE (x3:Bool)/\rE (x4:Bool)/\True)/\rE ((wrap i64 (v0.2+1)):Int)/\True)/\True) (Sum.inl (v0.1,wrap i64 (v0.2+1)))))) (.lf (Sum.inr v0.1)))
def Qef(m:Q00):Int:=(Q7w m).m
abbrev Qlq(m:Q00):Prop:=(Q7w m).p
def Z0e:LInv:={
 α:=(Int)×(Int)
 F:=λst a=>([(4, .int u32 a.1),(23,(lk st 23)),(24, .int i64 a.2)],[])
 a0:=λst=>((lk st 4).toInt,(lk st 24).toInt)
 ex0:=λst=>[]++[]}
def Qtc:List (Nat×LInv):=[(4,Z0e)]
def Z48:Q0d:=mkP 26 [] true [.agg Q00.sig] [] (λargs rows=>Qlq (Q00.of (aC args 0))) (λargs rows=>Qef (Q00.of (aC args 0))) (λX=> .int .u32 X) (λX=>[])
theorem Qzq:Q06 pG Z48:=Q0p drawn Q0k (.cons Z06 (.cons Qtx (.cons Qp6 (.cons Z6o (.cons Qug (.nil)))))) Tryz.func26 Tryz.call26 (λargs rows=>Q7w (Q00.of (aC args 0))) [] Qtc 3
def Q33(m:Q00):Tree Int:=
.an (Qlq m) (.lv (Qef m) λ(x0:Int)=> .lf (iand u32 x0 m.B2.B5.a7))
def Q5y(m:Q00):Int:=(Q33 m).m
abbrev Qct(m:Q00):Prop:=(Q33 m).p
def Qwi:Q0d:=mkP 110 [] true [.agg Q00.sig] [] (λargs rows=>Qct (Q00.of (aC args 0))) (λargs rows=>Q5y (Q00.of (aC args 0))) (λX=> .int .u32 X) (λX=>[])
theorem Qkg:Q06 pG Qwi:=Q0p drawn Q0k (.cons Qzq (.nil)) Tryz.func110 Tryz.call110 (λargs rows=>Q33 (Q00.of (aC args 0))) [] [] 2
def Q38(m:Q00):Tree Bool:=
.br m.A7 (.an (Qct m) (.lv (Q5y m) λ(x0:Int)=> .lf (x0==0))) (.lf false)
def Q4e(m:Q00):Bool:=(Q38 m).m
abbrev Q8m(m:Q00):Prop:=(Q38 m).p
def Z78:Q0d:=mkP 28 [] true [.agg Q00.sig] [] (λargs rows=>Q8m (Q00.of (aC args 0))) (λargs rows=>Q4e (Q00.of (aC args 0))) (λX=> .bool X) (λX=>[])
theorem Qiq:Q06 pG Z78:=Q0p drawn Q0k (.cons Qkg (.nil)) Tryz.func28 Tryz.call28 (λargs rows=>Q38 (Q00.of (aC args 0))) [] [] 2
end
noncomputable section
def Q42(m:Q00):Tree Bool:=
.an (Q46 m) (.lv (Q1f m) λ(x0:Bool)=> .br x0 (.br (!m.A9) (.an (Q8m m) (.lv (Q4e m) λ(x1:Bool)=> .br (!x1) (.lf (decide (m.A1<1152921504606846976))) (.lf false))) (.lf false)) (.lf false))
def Q2p(m:Q00):Bool:=(Q42 m).m
abbrev Qc5(m:Q00):Prop:=(Q42 m).p
def Z6h:Q0d:=mkP 112 [] true [.agg Q00.sig] [] (λargs rows=>Qc5 (Q00.of (aC args 0))) (λargs rows=>Q2p (Q00.of (aC args 0))) (λX=> .bool X) (λX=>[])
theorem Qox:Q06 pG Z6h:=Q0p drawn Q0k (.cons Qbi (.cons Qiq (.nil))) Tryz.func112 Tryz.call112 (λargs rows=>Q42 (Q00.of (aC args 0))) [] [] 2
def Qcj(m:Q00)(z:(Int)):Nat:=(5-z).toNat
def Q2w(m:Q00):Tree Q00:=
let E1:=({B2:=m.B2,Mem:=m.Mem,A4:=m.A4,B0:=m.B0,B1:=m.B1,C4:=m.C4,A2:=m.A2,A1:=m.A1,A7:=false,A9:=m.A9}:Q00); .br (iand u32 m.B2.B5.a0 (2:Int)==(0:Int)) (.lf (E1)) (.an (Qct E1) (.lv (Q5y E1) λ(x0:Int)=> .lp inferInstance (Qcj m 0+1) ((rZ/\rZ/\rE (x0:Int)/\rE (0:Int)/\True)/\(rE m.B2.X.a0/\rE m.B2.X.a1/\rE m.B2.X.a2/\rE m.B2.X.a3/\rE m.B2.X.a4/\rE m.B2.X.a5/\rE m.B2.X.a6/\rE m.B2.X.a7/\rE m.B2.X.a8/\rE m.B2.X.a9/\rE m.B2.X.a10/\rE m.B2.X.a11/\rE m.B2.X.a12/\rE m.B2.X.a13/\rE m.B2.X.a14/\rE m.B2.X.a15/\rE m.B2.Pc/\rE m.B2.B5.a0/\rE m.B2.B5.a1/\rE m.B2.B5.a2/\rE m.B2.B5.a3/\rE m.B2.B5.a4/\rE m.B2.B5.a5/\rE m.B2.B5.a6/\rE m.B2.B5.a7/\((Els.Nil (Els.ints u32 m.Mem)\/rE (1:Nat))/\rE m.Mem)/\rE m.A4.D3/\rE m.B0.D2/\rE m.B0.C9/\rE m.B0.D5/\rE m.B1.Blocks/\rE m.B1.C0/\rE m.B1.Frame/\rE m.B1.C1/\rE m.B1.D8/\rE m.B1.B7/\rE m.B1.B3/\rE m.B1.C3/\rE m.C4.Frame/\rE m.C4.E0/\rE m.C4.C6/\rE m.C4.B9/\rE m.C4.B8/\rE m.C4.F1/\rE m.A2.D0/\rE m.A2.C2/\rE m.A1/\rE (false:Bool)/\rE m.A9/\True)/\(mE zM True True)/\True) 0 λ(v0:Int)=> .br (decide (v0<5)) (.cn (decide (0<=v0)) (.br (iand u32 x0 (ishl u32 1 v0) !=0) (.lv (Q4v m.B2 (wrap i64 (16+v0)) 0) λ(x1:Q05)=> .lf (Sum.inr {B2:=x1,Mem:=m.Mem,A4:=m.A4,B0:=m.B0,B1:=m.B1,C4:=m.C4,A2:=m.A2,A1:=m.A1,A7:=false,A9:=m.A9})) (.nx ((rZ/\rZ/\rE (x0:Int)/\rE ((wrap i64 (v0+1)):Int)/\True)/\(rE m.B2.X.a0/\rE m.B2.X.a1/\rE m.B2.X.a2/\rE m.B2.X.a3/\rE m.B2.X.a4/\rE m.B2.X.a5/\rE m.B2.X.a6/\rE m.B2.X.a7/\rE m.B2.X.a8/\rE m.B2.X.a9/\rE m.B2.X.a10/\rE m.B2.X.a11/\rE m.B2.X.a12/\rE m.B2.X.a13/\rE m.B2.X.a14/\rE m.B2.X.a15/\rE m.B2.Pc/\rE m.B2.B5.a0/\rE m.B2.B5.a1/\rE m.B2.B5.a2/\rE m.B2.B5.a3/\rE m.B2.B5.a4/\rE m.B2.B5.a5/\rE m.B2.B5.a6/\rE m.B2.B5.a7/\((Els.Nil (Els.ints u32 m.Mem)\/rE (1:Nat))/\rE m.Mem)/\rE m.A4.D3/\rE m.B0.D2/\rE m.B0.C9/\rE m.B0.D5/\rE m.B1.Blocks/\rE m.B1.C0/\rE m.B1.Frame/\rE m.B1.C1/\rE m.B1.D8/\rE m.B1.B7/\rE m.B1.B3/\rE m.B1.C3/\rE m.C4.Frame/\rE m.C4.E0/\rE m.C4.C6/\rE m.C4.B9/\rE m.C4.B8/\rE m.C4.F1/\rE m.A2.D0/\rE m.A2.C2/\rE m.A1/\rE (false:Bool)/\rE m.A9/\True)/\(mE zM True True)/\True) (Sum.inl (wrap i64 (v0+1)))))) (.lf (Sum.inr E1))))
def Q1(m:Q00):Q00:=(Q2w m).m
abbrev Qak(m:Q00):Prop:=(Q2w m).p
def Z00:LInv:={
 α:=(Int)
 F:=λst a=>([(1, .ptr 0 0 0),(2, .ptr 1 0 0),(3,(lk st 3)),(15, .int i64 a)],[⟨true,43,49, .gen [mB (cT st 1)]⟩,⟨true,43,49, .gen [mB (cT st 2)]⟩])
 a0:=λst=>(lk st 15).toInt
 ex0:=λst=>[]++[(rX st 1 0),(rX st 2 1)]}
def Qut:List (Nat×LInv):=[(6,Z00)]
def Z4p:Q0d:=Q0d.fz<|mkP 113 [] false [.agg Q00.sig] [] (λargs rows=>Qak (Q00.of (aC args 0))) (λargs rows=>Q1 (Q00.of (aC args 0))) (λX=> .agg (Q00.cells X)) (λX=>[])
theorem Qnh:Q06 pG Z4p:=Zn7<|Q0p drawn Q0k (.cons Qkg (.cons Qjc (.nil))) Tryz.func113 Tryz.call113 (λargs rows=>Q2w (Q00.of (aC args 0))) [.sl (.ints .u32) false] Qut 3 (λ_ _ _=>by kernel_rfl) (λ_ _=>rfl) (λ_ _ h=>h) (λh=>by cases h)
def Qa8(c:Q0c)(port:Int):Tree (Q0c×Int):=
.br (port==0) (.br (decide (c.D3=[])) (.lf (c,4294967295)) (.cn (decide ((0:Int)<=(0:Int)/\0<(c.D3.length:Int))) (.cn (decide ((0:Int)<=(1:Int)/\1<=(c.D3.length:Int)/\(c.D3.length:Int)<=(c.D3.length:Int))) (.lf ({D3:=List.take (Int.toNat (c.D3.length:Int)-Int.toNat 1) (List.drop (Int.toNat 1) c.D3)},wrap u32 (↑(UInt8.toNat (c.D3.getD (Int.toNat 0) (0:UInt8))):Int)))))) (.br (port==1) (.lf (c,wrap u32 (c.D3.length:Int))) (.lf (c,0)))
def Qq7(c:Q0c)(port:Int):(Q0c×Int):=(Qa8 c port).m
theorem Z7(c:Q0c)(port:Int):(Qa8 c port).p:=by
 unfold Tree.p Qa8
 repeat'(first|exact trivial|refine w_br (λ_=> ?_) (λ_=> ?_)|refine w_cn ?_ ?_|refine w_an ?_ ?_|refine w_lv (λ_ _=> ?_)|refine w_nx ?_|refine w_lf ?_|refine And.intro ?_ ?_)
 all_goals(exact fin0)
def Ze0:Q0d:=mkR 195 [] true [.agg Q0c.sig, .one (.int .i64)] [] (λargs rows=>Qq7 (Q0c.of (aC args 0)) (argI args 1)) (λX=> .tup [.agg (Q0c.cells (X.1)), .int .u32 (X.2)]) (λX=>[])
theorem Za3:Q06 pG Ze0:=Q11 drawn Q0k (.nil) Tryz.func195 Tryz.call195 (λargs rows=>Qa8 (Q0c.of (aC args 0)) (argI args 1)) [] [] 2 (λ_ _ _=>by kernel_rfl) (λ_ _=>rfl) (λargs rows=>Z7 (Q0c.of (aC args 0)) (argI args 1)) (λ_ X=>by kernel_rfl)
def Qql(t:Q0i):Tree Int:=
.br t.D5 (.lf 1) (.lf 0)
def Z16(t:Q0i):Int:=(Qql t).m
def Znl:Q0d:=mkR 196 [] true [.agg Q0i.sig] [] (λargs rows=>Z16 (Q0i.of (aC args 0))) (λX=> .int .u32 X) (λX=>[])
theorem Zkf:Q06 pG Znl:=Q11 drawn Q0k (.nil) Tryz.func196 Tryz.call196 (λargs rows=>Qql (Q0i.of (aC args 0))) [] [] 2
def Qu3(d0:Q0f)(port:Int):Tree Int:=
.br (port==4) (.lf d0.C0) (.br (port==5) (.lf d0.Frame) (.br (port==6) (.lf (wrap u32 d0.C1)) (.lf 0)))
def Qy(d0:Q0f)(port:Int):Int:=(Qu3 d0 port).m
def qB:Q0d:=mkR 197 [] true [.agg Q0f.sig, .one (.int .i64)] [] (λargs rows=>Qy (Q0f.of (aC args 0)) (argI args 1)) (λX=> .int .u32 X) (λX=>[])
theorem Zp5:Q06 pG qB:=Q11 drawn Q0k (.nil) Tryz.func197 Tryz.call197 (λargs rows=>Qu3 (Q0f.of (aC args 0)) (argI args 1)) [] [] 2
def Qv5(n:Q0r)(port:Int):Tree Int:=
.br (port==7) (.lf n.Frame) (.br (port==8) (.lf n.F1) (.br (port==9) (.br n.C6 (.br n.B8 (.lf (wrap u32 (wrap u32 ((0:Int)+(1:Int))+2))) (.lf (wrap u32 ((0:Int)+(1:Int))))) (.br n.B8 (.lf (wrap u32 ((0:Int)+(2:Int)))) (.lf 0))) (.lf 0)))
def Z57(n:Q0r)(port:Int):Int:=(Qv5 n port).m
def yV:Q0d:=mkR 198 [] true [.agg Q0r.sig, .one (.int .i64)] [] (λargs rows=>Z57 (Q0r.of (aC args 0)) (argI args 1)) (λX=> .int .u32 X) (λX=>[])
theorem xB:Q06 pG yV:=Q11 drawn Q0k (.nil) Tryz.func198 Tryz.call198 (λargs rows=>Qv5 (Q0r.of (aC args 0)) (argI args 1)) [] [] 2
def Qcy(b:Q09)(port:Int):Tree Int:=
.br (port==10) (.lf b.D0) (.br (port==11) (.an (Qfa b) (.lv (Qds b) λ(x0:Int)=> .lf (wrap u32 x0))) (.lf 0))
def Qqh(b:Q09)(port:Int):Int:=(Qcy b port).m
abbrev Qrk(b:Q09)(port:Int):Prop:=(Qcy b port).p
def Zel:Q0d:=mkP 199 [] true [.agg Q09.sig, .one (.int .i64)] [] (λargs rows=>Qrk (Q09.of (aC args 0)) (argI args 1)) (λargs rows=>Qqh (Q09.of (aC args 0)) (argI args 1)) (λX=> .int .u32 X) (λX=>[])
theorem Zav:Q06 pG Zel:=Q0p drawn Q0k (.cons Qnr (.nil)) Tryz.func199 Tryz.call199 (λargs rows=>Qcy (Q09.of (aC args 0)) (argI args 1)) [] [] 2
def Q4q(m:Q00)(port:Int)(clock:Int):Tree (Q00×Int):=
let T1:Tree ((Q00×Int)):= .lv (Qq7 m.A4 port) λ(x0:Q0c×Int)=> .lf ({B2:=m.B2,Mem:=m.Mem,A4:=x0.1,B0:=m.B0,B1:=m.B1,C4:=m.C4,A2:=m.A2,A1:=m.A1,A7:=m.A7,A9:=m.A9},x0.2); .br (port==0) T1 (.br (port==1) T1 (.br (port==2) (.lf (m,clock)) (.br (port==3) (.lv (Z16 m.B0) λ(x2:Int)=> .lf (m,x2)) (.br (port==4) (.lv (Qy m.B1 port) λ(x3:Int)=> .lf (m,x3)) (.br (port==5) (.lv (Qy m.B1 port) λ(x4:Int)=> .lf (m,x4)) (.br (port==6) (.lv (Qy m.B1 port) λ(x5:Int)=> .lf (m,x5)) (.br (port==7) (.lv (Z57 m.C4 port) λ(x6:Int)=> .lf (m,x6)) (.br (port==8) (.lv (Z57 m.C4 port) λ(x7:Int)=> .lf (m,x7)) (.br (port==9) (.lv (Z57 m.C4 port) λ(x8:Int)=> .lf (m,x8)) (let T2:Tree ((Q00×Int)):= .an (Qrk m.A2 port) (.lv (Qqh m.A2 port) λ(x9:Int)=> .lf (m,x9)); .br (port==10) T2 (.br (port==11) T2 (.lf (m,0)))))))))))))
def Q1j(m:Q00)(port:Int)(clock:Int):(Q00×Int):=(Q4q m port clock).m
abbrev Qhc(m:Q00)(port:Int)(clock:Int):Prop:=(Q4q m port clock).p
def Qtb:Q0d:=Q0d.fz<|mkP 134 [] false [.agg Q00.sig, .one (.int .i64), .one (.int .u32)] [] (λargs rows=>Qhc (Q00.of (aC args 0)) (argI args 1) (argI args 2)) (λargs rows=>Q1j (Q00.of (aC args 0)) (argI args 1) (argI args 2)) (λX=> .tup [.agg (Q00.cells (X.1)), .int .u32 (X.2)]) (λX=>[])
theorem Qs7:Q06 pG Qtb:=Zn7<|Q0p drawn Q0k (.cons Za3 (.cons Zkf (.cons Zp5 (.cons xB (.cons Zav (.nil)))))) Tryz.func134 Tryz.call134 (λargs rows=>Q4q (Q00.of (aC args 0)) (argI args 1) (argI args 2)) [.sl (.ints .u32) false] [] 2 (λ_ _ _=>by kernel_rfl) (λ_ _=>rfl) (λ_ _ h=>h) (λh=>by cases h)
def Qn0(t:Q0i)(deadline:Int):Tree Q0i:=
.lf ({D2:=deadline !=0,C9:=deadline,D5:=false})
def Qm6(t:Q0i)(deadline:Int):Q0i:=(Qn0 t deadline).m
def Zjy:Q0d:=mkR 200 [] true [.agg Q0i.sig, .one (.int .u32)] [] (λargs rows=>Qm6 (Q0i.of (aC args 0)) (argI args 1)) (λX=> .agg (Q0i.cells X)) (λX=>[])
theorem Zft:Q06 pG Zjy:=Q11 drawn Q0k (.nil) Tryz.func200 Tryz.call200 (λargs rows=>Qn0 (Q0i.of (aC args 0)) (argI args 1)) [] [] 2
def Qea(m:(List Int))(frame:Int):Tree Bool:=
.lv (Q0y m) λ(x0:Int)=> .lf (decide (wrap u64 frame<wrap u64 x0))
def Qa3(m:(List Int))(frame:Int):Bool:=(Qea m frame).m
def Zcm:Q0d:=mkR 193 [] true [.one (.ints .u32), .one (.int .u32)] [] (λargs rows=>Qa3 (argL .u32 args 0) (argI args 1)) (λX=> .bool X) (λX=>[])
theorem Qri:Q06 pG Zcm:=Q11 drawn Q0k (.cons Q47 (.nil)) Tryz.func193 Tryz.call193 (λargs rows=>Qea (argL .u32 args 0) (argI args 1)) [] [] 2
def Q8o(m:(List Int))(frame:Int):Tree Bool:=
.br (decide (frame>=0)) (.lv (Q0y m) λ(x0:Int)=> .lf (decide (frame<x0))) (.lf false)
def Q5k(m:(List Int))(frame:Int):Bool:=(Q8o m frame).m
def Z0c:Q0d:=mkR 208 [] true [.one (.ints .u32), .one (.int .i64)] [] (λargs rows=>Q5k (argL .u32 args 0) (argI args 1)) (λX=> .bool X) (λX=>[])
theorem Ql7:Q06 pG Z0c:=Q11 drawn Q0k (.cons Q47 (.nil)) Tryz.func208 Tryz.call208 (λargs rows=>Q8o (argL .u32 args 0) (argI args 1)) [] [] 2
def Qnl(words:(List Int))(z:(Int)×(List Int)):Prop:=0<=z.1/\z.1<=words.length/\(z.2.length:Int)=4*z.1
def Q7v(words:(List Int))(z:(Int)×(List Int)):Nat:=(words.length-z.1).toNat
def Q58(words:(List Int)):Tree (List UInt8):=
.cn (Nat.blt 0 1&&Nat.beq 1 1&&List.all [D.int u8 0] D.plain&&decide ((0:Int)<=(0:Int)/\0<=wrap i64 (4*(words.length:Int))/\wrap i64 (4*(words.length:Int))<=9223372036854775807/\(↑1:Int)*wrap i64 (4*(words.length:Int))<=140737488355328)) (.lp inferInstance (Q7v words (0,[])+1) ((True/\((Els.Nil (Els.ints u32 words)\/rE (1:Nat))/\rE (words:List Int))/\rE ((words.length:Int):Int)/\rE (0:Int)/\True)/\rE ([]:List Int)/\True) (0,[]) λ(v0:Int×List Int)=> .br (decide (v0.1<(words.length:Int))) (.cn (Nat.beq 1 1&&Nat.blt 0 1&&decide (0<=v0.1/\v0.1<(words.length:Int))) (.cn (decide (1*(v0.2.length+4)<=140737488355328)) (let E1:=words.getD v0.1.toNat 0; .nx ((True/\((Els.Nil (Els.ints u32 words)\/rE (1:Nat))/\rE (words:List Int))/\rE ((words.length:Int):Int)/\rE ((wrap i64 (v0.1+1)):Int)/\True)/\rE ((v0.2++[wrap u8 (words.getD v0.1.toNat 0),wrap u8 (ishr u32 (words.getD v0.1.toNat 0) 8),wrap u8 (ishr u32 (words.getD v0.1.toNat 0) 16),wrap u8 (ishr u32 (words.getD v0.1.toNat 0) 24)]):List Int)/\True) (Sum.inl (wrap i64 (v0.1+1),v0.2++[wrap u8 E1,wrap u8 (ishr u32 E1 8),wrap u8 (ishr u32 E1 16),wrap u8 (ishr u32 E1 24)]))))) (.lf (Sum.inr (bytesOf v0.2))))
def Z55(words:(List Int)):(List UInt8):=(Q58 words).m
def Qe6(words:(List Int)):Prop:=
words.length<=1000000000000
theorem Z25(words:(List Int))(hw:Qe6 words):(Q58 words).p:=by
 simp only[Qe6]at hw
 unfold Tree.p Q58
 repeat'(first|refine w_lp (inv:=Qnl words) (μ:=Q7v words) ?_ (Nat.lt_succ_self _) (λ_ _=> ?_)|exact trivial|refine w_br (λ_=> ?_) (λ_=> ?_)|refine w_cn ?_ ?_|refine w_an ?_ ?_|refine w_lv (λ_ _=> ?_)|refine w_nx ?_|refine w_lf ?_|refine And.intro ?_ ?_)
 all_goals((try simp only[Qnl,Q7v]at*);exact fin0)
def Z5o:LInv:={
 α:=(Int)×(List Int)
 F:=λst a=>([(3, .all 0),(10,(lk st 10)),(11,(lk st 11)),(12, .int i64 a.1)],[⟨false,5,1, .ints u8 a.2⟩])
 a0:=λst=>((lk st 12).toInt,(Q5d st.rows (rN st 3)))
 ex0:=λst=>[]++[(rX st 3 0)]}
def Z0k:List (Nat×LInv):=[(3,Z5o)]
def Z9t:Q0d:=mkP 209 [] true [.one (.ints .u32)] [] (λargs rows=>Qe6 (argL .u32 args 0)) (λargs rows=>Z55 (argL .u32 args 0)) (λX=> .str X) (λX=>[])
theorem Z6j:Q06 pG Z9t:=Q0p drawn Q0k (.nil) Tryz.func209 Tryz.call209 (λargs rows=>Q58 (argL .u32 args 0)) [] Z0k 3 (hp:=λargs rows h=>Z25 (argL .u32 args 0) h)
def Q71(m:(List Int))(frame:Int):Tree ((List UInt8)×Bool):=
.lv (Q5k m frame) λ(x0:Bool)=> .br (!x0) (.lf ([],false)) (.cn (Nat.beq 1 1&&Nat.blt 0 1&&decide (0<=wrap i64 (frame*32)/\wrap i64 (frame*32)<=wrap i64 (wrap i64 (frame*32)+32)/\wrap i64 (wrap i64 (frame*32)+32)<=(m.length:Int))) (let E1:=List.take (Int.toNat (wrap i64 (wrap i64 (frame*32)+32))-Int.toNat (wrap i64 (frame*32))) (List.drop (Int.toNat (wrap i64 (frame*32))) m); .an (Qe6 E1) (.lv (Z55 E1) λ(x1:List UInt8)=> .lf (x1,true))))
def Q5w(m:(List Int))(frame:Int):((List UInt8)×Bool):=(Q71 m frame).m
abbrev Qed(m:(List Int))(frame:Int):Prop:=(Q71 m frame).p
def Zah:Q0d:=mkP 143 [] true [.one (.ints .u32), .one (.int .i64)] [] (λargs rows=>Qed (argL .u32 args 0) (argI args 1)) (λargs rows=>Q5w (argL .u32 args 0) (argI args 1)) (λX=> .tup [.str (X.1), .bool (X.2)]) (λX=>[])
theorem Qkt:Q06 pG Zah:=Q0p drawn Q0k (.cons Ql7 (.cons Z6j (.nil))) Tryz.func143 Tryz.call143 (λargs rows=>Q71 (argL .u32 args 0) (argI args 1)) [] [] 2
def Qrn(d0:Q0f)(at0:Int):Tree (Q04×Bool):=
.br (d0.C1 !=1) (.lf ({B6:=0,At:=0,C0:=0,C8:=[]},false)) (.br (d0.D8==1) (.lf ({B6:=3,At:=at0,C0:=d0.B7,C8:=[]},true)) (.br (d0.D8==2) (.lf ({B6:=4,At:=at0,C0:=d0.B7,C8:=d0.C3},true)) (.lf ({B6:=0,At:=0,C0:=0,C8:=[]},false))))
def Qkb(d0:Q0f)(at0:Int):(Q04×Bool):=(Qrn d0 at0).m
def Z62:Q0d:=mkR 287 [] true [.agg Q0f.sig, .one (.int .u64)] [] (λargs rows=>Qkb (Q0f.of (aC args 0)) (argI args 1)) (λX=> .tup [.agg (Q04.cells (X.1)), .bool (X.2)]) (λX=>[])
theorem Z26:Q06 pG Z62:=Q11 drawn Q0k (.nil) Tryz.func287 Tryz.call287 (λargs rows=>Qrn (Q0f.of (aC args 0)) (argI args 1)) [] [] 2
def Qd0(d0:Q0f)(m:(List Int))(cmd:Int)(at0:Int):Tree (Q0f×(List Q04)):=
.br (d0.C1 !=0) (.lf (d0,[])) (let T1:Tree ((Q0f×(List Q04))):= .lf ({Blocks:=d0.Blocks,C0:=d0.C0,Frame:=d0.Frame,C1:=3,D8:=d0.D8,B7:=d0.B7,B3:=d0.B3,C3:=d0.C3},[]); .br (decide (d0.C0>=d0.Blocks)) T1 (.lv (Qa3 m d0.Frame) λ(x0:Bool)=> .br (!x0) T1 (.br (cmd==2) (.an (Qed m (wrap i64 d0.Frame)) (.lv (Q5w m (wrap i64 d0.Frame)) λ(x1:List UInt8×Bool)=>let E2:=({Blocks:=d0.Blocks,C0:=d0.C0,Frame:=d0.Frame,C1:=1,D8:=cmd,B7:=d0.C0,B3:=d0.Frame,C3:=x1.1}:Q0f); .lv (Qkb E2 at0) λ(x2:Q04×Bool)=> .lf (E2,[x2.1]))) (let E3:=({Blocks:=d0.Blocks,C0:=d0.C0,Frame:=d0.Frame,C1:=1,D8:=cmd,B7:=d0.C0,B3:=d0.Frame,C3:=[]}:Q0f); .lv (Qkb E3 at0) λ(x3:Q04×Bool)=> .lf (E3,[x3.1])))))
def Qy3(d0:Q0f)(m:(List Int))(cmd:Int)(at0:Int):(Q0f×(List Q04)):=(Qd0 d0 m cmd at0).m
abbrev Qr9(d0:Q0f)(m:(List Int))(cmd:Int)(at0:Int):Prop:=(Qd0 d0 m cmd at0).p
def Zdr:Q0d:=mkP 251 [] true [.agg Q0f.sig, .one (.ints .u32), .one (.int .i64), .one (.int .u64)] [] (λargs rows=>Qr9 (Q0f.of (aC args 0)) (argL .u32 args 1) (argI args 2) (argI args 3)) (λargs rows=>Qy3 (Q0f.of (aC args 0)) (argL .u32 args 1) (argI args 2) (argI args 3)) (λX=> .tup [.agg (Q0f.cells (X.1)), .sl 4 (.recs .apiOutput (X.2)) true]) (λX=>[])
theorem Zab:Q06 pG Zdr:=Q0p drawn Q0k (.cons Qri (.cons Qkt (.cons Z26 (.nil)))) Tryz.func251 Tryz.call251 (λargs rows=>Qd0 (Q0f.of (aC args 0)) (argL .u32 args 1) (argI args 2) (argI args 3)) [.sl (.recs .apiOutput) true] [] 2
def Qhv(d0:Q0f)(m:(List Int))(port:Int)(v:Int)(at0:Int):Tree (Q0f×(List Q04)):=
.br (port==4) (.lf ({Blocks:=d0.Blocks,C0:=v,Frame:=d0.Frame,C1:=d0.C1,D8:=d0.D8,B7:=d0.B7,B3:=d0.B3,C3:=d0.C3},[])) (.br (port==5) (.lf ({Blocks:=d0.Blocks,C0:=d0.C0,Frame:=v,C1:=d0.C1,D8:=d0.D8,B7:=d0.B7,B3:=d0.B3,C3:=d0.C3},[])) (.br (port==6) (let T1:Tree ((Q0f×(List Q04))):= .an (Qr9 d0 m (wrap i64 v) at0) (.lv (Qy3 d0 m (wrap i64 v) at0) λ(x0:Q0f×List Q04)=> .lf (x0.1,x0.2)); .br (v==1) T1 (.br (v==2) T1 (.br (v==0) (.lv (Q9q d0) λ(x2:Bool)=> .br x2 (.lf ({Blocks:=d0.Blocks,C0:=d0.C0,Frame:=d0.Frame,C1:=0,D8:=d0.D8,B7:=d0.B7,B3:=d0.B3,C3:=d0.C3},[])) (.lf (d0,[]))) (.lf (d0,[]))))) (.lf (d0,[]))))
def Z1e(d0:Q0f)(m:(List Int))(port:Int)(v:Int)(at0:Int):(Q0f×(List Q04)):=(Qhv d0 m port v at0).m
abbrev Qyz(d0:Q0f)(m:(List Int))(port:Int)(v:Int)(at0:Int):Prop:=(Qhv d0 m port v at0).p
def Zpk:Q0d:=mkP 201 [] true [.agg Q0f.sig, .one (.ints .u32), .one (.int .i64), .one (.int .u32), .one (.int .u64)] [] (λargs rows=>Qyz (Q0f.of (aC args 0)) (argL .u32 args 1) (argI args 2) (argI args 3) (argI args 4)) (λargs rows=>Z1e (Q0f.of (aC args 0)) (argL .u32 args 1) (argI args 2) (argI args 3) (argI args 4)) (λX=> .tup [.agg (Q0f.cells (X.1)), .sl 4 (.recs .apiOutput (X.2)) true]) (λX=>[])
theorem Zit:Q06 pG Zpk:=Q0p drawn Q0k (.cons Zab (.cons Qp6 (.nil))) Tryz.func201 Tryz.call201 (λargs rows=>Qhv (Q0f.of (aC args 0)) (argL .u32 args 1) (argI args 2) (argI args 3) (argI args 4)) [.sl (.recs .apiOutput) true] [] 2
def Qgt(m:(List Int))(frame:Int):Tree Bool:=
.lv (Q0y m) λ(x0:Int)=> .lf (decide (wrap u64 frame<wrap u64 x0))
def Qad(m:(List Int))(frame:Int):Bool:=(Qgt m frame).m
def Zg5:Q0d:=mkR 194 [] true [.one (.ints .u32), .one (.int .u32)] [] (λargs rows=>Qad (argL .u32 args 0) (argI args 1)) (λX=> .bool X) (λX=>[])
theorem Qmz:Q06 pG Zg5:=Q11 drawn Q0k (.cons Q47 (.nil)) Tryz.func194 Tryz.call194 (λargs rows=>Qgt (argL .u32 args 0) (argI args 1)) [] [] 2
def Qhy(n:Q0r)(m:(List Int))(at0:Int):Tree (List Q04):=
.br (decide (n.E0<1)) (.lf ([])) (.br (decide (n.E0>128)) (.lf ([])) (.lv (Qad m n.Frame) λ(x0:Bool)=> .br (!x0) (.lf ([])) (.an (Qed m (wrap i64 n.Frame)) (.lv (Q5w m (wrap i64 n.Frame)) λ(x1:List UInt8×Bool)=> .cn (decide ((0:Int)<=(0:Int)/\0<=n.E0/\n.E0<=(x1.1.length:Int))) (.lf ([{B6:=2,At:=at0,C0:=0,C8:=List.take (Int.toNat n.E0-Int.toNat 0) (List.drop (Int.toNat 0) x1.1)}]))))))
def Za2(n:Q0r)(m:(List Int))(at0:Int):(List Q04):=(Qhy n m at0).m
abbrev Qza(n:Q0r)(m:(List Int))(at0:Int):Prop:=(Qhy n m at0).p
def Zoz:Q0d:=mkP 252 [] true [.agg Q0r.sig, .one (.ints .u32), .one (.int .u64)] [] (λargs rows=>Qza (Q0r.of (aC args 0)) (argL .u32 args 1) (argI args 2)) (λargs rows=>Za2 (Q0r.of (aC args 0)) (argL .u32 args 1) (argI args 2)) (λX=> .sl 4 (.recs .apiOutput X) true) (λX=>[])
theorem Zko:Q06 pG Zoz:=Q0p drawn Q0k (.cons Qmz (.cons Qkt (.nil))) Tryz.func252 Tryz.call252 (λargs rows=>Qhy (Q0r.of (aC args 0)) (argL .u32 args 1) (argI args 2)) [.sl (.recs .apiOutput) true] [] 2
def Qm1(n:Q0r)(m:(List Int))(port:Int)(v:Int)(at0:Int):Tree (Q0r×(List Q04)):=
.br (port==7) (.lf ({Frame:=v,E0:=n.E0,C6:=n.C6,B9:=n.B9,B8:=n.B8,F1:=n.F1},[])) (.br (port==8) (.lf ({Frame:=n.Frame,E0:=v,C6:=n.C6,B9:=n.B9,B8:=n.B8,F1:=n.F1},[])) (.br (port==9) (.br (v==1) (.an (Qza n m at0) (.lv (Za2 n m at0) λ(x0:List Q04)=> .lf (n,x0))) (.br (v==2) (.lv (Qad m n.Frame) λ(x1:Bool)=> .br x1 (.br (!n.C6) (.br (!n.B8) (.lf ({Frame:=n.Frame,E0:=n.E0,C6:=true,B9:=n.Frame,B8:=n.B8,F1:=n.F1},[])) (.lf (n,[]))) (.lf (n,[]))) (.lf (n,[]))) (.br (v==0) (.lf ({Frame:=n.Frame,E0:=n.E0,C6:=n.C6,B9:=n.B9,B8:=false,F1:=0},[])) (.lf (n,[]))))) (.lf (n,[]))))
def Zbu(n:Q0r)(m:(List Int))(port:Int)(v:Int)(at0:Int):(Q0r×(List Q04)):=(Qm1 n m port v at0).m
abbrev Z3p(n:Q0r)(m:(List Int))(port:Int)(v:Int)(at0:Int):Prop:=(Qm1 n m port v at0).p
def zB:Q0d:=mkP 202 [] true [.agg Q0r.sig, .one (.ints .u32), .one (.int .i64), .one (.int .u32), .one (.int .u64)] [] (λargs rows=>Z3p (Q0r.of (aC args 0)) (argL .u32 args 1) (argI args 2) (argI args 3) (argI args 4)) (λargs rows=>Zbu (Q0r.of (aC args 0)) (argL .u32 args 1) (argI args 2) (argI args 3) (argI args 4)) (λX=> .tup [.agg (Q0r.cells (X.1)), .sl 4 (.recs .apiOutput (X.2)) true]) (λX=>[])
theorem Zpr:Q06 pG zB:=Q0p drawn Q0k (.cons Zko (.cons Qmz (.nil))) Tryz.func202 Tryz.call202 (λargs rows=>Qm1 (Q0r.of (aC args 0)) (argL .u32 args 1) (argI args 2) (argI args 3) (argI args 4)) [.sl (.recs .apiOutput) true] [] 2
def Qb2(m:(List Int))(frame:Int)(s:(List UInt8))(z:(Int)×(List Int)):Nat:=(32-z.1).toNat
def Q3l(m:(List Int))(frame:Int)(s:(List UInt8)):Tree ((List Int)×Bool):=
.an (Q08 m) (.lv (Q03 m) λ(x0:List Int)=> .lv (Q5k m frame) λ(x1:Bool)=> .br (!x1) (.lf (x0,false)) (.br ((s.length:Int) !=(128:Int)) (.lf (x0,false)) (.lp inferInstance (Qb2 m frame s (0,x0)+1) ((rE (s:List UInt8)/\True/\rE ((wrap i64 (frame*32)):Int)/\rE (0:Int)/\True)/\rE (x0:List Int)/\True) (0,x0) λ(v0:Int×List Int)=> .br (decide (v0.1<32)) (.cn (decide (0<=wrap i64 (4*v0.1)/\wrap i64 (4*v0.1)<=wrap i64 (wrap i64 (4*v0.1)+4)/\wrap i64 (wrap i64 (4*v0.1)+4)<=(s.length:Int))) (let E1:=List.take (Int.toNat (wrap i64 (wrap i64 (4*v0.1)+4))-Int.toNat (wrap i64 (4*v0.1))) (List.drop (Int.toNat (wrap i64 (4*v0.1))) s); .cn (decide ((0:Int)<=(0:Int)/\0<(↑(List.length E1):Int))) (.cn (decide ((0:Int)<=(1:Int)/\1<(↑(List.length E1):Int))) (.cn (decide ((0:Int)<=(2:Int)/\2<(↑(List.length E1):Int))) (.cn (decide ((0:Int)<=(3:Int)/\3<(↑(List.length E1):Int))) (.cn (Nat.beq 1 1&&Nat.blt 0 1&&decide (0<=wrap i64 (wrap i64 (frame*32)+v0.1)/\wrap i64 (wrap i64 (frame*32)+v0.1)<(v0.2.length:Int))) (.nx ((rE (s:List UInt8)/\True/\rE ((wrap i64 (frame*32)):Int)/\rE ((wrap i64 (v0.1+1)):Int)/\True)/\rE ((List.set v0.2 (Int.toNat (wrap i64 (wrap i64 (frame*32)+v0.1))) (ior u32 (ior u32 (ior u32 (wrap u32 (↑(UInt8.toNat (List.getD (List.take (Int.toNat (wrap i64 (wrap i64 (4*v0.1)+4))-Int.toNat (wrap i64 (4*v0.1))) (List.drop (Int.toNat (wrap i64 (4*v0.1))) s)) (Int.toNat 0) (0:UInt8))):Int)) (ishl u32 (wrap u32 (↑(UInt8.toNat (List.getD (List.take (Int.toNat (wrap i64 (wrap i64 (4*v0.1)+4))-Int.toNat (wrap i64 (4*v0.1))) (List.drop (Int.toNat (wrap i64 (4*v0.1))) s)) (Int.toNat 1) (0:UInt8))):Int)) 8)) (ishl u32 (wrap u32 (↑(UInt8.toNat (List.getD (List.take (Int.toNat (wrap i64 (wrap i64 (4*v0.1)+4))-Int.toNat (wrap i64 (4*v0.1))) (List.drop (Int.toNat (wrap i64 (4*v0.1))) s)) (Int.toNat 2) (0:UInt8))):Int)) 16)) (ishl u32 (wrap u32 (↑(UInt8.toNat (List.getD (List.take (Int.toNat (wrap i64 (wrap i64 (4*v0.1)+4))-Int.toNat (wrap i64 (4*v0.1))) (List.drop (Int.toNat (wrap i64 (4*v0.1))) s)) (Int.toNat 3) (0:UInt8))):Int)) 24))):List Int)/\True) (Sum.inl (wrap i64 (v0.1+1),List.set v0.2 (Int.toNat (wrap i64 (wrap i64 (frame*32)+v0.1))) (ior u32 (ior u32 (ior u32 (wrap u32 (↑(UInt8.toNat (List.getD E1 (Int.toNat 0) (0:UInt8))):Int)) (ishl u32 (wrap u32 (↑(UInt8.toNat (List.getD E1 (Int.toNat 1) (0:UInt8))):Int)) 8)) (ishl u32 (wrap u32 (↑(UInt8.toNat (List.getD E1 (Int.toNat 2) (0:UInt8))):Int)) 16)) (ishl u32 (wrap u32 (↑(UInt8.toNat (List.getD E1 (Int.toNat 3) (0:UInt8))):Int)) 24))))))))))) (.lf (Sum.inr (v0.2,true))))))
def Q2u(m:(List Int))(frame:Int)(s:(List UInt8)):((List Int)×Bool):=(Q3l m frame s).m
abbrev Q99(m:(List Int))(frame:Int)(s:(List UInt8)):Prop:=(Q3l m frame s).p
def Qxw:LInv:={
 α:=(Int)×(List Int)
 F:=λst a=>([(2,(lk st 2)),(8, .all 0),(9,(lk st 9)),(26, .int i64 a.1)],[⟨false,25,1, .ints u32 a.2⟩])
 a0:=λst=>((lk st 26).toInt,(Q5d st.rows (rN st 8)))
 ex0:=λst=>[]++[(rX st 8 0)]}
def Qsz:List (Nat×LInv):=[(6,Qxw)]
def Z01:Q0d:=mkP 144 [] true [.one (.ints .u32), .one (.int .i64), .one (.str)] [] (λargs rows=>Q99 (argL .u32 args 0) (argI args 1) (argS args 2)) (λargs rows=>Q2u (argL .u32 args 0) (argI args 1) (argS args 2)) (λX=> .tup [.all 0, .bool (X.2)]) (λX=>[⟨false,25,1, .ints .u32 (X.1)⟩])
theorem Qf0:Q06 pG Z01:=Q0p drawn Q0k (.cons Q0w (.cons Ql7 (.nil))) Tryz.func144 Tryz.call144 (λargs rows=>Q3l (argL .u32 args 0) (argI args 1) (argS args 2)) [.row 25 1 (.ints .u32)] Qsz 3
def strings_Repeat(s:(List UInt8))(count:Int):(List UInt8):=
Lib.repeatL s count.toNat
def Qe7(s:(List UInt8))(count:Int):Prop:=
0<=count/\count<=9223372036854775807/\s.length*count.toNat<=140737488355328
def Qjy(s:(List UInt8))(count:Int):List D:=[.str s, .int .i64 count]
def Qij(s:(List UInt8))(count:Int):List Row:=[]
def Qe(X:(List UInt8)):D:= .str X
def Qdi(X:(List UInt8)):List Row:=[]
def Qkm:List PT:=[.one (.str), .one (.int .i64)]
def Qjr:List RT:=[]
def Qvj(args:List D)(rows:List Row):(List UInt8):=strings_Repeat (argS args 0) (argI args 1)
def Qvd(args:List D)(rows:List Row):Prop:=Qe7 (argS args 0) (argI args 1)
def Qzt:Q0d:=mkP 253 [] true Qkm Qjr Qvd Qvj Qe Qdi
theorem Qqt(s:(List UInt8))(count:Int)(hw:Qe7 s count):Q4c pG 253 (Qjy s count) (Qij s count) (Qe (strings_Repeat s count)) (Qdi (strings_Repeat s count)):=by
 exact vc Tryz.strings_Repeat hw.1 hw.2.1 hw.2.2
set_option maxRecDepth 100000 in
theorem Qsh(args:List D)(rows:List Row):Qg9 Qkm args 0=Qjy (argS args 0) (argI args 1):=by kernel_rfl
set_option maxRecDepth 100000 in
theorem Qqw(args:List D)(rows:List Row):Q67 Qjr rows 0=Qij (argS args 0) (argI args 1):=by kernel_rfl
set_option maxRecDepth 100000 in
theorem Qwv(X:(List UInt8)):(ffB (Qe X)&&ffBR (Qdi X))=true:=by kernel_rfl
theorem Qx3:Q06 pG Qzt:=Qyx Tryz.call253 (λargs rows hp=>by rw[Qsh args rows,Qqw args rows];exact Qqt (argS args 0) (argI args 1) hp) (λ_ X=>Qwv X)
def Q41(b:Q09)(m:(List Int))(port:Int)(v:Int):Tree (Q09×(List Int)):=
let T1:Tree ((Q09×(List Int))):= .an (Q08 m) (.lv (Q03 m) λ(x0:List Int)=> .lf (b,x0)); .br (decide (v>=32)) T1 (.cn (decide (0<=v)) (.br (port==10) (.lv (Q0y m) λ(x1:Int)=> .br (decide (wrap i64 v<x1)) (.br (iand u32 b.C2 (ishl u32 1 v)==0) (.an (Qe7 [(0:UInt8)] 128) (.lv (strings_Repeat [(0:UInt8)] 128) λ(x2:List UInt8)=> .an (Q99 m (wrap i64 v) x2) (.lv (Q2u m (wrap i64 v) x2) λ(x3:List Int×Bool)=> .lf ({D0:=b.D0,C2:=ior u32 b.C2 (ishl u32 1 v)},x3.1)))) T1) T1) (.br (port==11) (.an (Q08 m) (.lv (Q03 m) λ(x6:List Int)=> .lf ({D0:=b.D0,C2:=Qhk u32 b.C2 (ishl u32 1 v)},x6))) T1)))
def Q8d(b:Q09)(m:(List Int))(port:Int)(v:Int):(Q09×(List Int)):=(Q41 b m port v).m
abbrev Qoy(b:Q09)(m:(List Int))(port:Int)(v:Int):Prop:=(Q41 b m port v).p
def Zci:Q0d:=mkP 203 [] true [.agg Q09.sig, .one (.ints .u32), .one (.int .i64), .one (.int .u32)] [] (λargs rows=>Qoy (Q09.of (aC args 0)) (argL .u32 args 1) (argI args 2) (argI args 3)) (λargs rows=>Q8d (Q09.of (aC args 0)) (argL .u32 args 1) (argI args 2) (argI args 3)) (λX=> .tup [.agg (Q09.cells (X.1)), .all 0]) (λX=>[⟨false,25,1, .ints .u32 (X.2)⟩])
theorem Z5w:Q06 pG Zci:=Q0p drawn Q0k (.cons Q0w (.cons Q47 (.cons Qf0 (.cons Qx3 (.nil))))) Tryz.func203 Tryz.call203 (λargs rows=>Q41 (Q09.of (aC args 0)) (argL .u32 args 1) (argI args 2) (argI args 3)) [.row 25 1 (.ints .u32)] [] 2
def Q3t(m:Q00)(port:Int)(v:Int)(at0:Int):Tree (Q00×(List Q04)):=
.br (port==0) (.lf (m,[{B6:=1,At:=at0,C0:=0,C8:=[(λ(n:Int)=>UInt8.ofNat n.toNat) (wrap u8 v)]}])) (.br (port==3) (.lv (Qm6 m.B0 v) λ(x0:Q0i)=> .lf ({B2:=m.B2,Mem:=m.Mem,A4:=m.A4,B0:=x0,B1:=m.B1,C4:=m.C4,A2:=m.A2,A1:=m.A1,A7:=m.A7,A9:=m.A9},[])) (let T1:Tree ((Q00×(List Q04))):= .an (Qyz m.B1 m.Mem port v at0) (.lv (Z1e m.B1 m.Mem port v at0) λ(x1:Q0f×List Q04)=> .lf ({B2:=m.B2,Mem:=m.Mem,A4:=m.A4,B0:=m.B0,B1:=x1.1,C4:=m.C4,A2:=m.A2,A1:=m.A1,A7:=m.A7,A9:=m.A9},x1.2)); .br (port==4) T1 (.br (port==5) T1 (.br (port==6) T1 (let T2:Tree ((Q00×(List Q04))):= .an (Z3p m.C4 m.Mem port v at0) (.lv (Zbu m.C4 m.Mem port v at0) λ(x4:Q0r×List Q04)=> .lf ({B2:=m.B2,Mem:=m.Mem,A4:=m.A4,B0:=m.B0,B1:=m.B1,C4:=x4.1,A2:=m.A2,A1:=m.A1,A7:=m.A7,A9:=m.A9},x4.2)); .br (port==7) T2 (.br (port==8) T2 (.br (port==9) T2 (let T3:Tree ((Q00×(List Q04))):= .an (Qoy m.A2 m.Mem port v) (.lv (Q8d m.A2 m.Mem port v) λ(x7:Q09×List Int)=> .lf ({B2:=m.B2,Mem:=x7.2,A4:=m.A4,B0:=m.B0,B1:=m.B1,C4:=m.C4,A2:=x7.1,A1:=m.A1,A7:=m.A7,A9:=m.A9},[])); .br (port==10) T3 (.br (port==11) T3 (.lf (m,[])))))))))))
def Q2f(m:Q00)(port:Int)(v:Int)(at0:Int):(Q00×(List Q04)):=(Q3t m port v at0).m
abbrev Qgr(m:Q00)(port:Int)(v:Int)(at0:Int):Prop:=(Q3t m port v at0).p
def Qrz:Q0d:=Q0d.fz<|mkP 135 [] false [.agg Q00.sig, .one (.int .i64), .one (.int .u32), .one (.int .u64)] [] (λargs rows=>Qgr (Q00.of (aC args 0)) (argI args 1) (argI args 2) (argI args 3)) (λargs rows=>Q2f (Q00.of (aC args 0)) (argI args 1) (argI args 2) (argI args 3)) (λX=> .tup [.agg (Q00.cells (X.1)), .sl 4 (.recs .apiOutput (X.2)) true]) (λX=>[])
theorem Qqs:Q06 pG Qrz:=Zn7<|Q0p drawn Q0k (.cons Zft (.cons Zit (.cons Zpr (.cons Z5w (.nil))))) Tryz.func135 Tryz.call135 (λargs rows=>Q3t (Q00.of (aC args 0)) (argI args 1) (argI args 2) (argI args 3)) [.sl (.ints .u32) false, .sl (.recs .apiOutput) true] [] 2 (λ_ _ _=>by kernel_rfl) (λ_ _=>rfl) (λ_ _ h=>h) (λh=>by cases h)
def Q39(m:Q00)(clock:Int):Tree (Q00×(List Q04)):=
.an (Q08 m.Mem) (.lv (Q03 m.Mem) λ(x0:List Int)=>let E1:=({B2:=m.B2,Mem:=x0,A4:=m.A4,B0:=m.B0,B1:=m.B1,C4:=m.C4,A2:=m.A2,A1:=m.A1,A7:=m.A7,A9:=m.A9}:Q00); .an (Qc5 E1) (.lv (Q2p E1) λ(x1:Bool)=> .br (!x1) (.lf (E1,[])) (.an (Qak E1) (.lv (Q1 E1) λ(x2:Q00)=> .an (Qko x2.B2 x2.Mem) (.lv (Q81 x2.B2 x2.Mem) λ(x3:Q05×List Int×Q16)=>let E2:=({B2:=x3.1,Mem:=x3.2.1,A4:=x2.A4,B0:=x2.B0,B1:=x2.B1,C4:=x2.C4,A2:=x2.A2,A1:=x2.A1,A7:=x2.A7,A9:=x2.A9}:Q00); .br (x3.2.2.B6==1) (.an (Qhc E2 x3.2.2.D1 clock) (.lv (Q1j E2 x3.2.2.D1 clock) λ(x4:Q00×Int)=> .br (x3.2.2.D9 !=0) (.cn (Nat.blt 0 1&&decide (0<=x3.2.2.D9/\x3.2.2.D9<(↑16:Int))) (.lf ({B2:={X:=A16.of 0 (List.set (A16.l x4.1.B2.X) x3.2.2.D9.toNat x4.2),Pc:=x4.1.B2.Pc,B5:=x4.1.B2.B5},Mem:=x4.1.Mem,A4:=x4.1.A4,B0:=x4.1.B0,B1:=x4.1.B1,C4:=x4.1.C4,A2:=x4.1.A2,A1:=wrap u64 (x4.1.A1+1),A7:=x4.1.A7,A9:=x4.1.A9},[]))) (.lf ({B2:=x4.1.B2,Mem:=x4.1.Mem,A4:=x4.1.A4,B0:=x4.1.B0,B1:=x4.1.B1,C4:=x4.1.C4,A2:=x4.1.A2,A1:=wrap u64 (x4.1.A1+1),A7:=x4.1.A7,A9:=x4.1.A9},[])))) (.br (x3.2.2.B6==2) (.an (Qgr E2 x3.2.2.D1 x3.2.2.Value m.A1) (.lv (Q2f E2 x3.2.2.D1 x3.2.2.Value m.A1) λ(x5:Q00×List Q04)=> .lf ({B2:=x5.1.B2,Mem:=x5.1.Mem,A4:=x5.1.A4,B0:=x5.1.B0,B1:=x5.1.B1,C4:=x5.1.C4,A2:=x5.1.A2,A1:=wrap u64 (x5.1.A1+1),A7:=x5.1.A7,A9:=x5.1.A9},x5.2))) (.br (x3.2.2.B6==3) (.lf ({B2:=x3.1,Mem:=x3.2.1,A4:=x2.A4,B0:=x2.B0,B1:=x2.B1,C4:=x2.C4,A2:=x2.A2,A1:=wrap u64 (x2.A1+1),A7:=true,A9:=x2.A9},[])) (.br (x3.2.2.B6==4) (.lf ({B2:=x3.1,Mem:=x3.2.1,A4:=x2.A4,B0:=x2.B0,B1:=x2.B1,C4:=x2.C4,A2:=x2.A2,A1:=wrap u64 (x2.A1+1),A7:=x2.A7,A9:=true},[])) (.lf ({B2:=x3.1,Mem:=x3.2.1,A4:=x2.A4,B0:=x2.B0,B1:=x2.B1,C4:=x2.C4,A2:=x2.A2,A1:=wrap u64 (x2.A1+1),A7:=x2.A7,A9:=x2.A9},[]))))))))))
def Q3m(m:Q00)(clock:Int):(Q00×(List Q04)):=(Q39 m clock).m
abbrev Q6g(m:Q00)(clock:Int):Prop:=(Q39 m clock).p
def Z6p:Q0d:=Q0d.fz<|mkP 39 [] false [.agg Q00.sig, .one (.int .u32)] [] (λargs rows=>Q6g (Q00.of (aC args 0)) (argI args 1)) (λargs rows=>Q3m (Q00.of (aC args 0)) (argI args 1)) (λX=> .tup [.agg (Q00.cells (X.1)), .sl 4 (.recs .apiOutput (X.2)) false]) (λX=>[])
theorem Qod:Q06 pG Z6p:=Zn7<|Q0p drawn Q0k (.cons Q0w (.cons Qox (.cons Qnh (.cons Z37 (.cons Qs7 (.cons Qqs (.nil))))))) Tryz.func39 Tryz.call39 (λargs rows=>Q39 (Q00.of (aC args 0)) (argI args 1)) [.sl (.ints .u32) false, .sl (.recs .apiOutput) false] [] 2 (λ_ _ _=>by kernel_rfl) (λ_ _=>rfl) (λ_ _ h=>h) (λh=>by cases h)
end
noncomputable section
def Z3d(op:Int):Tree Int:=
let T1:Tree (Int):= .br (op==49) (.lf 3) (let T2:Tree (Int):= .br (op==24) (.lf 6) (.br (op==48) (.lf 7) (.br (op==58) (.lf 8) (.br (op==59) (.lf 8) (.br (op==60) (.lf 9) (.br (op==61) (.lf 9) (.br (op==56) (.lf 1) (.br (op==57) (.lf 1) (.br (decide (op>=62)) (.br (decide (op<=64)) (.lf 1) (.lf 0)) (.lf 0))))))))); .br (decide (op>=17)) (.br (decide (op<=19)) (.lf 4) (.br (decide (op>=20)) (.br (decide (op<=22)) (.lf 5) T2) T2)) (.br (decide (op>=20)) (.br (decide (op<=22)) (.lf 5) T2) T2));let T3:Tree (Int):= .br (op==16) (.lf 3) (.br (op==23) (.lf 3) (.br (decide (op>=32)) (.br (decide (op<=36)) (.lf 3) (.br (decide (op>=40)) (.br (decide (op<=45)) (.lf 3) T1) T1)) (.br (decide (op>=40)) (.br (decide (op<=45)) (.lf 3) T1) T1))); .br (decide (op>=1)) (.br (decide (op<=13)) (.lf 2) T3) T3
def Q2d(op:Int):Int:=(Z3d op).m
def Zkd:Q0d:=mkR 191 [] true [.one (.int .i64)] [] (λargs rows=>Q2d (argI args 0)) (λX=> .int .i64 X) (λX=>[])
theorem Qgi:Q06 pG Zkd:=Q11 drawn Q0k (.nil) Tryz.func191 Tryz.call191 (λargs rows=>Z3d (argI args 0)) [] [] 2
def Qe4(r:Int):Tree Bool:=
.br (decide (r>=0)) (.lf (decide (r<=15))) (.lf false)
def Q8b(r:Int):Bool:=(Qe4 r).m
def Z3b:Q0d:=mkR 225 [] true [.one (.int .i64)] [] (λargs rows=>Q8b (argI args 0)) (λX=> .bool X) (λX=>[])
theorem Z0z:Q06 pG Z3b:=Q11 drawn Q0k (.nil) Tryz.func225 Tryz.call225 (λargs rows=>Qe4 (argI args 0)) [] [] 2
def Qmm(f:Int):Tree (Int×Int):=
.br (f==3) (.lf ((-32768),32767)) (.br (f==7) (.lf ((-32768),32767)) (.br (f==4) (.lf (0,65535)) (.br (f==6) (.lf (0,65535)) (.br (f==5) (.lf (0,31)) (.br (f==8) (.lf (0,7)) (.br (f==9) (.lf (0,11)) (.lf (0,0))))))))
def Qmk(f:Int):(Int×Int):=(Qmm f).m
def Zbp:Q0d:=mkR 192 [] true [.one (.int .i64)] [] (λargs rows=>Qmk (argI args 0)) (λX=> .tup [.int .i64 (X.1), .int .i64 (X.2)]) (λX=>[])
theorem Qr8:Q06 pG Zbp:=Q11 drawn Q0k (.nil) Tryz.func192 Tryz.call192 (λargs rows=>Qmm (argI args 0)) [] [] 2
def Qg0(i:Q0l):Tree Bool:=
.lv (Q2d i.Op) λ(x0:Int)=> .br (x0==0) (.lf false) (.lv (Q8b i.A) λ(x1:Bool)=> .br (!x1) (.lf false) (.lv (Q8b i.B) λ(x2:Bool)=> .br (!x2) (.lf false) (.lv (Q8b i.C) λ(x3:Bool)=> .br (!x3) (.lf false) (.lv (Qmk x0) λ(x4:Int×Int)=> .br (decide (wrap i64 i.Imm<x4.1)) (.lf false) (.br (decide (wrap i64 i.Imm>x4.2)) (.lf false) (let T1:Tree (Bool):= .br (x0==1) (.br (i.A !=0) (.lf false) (.br (i.B==0) (.lf true) (.br (decide (x0>=2)) (.lf (decide (x0<=5))) (.lf false)))) (.br (i.B==0) (.lf true) (.br (decide (x0>=2)) (.lf (decide (x0<=5))) (.lf false))); .br (x0 !=2) (.br (i.C !=0) (.lf false) T1) T1))))))
def Q7m(i:Q0l):Bool:=(Qg0 i).m
def Zex:Q0d:=mkR 167 [] true [.agg Q0l.sig] [] (λargs rows=>Q7m (Q0l.of (aC args 0))) (λX=> .bool X) (λX=>[])
theorem Qvb:Q06 pG Zex:=Q11 drawn Q0k (.cons Qgi (.cons Z0z (.cons Qr8 (.nil)))) Tryz.func167 Tryz.call167 (λargs rows=>Qg0 (Q0l.of (aC args 0))) [] [] 2
def Qhu(i:Q0l):Tree (Int×Bool):=
.lv (Q7m i) λ(x0:Bool)=> .br (!x0) (.lf (0,false)) (.lf (ior u32 (ior u32 (ior u32 (ior u32 (ishl u32 (wrap u32 i.Op) 24) (ishl u32 (wrap u32 i.A) 20)) (ishl u32 (wrap u32 i.B) 16)) (iand u32 (wrap u32 i.Imm) 65535)) (wrap u32 i.C),true))
def Q1p(i:Q0l):(Int×Bool):=(Qhu i).m
def Zck:Q0d:=mkR 82 [] true [.agg Q0l.sig] [] (λargs rows=>Q1p (Q0l.of (aC args 0))) (λX=> .tup [.int .u32 (X.1), .bool (X.2)]) (λX=>[])
theorem Ql:Q06 pG Zck:=Q11 drawn Q0k (.cons Qvb (.nil)) Tryz.func82 Tryz.call82 (λargs rows=>Qhu (Q0l.of (aC args 0))) [] [] 2
def Z9f:Tree (List Int):=
.lf ([1,2,3,4,5,6,7,8,9,10,11,12,13,16,16,17,18,19,20,21,22,23,24,24,32,32,33,34,35,35,36,40,41,42,43,44,45,48,49,56,57,58,59,60,60,61,61,62,63,64])
def Zac:(List Int):=(Z9f).m
def Zoh:Q0d:=mkR 168 [] true [] [] (λargs rows=>Zac) (λX=> .sl 1 (.ints .i64 X) true) (λX=>[])
theorem Zj5:Q06 pG Zoh:=Q11 drawn Q0k (.nil) Tryz.func168 Tryz.call168 (λargs rows=>Z9f) [.sl (.ints .i64) true] [] 2
def Z1t(seed:Int):Tree (Int×Int):=
let E1:=wrap u64 (ixor u64 (wrap u64 (seed+11400714819323198485)) (ishr u64 (wrap u64 (seed+11400714819323198485)) 30)*13787848793156543929);let E2:=wrap u64 (ixor u64 E1 (ishr u64 E1 27)*10723151780598845931); .lf (ixor u64 E2 (ishr u64 E2 31),wrap u64 (seed+11400714819323198485))
def Zha(seed:Int):(Int×Int):=(Z1t seed).m
def Zkz:Q0d:=mkR 162 [] true [.one (.int .u64)] [] (λargs rows=>Zha (argI args 0)) (λX=> .tup [.int .u64 (X.1), .int .u64 (X.2)]) (λX=>[])
theorem Zhx:Q06 pG Zkz:=Q11 drawn Q0k (.nil) Tryz.func162 Tryz.call162 (λargs rows=>Z1t (argI args 0)) [] [] 2
def Qq1(n:Int)(k:Int):Tree Int:=
.lv (Zha (ixor u64 (wrap u64 n) (wrap u64 (wrap u64 k*11400714819323198485)))) λ(x0:Int×Int)=> .lf (wrap i64 (ishr u64 x0.1 1))
def Q3a(n:Int)(k:Int):Int:=(Qq1 n k).m
def Znk:Q0d:=mkR 77 [] true [.one (.int .i64), .one (.int .i64)] [] (λargs rows=>Q3a (argI args 0) (argI args 1)) (λX=> .int .i64 X) (λX=>[])
theorem Qmj:Q06 pG Znk:=Q11 drawn Q0k (.cons Zhx (.nil)) Tryz.func77 Tryz.call77 (λargs rows=>Qq1 (argI args 0) (argI args 1)) [] [] 2
def Qp1(n:Int)(k:Int):Tree Int:=
.cn (decide (k≠0)) (.br (decide (Int.tmod n k<0)) (.lf (wrap i64 (Int.tmod n k+k))) (.lf (Int.tmod n k)))
def Q4r(n:Int)(k:Int):Int:=(Qp1 n k).m
abbrev Q44(n:Int)(k:Int):Prop:=(Qp1 n k).p
def Zhu:Q0d:=mkP 50 [] true [.one (.int .i64), .one (.int .i64)] [] (λargs rows=>Q44 (argI args 0) (argI args 1)) (λargs rows=>Q4r (argI args 0) (argI args 1)) (λX=> .int .i64 X) (λX=>[])
theorem Qna:Q06 pG Zhu:=Q0p drawn Q0k (.nil) Tryz.func50 Tryz.call50 (λargs rows=>Qp1 (argI args 0) (argI args 1)) [] [] 2
def Qne(n:Int):Tree Q0l:=
.lv Zac λ(x0:List Int)=> .lv (Q3a n 1) λ(x1:Int)=> .an (Q44 x1 (x0.length:Int)) (.lv (Q4r x1 (x0.length:Int)) λ(x2:Int)=> .cn (Nat.beq 1 1&&Nat.blt 0 1&&decide (0<=x2/\x2<(x0.length:Int))) (.an (Q44 (ishr i64 x1 8) 6) (.lv (Q4r (ishr i64 x1 8) 6) λ(x3:Int)=> .an (Q44 (ishr i64 x1 12) 6) (.lv (Q4r (ishr i64 x1 12) 6) λ(x4:Int)=> .an (Q44 (ishr i64 x1 16) 6) (.lv (Q4r (ishr i64 x1 16) 6) λ(x5:Int)=> .an (Q44 (ishr i64 x1 20) 24) (.lv (Q4r (ishr i64 x1 20) 24) λ(x6:Int)=> .br (decide (x0.getD x2.toNat (0:Int)<=(13:Int))) (.lf ({Op:=x0.getD x2.toNat 0,A:=x3,B:=x4,C:=x5,Imm:=0})) (let E4:=({Op:=x0.getD x2.toNat 0,A:=x3,B:=x4,C:=0,Imm:=wrap i32 (wrap i64 (wrap i64 (8*x6)-32))}:Q0l);let T1:Tree (Q0l):= .br (x0.getD x2.toNat (0:Int)==(49:Int)) (.lf (E4)) (.br (x0.getD x2.toNat (0:Int)==(24:Int)) (.lf ({Op:=x0.getD x2.toNat 0,A:=x3,B:=0,C:=0,Imm:=wrap i32 (wrap i64 (x6*iand i64 (ishr i64 x1 40) 1))})) (let T2:Tree (Q0l):=let E6:=({Op:=x0.getD x2.toNat 0,A:=x3,B:=0,C:=0,Imm:=wrap i32 (Int.tmod x6 8)}:Q0l); .br (x0.getD x2.toNat (0:Int)==(58:Int)) (.lf (E6)) (.br (x0.getD x2.toNat (0:Int)==(59:Int)) (.lf (E6)) (let E5:=({Op:=x0.getD x2.toNat 0,A:=x3,B:=0,C:=0,Imm:=wrap i32 (Int.tmod x6 12)}:Q0l); .br (x0.getD x2.toNat (0:Int)==(60:Int)) (.lf (E5)) (.br (x0.getD x2.toNat (0:Int)==(61:Int)) (.lf (E5)) (.lf ({Op:=x0.getD x2.toNat 0,A:=0,B:=0,C:=0,Imm:=0}))))); .br (decide (x0.getD x2.toNat (0:Int)>=(17:Int))) (.br (decide (x0.getD x2.toNat (0:Int)<=(22:Int))) (.lf ({Op:=x0.getD x2.toNat 0,A:=x3,B:=x4,C:=0,Imm:=wrap i32 x6})) T2) T2));let T3:Tree (Q0l):= .br (x0.getD x2.toNat (0:Int)==(16:Int)) (.lf (E4)) (.br (x0.getD x2.toNat (0:Int)==(23:Int)) (.lf (E4)) (.br (decide (x0.getD x2.toNat (0:Int)>=(32:Int))) (.br (decide (x0.getD x2.toNat (0:Int)<=(36:Int))) (.lf (E4)) T1) T1)); .br (decide (x0.getD x2.toNat (0:Int)>=(40:Int))) (.br (decide (x0.getD x2.toNat (0:Int)<=(48:Int))) (.br (x0.getD x2.toNat (0:Int)==(48:Int)) (.lf ({Op:=x0.getD x2.toNat 0,A:=x3,B:=0,C:=0,Imm:=wrap i32 (wrap i64 (x6-12))})) (.lf ({Op:=x0.getD x2.toNat 0,A:=x3,B:=x4,C:=0,Imm:=wrap i32 (wrap i64 (x6-12))}))) T3) T3)))))))
def Zd7(n:Int):Q0l:=(Qne n).m
abbrev Qhg(n:Int):Prop:=(Qne n).p
def Ziq:Q0d:=mkP 83 [] true [.one (.int .i64)] [] (λargs rows=>Qhg (argI args 0)) (λargs rows=>Zd7 (argI args 0)) (λX=> .agg (Q0l.cells X)) (λX=>[])
theorem Zf2:Q06 pG Ziq:=Q0p drawn Q0k (.cons Zj5 (.cons Qmj (.cons Qna (.nil)))) Tryz.func83 Tryz.call83 (λargs rows=>Qne (argI args 0)) [] [] 2
def Qrg(l:(List Int))(z:(Int)×(List Int)):Prop:=0<=z.1/\z.1<=l.length/\(z.2.length:Int)=z.1
def Qe5(l:(List Int))(z:(Int)×(List Int)):Nat:=(l.length-z.1).toNat
def Qi7(l:(List Int)):Tree (List Int):=
.lp inferInstance (Qe5 l (0,[])+1) ((((Els.Nil (Els.ints i64 l)\/rE (1:Nat))/\rE (l:List Int))/\True/\rE (0:Int)/\True)/\rE ([]:List Int)/\True) (0,[]) λ(v0:Int×List Int)=> .br (decide (v0.1<(l.length:Int))) (let E1:=Nat.beq 1 1&&Nat.blt 0 1&&decide (0<=v0.1/\v0.1<(l.length:Int)); .cn E1 (let E2:=decide (4*(v0.2.length+1)<=140737488355328); .br (Int.tmod (l.getD v0.1.toNat 0) (17:Int)==(0:Int)) (.cn E1 (.cn E2 (.nx ((((Els.Nil (Els.ints i64 l)\/rE (1:Nat))/\rE (l:List Int))/\True/\rE ((wrap i64 (v0.1+1)):Int)/\True)/\rE ((v0.2++[wrap u32 (iand i64 (l.getD v0.1.toNat 0) 4294967295)]):List Int)/\True) (Sum.inl (wrap i64 (v0.1+1),v0.2++[wrap u32 (iand i64 (l.getD v0.1.toNat 0) 4294967295)]))))) (.cn E1 (.an (Qhg (l.getD v0.1.toNat 0)) (.lv (Zd7 (l.getD v0.1.toNat 0)) λ(x0:Q0l)=> .lv (Q1p x0) λ(x1:Int×Bool)=> .cn E2 (.nx ((((Els.Nil (Els.ints i64 l)\/rE (1:Nat))/\rE (l:List Int))/\True/\rE ((wrap i64 (v0.1+1)):Int)/\True)/\rE ((v0.2++[x1.1]):List Int)/\True) (Sum.inl (wrap i64 (v0.1+1),v0.2++[x1.1])))))))) (.lf (Sum.inr v0.2))
def Qpm(l:(List Int)):(List Int):=(Qi7 l).m
abbrev Qnc(l:(List Int)):Prop:=(Qi7 l).p
def Zeb:LInv:={
 α:=(Int)×(List Int)
 F:=λst a=>([(0,(lk st 0)),(3, .all 0),(4, .int i64 a.1)],[⟨false,25,1, .ints u32 a.2⟩])
 a0:=λst=>((lk st 4).toInt,(Q5d st.rows (rN st 3)))
 ex0:=λst=>[]++[(rX st 3 0)]}
def Z77:List (Nat×LInv):=[(3,Zeb)]
def Zks:Q0d:=mkP 138 [] true [.one (.ints .i64)] [] (λargs rows=>Qnc (argL .i64 args 0)) (λargs rows=>Qpm (argL .i64 args 0)) (λX=> .all 0) (λX=>[⟨false,25,1, .ints .u32 X⟩])
theorem Zf4:Q06 pG Zks:=Q0p drawn Q0k (.cons Ql (.cons Zf2 (.nil))) Tryz.func138 Tryz.call138 (λargs rows=>Qi7 (argL .i64 args 0)) [.row 25 1 (.ints .u32)] Z77 3
def Qkk(pc:Int):Tree Q05:=
.lf ({X:={a0:=0,a1:=0,a2:=0,a3:=0,a4:=0,a5:=0,a6:=0,a7:=0,a8:=0,a9:=0,a10:=0,a11:=0,a12:=0,a13:=0,a14:=0,a15:=0},Pc:=pc,B5:={a0:=1,a1:=0,a2:=0,a3:=0,a4:=0,a5:=0,a6:=0,a7:=0}})
def Qqf(pc:Int):Q05:=(Qkk pc).m
def Zfw:Q0d:=mkR 127 [] true [.one (.int .u32)] [] (λargs rows=>Qqf (argI args 0)) (λX=> .agg (Q05.cells X)) (λX=>[])
theorem Zc2:Q06 pG Zfw:=Q11 drawn Q0k (.nil) Tryz.func127 Tryz.call127 (λargs rows=>Qkk (argI args 0)) [] [] 2
def Qf8(pages:Int):Tree (List Int):=
.br (decide (pages<1)) (.lf ([])) (.br (decide (pages>32)) (.lf ([])) (.cn (Nat.blt 0 1&&Nat.beq 1 1&&List.all [D.int u32 0] D.plain&&decide (0<=wrap i64 (pages*32)/\wrap i64 (pages*32)<=wrap i64 (pages*32)/\wrap i64 (pages*32)<=9223372036854775807/\(↑4:Int)*wrap i64 (pages*32)<=140737488355328)) (.lf (List.replicate (Int.toNat (wrap i64 (pages*32))) 0))))
def Qvo(pages:Int):(List Int):=(Qf8 pages).m
abbrev Qfv(pages:Int):Prop:=(Qf8 pages).p
def Znr:Q0d:=mkP 128 [] true [.one (.int .i64)] [] (λargs rows=>Qfv (argI args 0)) (λargs rows=>Qvo (argI args 0)) (λX=> .all 0) (λX=>[⟨false,25,1, .ints .u32 X⟩])
theorem Zic:Q06 pG Znr:=Q0p drawn Q0k (.nil) Tryz.func128 Tryz.call128 (λargs rows=>Qf8 (argI args 0)) [.row 25 1 (.ints .u32)] [] 2
def Q8r(pages:Int)(blocks:Int)(image:(List Int)):Tree (Q00×Bool):=
let T1:Tree ((Q00×Bool)):= .lf ({B2:={X:={a0:=0,a1:=0,a2:=0,a3:=0,a4:=0,a5:=0,a6:=0,a7:=0,a8:=0,a9:=0,a10:=0,a11:=0,a12:=0,a13:=0,a14:=0,a15:=0},Pc:=0,B5:={a0:=0,a1:=0,a2:=0,a3:=0,a4:=0,a5:=0,a6:=0,a7:=0}},Mem:=[],A4:={D3:=[]},B0:={D2:=false,C9:=0,D5:=false},B1:={Blocks:=0,C0:=0,Frame:=0,C1:=0,D8:=0,B7:=0,B3:=0,C3:=[]},C4:={Frame:=0,E0:=0,C6:=false,B9:=0,B8:=false,F1:=0},A2:={D0:=0,C2:=0},A1:=0,A7:=false,A9:=false},false); .br (decide (pages<1)) T1 (.br (decide (pages>32)) T1 (.br (decide (blocks<0)) T1 (.br (decide (blocks>64)) T1 (.br (decide ((image.length:Int)>wrap i64 (pages*32))) T1 (.lv (Qqf 0) λ(x0:Q05)=> .an (Qfv pages) (.lv (Qvo pages) λ(x1:List Int)=> .lf ({B2:=x0,Mem:=List.take (Min.min (image.length) (x1.length)) image++List.drop (Min.min (image.length) (x1.length)) x1,A4:={D3:=[]},B0:={D2:=false,C9:=0,D5:=false},B1:={Blocks:=wrap u32 blocks,C0:=0,Frame:=0,C1:=0,D8:=0,B7:=0,B3:=0,C3:=[]},C4:={Frame:=0,E0:=0,C6:=false,B9:=0,B8:=false,F1:=0},A2:={D0:=0,C2:=0},A1:=0,A7:=false,A9:=false},true)))))))
def Q1x(pages:Int)(blocks:Int)(image:(List Int)):(Q00×Bool):=(Q8r pages blocks image).m
abbrev Qa6(pages:Int)(blocks:Int)(image:(List Int)):Prop:=(Q8r pages blocks image).p
def Znp:Q0d:=mkP 37 [] true [.one (.int .i64), .one (.int .i64), .one (.ints .u32)] [] (λargs rows=>Qa6 (argI args 0) (argI args 1) (argL .u32 args 2)) (λargs rows=>Q1x (argI args 0) (argI args 1) (argL .u32 args 2)) (λX=> .tup [.agg (Q00.cellsW (X.1) (.all 0)), .bool (X.2)]) (λX=>[⟨false,25,1, .ints .u32 (X.1).Mem⟩])
theorem Z27:Q06 pG Znp:=Q0p drawn Q0k (.cons Zc2 (.cons Zic (.nil))) Tryz.func37 Tryz.call37 (λargs rows=>Q8r (argI args 0) (argI args 1) (argL .u32 args 2)) [.row 25 1 (.ints .u32)] [] 2
def Qjw(a:(List Int))(b:(List Int))(z:(Int)):Prop:=0<=z/\z<=a.length/\a.length=b.length
def Q57(a:(List Int))(b:(List Int))(z:(Int)):Nat:=(a.length-z).toNat
def Q8j(a:(List Int))(b:(List Int)):Tree Bool:=
.br ((a.length:Int) !=(b.length:Int)) (.lf false) (.lp inferInstance (Q57 a b 0+1) ((((Els.Nil (Els.ints u32 a)\/rE (1:Nat))/\rE (a:List Int))/\((Els.Nil (Els.ints u32 b)\/rE (1:Nat))/\rE (b:List Int))/\rE (0:Int)/\True)/\True) 0 λ(v0:Int)=> .br (decide (v0<(a.length:Int))) (.cn (Nat.beq 1 1&&Nat.blt 0 1&&decide (0<=v0/\v0<(a.length:Int))) (.cn (Nat.beq 1 1&&Nat.blt 0 1&&decide (0<=v0/\v0<(b.length:Int))) (.br (a.getD v0.toNat 0 !=b.getD v0.toNat 0) (.lf (Sum.inr false)) (.nx ((((Els.Nil (Els.ints u32 a)\/rE (1:Nat))/\rE (a:List Int))/\((Els.Nil (Els.ints u32 b)\/rE (1:Nat))/\rE (b:List Int))/\rE ((wrap i64 (v0+1)):Int)/\True)/\True) (Sum.inl (wrap i64 (v0+1))))))) (.lf (Sum.inr true)))
def Qfl(a:(List Int))(b:(List Int)):Bool:=(Q8j a b).m
def Q98(a:(List Int))(b:(List Int)):Prop:=
a.length<=1000000000000
theorem Qto(a:(List Int))(b:(List Int))(hw:Q98 a b):(Q8j a b).p:=by
 simp only[Q98]at hw
 unfold Tree.p Q8j
 repeat'(first|refine w_lp (inv:=Qjw a b) (μ:=Q57 a b) ?_ (Nat.lt_succ_self _) (λ_ _=> ?_)|exact trivial|refine w_br (λ_=> ?_) (λ_=> ?_)|refine w_cn ?_ ?_|refine w_an ?_ ?_|refine w_lv (λ_ _=> ?_)|refine w_nx ?_|refine w_lf ?_|refine And.intro ?_ ?_)
 all_goals((try simp only[Qjw,Q57]at*);exact fin0)
def Qx2:LInv:={
 α:=(Int)
 F:=λst a=>([(0,(lk st 0)),(1,(lk st 1)),(5, .int i64 a)],[])
 a0:=λst=>(lk st 5).toInt
 ex0:=λst=>[]++[]}
def Qsb:List (Nat×LInv):=[(4,Qx2)]
def Qzr:Q0d:=mkP 49 [] true [.one (.ints .u32), .one (.ints .u32)] [] (λargs rows=>Q98 (argL .u32 args 0) (argL .u32 args 1)) (λargs rows=>Qfl (argL .u32 args 0) (argL .u32 args 1)) (λX=> .bool X) (λX=>[])
theorem Qxq:Q06 pG Qzr:=Q0p drawn Q0k (.nil) Tryz.func49 Tryz.call49 (λargs rows=>Q8j (argL .u32 args 0) (argL .u32 args 1)) [] Qsb 3 (hp:=λargs rows h=>Qto (argL .u32 args 0) (argL .u32 args 1) h)
def Qih(a:Q00)(b:Q00):Tree Bool:=
.br (eqs [D.int u32 a.B2.X.a0,D.int u32 a.B2.X.a1,D.int u32 a.B2.X.a2,D.int u32 a.B2.X.a3,D.int u32 a.B2.X.a4,D.int u32 a.B2.X.a5,D.int u32 a.B2.X.a6,D.int u32 a.B2.X.a7,D.int u32 a.B2.X.a8,D.int u32 a.B2.X.a9,D.int u32 a.B2.X.a10,D.int u32 a.B2.X.a11,D.int u32 a.B2.X.a12,D.int u32 a.B2.X.a13,D.int u32 a.B2.X.a14,D.int u32 a.B2.X.a15,D.int u32 a.B2.Pc,D.int u32 a.B2.B5.a0,D.int u32 a.B2.B5.a1,D.int u32 a.B2.B5.a2,D.int u32 a.B2.B5.a3,D.int u32 a.B2.B5.a4,D.int u32 a.B2.B5.a5,D.int u32 a.B2.B5.a6,D.int u32 a.B2.B5.a7] [D.int u32 b.B2.X.a0,D.int u32 b.B2.X.a1,D.int u32 b.B2.X.a2,D.int u32 b.B2.X.a3,D.int u32 b.B2.X.a4,D.int u32 b.B2.X.a5,D.int u32 b.B2.X.a6,D.int u32 b.B2.X.a7,D.int u32 b.B2.X.a8,D.int u32 b.B2.X.a9,D.int u32 b.B2.X.a10,D.int u32 b.B2.X.a11,D.int u32 b.B2.X.a12,D.int u32 b.B2.X.a13,D.int u32 b.B2.X.a14,D.int u32 b.B2.X.a15,D.int u32 b.B2.Pc,D.int u32 b.B2.B5.a0,D.int u32 b.B2.B5.a1,D.int u32 b.B2.B5.a2,D.int u32 b.B2.B5.a3,D.int u32 b.B2.B5.a4,D.int u32 b.B2.B5.a5,D.int u32 b.B2.B5.a6,D.int u32 b.B2.B5.a7]) (.an (Q98 a.Mem b.Mem) (.lv (Qfl a.Mem b.Mem) λ(x0:Bool)=> .br x0 (.br (eqs [D.str a.A4.D3] [D.str b.A4.D3]) (.br (eqs [D.bool a.B0.D2,D.int u32 a.B0.C9,D.bool a.B0.D5] [D.bool b.B0.D2,D.int u32 b.B0.C9,D.bool b.B0.D5]) (.br (eqs [D.int u32 a.B1.Blocks,D.int u32 a.B1.C0,D.int u32 a.B1.Frame,D.int i64 a.B1.C1,D.int i64 a.B1.D8,D.int u32 a.B1.B7,D.int u32 a.B1.B3,D.str a.B1.C3] [D.int u32 b.B1.Blocks,D.int u32 b.B1.C0,D.int u32 b.B1.Frame,D.int i64 b.B1.C1,D.int i64 b.B1.D8,D.int u32 b.B1.B7,D.int u32 b.B1.B3,D.str b.B1.C3]) (.br (eqs [D.int u32 a.C4.Frame,D.int u32 a.C4.E0,D.bool a.C4.C6,D.int u32 a.C4.B9,D.bool a.C4.B8,D.int u32 a.C4.F1] [D.int u32 b.C4.Frame,D.int u32 b.C4.E0,D.bool b.C4.C6,D.int u32 b.C4.B9,D.bool b.C4.B8,D.int u32 b.C4.F1]) (.br (eqs [D.int u32 a.A2.D0,D.int u32 a.A2.C2] [D.int u32 b.A2.D0,D.int u32 b.A2.C2]) (.br (a.A1==b.A1) (.br (a.A7==b.A7) (.lf (a.A9==b.A9)) (.lf false)) (.lf false)) (.lf false)) (.lf false)) (.lf false)) (.lf false)) (.lf false)) (.lf false))) (.lf false)
def Zeq(a:Q00)(b:Q00):Bool:=(Qih a b).m
abbrev Qux(a:Q00)(b:Q00):Prop:=(Qih a b).p
def Zkg:Q0d:=mkP 19 [] true [.agg Q00.sig, .agg Q00.sig] [] (λargs rows=>Qux (Q00.of (aC args 0)) (Q00.of (aC args 1))) (λargs rows=>Zeq (Q00.of (aC args 0)) (Q00.of (aC args 1))) (λX=> .bool X) (λX=>[])
theorem Zf:Q06 pG Zkg:=Q0p drawn Q0k (.cons Qxq (.nil)) Tryz.func19 Tryz.call19 (λargs rows=>Qih (Q00.of (aC args 0)) (Q00.of (aC args 1))) [] [] 2
def Q2n(m:Q00):Tree Bool:=
.an (Qc5 m) (.lv (Q2p m) λ(x0:Bool)=> .br (!x0) (.lf false) (.an (Qak m) (.lv (Q1 m) λ(x1:Q00)=> .an (Qko x1.B2 x1.Mem) (.lv (Q81 x1.B2 x1.Mem) λ(x2:Q05×List Int×Q16)=> .br (x2.2.2.B6==1) (.lf (x2.2.2.D1==2)) (.lf false)))))
def Q3j(m:Q00):Bool:=(Q2n m).m
abbrev Q2r(m:Q00):Prop:=(Q2n m).p
def Qqx:Q0d:=mkP 30 [] true [.agg Q00.sig] [] (λargs rows=>Q2r (Q00.of (aC args 0))) (λargs rows=>Q3j (Q00.of (aC args 0))) (λX=> .bool X) (λX=>[])
theorem Qpd:Q06 pG Qqx:=Q0p drawn Q0k (.cons Qox (.cons Qnh (.cons Z37 (.nil)))) Tryz.func30 Tryz.call30 (λargs rows=>Q2n (Q00.of (aC args 0))) [] [] 2

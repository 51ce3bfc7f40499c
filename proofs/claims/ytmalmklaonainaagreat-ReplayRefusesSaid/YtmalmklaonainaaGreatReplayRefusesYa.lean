import Derived.Test.YtmalmklaonainaaGreatReplayRefusesBase
set_option maxRecDepth 100000
set_option linter.all false
namespace Go.Proofs.YtmalmklaonainaaGreat
open Go Go.GD Go.IntKind
noncomputable section
def Q03(s:(List Int)):(List Int):=
s
def Q09(s:(List Int)):Prop:=
s.length<=35184372088832
def Q43(s:(List Int)):List D:=[.sl 1 (.ints .u32 s) false]
def Q2l(s:(List Int)):List Row:=[]
def Q1p(X:(List Int)):D:= .all 0
def Q1q(X:(List Int)):List Row:=[⟨false,25,1, .ints .u32 X⟩]
def Qfp:List Dir:=[.row 25 1 (.ints .u32)]
def Q87:List PT:=[.one (.ints .u32)]
def Q7t:List RT:=[]
def Qgq(args:List D)(rows:List Row):(List Int):=Q03 (argL .u32 args 0)
def Qgm(args:List D)(rows:List Row):Prop:=Q09 (argL .u32 args 0)
def Qhx:Q0d:=mkP 129 [] true Q87 Q7t Qgm Qgq Q1p Q1q
def Q5c(s:(List Int))(Leaf:(List Int)->Prop):Prop:=
(s=[]->Leaf [])/\cand (decide ((4:Nat)*((0:Nat)+s.length)<=(140737488355328:Nat))) (Leaf s)
set_option maxRecDepth 100000 in
theorem Qh7(s:(List Int))(Q:D->List Row->Prop):(fnVC tab [] (LL tab [] Tryz.f129.ntmps 0 [] 2) Tryz.f129 (Q43 s) (Q2l s) λd R=>Q9t (Q2l s).length Qfp d R Q)=Q5c s (λX=>Q (Q1p X) (Q1q X)):=by kernel_rfl
theorem Qey(s:(List Int))(Leaf:(List Int)->Prop)(hw:Q09 s)(h:Leaf (Q03 s)):
Q5c s Leaf:=by
 delta Q5c
 refine⟨λe=>by rw[e]at h;exact h,?_⟩
 rw[Q08]
 refine⟨dY ?_,h⟩
 have:s.length<=35184372088832:=hw
 omega
set_option maxRecDepth 100000 in
theorem Qet(s:(List Int))(hw:Q09 s):Q4l Tryz.prog 129 (Q43 s) (Q2l s) (Q1p (Q03 s)) (Q1q (Q03 s)):=
 have hG:Q7j Tryz.prog []:= .nil
 FnOK.calls drawn Q0j hG Tryz.func129 (rf:=none) (λ_ _=>trivial) (Zoz drawn Q0j hG (.inl rfl) 2 (invs:=[])) (FnOK.of (Qh7 s _) (Qey s (λX=>Q1p X=Q1p (Q03 s)/\Q1q X=Q1q (Q03 s)) hw ⟨rfl,rfl⟩))
set_option maxRecDepth 100000 in
theorem Qf4(args:List D)(rows:List Row):Qgr Q87 args 0=Q43 (argL .u32 args 0):=by kernel_rfl
set_option maxRecDepth 100000 in
theorem Qes(args:List D)(rows:List Row):Q6f Q7t rows 0=Q2l (argL .u32 args 0):=by kernel_rfl
set_option maxRecDepth 100000 in
theorem Qhe(X:(List Int)):(ffB (Q1p X)&&ffBR (Q1q X))=true:=by kernel_rfl
theorem Q0t:Q05 Tryz.prog Qhx:=Qyn Tryz.call129 (λargs rows hp=>by rw[Qf4 args rows,Qes args rows];exact Qet (argL .u32 args 0) hp) (λ_ X=>Qhe X)
def Q96(m:(List Int)):Tree Int:=
.br (Int.tmod (m.length:Int) (32:Int) !=(0:Int)) (.lf 0) (.br (decide ((m.length:Int)>(1024:Int))) (.lf 0) (.lf (wrap i64 (Int.tdiv (m.length:Int) 32))))
def Q0v(m:(List Int)):Int:=(Q96 m).m
def Z6n:Q0d:=mkR 43 [] true [.one (.ints .u32)] [] (λargs rows=>Q0v (argL .u32 args 0)) (λX=> .int .i64 X) (λX=>[])
theorem Q4d:Q05 Tryz.prog Z6n:=Q0z drawn Q0j (.nil) Tryz.func43 Tryz.call43 (λargs rows=>Q96 (argL .u32 args 0)) [] [] 2
def Q3i(m:(List Int))(addr:Int)(size:Int):Tree Bool:=
let T1:Tree (Bool):= .cn (decide (wrap u32 size≠0)) (.br (Int.tmod addr (wrap u32 size) !=0) (.lf false) (.lv (Q0v m) λ(x0:Int)=> .lf (decide (wrap u64 (wrap u64 addr+wrap u64 size)<=wrap u64 (wrap u64 x0*128))))); .br (size !=1) (.br (size !=4) (.lf false) T1) T1
def Qht(m:(List Int))(addr:Int)(size:Int):Bool:=(Q3i m addr size).m
abbrev Qb(m:(List Int))(addr:Int)(size:Int):Prop:=(Q3i m addr size).p
def Z3k:Q0d:=mkP 275 [] true [.one (.ints .u32), .one (.int .u32), .one (.int .i64)] [] (λargs rows=>Qb (argL .u32 args 0) (argI args 1) (argI args 2)) (λargs rows=>Qht (argL .u32 args 0) (argI args 1) (argI args 2)) (λX=> .bool X) (λX=>[])
theorem Qnw:Q05 Tryz.prog Z3k:=Q0l drawn Q0j (.cons Q4d (.nil)) Tryz.func275 Tryz.call275 (λargs rows=>Q3i (argL .u32 args 0) (argI args 1) (argI args 2)) [] [] 2
def Qcq(n:Int):Tree Int:=
.br (decide (n>=32)) (.lf 4294967295) (.cn (decide (0<=wrap u64 n)) (.lf (wrap u32 (ishl u32 1 (wrap u64 n)-1))))
def Z2s(n:Int):Int:=(Qcq n).m
abbrev Qhm(n:Int):Prop:=(Qcq n).p
def Zjy:Q0d:=mkP 276 [] true [.one (.int .i64)] [] (λargs rows=>Qhm (argI args 0)) (λargs rows=>Z2s (argI args 0)) (λX=> .int .u32 X) (λX=>[])
theorem Qxz:Q05 Tryz.prog Zjy:=Q0l drawn Q0j (.nil) Tryz.func276 Tryz.call276 (λargs rows=>Qcq (argI args 0)) [] [] 2
def Qaf(w:Int)(low:Int)(n:Int):Tree Int:=
.br (decide (low<0)) (.lf 0) (.br (decide (low>31)) (.lf 0) (.br (decide (n<1)) (.lf 0) (.cn (decide (0<=wrap u64 low)) (.an (Qhm n) (.lv (Z2s n) λ(x0:Int)=> .lf (iand u32 (ishr u32 w (wrap u64 low)) x0))))))
def Q35(w:Int)(low:Int)(n:Int):Int:=(Qaf w low n).m
abbrev Q5g(w:Int)(low:Int)(n:Int):Prop:=(Qaf w low n).p
def Zdp:Q0d:=mkP 233 [] true [.one (.int .u32), .one (.int .i64), .one (.int .i64)] [] (λargs rows=>Q5g (argI args 0) (argI args 1) (argI args 2)) (λargs rows=>Q35 (argI args 0) (argI args 1) (argI args 2)) (λX=> .int .u32 X) (λX=>[])
theorem Qmx:Q05 Tryz.prog Zdp:=Q0l drawn Q0j (.cons Qxz (.nil)) Tryz.func233 Tryz.call233 (λargs rows=>Qaf (argI args 0) (argI args 1) (argI args 2)) [] [] 2
def Q61(w:Int)(low:Int)(n:Int)(v:Int):Tree Int:=
.br (decide (low<0)) (.lf w) (.br (decide (low>31)) (.lf w) (.br (decide (n<1)) (.lf w) (.an (Qhm n) (.lv (Z2s n) λ(x0:Int)=> .cn (decide (0<=wrap u64 low)) (.cn (decide (0<=wrap u64 low)) (.lf (ior u32 (Qhp u32 w (ishl u32 x0 (wrap u64 low))) (ishl u32 (iand u32 v x0) (wrap u64 low)))))))))
def Q8i(w:Int)(low:Int)(n:Int)(v:Int):Int:=(Q61 w low n v).m
abbrev Qf0(w:Int)(low:Int)(n:Int)(v:Int):Prop:=(Q61 w low n v).p
def Z1j:Q0d:=mkP 278 [] true [.one (.int .u32), .one (.int .i64), .one (.int .i64), .one (.int .u32)] [] (λargs rows=>Qf0 (argI args 0) (argI args 1) (argI args 2) (argI args 3)) (λargs rows=>Q8i (argI args 0) (argI args 1) (argI args 2) (argI args 3)) (λX=> .int .u32 X) (λX=>[])
theorem Qzw:Q05 Tryz.prog Z1j:=Q0l drawn Q0j (.cons Qxz (.nil)) Tryz.func278 Tryz.call278 (λargs rows=>Q61 (argI args 0) (argI args 1) (argI args 2) (argI args 3)) [] [] 2
def Q5k(m:(List Int))(addr:Int)(size:Int)(v:Int):Tree ((List Int)×Bool):=
.an (Q09 m) (.lv (Q03 m) λ(x0:List Int)=> .an (Qb m addr size) (.lv (Qht m addr size) λ(x1:Bool)=> .br (!x1) (.lf (x0,false)) (let E1:=Nat.beq 1 1&&Nat.blt 0 1&&decide (0<=wrap u32 (Int.tdiv addr 4)/\wrap u32 (Int.tdiv addr 4)<(x0.length:Int));let E2:=Int.toNat (wrap u32 (Int.tdiv addr 4)); .br (size==1) (.cn E1 (let E3:=wrap i64 (wrap i64 (Int.tmod addr 4)*8); .an (Qf0 (x0.getD E2 0) E3 8 v) (.lv (Q8i (x0.getD E2 0) E3 8 v) λ(x2:Int)=> .cn E1 (.lf (List.set x0 E2 x2,true))))) (.cn E1 (.lf (List.set x0 E2 v,true))))))
def Q9u(m:(List Int))(addr:Int)(size:Int)(v:Int):((List Int)×Bool):=(Q5k m addr size v).m
abbrev Q91(m:(List Int))(addr:Int)(size:Int)(v:Int):Prop:=(Q5k m addr size v).p
def Z6o:Q0d:=mkP 239 [] true [.one (.ints .u32), .one (.int .u32), .one (.int .i64), .one (.int .u32)] [] (λargs rows=>Q91 (argL .u32 args 0) (argI args 1) (argI args 2) (argI args 3)) (λargs rows=>Q9u (argL .u32 args 0) (argI args 1) (argI args 2) (argI args 3)) (λX=> .tup [.all 0, .bool (X.2)]) (λX=>[⟨false,25,1, .ints .u32 (X.1)⟩])
theorem Qpn:Q05 Tryz.prog Z6o:=Q0l drawn Q0j (.cons Q0t (.cons Qnw (.cons Qzw (.nil)))) Tryz.func239 Tryz.call239 (λargs rows=>Q5k (argL .u32 args 0) (argI args 1) (argI args 2) (argI args 3)) [.row 25 1 (.ints .u32)] [] 2
def Zcv(op:Int):Tree (Q9j×Bool):=
.br (op==1) (.lf ({a:=true,b:=true,c:=true,low:=0,D6:=0},true)) (.br (op==2) (.lf ({a:=true,b:=true,c:=true,low:=0,D6:=0},true)) (.br (op==3) (.lf ({a:=true,b:=true,c:=true,low:=0,D6:=0},true)) (.br (op==4) (.lf ({a:=true,b:=true,c:=true,low:=0,D6:=0},true)) (.br (op==5) (.lf ({a:=true,b:=true,c:=true,low:=0,D6:=0},true)) (.br (op==6) (.lf ({a:=true,b:=true,c:=true,low:=0,D6:=0},true)) (.br (op==7) (.lf ({a:=true,b:=true,c:=true,low:=0,D6:=0},true)) (.br (op==8) (.lf ({a:=true,b:=true,c:=true,low:=0,D6:=0},true)) (.br (op==9) (.lf ({a:=true,b:=true,c:=true,low:=0,D6:=0},true)) (.br (op==10) (.lf ({a:=true,b:=true,c:=true,low:=0,D6:=0},true)) (.br (op==11) (.lf ({a:=true,b:=true,c:=true,low:=0,D6:=0},true)) (.br (op==12) (.lf ({a:=true,b:=true,c:=true,low:=0,D6:=0},true)) (.br (op==13) (.lf ({a:=true,b:=true,c:=true,low:=0,D6:=0},true)) (.br (op==16) (.lf ({a:=true,b:=true,c:=false,low:=(-32768),D6:=32767},true)) (.br (op==23) (.lf ({a:=true,b:=true,c:=false,low:=(-32768),D6:=32767},true)) (.br (op==32) (.lf ({a:=true,b:=true,c:=false,low:=(-32768),D6:=32767},true)) (.br (op==33) (.lf ({a:=true,b:=true,c:=false,low:=(-32768),D6:=32767},true)) (.br (op==34) (.lf ({a:=true,b:=true,c:=false,low:=(-32768),D6:=32767},true)) (.br (op==35) (.lf ({a:=true,b:=true,c:=false,low:=(-32768),D6:=32767},true)) (.br (op==36) (.lf ({a:=true,b:=true,c:=false,low:=(-32768),D6:=32767},true)) (.br (op==40) (.lf ({a:=true,b:=true,c:=false,low:=(-32768),D6:=32767},true)) (.br (op==41) (.lf ({a:=true,b:=true,c:=false,low:=(-32768),D6:=32767},true)) (.br (op==42) (.lf ({a:=true,b:=true,c:=false,low:=(-32768),D6:=32767},true)) (.br (op==43) (.lf ({a:=true,b:=true,c:=false,low:=(-32768),D6:=32767},true)) (.br (op==44) (.lf ({a:=true,b:=true,c:=false,low:=(-32768),D6:=32767},true)) (.br (op==45) (.lf ({a:=true,b:=true,c:=false,low:=(-32768),D6:=32767},true)) (.br (op==49) (.lf ({a:=true,b:=true,c:=false,low:=(-32768),D6:=32767},true)) (.br (op==17) (.lf ({a:=true,b:=true,c:=false,low:=0,D6:=65535},true)) (.br (op==18) (.lf ({a:=true,b:=true,c:=false,low:=0,D6:=65535},true)) (.br (op==19) (.lf ({a:=true,b:=true,c:=false,low:=0,D6:=65535},true)) (.br (op==20) (.lf ({a:=true,b:=true,c:=false,low:=0,D6:=31},true)) (.br (op==21) (.lf ({a:=true,b:=true,c:=false,low:=0,D6:=31},true)) (.br (op==22) (.lf ({a:=true,b:=true,c:=false,low:=0,D6:=31},true)) (.br (op==24) (.lf ({a:=true,b:=false,c:=false,low:=0,D6:=65535},true)) (.br (op==48) (.lf ({a:=true,b:=false,c:=false,low:=(-32768),D6:=32767},true)) (.br (op==58) (.lf ({a:=true,b:=false,c:=false,low:=0,D6:=7},true)) (.br (op==59) (.lf ({a:=true,b:=false,c:=false,low:=0,D6:=7},true)) (.br (op==60) (.lf ({a:=true,b:=false,c:=false,low:=0,D6:=11},true)) (.br (op==61) (.lf ({a:=true,b:=false,c:=false,low:=0,D6:=11},true)) (.br (op==56) (.lf ({a:=false,b:=false,c:=false,low:=0,D6:=0},true)) (.br (op==57) (.lf ({a:=false,b:=false,c:=false,low:=0,D6:=0},true)) (.br (op==62) (.lf ({a:=false,b:=false,c:=false,low:=0,D6:=0},true)) (.br (op==63) (.lf ({a:=false,b:=false,c:=false,low:=0,D6:=0},true)) (.br (op==64) (.lf ({a:=false,b:=false,c:=false,low:=0,D6:=0},true)) (.lf ({a:=false,b:=false,c:=false,low:=0,D6:=0},false)))))))))))))))))))))))))))))))))))))))))))))
def Z3b(op:Int):(Q9j×Bool):=(Zcv op).m
def qA:Q0d:=mkR 234 [] true [.one (.int .i64)] [] (λargs rows=>Z3b (argI args 0)) (λX=> .tup [.agg (Q9j.cells (X.1)), .bool (X.2)]) (λX=>[])
theorem Z7:Q05 Tryz.prog qA:=Q0z drawn Q0j (.nil) Tryz.func234 Tryz.call234 (λargs rows=>Zcv (argI args 0)) [] [] 2
def Q40(x:Int)(n:Int):Tree Int:=
.br (decide (n<1)) (.lf 0) (.br (decide (n>=32)) (.lf x) (let E1:=decide (0<=wrap u64 (wrap i64 (32-n))); .cn E1 (.cn E1 (.lf (wrap u32 (ishr i32 (wrap i32 (ishl u32 x (wrap u64 (wrap i64 (32-n))))) (wrap u64 (wrap i64 (32-n)))))))))
def Q2g(x:Int)(n:Int):Int:=(Q40 x n).m
abbrev Q8n(x:Int)(n:Int):Prop:=(Q40 x n).p
def Qx6:Q0d:=mkP 235 [] true [.one (.int .u32), .one (.int .i64)] [] (λargs rows=>Q8n (argI args 0) (argI args 1)) (λargs rows=>Q2g (argI args 0) (argI args 1)) (λX=> .int .u32 X) (λX=>[])
theorem Qkp:Q05 Tryz.prog Qx6:=Q0l drawn Q0j (.nil) Tryz.func235 Tryz.call235 (λargs rows=>Q40 (argI args 0) (argI args 1)) [] [] 2
def Qg(r:Int)(used:Bool):Tree Bool:=
.br used (.br (decide (r>=0)) (.lf (decide (r<=15))) (.lf false)) (.lf (r==0))
def Qa9(r:Int)(used:Bool):Bool:=(Qg r used).m
def Z6j:Q0d:=mkR 277 [] true [.one (.int .i64), .one (.bool)] [] (λargs rows=>Qa9 (argI args 0) (argB args 1)) (λX=> .bool X) (λX=>[])
theorem Z2x:Q05 Tryz.prog Z6j:=Q0z drawn Q0j (.nil) Tryz.func277 Tryz.call277 (λargs rows=>Qg (argI args 0) (argB args 1)) [] [] 2
def Qj4(i:Q0k):Tree Bool:=
.lv (Z3b i.Op) λ(x0:Q9j×Bool)=> .br x0.2 (.lv (Qa9 i.A x0.1.a) λ(x1:Bool)=> .br x1 (.lv (Qa9 i.B x0.1.b) λ(x2:Bool)=> .br x2 (.lv (Qa9 i.C x0.1.c) λ(x3:Bool)=> .br x3 (.br (decide (i.Imm>=x0.1.low)) (.lf (decide (i.Imm<=x0.1.D6))) (.lf false)) (.lf false)) (.lf false)) (.lf false)) (.lf false)
def Qg8(i:Q0k):Bool:=(Qj4 i).m
def Zhd:Q0d:=mkR 236 [] true [.agg Q0k.sig] [] (λargs rows=>Qg8 (Q0k.of (aC args 0))) (λX=> .bool X) (λX=>[])
theorem Zd5:Q05 Tryz.prog Zhd:=Q0z drawn Q0j (.cons Z7 (.cons Z2x (.nil))) Tryz.func236 Tryz.call236 (λargs rows=>Qj4 (Q0k.of (aC args 0))) [] [] 2
def Q83(w:Int):Tree (Q0k×Bool):=
.an (Q5g w 24 8) (.lv (Q35 w 24 8) λ(x0:Int)=> .an (Q5g w 20 4) (.lv (Q35 w 20 4) λ(x1:Int)=> .an (Q5g w 16 4) (.lv (Q35 w 16 4) λ(x2:Int)=> .lv (Z3b (wrap i64 x0)) λ(x3:Q9j×Bool)=>let E1:=({Op:=0,A:=0,B:=0,C:=0,Imm:=0}:Q0k); .br (!x3.2) (.lf (E1,false)) (.an (Q5g w 0 16) (.lv (Q35 w 0 16) λ(x4:Int)=> .br x3.1.c (let E2:=({Op:=wrap i64 x0,A:=wrap i64 x1,B:=wrap i64 x2,C:=wrap i64 x4,Imm:=0}:Q0k); .lv (Qg8 E2) λ(x5:Bool)=> .br (!x5) (.lf (E1,false)) (.lf (E2,true))) (.br (decide (x3.1.low<0)) (.an (Q8n x4 16) (.lv (Q2g x4 16) λ(x6:Int)=>let E3:=({Op:=wrap i64 x0,A:=wrap i64 x1,B:=wrap i64 x2,C:=0,Imm:=wrap i32 x6}:Q0k); .lv (Qg8 E3) λ(x7:Bool)=> .br (!x7) (.lf (E1,false)) (.lf (E3,true)))) (let E4:=({Op:=wrap i64 x0,A:=wrap i64 x1,B:=wrap i64 x2,C:=0,Imm:=wrap i32 x4}:Q0k); .lv (Qg8 E4) λ(x8:Bool)=> .br (!x8) (.lf (E1,false)) (.lf (E4,true)))))))))
def Qi0(w:Int):(Q0k×Bool):=(Q83 w).m
abbrev Qla(w:Int):Prop:=(Q83 w).p
def Zh1:Q0d:=mkP 180 [] true [.one (.int .u32)] [] (λargs rows=>Qla (argI args 0)) (λargs rows=>Qi0 (argI args 0)) (λX=> .tup [.agg (Q0k.cells (X.1)), .bool (X.2)]) (λX=>[])
theorem Z9m:Q05 Tryz.prog Zh1:=Q0l drawn Q0j (.cons Qmx (.cons Z7 (.cons Qkp (.cons Zd5 (.nil))))) Tryz.func180 Tryz.call180 (λargs rows=>Q83 (argI args 0)) [] [] 2
def Q76(a:Int)(b:Int):Tree (Int×Int):=
.br (b==0) (.lf (4294967295,a)) (let T1:Tree ((Int×Int)):= .cn (decide (wrap i32 b≠0)) (.cn (decide (wrap i32 b≠0)) (.lf (wrap u32 (wrap i32 (Int.tdiv (wrap i32 a) (wrap i32 b))),wrap u32 (Int.tmod (wrap i32 a) (wrap i32 b))))); .br (a==2147483648) (.br (b==4294967295) (.lf (a,0)) T1) T1)
def Qd7(a:Int)(b:Int):(Int×Int):=(Q76 a b).m
abbrev Qdt(a:Int)(b:Int):Prop:=(Q76 a b).p
def Z9i:Q0d:=mkP 279 [] true [.one (.int .u32), .one (.int .u32)] [] (λargs rows=>Qdt (argI args 0) (argI args 1)) (λargs rows=>Qd7 (argI args 0) (argI args 1)) (λX=> .tup [.int .u32 (X.1), .int .u32 (X.2)]) (λX=>[])
theorem Z4z:Q05 Tryz.prog Z9i:=Q0l drawn Q0j (.nil) Tryz.func279 Tryz.call279 (λargs rows=>Q76 (argI args 0) (argI args 1)) [] [] 2
def Z3x(b:Bool):Tree Int:=
.br b (.lf 1) (.lf 0)
def Qoo(b:Bool):Int:=(Z3x b).m
def Zje:Q0d:=mkR 280 [] true [.one (.bool)] [] (λargs rows=>Qoo (argB args 0)) (λX=> .int .u32 X) (λX=>[])
theorem Zdf:Q05 Tryz.prog Zje:=Q0z drawn Q0j (.nil) Tryz.func280 Tryz.call280 (λargs rows=>Z3x (argB args 0)) [] [] 2
def Qjp(op:Int)(a:Int)(b:Int):Tree (Int×Bool):=
.br (op==2) (.lf (wrap u32 (a+wrap u32 (0-b)),true)) (.br (op==1) (.lf (wrap u32 (a+b),true)) (.br (op==16) (.lf (wrap u32 (a+b),true)) (.br (op==3) (.lf (iand u32 a b,true)) (.br (op==17) (.lf (iand u32 a b,true)) (.br (op==4) (.lf (ior u32 a b,true)) (.br (op==18) (.lf (ior u32 a b,true)) (.br (op==5) (.lf (ixor u32 a b,true)) (.br (op==19) (.lf (ixor u32 a b,true)) (.br (op==6) (.lf (ishl u32 a (iand u32 b 31),true)) (.br (op==20) (.lf (ishl u32 a (iand u32 b 31),true)) (.br (op==7) (.lf (ishr u32 a (iand u32 b 31),true)) (.br (op==21) (.lf (ishr u32 a (iand u32 b 31),true)) (let E1:=(wrap u32 (ishr i32 (wrap i32 a) (iand u32 b 31)),true); .br (op==8) (.lf E1) (.br (op==22) (.lf E1) (.br (op==9) (.lf (wrap u32 (a*b),true)) (.br (op==10) (.an (Qdt a b) (.lv (Qd7 a b) λ(x0:Int×Int)=> .lf (x0.1,true))) (.br (op==11) (.an (Qdt a b) (.lv (Qd7 a b) λ(x1:Int×Int)=> .lf (x1.2,true))) (.br (op==12) (.lv (Qoo (decide (wrap i32 a<wrap i32 b))) λ(x2:Int)=> .lf (x2,true)) (.br (op==23) (.lv (Qoo (decide (wrap i32 a<wrap i32 b))) λ(x3:Int)=> .lf (x3,true)) (.br (op==13) (.lv (Qoo (decide (a<b))) λ(x4:Int)=> .lf (x4,true)) (.lf (0,false))))))))))))))))))))))
def Q4f(op:Int)(a:Int)(b:Int):(Int×Bool):=(Qjp op a b).m
abbrev Qml(op:Int)(a:Int)(b:Int):Prop:=(Qjp op a b).p
def xA:Q0d:=mkP 243 [] true [.one (.int .i64), .one (.int .u32), .one (.int .u32)] [] (λargs rows=>Qml (argI args 0) (argI args 1) (argI args 2)) (λargs rows=>Q4f (argI args 0) (argI args 1) (argI args 2)) (λX=> .tup [.int .u32 (X.1), .bool (X.2)]) (λX=>[])
theorem Zo5:Q05 Tryz.prog xA:=Q0l drawn Q0j (.cons Z4z (.cons Zdf (.nil))) Tryz.func243 Tryz.call243 (λargs rows=>Qjp (argI args 0) (argI args 1) (argI args 2)) [] [] 2

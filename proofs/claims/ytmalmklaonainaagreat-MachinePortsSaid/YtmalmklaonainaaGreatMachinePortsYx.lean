import Derived.Test.YtmalmklaonainaaGreatMachinePortsBase
set_option maxRecDepth 100000
set_option linter.all false
namespace Go.Proofs.YtmalmklaonainaaGreat
open Go Go.GD Go.IntKind
noncomputable section
def Q01(s:(List Int)):(List Int):=
s
def Q05(s:(List Int)):Prop:=
s.length<=35184372088832
def Q2o(s:(List Int)):List D:=[.sl 1 (.ints .u32 s) false]
def Q1u(s:(List Int)):List Row:=[]
def Q18(X:(List Int)):D:= .all 0
def Q16(X:(List Int)):List Row:=[⟨false,25,1, .ints .u32 X⟩]
def Qaf:List Dir:=[.row 25 1 (.ints .u32)]
def Q5e:List PT:=[.one (.ints .u32)]
def Q56:List RT:=[]
def Qaz(args:List D)(rows:List Row):(List Int):=Q01 (argL .u32 args 0)
def Qb3(args:List D)(rows:List Row):Prop:=Q05 (argL .u32 args 0)
def Qbv:Q0d:=mkP 129 [] true Q5e Q56 Qb3 Qaz Q18 Q16
def Q3f(s:(List Int))(Leaf:(List Int)->Prop):Prop:=
(s=[]->Leaf [])/\cand (decide ((4:Nat)*((0:Nat)+s.length)<=(140737488355328:Nat))) (Leaf s)
set_option maxRecDepth 100000 in
theorem Qbb(s:(List Int))(Q:D->List Row->Prop):(fnVC tab [] (LL tab [] Tryz.f129.ntmps 0 [] 2) Tryz.f129 (Q2o s) (Q1u s) λd R=>Qbf (Q1u s).length Qaf d R Q)=Q3f s (λX=>Q (Q18 X) (Q16 X)):=by kernel_rfl
theorem Qa0(s:(List Int))(Leaf:(List Int)->Prop)(hw:Q05 s)(h:Leaf (Q01 s)):
Q3f s Leaf:=by
 delta Q3f
 refine⟨λe=>by rw[e]at h;exact h,?_⟩
 rw[Q04]
 refine⟨dY ?_,h⟩
 have:s.length<=35184372088832:=hw
 omega
set_option maxRecDepth 100000 in
theorem Q9v(s:(List Int))(hw:Q05 s):Q3v pG 129 (Q2o s) (Q1u s) (Q18 (Q01 s)) (Q16 (Q01 s)):=
 have hG:Q6b pG []:= .nil
 FnOK.calls drawn Q0p hG Tryz.func129 (rf:=none) (λ_ _=>trivial) (LL_ok drawn Q0p hG (.inl rfl) 2 (invs:=[])) (FnOK.of (Qbb s _) (Qa0 s (λX=>Q18 X=Q18 (Q01 s)/\Q16 X=Q16 (Q01 s)) hw ⟨rfl,rfl⟩))
set_option maxRecDepth 100000 in
theorem Qai(args:List D)(rows:List Row):Qko Q5e args 0=Q2o (argL .u32 args 0):=by kernel_rfl
set_option maxRecDepth 100000 in
theorem Q9w(args:List D)(rows:List Row):Q95 Q56 rows 0=Q1u (argL .u32 args 0):=by kernel_rfl
set_option maxRecDepth 100000 in
theorem Qbg(X:(List Int)):(ffB (Q18 X)&&ffBR (Q16 X))=true:=by kernel_rfl
theorem Q0j:Q07 pG Qbv:=Z2a Tryz.call129 (λargs rows hp=>by rw[Qai args rows,Q9w args rows];exact Q9v (argL .u32 args 0) hp) (λ_ X=>Qbg X)
def Q66(m:(List Int)):Tree Int:=
.br (Int.tmod (m.length:Int) (32:Int) !=(0:Int)) (.lf 0) (.br (decide ((m.length:Int)>(1024:Int))) (.lf 0) (.lf (wrap i64 (Int.tdiv (m.length:Int) 32))))
def Q0i(m:(List Int)):Int:=(Q66 m).m
def Qv5:Q0d:=mkR 43 [] true [.one (.ints .u32)] [] (λargs rows=>Q0i (argL .u32 args 0)) (λX=> .int .i64 X) (λX=>[])
theorem Q2y:Q07 pG Qv5:=Q1w drawn Q0p (.nil) Tryz.func43 Tryz.call43 (λargs rows=>Q66 (argL .u32 args 0)) [] [] 2
def Q28(m:(List Int))(addr:Int)(size:Int):Tree Bool:=
let T1:Tree (Bool):= .cn (decide (wrap u32 size≠0)) (.br (Int.tmod addr (wrap u32 size) !=0) (.lf false) (.lv (Q0i m) λ(x0:Int)=> .lf (decide (wrap u64 (wrap u64 addr+wrap u64 size)<=wrap u64 (wrap u64 x0*128))))); .br (size !=1) (.br (size !=4) (.lf false) T1) T1
def Qbo(m:(List Int))(addr:Int)(size:Int):Bool:=(Q28 m addr size).m
abbrev Q76(m:(List Int))(addr:Int)(size:Int):Prop:=(Q28 m addr size).p
def Qt5:Q0d:=mkP 275 [] true [.one (.ints .u32), .one (.int .u32), .one (.int .i64)] [] (λargs rows=>Q76 (argL .u32 args 0) (argI args 1) (argI args 2)) (λargs rows=>Qbo (argL .u32 args 0) (argI args 1) (argI args 2)) (λX=> .bool X) (λX=>[])
theorem Qgy:Q07 pG Qt5:=Q0t drawn Q0p (.cons Q2y (.nil)) Tryz.func275 Tryz.call275 (λargs rows=>Q28 (argL .u32 args 0) (argI args 1) (argI args 2)) [] [] 2
def Q8k(n:Int):Tree Int:=
.br (decide (n>=32)) (.lf 4294967295) (.cn (decide (0<=wrap u64 n)) (.lf (wrap u32 (ishl u32 1 (wrap u64 n)-1))))
def Qqt(n:Int):Int:=(Q8k n).m
abbrev Qc(n:Int):Prop:=(Q8k n).p
def Z4m:Q0d:=mkP 276 [] true [.one (.int .i64)] [] (λargs rows=>Qc (argI args 0)) (λargs rows=>Qqt (argI args 0)) (λX=> .int .u32 X) (λX=>[])
theorem Qp2:Q07 pG Z4m:=Q0t drawn Q0p (.nil) Tryz.func276 Tryz.call276 (λargs rows=>Q8k (argI args 0)) [] [] 2
def Q6x(w:Int)(low:Int)(n:Int):Tree Int:=
.br (decide (low<0)) (.lf 0) (.br (decide (low>31)) (.lf 0) (.br (decide (n<1)) (.lf 0) (.cn (decide (0<=wrap u64 low)) (.an (Qc n) (.lv (Qqt n) λ(x0:Int)=> .lf (iand u32 (ishr u32 w (wrap u64 low)) x0))))))
def Q23(w:Int)(low:Int)(n:Int):Int:=(Q6x w low n).m
abbrev Q3k(w:Int)(low:Int)(n:Int):Prop:=(Q6x w low n).p
def Z2y:Q0d:=mkP 233 [] true [.one (.int .u32), .one (.int .i64), .one (.int .i64)] [] (λargs rows=>Q3k (argI args 0) (argI args 1) (argI args 2)) (λargs rows=>Q23 (argI args 0) (argI args 1) (argI args 2)) (λX=> .int .u32 X) (λX=>[])
theorem Qg3:Q07 pG Z2y:=Q0t drawn Q0p (.cons Qp2 (.nil)) Tryz.func233 Tryz.call233 (λargs rows=>Q6x (argI args 0) (argI args 1) (argI args 2)) [] [] 2
def Q6m(w:Int)(low:Int)(n:Int)(v:Int):Tree Int:=
.br (decide (low<0)) (.lf w) (.br (decide (low>31)) (.lf w) (.br (decide (n<1)) (.lf w) (.an (Qc n) (.lv (Qqt n) λ(x0:Int)=> .cn (decide (0<=wrap u64 low)) (.cn (decide (0<=wrap u64 low)) (.lf (ior u32 (Qbs u32 w (ishl u32 x0 (wrap u64 low))) (ishl u32 (iand u32 v x0) (wrap u64 low)))))))))
def Q5h(w:Int)(low:Int)(n:Int)(v:Int):Int:=(Q6m w low n v).m
abbrev Qfe(w:Int)(low:Int)(n:Int)(v:Int):Prop:=(Q6m w low n v).p
def Qts:Q0d:=mkP 278 [] true [.one (.int .u32), .one (.int .i64), .one (.int .i64), .one (.int .u32)] [] (λargs rows=>Qfe (argI args 0) (argI args 1) (argI args 2) (argI args 3)) (λargs rows=>Q5h (argI args 0) (argI args 1) (argI args 2) (argI args 3)) (λX=> .int .u32 X) (λX=>[])
theorem Qpn:Q07 pG Qts:=Q0t drawn Q0p (.cons Qp2 (.nil)) Tryz.func278 Tryz.call278 (λargs rows=>Q6m (argI args 0) (argI args 1) (argI args 2) (argI args 3)) [] [] 2
def Q68(m:(List Int))(addr:Int)(size:Int)(v:Int):Tree ((List Int)×Bool):=
.an (Q05 m) (.lv (Q01 m) λ(x0:List Int)=> .an (Q76 m addr size) (.lv (Qbo m addr size) λ(x1:Bool)=> .br (!x1) (.lf (x0,false)) (let E1:=Nat.beq 1 1&&Nat.blt 0 1&&decide (0<=wrap u32 (Int.tdiv addr 4)/\wrap u32 (Int.tdiv addr 4)<(x0.length:Int));let E2:=Int.toNat (wrap u32 (Int.tdiv addr 4)); .br (size==1) (.cn E1 (let E3:=wrap i64 (wrap i64 (Int.tmod addr 4)*8); .an (Qfe (x0.getD E2 0) E3 8 v) (.lv (Q5h (x0.getD E2 0) E3 8 v) λ(x2:Int)=> .cn E1 (.lf (List.set x0 E2 x2,true))))) (.cn E1 (.lf (List.set x0 E2 v,true))))))
def Q6o(m:(List Int))(addr:Int)(size:Int)(v:Int):((List Int)×Bool):=(Q68 m addr size v).m
abbrev Q84(m:(List Int))(addr:Int)(size:Int)(v:Int):Prop:=(Q68 m addr size v).p
def Quc:Q0d:=mkP 239 [] true [.one (.ints .u32), .one (.int .u32), .one (.int .i64), .one (.int .u32)] [] (λargs rows=>Q84 (argL .u32 args 0) (argI args 1) (argI args 2) (argI args 3)) (λargs rows=>Q6o (argL .u32 args 0) (argI args 1) (argI args 2) (argI args 3)) (λX=> .tup [.all 0, .bool (X.2)]) (λX=>[⟨false,25,1, .ints .u32 (X.1)⟩])
theorem Qh8:Q07 pG Quc:=Q0t drawn Q0p (.cons Q0j (.cons Qgy (.cons Qpn (.nil)))) Tryz.func239 Tryz.call239 (λargs rows=>Q68 (argL .u32 args 0) (argI args 1) (argI args 2) (argI args 3)) [.row 25 1 (.ints .u32)] [] 2
def Z12(op:Int):Tree (Q6e×Bool):=
.br (op==1) (.lf ({a:=true,b:=true,c:=true,low:=0,C8:=0},true)) (.br (op==2) (.lf ({a:=true,b:=true,c:=true,low:=0,C8:=0},true)) (.br (op==3) (.lf ({a:=true,b:=true,c:=true,low:=0,C8:=0},true)) (.br (op==4) (.lf ({a:=true,b:=true,c:=true,low:=0,C8:=0},true)) (.br (op==5) (.lf ({a:=true,b:=true,c:=true,low:=0,C8:=0},true)) (.br (op==6) (.lf ({a:=true,b:=true,c:=true,low:=0,C8:=0},true)) (.br (op==7) (.lf ({a:=true,b:=true,c:=true,low:=0,C8:=0},true)) (.br (op==8) (.lf ({a:=true,b:=true,c:=true,low:=0,C8:=0},true)) (.br (op==9) (.lf ({a:=true,b:=true,c:=true,low:=0,C8:=0},true)) (.br (op==10) (.lf ({a:=true,b:=true,c:=true,low:=0,C8:=0},true)) (.br (op==11) (.lf ({a:=true,b:=true,c:=true,low:=0,C8:=0},true)) (.br (op==12) (.lf ({a:=true,b:=true,c:=true,low:=0,C8:=0},true)) (.br (op==13) (.lf ({a:=true,b:=true,c:=true,low:=0,C8:=0},true)) (.br (op==16) (.lf ({a:=true,b:=true,c:=false,low:=(-32768),C8:=32767},true)) (.br (op==23) (.lf ({a:=true,b:=true,c:=false,low:=(-32768),C8:=32767},true)) (.br (op==32) (.lf ({a:=true,b:=true,c:=false,low:=(-32768),C8:=32767},true)) (.br (op==33) (.lf ({a:=true,b:=true,c:=false,low:=(-32768),C8:=32767},true)) (.br (op==34) (.lf ({a:=true,b:=true,c:=false,low:=(-32768),C8:=32767},true)) (.br (op==35) (.lf ({a:=true,b:=true,c:=false,low:=(-32768),C8:=32767},true)) (.br (op==36) (.lf ({a:=true,b:=true,c:=false,low:=(-32768),C8:=32767},true)) (.br (op==40) (.lf ({a:=true,b:=true,c:=false,low:=(-32768),C8:=32767},true)) (.br (op==41) (.lf ({a:=true,b:=true,c:=false,low:=(-32768),C8:=32767},true)) (.br (op==42) (.lf ({a:=true,b:=true,c:=false,low:=(-32768),C8:=32767},true)) (.br (op==43) (.lf ({a:=true,b:=true,c:=false,low:=(-32768),C8:=32767},true)) (.br (op==44) (.lf ({a:=true,b:=true,c:=false,low:=(-32768),C8:=32767},true)) (.br (op==45) (.lf ({a:=true,b:=true,c:=false,low:=(-32768),C8:=32767},true)) (.br (op==49) (.lf ({a:=true,b:=true,c:=false,low:=(-32768),C8:=32767},true)) (.br (op==17) (.lf ({a:=true,b:=true,c:=false,low:=0,C8:=65535},true)) (.br (op==18) (.lf ({a:=true,b:=true,c:=false,low:=0,C8:=65535},true)) (.br (op==19) (.lf ({a:=true,b:=true,c:=false,low:=0,C8:=65535},true)) (.br (op==20) (.lf ({a:=true,b:=true,c:=false,low:=0,C8:=31},true)) (.br (op==21) (.lf ({a:=true,b:=true,c:=false,low:=0,C8:=31},true)) (.br (op==22) (.lf ({a:=true,b:=true,c:=false,low:=0,C8:=31},true)) (.br (op==24) (.lf ({a:=true,b:=false,c:=false,low:=0,C8:=65535},true)) (.br (op==48) (.lf ({a:=true,b:=false,c:=false,low:=(-32768),C8:=32767},true)) (.br (op==58) (.lf ({a:=true,b:=false,c:=false,low:=0,C8:=7},true)) (.br (op==59) (.lf ({a:=true,b:=false,c:=false,low:=0,C8:=7},true)) (.br (op==60) (.lf ({a:=true,b:=false,c:=false,low:=0,C8:=11},true)) (.br (op==61) (.lf ({a:=true,b:=false,c:=false,low:=0,C8:=11},true)) (.br (op==56) (.lf ({a:=false,b:=false,c:=false,low:=0,C8:=0},true)) (.br (op==57) (.lf ({a:=false,b:=false,c:=false,low:=0,C8:=0},true)) (.br (op==62) (.lf ({a:=false,b:=false,c:=false,low:=0,C8:=0},true)) (.br (op==63) (.lf ({a:=false,b:=false,c:=false,low:=0,C8:=0},true)) (.br (op==64) (.lf ({a:=false,b:=false,c:=false,low:=0,C8:=0},true)) (.lf ({a:=false,b:=false,c:=false,low:=0,C8:=0},false)))))))))))))))))))))))))))))))))))))))))))))
def Qtv(op:Int):(Q6e×Bool):=(Z12 op).m
def qt:Q0d:=mkR 234 [] true [.one (.int .i64)] [] (λargs rows=>Qtv (argI args 0)) (λX=> .tup [.agg (Q6e.cells (X.1)), .bool (X.2)]) (λX=>[])
theorem Qvc:Q07 pG qt:=Q1w drawn Q0p (.nil) Tryz.func234 Tryz.call234 (λargs rows=>Z12 (argI args 0)) [] [] 2
def Q55(x:Int)(n:Int):Tree Int:=
.br (decide (n<1)) (.lf 0) (.br (decide (n>=32)) (.lf x) (let E1:=decide (0<=wrap u64 (wrap i64 (32-n))); .cn E1 (.cn E1 (.lf (wrap u32 (ishr i32 (wrap i32 (ishl u32 x (wrap u64 (wrap i64 (32-n))))) (wrap u64 (wrap i64 (32-n)))))))))
def Q1n(x:Int)(n:Int):Int:=(Q55 x n).m
abbrev Q8m(x:Int)(n:Int):Prop:=(Q55 x n).p
def Qnn:Q0d:=mkP 235 [] true [.one (.int .u32), .one (.int .i64)] [] (λargs rows=>Q8m (argI args 0) (argI args 1)) (λargs rows=>Q1n (argI args 0) (argI args 1)) (λX=> .int .u32 X) (λX=>[])
theorem Qe6:Q07 pG Qnn:=Q0t drawn Q0p (.nil) Tryz.func235 Tryz.call235 (λargs rows=>Q55 (argI args 0) (argI args 1)) [] [] 2
def Qan(r:Int)(used:Bool):Tree Bool:=
.br used (.br (decide (r>=0)) (.lf (decide (r<=15))) (.lf false)) (.lf (r==0))
def Q6l(r:Int)(used:Bool):Bool:=(Qan r used).m
def Qul:Q0d:=mkR 277 [] true [.one (.int .i64), .one (.bool)] [] (λargs rows=>Q6l (argI args 0) (argB args 1)) (λX=> .bool X) (λX=>[])
theorem Qr2:Q07 pG Qul:=Q1w drawn Q0p (.nil) Tryz.func277 Tryz.call277 (λargs rows=>Qan (argI args 0) (argB args 1)) [] [] 2
def Qda(i:Q0e):Tree Bool:=
.lv (Qtv i.Op) λ(x0:Q6e×Bool)=> .br x0.2 (.lv (Q6l i.A x0.1.a) λ(x1:Bool)=> .br x1 (.lv (Q6l i.B x0.1.b) λ(x2:Bool)=> .br x2 (.lv (Q6l i.C x0.1.c) λ(x3:Bool)=> .br x3 (.br (decide (i.Imm>=x0.1.low)) (.lf (decide (i.Imm<=x0.1.C8))) (.lf false)) (.lf false)) (.lf false)) (.lf false)) (.lf false)
def Qas(i:Q0e):Bool:=(Qda i).m
def Z3z:Q0d:=mkR 236 [] true [.agg Q0e.sig] [] (λargs rows=>Qas (Q0e.of (aC args 0))) (λX=> .bool X) (λX=>[])
theorem Z0e:Q07 pG Z3z:=Q1w drawn Q0p (.cons Qvc (.cons Qr2 (.nil))) Tryz.func236 Tryz.call236 (λargs rows=>Qda (Q0e.of (aC args 0))) [] [] 2
def Q5d(w:Int):Tree (Q0e×Bool):=
.an (Q3k w 24 8) (.lv (Q23 w 24 8) λ(x0:Int)=> .an (Q3k w 20 4) (.lv (Q23 w 20 4) λ(x1:Int)=> .an (Q3k w 16 4) (.lv (Q23 w 16 4) λ(x2:Int)=> .lv (Qtv (wrap i64 x0)) λ(x3:Q6e×Bool)=>let E1:=({Op:=0,A:=0,B:=0,C:=0,Imm:=0}:Q0e); .br (!x3.2) (.lf (E1,false)) (.an (Q3k w 0 16) (.lv (Q23 w 0 16) λ(x4:Int)=> .br x3.1.c (let E2:=({Op:=wrap i64 x0,A:=wrap i64 x1,B:=wrap i64 x2,C:=wrap i64 x4,Imm:=0}:Q0e); .lv (Qas E2) λ(x5:Bool)=> .br (!x5) (.lf (E1,false)) (.lf (E2,true))) (.br (decide (x3.1.low<0)) (.an (Q8m x4 16) (.lv (Q1n x4 16) λ(x6:Int)=>let E3:=({Op:=wrap i64 x0,A:=wrap i64 x1,B:=wrap i64 x2,C:=0,Imm:=wrap i32 x6}:Q0e); .lv (Qas E3) λ(x7:Bool)=> .br (!x7) (.lf (E1,false)) (.lf (E3,true)))) (let E4:=({Op:=wrap i64 x0,A:=wrap i64 x1,B:=wrap i64 x2,C:=0,Imm:=wrap i32 x4}:Q0e); .lv (Qas E4) λ(x8:Bool)=> .br (!x8) (.lf (E1,false)) (.lf (E4,true)))))))))
def Qc7(w:Int):(Q0e×Bool):=(Q5d w).m
abbrev Qeo(w:Int):Prop:=(Q5d w).p
def Z0r:Q0d:=mkP 180 [] true [.one (.int .u32)] [] (λargs rows=>Qeo (argI args 0)) (λargs rows=>Qc7 (argI args 0)) (λX=> .tup [.agg (Q0e.cells (X.1)), .bool (X.2)]) (λX=>[])
theorem Qy1:Q07 pG Z0r:=Q0t drawn Q0p (.cons Qg3 (.cons Qvc (.cons Qe6 (.cons Z0e (.nil))))) Tryz.func180 Tryz.call180 (λargs rows=>Q5d (argI args 0)) [] [] 2
def Q79(a:Int)(b:Int):Tree (Int×Int):=
.br (b==0) (.lf (4294967295,a)) (let T1:Tree ((Int×Int)):= .cn (decide (wrap i32 b≠0)) (.cn (decide (wrap i32 b≠0)) (.lf (wrap u32 (wrap i32 (Int.tdiv (wrap i32 a) (wrap i32 b))),wrap u32 (Int.tmod (wrap i32 a) (wrap i32 b))))); .br (a==2147483648) (.br (b==4294967295) (.lf (a,0)) T1) T1)
def Q8i(a:Int)(b:Int):(Int×Int):=(Q79 a b).m
abbrev Qdc(a:Int)(b:Int):Prop:=(Q79 a b).p
def Qyh:Q0d:=mkP 279 [] true [.one (.int .u32), .one (.int .u32)] [] (λargs rows=>Qdc (argI args 0) (argI args 1)) (λargs rows=>Q8i (argI args 0) (argI args 1)) (λX=> .tup [.int .u32 (X.1), .int .u32 (X.2)]) (λX=>[])
theorem Qut:Q07 pG Qyh:=Q0t drawn Q0p (.nil) Tryz.func279 Tryz.call279 (λargs rows=>Q79 (argI args 0) (argI args 1)) [] [] 2
def Qr5(b:Bool):Tree Int:=
.br b (.lf 1) (.lf 0)
def Qho(b:Bool):Int:=(Qr5 b).m
def Z4i:Q0d:=mkR 280 [] true [.one (.bool)] [] (λargs rows=>Qho (argB args 0)) (λX=> .int .u32 X) (λX=>[])
theorem Z2i:Q07 pG Z4i:=Q1w drawn Q0p (.nil) Tryz.func280 Tryz.call280 (λargs rows=>Qr5 (argB args 0)) [] [] 2
def Qi3(op:Int)(a:Int)(b:Int):Tree (Int×Bool):=
.br (op==2) (.lf (wrap u32 (a+wrap u32 (0-b)),true)) (.br (op==1) (.lf (wrap u32 (a+b),true)) (.br (op==16) (.lf (wrap u32 (a+b),true)) (.br (op==3) (.lf (iand u32 a b,true)) (.br (op==17) (.lf (iand u32 a b,true)) (.br (op==4) (.lf (ior u32 a b,true)) (.br (op==18) (.lf (ior u32 a b,true)) (.br (op==5) (.lf (ixor u32 a b,true)) (.br (op==19) (.lf (ixor u32 a b,true)) (.br (op==6) (.lf (ishl u32 a (iand u32 b 31),true)) (.br (op==20) (.lf (ishl u32 a (iand u32 b 31),true)) (.br (op==7) (.lf (ishr u32 a (iand u32 b 31),true)) (.br (op==21) (.lf (ishr u32 a (iand u32 b 31),true)) (let E1:=(wrap u32 (ishr i32 (wrap i32 a) (iand u32 b 31)),true); .br (op==8) (.lf E1) (.br (op==22) (.lf E1) (.br (op==9) (.lf (wrap u32 (a*b),true)) (.br (op==10) (.an (Qdc a b) (.lv (Q8i a b) λ(x0:Int×Int)=> .lf (x0.1,true))) (.br (op==11) (.an (Qdc a b) (.lv (Q8i a b) λ(x1:Int×Int)=> .lf (x1.2,true))) (.br (op==12) (.lv (Qho (decide (wrap i32 a<wrap i32 b))) λ(x2:Int)=> .lf (x2,true)) (.br (op==23) (.lv (Qho (decide (wrap i32 a<wrap i32 b))) λ(x3:Int)=> .lf (x3,true)) (.br (op==13) (.lv (Qho (decide (a<b))) λ(x4:Int)=> .lf (x4,true)) (.lf (0,false))))))))))))))))))))))
def Q2x(op:Int)(a:Int)(b:Int):(Int×Bool):=(Qi3 op a b).m
abbrev Qk8(op:Int)(a:Int)(b:Int):Prop:=(Qi3 op a b).p
def xt:Q0d:=mkP 243 [] true [.one (.int .i64), .one (.int .u32), .one (.int .u32)] [] (λargs rows=>Qk8 (argI args 0) (argI args 1) (argI args 2)) (λargs rows=>Q2x (argI args 0) (argI args 1) (argI args 2)) (λX=> .tup [.int .u32 (X.1), .bool (X.2)]) (λX=>[])
theorem Z9s:Q07 pG xt:=Q0t drawn Q0p (.cons Qut (.cons Z2i (.nil))) Tryz.func243 Tryz.call243 (λargs rows=>Qi3 (argI args 0) (argI args 1) (argI args 2)) [] [] 2
end
noncomputable section
def Qiv(status:Int)(from0:Int)(to:Int):Tree Int:=
.br (iand u32 status from0 !=0) (.lf (ior u32 status to)) (.lf (Qbs u32 status to))
def Q6c(status:Int)(from0:Int)(to:Int):Int:=(Qiv status from0 to).m
def Z7s:Q0d:=mkR 230 [] true [.one (.int .u32), .one (.int .u32), .one (.int .u32)] [] (λargs rows=>Q6c (argI args 0) (argI args 1) (argI args 2)) (λX=> .int .u32 X) (λX=>[])
theorem Qrx:Q07 pG Z7s:=Q1w drawn Q0p (.nil) Tryz.func230 Tryz.call230 (λargs rows=>Qiv (argI args 0) (argI args 1) (argI args 2)) [] [] 2
def Qff(c:Q03)(cause:Int)(bad:Int):Tree Q03:=
.lv (Q6c c.B3.a0 1 8) λ(x0:Int)=> .lv (Q6c x0 2 16) λ(x1:Int)=> .lf ({X:=c.X,Pc:=c.B3.a1,B3:={a0:=Qbs u32 (ior u32 x1 1) 2,a1:=c.B3.a1,a2:=c.Pc,a3:=wrap u32 cause,a4:=bad,a5:=c.B3.a5,a6:=c.B3.a6,a7:=c.B3.a7}})
def Q3b(c:Q03)(cause:Int)(bad:Int):Q03:=(Qff c cause bad).m
def Z80:Q0d:=mkR 178 [] true [.agg Q03.sig, .one (.int .i64), .one (.int .u32)] [] (λargs rows=>Q3b (Q03.of (aC args 0)) (argI args 1) (argI args 2)) (λX=> .agg (Q03.cells X)) (λX=>[])
theorem Qdn:Q07 pG Z80:=Q1w drawn Q0p (.cons Qrx (.nil)) Tryz.func178 Tryz.call178 (λargs rows=>Qff (Q03.of (aC args 0)) (argI args 1) (argI args 2)) [] [] 2
def Qkx(access:Int):Tree (Int×Bool):=
.br (access==1) (.lf (4,true)) (.br (access==2) (.lf (5,true)) (.br (access==3) (.lf (6,true)) (.lf (5,false))))
def Qkf(access:Int):(Int×Bool):=(Qkx access).m
def Qzi:Q0d:=mkR 272 [] true [.one (.int .i64)] [] (λargs rows=>Qkf (argI args 0)) (λX=> .tup [.int .i64 (X.1), .bool (X.2)]) (λX=>[])
theorem Qub:Q07 pG Qzi:=Q1w drawn Q0p (.nil) Tryz.func272 Tryz.call272 (λargs rows=>Qkx (argI args 0)) [] [] 2
def Qp(c:Q03):Tree Bool:=
.lf (iand u32 c.B3.a0 (1:Int) !=(0:Int))
def Q8r(c:Q03):Bool:=(Qp c).m
def Z2u:Q0d:=mkR 182 [] true [.agg Q03.sig] [] (λargs rows=>Q8r (Q03.of (aC args 0))) (λX=> .bool X) (λX=>[])
theorem Qmf:Q07 pG Z2u:=Q1w drawn Q0p (.nil) Tryz.func182 Tryz.call182 (λargs rows=>Qp (Q03.of (aC args 0))) [] [] 2
def Qgu(access:Int):Tree (Int×Bool):=
.br (access==1) (.lf (4,true)) (.br (access==2) (.lf (5,true)) (.br (access==3) (.lf (6,true)) (.lf (5,false))))
def Qem(access:Int):(Int×Bool):=(Qgu access).m
def Qq0:Q0d:=mkR 306 [] true [.one (.int .i64)] [] (λargs rows=>Qem (argI args 0)) (λX=> .tup [.int .i64 (X.1), .bool (X.2)]) (λX=>[])
theorem Qn2:Q07 pG Qq0:=Q1w drawn Q0p (.nil) Tryz.func306 Tryz.call306 (λargs rows=>Qgu (argI args 0)) [] [] 2
def Qd0(m:(List Int))(frame:Int):Tree Bool:=
.lv (Q0i m) λ(x0:Int)=> .lf (decide (wrap u64 frame<wrap u64 x0))
def Q72(m:(List Int))(frame:Int):Bool:=(Qd0 m frame).m
def Qsl:Q0d:=mkR 307 [] true [.one (.ints .u32), .one (.int .u32)] [] (λargs rows=>Q72 (argL .u32 args 0) (argI args 1)) (λX=> .bool X) (λX=>[])
theorem Qpx:Q07 pG Qsl:=Q1w drawn Q0p (.cons Q2y (.nil)) Tryz.func307 Tryz.call307 (λargs rows=>Qd0 (argL .u32 args 0) (argI args 1)) [] [] 2
def Q4o(m:(List Int))(addr:Int)(size:Int):Tree (Int×Bool):=
.an (Q76 m addr size) (.lv (Qbo m addr size) λ(x0:Bool)=> .br (!x0) (.lf (0,false)) (.cn (Nat.beq 1 1&&Nat.blt 0 1&&decide (0<=wrap u32 (Int.tdiv addr 4)/\wrap u32 (Int.tdiv addr 4)<(m.length:Int))) (let E1:=Int.toNat (wrap u32 (Int.tdiv addr 4)); .br (size==1) (let E2:=wrap i64 (wrap i64 (Int.tmod addr 4)*8); .an (Q3k (m.getD E1 0) E2 8) (.lv (Q23 (m.getD E1 0) E2 8) λ(x1:Int)=> .lf (x1,true))) (.lf (m.getD E1 0,true)))))
def Q3d(m:(List Int))(addr:Int)(size:Int):(Int×Bool):=(Q4o m addr size).m
abbrev Q26(m:(List Int))(addr:Int)(size:Int):Prop:=(Q4o m addr size).p
def Qxm:Q0d:=mkP 232 [] true [.one (.ints .u32), .one (.int .u32), .one (.int .i64)] [] (λargs rows=>Q26 (argL .u32 args 0) (argI args 1) (argI args 2)) (λargs rows=>Q3d (argL .u32 args 0) (argI args 1) (argI args 2)) (λX=> .tup [.int .u32 (X.1), .bool (X.2)]) (λX=>[])
theorem Q7w:Q07 pG Qxm:=Q0t drawn Q0p (.cons Qgy (.cons Qg3 (.nil))) Tryz.func232 Tryz.call232 (λargs rows=>Q4o (argL .u32 args 0) (argI args 1) (argI args 2)) [] [] 2
def Qh4(pte:Int)(access:Int):Tree Bool:=
.br (iand u32 pte (1:Int)==(0:Int)) (.lf false) (.br (access==3) (.lf (iand u32 pte (2:Int) !=(0:Int))) (.br (access==1) (.lf (iand u32 pte (4:Int) !=(0:Int))) (.lf true)))
def Q7r(pte:Int)(access:Int):Bool:=(Qh4 pte access).m
def Qq3:Q0d:=mkR 308 [] true [.one (.int .u32), .one (.int .i64)] [] (λargs rows=>Q7r (argI args 0) (argI args 1)) (λX=> .bool X) (λX=>[])
theorem Qmu:Q07 pG Qq3:=Q1w drawn Q0p (.nil) Tryz.func308 Tryz.call308 (λargs rows=>Qh4 (argI args 0) (argI args 1)) [] [] 2
def Q5t(pte:Int):Tree Int:=
.an (Q3k pte 8 8) (.lv (Q23 pte 8 8) λ(x0:Int)=> .lf x0)
def Qal(pte:Int):Int:=(Q5t pte).m
abbrev Q9c(pte:Int):Prop:=(Q5t pte).p
def Qq:Q0d:=mkP 309 [] true [.one (.int .u32)] [] (λargs rows=>Q9c (argI args 0)) (λargs rows=>Qal (argI args 0)) (λX=> .int .u32 X) (λX=>[])
theorem Qnk:Q07 pG Qq:=Q0t drawn Q0p (.cons Qg3 (.nil)) Tryz.func309 Tryz.call309 (λargs rows=>Q5t (argI args 0)) [] [] 2
def Q74(m:(List Int))(root:Int)(va:Int)(access:Int):Tree Q0w:=
.lv (Qem access) λ(x0:Int×Bool)=>let E1:=({Addr:=0,D6:=0,D3:=x0.1}:Q0w); .br (!x0.2) (.lf (E1)) (.br (decide (va>=4096)) (.lf (E1)) (.lv (Q72 m root) λ(x1:Bool)=> .br (!x1) (.lf (E1)) (let E2:=wrap u32 (root*128)+wrap u32 (4*wrap u32 (Int.tdiv va 128)); .an (Q26 m (wrap u32 E2) 4) (.lv (Q3d m (wrap u32 E2) 4) λ(x2:Int×Bool)=> .br (!x2.2) (.lf (E1)) (.lv (Q7r x2.1 access) λ(x3:Bool)=> .br (!x3) (.lf (E1)) (.an (Q9c x2.1) (.lv (Qal x2.1) λ(x4:Int)=> .lv (Q72 m x4) λ(x5:Bool)=> .br (!x5) (.lf (E1)) (.an (Q9c x2.1) (.lv (Qal x2.1) λ(x6:Int)=> .lf ({Addr:=wrap u32 (wrap u32 (x6*128)+Int.tmod va 128),D6:=wrap u32 E2,D3:=0}))))))))))
def Qdl(m:(List Int))(root:Int)(va:Int)(access:Int):Q0w:=(Q74 m root va access).m
abbrev Qdg(m:(List Int))(root:Int)(va:Int)(access:Int):Prop:=(Q74 m root va access).p
def Qxn:Q0d:=mkP 273 [] true [.one (.ints .u32), .one (.int .u32), .one (.int .u32), .one (.int .i64)] [] (λargs rows=>Qdg (argL .u32 args 0) (argI args 1) (argI args 2) (argI args 3)) (λargs rows=>Qdl (argL .u32 args 0) (argI args 1) (argI args 2) (argI args 3)) (λX=> .agg (Q0w.cells X)) (λX=>[])
theorem Quu:Q07 pG Qxn:=Q0t drawn Q0p (.cons Qn2 (.cons Qpx (.cons Q7w (.cons Qmu (.cons Qnk (.nil)))))) Tryz.func273 Tryz.call273 (λargs rows=>Q74 (argL .u32 args 0) (argI args 1) (argI args 2) (argI args 3)) [] [] 2
def Q63(m:(List Int))(entry:Int)(access:Int):Tree (List Int):=
.an (Q26 m entry 4) (.lv (Q3d m entry 4) λ(x0:Int×Bool)=> .br (!x0.2) (.an (Q05 m) (.lv (Q01 m) λ(x1:List Int)=> .lf x1)) (.br (access==3) (.an (Q84 m entry 4 (ior u32 (ior u32 x0.1 8) 16)) (.lv (Q6o m entry 4 (ior u32 (ior u32 x0.1 8) 16)) λ(x2:List Int×Bool)=> .lf x2.1)) (.an (Q84 m entry 4 (ior u32 x0.1 8)) (.lv (Q6o m entry 4 (ior u32 x0.1 8)) λ(x3:List Int×Bool)=> .lf x3.1))))
def Q8p(m:(List Int))(entry:Int)(access:Int):(List Int):=(Q63 m entry access).m
abbrev Qbh(m:(List Int))(entry:Int)(access:Int):Prop:=(Q63 m entry access).p
def Qus:Q0d:=mkP 274 [] true [.one (.ints .u32), .one (.int .u32), .one (.int .i64)] [] (λargs rows=>Qbh (argL .u32 args 0) (argI args 1) (argI args 2)) (λargs rows=>Q8p (argL .u32 args 0) (argI args 1) (argI args 2)) (λX=> .all 0) (λX=>[⟨false,25,1, .ints .u32 X⟩])
theorem Qt6:Q07 pG Qus:=Q0t drawn Q0p (.cons Q7w (.cons Q0j (.cons Qh8 (.nil)))) Tryz.func274 Tryz.call274 (λargs rows=>Q63 (argL .u32 args 0) (argI args 1) (argI args 2)) [.row 25 1 (.ints .u32)] [] 2
def Q4m(c:Q03)(m:(List Int))(va:Int)(size:Int)(access:Int):Tree (Int×(List Int)×Int):=
.lv (Qkf access) λ(x0:Int×Bool)=>let T3:Tree ((Int×(List Int)×Int)):= .an (Q05 m) (.lv (Q01 m) λ(x1:List Int)=> .lf (0,x1,5)); .br (!x0.2) T3 (let T1:Tree ((Int×(List Int)×Int)):= .cn (decide (wrap u32 size≠0)) (.br (Int.tmod va (wrap u32 size) !=0) (.an (Q05 m) (.lv (Q01 m) λ(x3:List Int)=> .lf (0,x3,3))) (.lv (Q8r c) λ(x4:Bool)=>let T2:Tree ((Int×(List Int)×Int)):= .an (Q26 m va size) (.lv (Q3d m va size) λ(x8:Int×Bool)=> .br (!x8.2) (.an (Q05 m) (.lv (Q01 m) λ(x9:List Int)=> .lf (0,x9,x0.1))) (.an (Q05 m) (.lv (Q01 m) λ(x10:List Int)=> .lf (va,x10,0)))); .br (!x4) (.br (iand u32 c.B3.a0 (4:Int) !=(0:Int)) (.an (Qdg m c.B3.a6 va access) (.lv (Qdl m c.B3.a6 va access) λ(x5:Q0w)=> .br (x5.D3 !=0) (.an (Q05 m) (.lv (Q01 m) λ(x6:List Int)=> .lf (0,x6,x5.D3))) (.an (Qbh m x5.D6 access) (.lv (Q8p m x5.D6 access) λ(x7:List Int)=> .lf (x5.Addr,x7,0))))) T2) T2)); .br (size !=1) (.br (size !=4) T3 T1) T1)
def Q1i(c:Q03)(m:(List Int))(va:Int)(size:Int)(access:Int):(Int×(List Int)×Int):=(Q4m c m va size access).m
abbrev Q6w(c:Q03)(m:(List Int))(va:Int)(size:Int)(access:Int):Prop:=(Q4m c m va size access).p
def Qzj:Q0d:=mkP 231 [] true [.agg Q03.sig, .one (.ints .u32), .one (.int .u32), .one (.int .i64), .one (.int .i64)] [] (λargs rows=>Q6w (Q03.of (aC args 0)) (argL .u32 args 1) (argI args 2) (argI args 3) (argI args 4)) (λargs rows=>Q1i (Q03.of (aC args 0)) (argL .u32 args 1) (argI args 2) (argI args 3) (argI args 4)) (λX=> .tup [.int .u32 (X.1), .all 0, .int .i64 (X.2.2)]) (λX=>[⟨false,25,1, .ints .u32 (X.2.1)⟩])
theorem Qek:Q07 pG Qzj:=Q0t drawn Q0p (.cons Qub (.cons Q0j (.cons Qmf (.cons Quu (.cons Qt6 (.cons Q7w (.nil))))))) Tryz.func231 Tryz.call231 (λargs rows=>Q4m (Q03.of (aC args 0)) (argL .u32 args 1) (argI args 2) (argI args 3) (argI args 4)) [.row 25 1 (.ints .u32)] [] 2
def Q8e(c:Q03)(m:(List Int)):Tree (Int×(List Int)×Int):=
.an (Q6w c m c.Pc 4 1) (.lv (Q1i c m c.Pc 4 1) λ(x0:Int×List Int×Int)=> .br (x0.2.2 !=0) (.lf (0,x0.2.1,x0.2.2)) (.an (Q26 x0.2.1 x0.1 4) (.lv (Q3d x0.2.1 x0.1 4) λ(x1:Int×Bool)=> .lf (x1.1,x0.2.1,0))))
def Qij(c:Q03)(m:(List Int)):(Int×(List Int)×Int):=(Q8e c m).m
abbrev Qg9(c:Q03)(m:(List Int)):Prop:=(Q8e c m).p
def Z5p:Q0d:=mkP 179 [] true [.agg Q03.sig, .one (.ints .u32)] [] (λargs rows=>Qg9 (Q03.of (aC args 0)) (argL .u32 args 1)) (λargs rows=>Qij (Q03.of (aC args 0)) (argL .u32 args 1)) (λX=> .tup [.int .u32 (X.1), .all 0, .int .i64 (X.2.2)]) (λX=>[⟨false,25,1, .ints .u32 (X.2.1)⟩])
theorem Z3:Q07 pG Z5p:=Q0t drawn Q0p (.cons Qek (.cons Q7w (.nil))) Tryz.func179 Tryz.call179 (λargs rows=>Q8e (Q03.of (aC args 0)) (argL .u32 args 1)) [.row 25 1 (.ints .u32)] [] 2
def Qgq(op:Int):Tree Bool:=
.br (op==57) (.lf true) (.br (op==58) (.lf true) (.br (op==59) (.lf true) (.br (op==60) (.lf true) (.br (op==61) (.lf true) (.br (op==62) (.lf true) (.br (op==63) (.lf true) (.br (op==64) (.lf true) (.lf false))))))))
def Q60(op:Int):Bool:=(Qgq op).m
def Qph:Q0d:=mkR 181 [] true [.one (.int .i64)] [] (λargs rows=>Q60 (argI args 0)) (λX=> .bool X) (λX=>[])
theorem Qnf:Q07 pG Qph:=Q1w drawn Q0p (.nil) Tryz.func181 Tryz.call181 (λargs rows=>Qgq (argI args 0)) [] [] 2
def Qk5(op:Int):Tree Int:=
.br (op==32) (.lf 4) (.br (op==35) (.lf 4) (.lf 1))
def Qb5(op:Int):Int:=(Qk5 op).m
def Z5:Q0d:=mkR 237 [] true [.one (.int .i64)] [] (λargs rows=>Qb5 (argI args 0)) (λX=> .int .i64 X) (λX=>[])
theorem Qok:Q07 pG Z5:=Q1w drawn Q0p (.nil) Tryz.func237 Tryz.call237 (λargs rows=>Qk5 (argI args 0)) [] [] 2
def Q9d(c:Q03)(register:Int)(v:Int):Tree Q03:=
.br (register !=0) (.cn (Nat.blt 0 1&&decide (0<=register/\register<(↑16:Int))) (.lf ({X:=A16.of 0 (List.set (A16.l c.X) register.toNat v),Pc:=c.Pc,B3:=c.B3}))) (.lf c)
def Q7j(c:Q03)(register:Int)(v:Int):Q03:=(Q9d c register v).m
abbrev Q5o(c:Q03)(register:Int)(v:Int):Prop:=(Q9d c register v).p
def yt:Q0d:=mkP 238 [] true [.agg Q03.sig, .one (.int .i64), .one (.int .u32)] [] (λargs rows=>Q5o (Q03.of (aC args 0)) (argI args 1) (argI args 2)) (λargs rows=>Q7j (Q03.of (aC args 0)) (argI args 1) (argI args 2)) (λX=> .agg (Q03.cells X)) (λX=>[])
theorem Qvs:Q07 pG yt:=Q0t drawn Q0p (.nil) Tryz.func238 Tryz.call238 (λargs rows=>Q9d (Q03.of (aC args 0)) (argI args 1) (argI args 2)) [] [] 2
def Qa1(c:Q03)(m:(List Int))(i:Q0e):Tree (Q03×(List Int)):=
.cn (Nat.blt 0 1&&decide (0<=i.B/\i.B<(↑16:Int))) (.lv (Qb5 i.Op) λ(x0:Int)=>let E1:=wrap u32 (List.getD (A16.l c.X) i.B.toNat 0+wrap u32 i.Imm); .an (Q6w c m E1 x0 2) (.lv (Q1i c m E1 x0 2) λ(x1:Int×List Int×Int)=> .br (x1.2.2 !=0) (.lv (Q3b c x1.2.2 E1) λ(x2:Q03)=> .lf (x2,x1.2.1)) (.lv (Qb5 i.Op) λ(x3:Int)=> .an (Q26 x1.2.1 x1.1 x3) (.lv (Q3d x1.2.1 x1.1 x3) λ(x4:Int×Bool)=> .br (i.Op==33) (.an (Q8m x4.1 8) (.lv (Q1n x4.1 8) λ(x5:Int)=> .an (Q5o c i.A x5) (.lv (Q7j c i.A x5) λ(x6:Q03)=> .lf ({X:=x6.X,Pc:=wrap u32 (x6.Pc+4),B3:=x6.B3},x1.2.1)))) (.an (Q5o c i.A x4.1) (.lv (Q7j c i.A x4.1) λ(x7:Q03)=> .lf ({X:=x7.X,Pc:=wrap u32 (x7.Pc+4),B3:=x7.B3},x1.2.1)))))))
def Q4g(c:Q03)(m:(List Int))(i:Q0e):(Q03×(List Int)):=(Qa1 c m i).m
abbrev Qo5(c:Q03)(m:(List Int))(i:Q0e):Prop:=(Qa1 c m i).p
def Z9e:Q0d:=mkP 183 [] true [.agg Q03.sig, .one (.ints .u32), .agg Q0e.sig] [] (λargs rows=>Qo5 (Q03.of (aC args 0)) (argL .u32 args 1) (Q0e.of (aC args 2))) (λargs rows=>Q4g (Q03.of (aC args 0)) (argL .u32 args 1) (Q0e.of (aC args 2))) (λX=> .tup [.agg (Q03.cells (X.1)), .all 0]) (λX=>[⟨false,25,1, .ints .u32 (X.2)⟩])
theorem Z4t:Q07 pG Z9e:=Q0t drawn Q0p (.cons Qek (.cons Qok (.cons Qdn (.cons Q7w (.cons Qe6 (.cons Qvs (.nil))))))) Tryz.func183 Tryz.call183 (λargs rows=>Qa1 (Q03.of (aC args 0)) (argL .u32 args 1) (Q0e.of (aC args 2))) [.row 25 1 (.ints .u32)] [] 2
def Q8d(c:Q03)(m:(List Int))(i:Q0e):Tree (Q03×(List Int)):=
.cn (Nat.blt 0 1&&decide (0<=i.B/\i.B<(↑16:Int))) (.lv (Qb5 i.Op) λ(x0:Int)=>let E1:=wrap u32 (List.getD (A16.l c.X) i.B.toNat 0+wrap u32 i.Imm); .an (Q6w c m E1 x0 3) (.lv (Q1i c m E1 x0 3) λ(x1:Int×List Int×Int)=> .br (x1.2.2 !=0) (.lv (Q3b c x1.2.2 E1) λ(x2:Q03)=> .lf (x2,x1.2.1)) (.lv (Qb5 i.Op) λ(x3:Int)=> .cn (Nat.blt 0 1&&decide (0<=i.A/\i.A<(↑16:Int))) (let E2:=List.getD (A16.l c.X) i.A.toNat 0; .an (Q84 x1.2.1 x1.1 x3 E2) (.lv (Q6o x1.2.1 x1.1 x3 E2) λ(x4:List Int×Bool)=> .lf ({X:=c.X,Pc:=wrap u32 (c.Pc+4),B3:=c.B3},x4.1))))))
def Q5x(c:Q03)(m:(List Int))(i:Q0e):(Q03×(List Int)):=(Q8d c m i).m
abbrev Ql1(c:Q03)(m:(List Int))(i:Q0e):Prop:=(Q8d c m i).p
def Z3y:Q0d:=mkP 184 [] true [.agg Q03.sig, .one (.ints .u32), .agg Q0e.sig] [] (λargs rows=>Ql1 (Q03.of (aC args 0)) (argL .u32 args 1) (Q0e.of (aC args 2))) (λargs rows=>Q5x (Q03.of (aC args 0)) (argL .u32 args 1) (Q0e.of (aC args 2))) (λX=> .tup [.agg (Q03.cells (X.1)), .all 0]) (λX=>[⟨false,25,1, .ints .u32 (X.2)⟩])
theorem Z30:Q07 pG Z3y:=Q0t drawn Q0p (.cons Qek (.cons Qok (.cons Qdn (.cons Qh8 (.nil))))) Tryz.func184 Tryz.call184 (λargs rows=>Q8d (Q03.of (aC args 0)) (argL .u32 args 1) (Q0e.of (aC args 2))) [.row 25 1 (.ints .u32)] [] 2
def Qtj(op:Int)(a:Int)(b:Int):Tree Bool:=
.br (op==40) (.lf (a==b)) (.br (op==41) (.lf (a !=b)) (.br (op==42) (.lf (decide (wrap i32 a<wrap i32 b))) (.br (op==43) (.lf (decide (wrap i32 a>=wrap i32 b))) (.br (op==44) (.lf (decide (a<b))) (.lf (decide (a>=b)))))))
def Z0z(op:Int)(a:Int)(b:Int):Bool:=(Qtj op a b).m
def Z4:Q0d:=mkR 240 [] true [.one (.int .i64), .one (.int .u32), .one (.int .u32)] [] (λargs rows=>Z0z (argI args 0) (argI args 1) (argI args 2)) (λX=> .bool X) (λX=>[])
theorem Z0m:Q07 pG Z4:=Q1w drawn Q0p (.nil) Tryz.func240 Tryz.call240 (λargs rows=>Qtj (argI args 0) (argI args 1) (argI args 2)) [] [] 2
def Qaq(c:Q03):Tree Q03:=
.lv (Q6c c.B3.a0 8 1) λ(x0:Int)=> .lv (Q6c x0 16 2) λ(x1:Int)=> .lf ({X:=c.X,Pc:=c.B3.a2,B3:={a0:=x1,a1:=c.B3.a1,a2:=c.B3.a2,a3:=c.B3.a3,a4:=c.B3.a4,a5:=c.B3.a5,a6:=c.B3.a6,a7:=c.B3.a7}})
def Qa6(c:Q03):Q03:=(Qaq c).m
def Z0q:Q0d:=mkR 241 [] true [.agg Q03.sig] [] (λargs rows=>Qa6 (Q03.of (aC args 0))) (λX=> .agg (Q03.cells X)) (λX=>[])
theorem Qzx:Q07 pG Z0q:=Q1w drawn Q0p (.cons Qrx (.nil)) Tryz.func241 Tryz.call241 (λargs rows=>Qaq (Q03.of (aC args 0))) [] [] 2
def Q8a(c:Q03)(csr:Int)(v:Int):Tree Q03:=
let E4:=Nat.blt 0 1&&decide (0<=csr/\csr<(↑8:Int));let T2:Tree (Q03):= .cn E4 (.lf ({X:=c.X,Pc:=c.Pc,B3:=A8.of 0 (List.set (A8.l c.B3) csr.toNat (iand u32 v 31))})); .br (csr==0) T2 (.br (csr==7) T2 (.br (csr==6) (.cn E4 (.lf ({X:=c.X,Pc:=c.Pc,B3:=A8.of 0 (List.set (A8.l c.B3) csr.toNat (iand u32 v 255))}))) (let T3:Tree (Q03):= .cn E4 (.lf ({X:=c.X,Pc:=c.Pc,B3:=A8.of 0 (List.set (A8.l c.B3) csr.toNat (Qbs u32 v 3))})); .br (csr==1) T3 (.br (csr==2) T3 (let T1:Tree (Q03):= .cn E4 (.lf ({X:=c.X,Pc:=c.Pc,B3:=A8.of 0 (List.set (A8.l c.B3) csr.toNat v)})); .br (csr==3) T1 (.br (csr==4) T1 (.br (csr==5) T1 (.lf c))))))))
def Z1x(c:Q03)(csr:Int)(v:Int):Q03:=(Q8a c csr v).m
abbrev Qlq(c:Q03)(csr:Int)(v:Int):Prop:=(Q8a c csr v).p
def Z5d:Q0d:=mkP 242 [] true [.agg Q03.sig, .one (.int .i64), .one (.int .u32)] [] (λargs rows=>Qlq (Q03.of (aC args 0)) (argI args 1) (argI args 2)) (λargs rows=>Z1x (Q03.of (aC args 0)) (argI args 1) (argI args 2)) (λX=> .agg (Q03.cells X)) (λX=>[])
theorem Z3l:Q07 pG Z5d:=Q0t drawn Q0p (.nil) Tryz.func242 Tryz.call242 (λargs rows=>Q8a (Q03.of (aC args 0)) (argI args 1) (argI args 2)) [] [] 2
def Q3g(c:Q03)(i:Q0e):Tree (Q03×Q0y):=
.cn (Nat.blt 0 1&&decide (0<=i.A/\i.A<(↑16:Int))) (.cn (Nat.blt 0 1&&decide (0<=i.B/\i.B<(↑16:Int))) (.br (i.Op==24) (.an (Q5o c i.A (ishl u32 (wrap u32 i.Imm) 16)) (.lv (Q7j c i.A (ishl u32 (wrap u32 i.Imm) 16)) λ(x0:Q03)=> .lf ({X:=x0.X,Pc:=wrap u32 (c.Pc+4),B3:=x0.B3},{C0:=0,C5:=0,D2:=0,Value:=0}))) (let E2:=({X:=c.X,Pc:=wrap u32 (c.Pc+4),B3:=c.B3}:Q03);let E3:=List.getD (A16.l c.X) i.B.toNat 0;let E4:=List.getD (A16.l c.X) i.A.toNat 0;let T1:Tree ((Q03×Q0y)):= .lv (Z0z i.Op E4 E3) λ(x1:Bool)=> .br x1 (.lf ({X:=c.X,Pc:=wrap u32 (c.Pc+wrap u32 (4*wrap u32 i.Imm)),B3:=c.B3},{C0:=0,C5:=0,D2:=0,Value:=0})) (.lf (E2,{C0:=0,C5:=0,D2:=0,Value:=0})); .br (i.Op==40) T1 (.br (i.Op==41) T1 (.br (i.Op==42) T1 (.br (i.Op==43) T1 (.br (i.Op==44) T1 (.br (i.Op==45) T1 (.br (i.Op==48) (.an (Q5o c i.A (wrap u32 (c.Pc+4))) (.lv (Q7j c i.A (wrap u32 (c.Pc+4))) λ(x7:Q03)=> .lf ({X:=x7.X,Pc:=wrap u32 (x7.Pc+wrap u32 (4*wrap u32 i.Imm)),B3:=x7.B3},{C0:=0,C5:=0,D2:=0,Value:=0}))) (.br (i.Op==49) (.an (Q5o c i.A (wrap u32 (c.Pc+4))) (.lv (Q7j c i.A (wrap u32 (c.Pc+4))) λ(x8:Q03)=> .lf ({X:=x8.X,Pc:=wrap u32 (List.getD (A16.l c.X) i.B.toNat 0+wrap u32 i.Imm),B3:=x8.B3},{C0:=0,C5:=0,D2:=0,Value:=0}))) (.br (i.Op==56) (.lv (Q3b c 7 0) λ(x9:Q03)=> .lf (x9,{C0:=0,C5:=0,D2:=0,Value:=0})) (.br (i.Op==57) (.lv (Qa6 c) λ(x10:Q03)=> .lf (x10,{C0:=0,C5:=0,D2:=0,Value:=0})) (.br (i.Op==58) (.cn (Nat.blt 0 1&&decide (0<=i.Imm/\i.Imm<(↑8:Int))) (let E5:=List.getD (A8.l c.B3) i.Imm.toNat 0; .an (Q5o c i.A E5) (.lv (Q7j c i.A E5) λ(x11:Q03)=> .lf ({X:=x11.X,Pc:=wrap u32 (c.Pc+4),B3:=x11.B3},{C0:=0,C5:=0,D2:=0,Value:=0})))) (.br (i.Op==59) (.an (Qlq c (wrap i64 i.Imm) E4) (.lv (Z1x c (wrap i64 i.Imm) E4) λ(x12:Q03)=> .lf ({X:=x12.X,Pc:=wrap u32 (c.Pc+4),B3:=x12.B3},{C0:=0,C5:=0,D2:=0,Value:=0}))) (.br (i.Op==60) (.lf (E2,{C0:=1,C5:=wrap i64 i.Imm,D2:=i.A,Value:=0})) (.br (i.Op==61) (.lf (E2,{C0:=2,C5:=wrap i64 i.Imm,D2:=0,Value:=List.getD (A16.l c.X) i.A.toNat 0})) (.br (i.Op==62) (.lf (E2,{C0:=3,C5:=0,D2:=0,Value:=0})) (.br (i.Op==63) (.lf (E2,{C0:=5,C5:=0,D2:=0,Value:=0})) (.br (i.Op==64) (.lf (E2,{C0:=4,C5:=0,D2:=0,Value:=0})) (.cn (Nat.blt 0 1&&decide (0<=i.C/\i.C<(↑16:Int))) (.br (decide (i.Op>=16)) (.an (Qk8 i.Op E3 (wrap u32 i.Imm)) (.lv (Q2x i.Op E3 (wrap u32 i.Imm)) λ(x13:Int×Bool)=> .an (Q5o c i.A x13.1) (.lv (Q7j c i.A x13.1) λ(x14:Q03)=> .lf ({X:=x14.X,Pc:=wrap u32 (c.Pc+4),B3:=x14.B3},{C0:=0,C5:=0,D2:=0,Value:=0})))) (let E6:=List.getD (A16.l c.X) i.C.toNat 0; .an (Qk8 i.Op E3 E6) (.lv (Q2x i.Op E3 E6) λ(x15:Int×Bool)=> .an (Q5o c i.A x15.1) (.lv (Q7j c i.A x15.1) λ(x16:Q03)=> .lf ({X:=x16.X,Pc:=wrap u32 (c.Pc+4),B3:=x16.B3},{C0:=0,C5:=0,D2:=0,Value:=0})))))))))))))))))))))))))
def Qfl(c:Q03)(i:Q0e):(Q03×Q0y):=(Q3g c i).m
abbrev Qhv(c:Q03)(i:Q0e):Prop:=(Q3g c i).p
def Qzs:Q0d:=mkP 185 [] true [.agg Q03.sig, .agg Q0e.sig] [] (λargs rows=>Qhv (Q03.of (aC args 0)) (Q0e.of (aC args 1))) (λargs rows=>Qfl (Q03.of (aC args 0)) (Q0e.of (aC args 1))) (λX=> .tup [.agg (Q03.cells (X.1)), .agg (Q0y.cells (X.2))]) (λX=>[])
theorem Qur:Q07 pG Qzs:=Q0t drawn Q0p (.cons Qvs (.cons Z0m (.cons Qdn (.cons Qzx (.cons Z3l (.cons Z9s (.nil))))))) Tryz.func185 Tryz.call185 (λargs rows=>Q3g (Q03.of (aC args 0)) (Q0e.of (aC args 1))) [] [] 2
def Q5(c:Q03)(m:(List Int)):Tree (Q03×(List Int)×Q0y):=
.an (Qg9 c m) (.lv (Qij c m) λ(x0:Int×List Int×Int)=> .br (x0.2.2 !=0) (.lv (Q3b c x0.2.2 c.Pc) λ(x1:Q03)=> .lf (x1,x0.2.1,{C0:=0,C5:=0,D2:=0,Value:=0})) (.an (Qeo x0.1) (.lv (Qc7 x0.1) λ(x2:Q0e×Bool)=> .br (!x2.2) (.lv (Q3b c 1 x0.1) λ(x3:Q03)=> .lf (x3,x0.2.1,{C0:=0,C5:=0,D2:=0,Value:=0})) (.lv (Q60 x2.1.Op) λ(x4:Bool)=>let T1:Tree ((Q03×(List Int)×Q0y)):=let T2:Tree ((Q03×(List Int)×Q0y)):= .an (Qo5 c x0.2.1 x2.1) (.lv (Q4g c x0.2.1 x2.1) λ(x7:Q03×List Int)=> .lf (x7.1,x7.2,{C0:=0,C5:=0,D2:=0,Value:=0})); .br (x2.1.Op==32) T2 (.br (x2.1.Op==33) T2 (.br (x2.1.Op==34) T2 (let T3:Tree ((Q03×(List Int)×Q0y)):= .an (Ql1 c x0.2.1 x2.1) (.lv (Q5x c x0.2.1 x2.1) λ(x10:Q03×List Int)=> .lf (x10.1,x10.2,{C0:=0,C5:=0,D2:=0,Value:=0})); .br (x2.1.Op==35) T3 (.br (x2.1.Op==36) T3 (.an (Qhv c x2.1) (.lv (Qfl c x2.1) λ(x12:Q03×Q0y)=> .lf (x12.1,x0.2.1,x12.2))))))); .br x4 (.lv (Q8r c) λ(x5:Bool)=> .br (!x5) (.lv (Q3b c 2 x0.1) λ(x6:Q03)=> .lf (x6,x0.2.1,{C0:=0,C5:=0,D2:=0,Value:=0})) T1) T1))))
def Q75(c:Q03)(m:(List Int)):(Q03×(List Int)×Q0y):=(Q5 c m).m
abbrev Qe0(c:Q03)(m:(List Int)):Prop:=(Q5 c m).p
def Z8j:Q0d:=mkP 114 [] true [.agg Q03.sig, .one (.ints .u32)] [] (λargs rows=>Qe0 (Q03.of (aC args 0)) (argL .u32 args 1)) (λargs rows=>Q75 (Q03.of (aC args 0)) (argL .u32 args 1)) (λX=> .tup [.agg (Q03.cells (X.1)), .all 0, .agg (Q0y.cells (X.2.2))]) (λX=>[⟨false,25,1, .ints .u32 (X.2.1)⟩])
theorem Qtm:Q07 pG Z8j:=Q0t drawn Q0p (.cons Z3 (.cons Qdn (.cons Qy1 (.cons Qnf (.cons Qmf (.cons Z4t (.cons Z30 (.cons Qur (.nil))))))))) Tryz.func114 Tryz.call114 (λargs rows=>Q5 (Q03.of (aC args 0)) (argL .u32 args 1)) [.row 25 1 (.ints .u32)] [] 2
end
noncomputable section
def tblYc0:List UInt8:=[(0:UInt8),1,2,2,3,3,3,3,4,4,4,4,4,4,4,4,5,5,5,5,5,5,5,5,5,5,5,5,5,5,5,5,6,6,6,6,6,6,6,6,6,6,6,6,6,6,6,6,6,6,6,6,6,6,6,6,6,6,6,6,6,6,6,6]
def Z14:List UInt8:=[(7:UInt8),7,7,7,7,7,7,7,7,7,7,7,7,7,7,7,7,7,7,7,7,7,7,7,7,7,7,7,7,7,7,7,7,7,7,7,7,7,7,7,7,7,7,7,7,7,7,7,7,7,7,7,7,7,7,7,7,7,7,7,7,7,7,7]
def Qjt:List UInt8:=[(8:UInt8),8,8,8,8,8,8,8,8,8,8,8,8,8,8,8,8,8,8,8,8,8,8,8,8,8,8,8,8,8,8,8,8,8,8,8,8,8,8,8,8,8,8,8,8,8,8,8,8,8,8,8,8,8,8,8,8,8,8,8,8,8,8,8]
def Z75:List UInt8:=[(1:UInt8),2,2,3,3,3,3,4,4,4,4,4,4,4,4,5,5,5,5,5,5,5,5,5,5,5,5,5,5,5,5,6,6,6,6,6,6,6,6,6,6,6,6,6,6,6,6,6,6,6,6,6,6,6,6,6,6,6,6,6,6,6,6]
def tblYc4:List UInt8:=[(0:UInt8),1,1,2,1,2,2,3,1,2,2,3,2,3,3,4,1,2,2,3,2,3,3,4,2,3,3,4,3,4,4,5,1,2,2,3,2,3,3,4,2,3,3,4,3,4,4,5,2,3,3,4,3,4,4,5,3,4,4,5,4,5,5,6]
def Qjy:List UInt8:=[(1:UInt8),2,2,3,2,3,3,4,2,3,3,4,3,4,4,5,2,3,3,4,3,4,4,5,3,4,4,5,4,5,5,6,2,3,3,4,3,4,4,5,3,4,4,5,4,5,5,6,3,4,4,5,4,5,5,6,4,5,5,6,5,6,6,7]
def Z1v:List UInt8:=[(2:UInt8),3,3,4,3,4,4,5,3,4,4,5,4,5,5,6,3,4,4,5,4,5,5,6,4,5,5,6,5,6,6,7,3,4,4,5,4,5,5,6,4,5,5,6,5,6,6,7,4,5,5,6,5,6,6,7,5,6,6,7,6,7,7,8]
def Z7b:List UInt8:=[(1:UInt8),1,2,1,2,2,3,1,2,2,3,2,3,3,4,1,2,2,3,2,3,3,4,2,3,3,4,3,4,4,5,1,2,2,3,2,3,3,4,2,3,3,4,3,4,4,5,2,3,3,4,3,4,4,5,3,4,4,5,4,5,5,6]
def Qm6(c:Q0a):Tree Bool:=
.lf (decide ((c.C7.length:Int)<=(16:Int)))
def Q1r(c:Q0a):Bool:=(Qm6 c).m
def Qz9:Q0d:=mkR 171 [] true [.agg Q0a.sig] [] (λargs rows=>Q1r (Q0a.of (aC args 0))) (λX=> .bool X) (λX=>[])
theorem Qv9:Q07 pG Qz9:=Q1w drawn Q0p (.nil) Tryz.func171 Tryz.call171 (λargs rows=>Qm6 (Q0a.of (aC args 0))) [] [] 2
def Qg2(t:Q0f):Tree Bool:=
.br t.D0 (.br (!t.C9) (.lf (t.C4 !=0)) (.lf false)) (.br t.C9 (.lf true) (.lf (t.C4==0)))
def Q2w(t:Q0f):Bool:=(Qg2 t).m
def Z4r:Q0d:=mkR 172 [] true [.agg Q0f.sig] [] (λargs rows=>Q2w (Q0f.of (aC args 0))) (λX=> .bool X) (λX=>[])
theorem Z3v:Q07 pG Z4r:=Q1w drawn Q0p (.nil) Tryz.func172 Tryz.call172 (λargs rows=>Qg2 (Q0f.of (aC args 0))) [] [] 2
def Q57(d0:Q09):Tree Bool:=
.br (d0.D1==1) (.lf (decide (d0.B9=[]))) (.br (d0.D1==2) (.lf ((d0.B9.length:Int)==(128:Int))) (.lf false))
def Q6k(d0:Q09):Bool:=(Q57 d0).m
def Qne:Q0d:=mkR 227 [] true [.agg Q09.sig] [] (λargs rows=>Q6k (Q09.of (aC args 0))) (λX=> .bool X) (λX=>[])
theorem Qly:Q07 pG Qne:=Q1w drawn Q0p (.nil) Tryz.func227 Tryz.call227 (λargs rows=>Q57 (Q09.of (aC args 0))) [] [] 2
def Q49(d0:Q09)(pages:Int):Tree Bool:=
.br (decide (d0.Blocks>64)) (.lf false) (let T1:Tree (Bool):= .br (d0.D1==0) (.br (d0.B2==0) (.br (d0.B0==0) (.lf (decide (d0.B9=[]))) (.lf false)) (.lf false)) (.lf false); .br (d0.B7==0) T1 (.br (d0.B7==2) T1 (.br (d0.B7==3) T1 (.br (d0.B7==1) (.lv (Q6k d0) λ(x0:Bool)=> .br x0 (.br (decide (d0.B2<d0.Blocks)) (.lf (decide (wrap i64 d0.B0<pages))) (.lf false)) (.lf false)) (.lf false)))))
def Q11(d0:Q09)(pages:Int):Bool:=(Q49 d0 pages).m
def Z98:Q0d:=mkR 173 [] true [.agg Q09.sig, .one (.int .i64)] [] (λargs rows=>Q11 (Q09.of (aC args 0)) (argI args 1)) (λX=> .bool X) (λX=>[])
theorem Z45:Q07 pG Z98:=Q1w drawn Q0p (.cons Qly (.nil)) Tryz.func173 Tryz.call173 (λargs rows=>Q49 (Q09.of (aC args 0)) (argI args 1)) [] [] 2
def Qf6(n:Q0k)(pages:Int):Tree Bool:=
let T1:Tree (Bool):=let T2:Tree (Bool):= .br n.B4 (.br (decide (n.D5>=1)) (.lf (decide (n.D5<=128))) (.lf false)) (.lf (n.D5==0)); .br n.C1 (.br (decide (wrap i64 n.B6>=pages)) (.lf false) T2) (.br (n.B6 !=0) (.lf false) T2); .br n.C1 (.br n.B4 (.lf false) T1) T1
def Q44(n:Q0k)(pages:Int):Bool:=(Qf6 n pages).m
def vt:Q0d:=mkR 174 [] true [.agg Q0k.sig, .one (.int .i64)] [] (λargs rows=>Q44 (Q0k.of (aC args 0)) (argI args 1)) (λX=> .bool X) (λX=>[])
theorem Z85:Q07 pG vt:=Q1w drawn Q0p (.nil) Tryz.func174 Tryz.call174 (λargs rows=>Qf6 (Q0k.of (aC args 0)) (argI args 1)) [] [] 2
def Q1a(x:Int):Tree Int:=
let E1:=(↑(List.length (List.append (List.append tblYc0 Z14) (List.append Qjt Qjt))):Int); .br (decide (x>=65536)) (.br (decide (ishr u32 x (16:Int)>=(256:Int))) (.cn (decide (0<=wrap u8 (ishr u32 (ishr u32 x 16) 8)/\wrap u8 (ishr u32 (ishr u32 x 16) 8)<E1)) (.lf (wrap i64 (wrap i64 ((16:Int)+(8:Int))+wrap i64 (↑(UInt8.toNat (List.getD ((0:UInt8)::(Z75++Z14++(Qjt++Qjt))) (Int.toNat (wrap u8 (ishr u32 (ishr u32 x 16) 8))) (0:UInt8))):Int))))) (.cn (decide (0<=wrap u8 (ishr u32 x 16)/\wrap u8 (ishr u32 x 16)<E1)) (.lf (wrap i64 (16+wrap i64 (↑(UInt8.toNat (List.getD ((0:UInt8)::(Z75++Z14++(Qjt++Qjt))) (Int.toNat (wrap u8 (ishr u32 x 16))) (0:UInt8))):Int)))))) (.br (decide (x>=256)) (.cn (decide (0<=wrap u8 (ishr u32 x 8)/\wrap u8 (ishr u32 x 8)<E1)) (.lf (wrap i64 (wrap i64 ((0:Int)+(8:Int))+wrap i64 (↑(UInt8.toNat (List.getD ((0:UInt8)::(Z75++Z14++(Qjt++Qjt))) (Int.toNat (wrap u8 (ishr u32 x 8))) (0:UInt8))):Int))))) (.cn (decide (0<=wrap u8 x/\wrap u8 x<E1)) (.lf (wrap i64 (0+wrap i64 (↑(UInt8.toNat (List.getD ((0:UInt8)::(Z75++Z14++(Qjt++Qjt))) (Int.toNat (wrap u8 x)) (0:UInt8))):Int))))))
def Q14(x:Int):Int:=(Q1a x).m
abbrev Q8g(x:Int):Prop:=(Q1a x).p
def Qnx:Q0d:=mkP 228 [] true [.one (.int .u32)] [] (λargs rows=>Q8g (argI args 0)) (λargs rows=>Q14 (argI args 0)) (λX=> .int .i64 X) (λX=>[])
theorem Qme:Q07 pG Qnx:=Q0t drawn Q0p (.nil) Tryz.func228 Tryz.call228 (λargs rows=>Q1a (argI args 0)) [] [] 2
def Q2v(b:Q06)(pages:Int):Tree Bool:=
.an (Q8g b.B8) (.lv (Q14 b.B8) λ(x0:Int)=> .lf (decide (x0<=if 0>pages then 0 else pages)))
def Q1y(b:Q06)(pages:Int):Bool:=(Q2v b pages).m
abbrev Q9e(b:Q06)(pages:Int):Prop:=(Q2v b pages).p
def Qz4:Q0d:=mkP 175 [] true [.agg Q06.sig, .one (.int .i64)] [] (λargs rows=>Q9e (Q06.of (aC args 0)) (argI args 1)) (λargs rows=>Q1y (Q06.of (aC args 0)) (argI args 1)) (λX=> .bool X) (λX=>[])
theorem Que:Q07 pG Qz4:=Q0t drawn Q0p (.cons Qme (.nil)) Tryz.func175 Tryz.call175 (λargs rows=>Q2v (Q06.of (aC args 0)) (argI args 1)) [] [] 2
def Q19(m:Q00):Tree Bool:=
.lv (Q0i m.Mem) λ(x0:Int)=> .lv (Q1r m.A1) λ(x1:Bool)=> .br x1 (.lv (Q2w m.A6) λ(x2:Bool)=> .br x2 (.lv (Q11 m.A9 x0) λ(x3:Bool)=> .br x3 (.lv (Q44 m.C2 x0) λ(x4:Bool)=> .br x4 (.an (Q9e m.A0 x0) (.lv (Q1y m.A0 x0) λ(x5:Bool)=> .lf x5)) (.lf false)) (.lf false)) (.lf false)) (.lf false)
def Q0l(m:Q00):Bool:=(Q19 m).m
abbrev Q1z(m:Q00):Prop:=(Q19 m).p
def Qji:Q0d:=mkP 92 [] true [.agg Q00.sig] [] (λargs rows=>Q1z (Q00.of (aC args 0))) (λargs rows=>Q0l (Q00.of (aC args 0))) (λX=> .bool X) (λX=>[])
theorem Qhs:Q07 pG Qji:=Q0t drawn Q0p (.cons Q2y (.cons Qv9 (.cons Z3v (.cons Z45 (.cons Z85 (.cons Que (.nil))))))) Tryz.func92 Tryz.call92 (λargs rows=>Q19 (Q00.of (aC args 0))) [] [] 2
def Q3h(m:Q00):Tree Bool:=
.lv (Q0i m.Mem) λ(x0:Int)=> .br (x0==0) (.lf false) (.br (m.B1.X.a0 !=0) (.lf false) (.br (decide (m.B1.B3.a0>31)) (.lf false) (.br (decide (m.B1.B3.a7>31)) (.lf false) (.br (decide (m.B1.B3.a6>255)) (.lf false) (.br (Int.tmod m.B1.B3.a1 (4:Int) !=(0:Int)) (.lf false) (.br (decide (m.A4>1152921504606846976)) (.lf false) (.br m.A2 (.br m.A3 (.lf false) (.an (Q1z m) (.lv (Q0l m) λ(x1:Bool)=> .lf x1))) (.an (Q1z m) (.lv (Q0l m) λ(x2:Bool)=> .lf x2)))))))))
def Q10(m:Q00):Bool:=(Q3h m).m
abbrev Q3w(m:Q00):Prop:=(Q3h m).p
def Qzn:Q0d:=mkP 24 [] true [.agg Q00.sig] [] (λargs rows=>Q3w (Q00.of (aC args 0))) (λargs rows=>Q10 (Q00.of (aC args 0))) (λX=> .bool X) (λX=>[])
theorem Qef:Q07 pG Qzn:=Q0t drawn Q0p (.cons Q2y (.cons Qhs (.nil))) Tryz.func24 Tryz.call24 (λargs rows=>Q3h (Q00.of (aC args 0))) [] [] 2
def Qii(t:Q0f):Tree Bool:=
.lf t.C9
def Qc1(t:Q0f):Bool:=(Qii t).m
def Qr9:Q0d:=mkR 99 [] true [.agg Q0f.sig] [] (λargs rows=>Qc1 (Q0f.of (aC args 0))) (λX=> .bool X) (λX=>[])
theorem Qpi:Q07 pG Qr9:=Q1w drawn Q0p (.nil) Tryz.func99 Tryz.call99 (λargs rows=>Qii (Q0f.of (aC args 0))) [] [] 2
def Qfh(c:Q0a):Tree Bool:=
.lf (!decide (c.C7=[]))
def Q6s(c:Q0a):Bool:=(Qfh c).m
def Qn7:Q0d:=mkR 100 [] true [.agg Q0a.sig] [] (λargs rows=>Q6s (Q0a.of (aC args 0))) (λX=> .bool X) (λX=>[])
theorem Qm8:Q07 pG Qn7:=Q1w drawn Q0p (.nil) Tryz.func100 Tryz.call100 (λargs rows=>Qfh (Q0a.of (aC args 0))) [] [] 2
def Qej(d0:Q09):Tree Bool:=
.br (d0.B7==2) (.lf true) (.lf (d0.B7==3))
def Q6y(d0:Q09):Bool:=(Qej d0).m
def Qua:Q0d:=mkR 101 [] true [.agg Q09.sig] [] (λargs rows=>Q6y (Q09.of (aC args 0))) (λX=> .bool X) (λX=>[])
theorem Qh6:Q07 pG Qua:=Q1w drawn Q0p (.nil) Tryz.func101 Tryz.call101 (λargs rows=>Qej (Q09.of (aC args 0))) [] [] 2
def Qmd(n:Q0k):Tree Bool:=
.lf n.B4
def Qg4(n:Q0k):Bool:=(Qmd n).m
def Qxg:Q0d:=mkR 102 [] true [.agg Q0k.sig] [] (λargs rows=>Qg4 (Q0k.of (aC args 0))) (λX=> .bool X) (λX=>[])
theorem Quk:Q07 pG Qxg:=Q1w drawn Q0p (.nil) Tryz.func102 Tryz.call102 (λargs rows=>Qmd (Q0k.of (aC args 0))) [] [] 2
def Q25(x:Int):Tree Int:=
let E1:=(↑(List.length (List.append (List.append tblYc4 Qjy) (List.append Qjy Z1v))):Int); .cn (decide (0<=ishr u32 x 24/\ishr u32 x 24<E1)) (.cn (decide (0<=iand u32 (ishr u32 x 16) 255/\iand u32 (ishr u32 x 16) 255<E1)) (.cn (decide (0<=iand u32 (ishr u32 x 8) 255/\iand u32 (ishr u32 x 8) 255<E1)) (.cn (decide (0<=iand u32 x 255/\iand u32 x 255<E1)) (.lf (wrap i64 (wrap u8 (wrap u8 (wrap u8 ((↑(UInt8.toNat (List.getD ((0:UInt8)::(Z7b++Qjy++(Qjy++Z1v))) (Int.toNat (ishr u32 x 24)) (0:UInt8))):Int)+(↑(UInt8.toNat (List.getD ((0:UInt8)::(Z7b++Qjy++(Qjy++Z1v))) (Int.toNat (iand u32 (ishr u32 x 16) 255)) (0:UInt8))):Int))+(↑(UInt8.toNat (List.getD ((0:UInt8)::(Z7b++Qjy++(Qjy++Z1v))) (Int.toNat (iand u32 (ishr u32 x 8) 255)) (0:UInt8))):Int))+(↑(UInt8.toNat (List.getD ((0:UInt8)::(Z7b++Qjy++(Qjy++Z1v))) (Int.toNat (iand u32 x 255)) (0:UInt8))):Int))))))))
def Q4e(x:Int):Int:=(Q25 x).m
abbrev Q7y(x:Int):Prop:=(Q25 x).p
def Qfr:Q0d:=mkP 229 [] true [.one (.int .u32)] [] (λargs rows=>Q7y (argI args 0)) (λargs rows=>Q4e (argI args 0)) (λX=> .int .i64 X) (λX=>[])
theorem Qez:Q07 pG Qfr:=Q0t drawn Q0p (.nil) Tryz.func229 Tryz.call229 (λargs rows=>Q25 (argI args 0)) [] [] 2
def Q6t(b:Q06):Tree Int:=
.an (Q7y b.B8) (.lv (Q4e b.B8) λ(x0:Int)=> .lf x0)
def Q91(b:Q06):Int:=(Q6t b).m
abbrev Qa4(b:Q06):Prop:=(Q6t b).p
def Qs7:Q0d:=mkP 176 [] true [.agg Q06.sig] [] (λargs rows=>Qa4 (Q06.of (aC args 0))) (λargs rows=>Q91 (Q06.of (aC args 0))) (λX=> .int .i64 X) (λX=>[])
theorem Qgv:Q07 pG Qs7:=Q0t drawn Q0p (.cons Qez (.nil)) Tryz.func176 Tryz.call176 (λargs rows=>Q6t (Q06.of (aC args 0))) [] [] 2
def Q3o(b:Q06):Tree Bool:=
.an (Qa4 b) (.lv (Q91 b) λ(x0:Int)=> .lf (wrap u32 x0 !=b.C3))
def Q58(b:Q06):Bool:=(Q3o b).m
abbrev Qd2(b:Q06):Prop:=(Q3o b).p
def Qna:Q0d:=mkP 103 [] true [.agg Q06.sig] [] (λargs rows=>Qd2 (Q06.of (aC args 0))) (λargs rows=>Q58 (Q06.of (aC args 0))) (λX=> .bool X) (λX=>[])
theorem Qlw:Q07 pG Qna:=Q0t drawn Q0p (.cons Qgv (.nil)) Tryz.func103 Tryz.call103 (λargs rows=>Q3o (Q06.of (aC args 0))) [] [] 2
def Qd(m:Q00)(z:(Int)×(Int)):Nat:=(5-z.2).toNat
def Q51(m:Q00):Tree Int:=
.lv (Qc1 m.A6) λ(x0:Bool)=> .lv (Q6s m.A1) λ(x1:Bool)=> .lv (Q6y m.A9) λ(x2:Bool)=> .lv (Qg4 m.C2) λ(x3:Bool)=> .an (Qd2 m.A0) (.lv (Q58 m.A0) λ(x4:Bool)=> .lp inferInstance (Qd m (0,0)+1) ((rE (0:Int)/\(rE (x0:Bool)/\rE (x1:Bool)/\rE (x2:Bool)/\rE (x3:Bool)/\rE (x4:Bool)/\True)/\rE (0:Int)/\True)/\True) (0,0) λ(v0:Int×Int)=> .br (decide (v0.2<5)) (.cn (Nat.beq 1 1&&(Nat.beq 5 5&&decide (0<=v0.2/\v0.2<(↑5:Int)))) (.br (List.getD [x0,x1,x2,x3,x4] v0.2.toNat false) (.cn (decide (0<=v0.2)) (.nx ((rE ((ior u32 v0.1 (ishl u32 1 v0.2)):Int)/\(rE (x0:Bool)/\rE (x1:Bool)/\rE (x2:Bool)/\rE (x3:Bool)/\rE (x4:Bool)/\True)/\rE ((wrap i64 (v0.2+1)):Int)/\True)/\True) (Sum.inl (ior u32 v0.1 (ishl u32 1 v0.2),wrap i64 (v0.2+1))))) (.nx ((rE v0.1/\(rE (x0:Bool)/\rE (x1:Bool)/\rE (x2:Bool)/\rE (x3:Bool)/\rE (x4:Bool)/\True)/\rE ((wrap i64 (v0.2+1)):Int)/\True)/\True) (Sum.inl (v0.1,wrap i64 (v0.2+1)))))) (.lf (Sum.inr v0.1)))
def Q9s(m:Q00):Int:=(Q51 m).m
abbrev Qf9(m:Q00):Prop:=(Q51 m).p
def Qpm:LInv:={
 α:=(Int)×(Int)
 F:=λst a=>([(4, .int u32 a.1),(23,(lk st 23)),(24, .int i64 a.2)],[])
 a0:=λst=>((lk st 4).toInt,(lk st 24).toInt)
 ex0:=λst=>[]++[]}
def Qm1:List (Nat×LInv):=[(4,Qpm)]
def Qry:Q0d:=mkP 26 [] true [.agg Q00.sig] [] (λargs rows=>Qf9 (Q00.of (aC args 0))) (λargs rows=>Q9s (Q00.of (aC args 0))) (λX=> .int .u32 X) (λX=>[])
theorem Qq5:Q07 pG Qry:=Q0t drawn Q0p (.cons Qpi (.cons Qm8 (.cons Qh6 (.cons Quk (.cons Qlw (.nil)))))) Tryz.func26 Tryz.call26 (λargs rows=>Q51 (Q00.of (aC args 0))) [] Qm1 3
def Q3p(m:Q00):Tree Int:=
.an (Qf9 m) (.lv (Q9s m) λ(x0:Int)=> .lf (iand u32 x0 m.B1.B3.a7))
def Q4(m:Q00):Int:=(Q3p m).m
abbrev Q8c(m:Q00):Prop:=(Q3p m).p
def Qn3:Q0d:=mkP 110 [] true [.agg Q00.sig] [] (λargs rows=>Q8c (Q00.of (aC args 0))) (λargs rows=>Q4 (Q00.of (aC args 0))) (λX=> .int .u32 X) (λX=>[])
theorem Qeb:Q07 pG Qn3:=Q0t drawn Q0p (.cons Qq5 (.nil)) Tryz.func110 Tryz.call110 (λargs rows=>Q3p (Q00.of (aC args 0))) [] [] 2
def Q3j(m:Q00):Tree Bool:=
.br m.A2 (.an (Q8c m) (.lv (Q4 m) λ(x0:Int)=> .lf (x0==0))) (.lf false)
def Qb0(m:Q00):Bool:=(Q3j m).m
abbrev Qba(m:Q00):Prop:=(Q3j m).p
def Qui:Q0d:=mkP 28 [] true [.agg Q00.sig] [] (λargs rows=>Qba (Q00.of (aC args 0))) (λargs rows=>Qb0 (Q00.of (aC args 0))) (λX=> .bool X) (λX=>[])
theorem Qs3:Q07 pG Qui:=Q0t drawn Q0p (.cons Qeb (.nil)) Tryz.func28 Tryz.call28 (λargs rows=>Q3j (Q00.of (aC args 0))) [] [] 2

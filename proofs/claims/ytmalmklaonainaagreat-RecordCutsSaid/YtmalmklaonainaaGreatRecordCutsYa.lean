import Derived.Test.YtmalmklaonainaaGreatRecordCutsBase
set_option maxRecDepth 100000
set_option linter.all false
namespace Go.Proofs.YtmalmklaonainaaGreat
open Go Go.GD Go.IntKind
noncomputable section
def Q03(s:(List Int)):(List Int):=
s
def Q07(s:(List Int)):Prop:=
s.length<=35184372088832
def Q3i(s:(List Int)):List D:=[.sl 1 (.ints .u32 s) false]
def Q2b(s:(List Int)):List Row:=[]
def Q1i(X:(List Int)):D:= .all 0
def Q1j(X:(List Int)):List Row:=[⟨false,25,1, .ints .u32 X⟩]
def Qdm:List Dir:=[.row 25 1 (.ints .u32)]
def Q79:List PT:=[.one (.ints .u32)]
def Q72:List RT:=[]
def Qew(args:List D)(rows:List Row):(List Int):=Q03 (argL .u32 args 0)
def Qf9(args:List D)(rows:List Row):Prop:=Q07 (argL .u32 args 0)
def Qgd:Q0c:=mkP 129 [] true Q79 Q72 Qf9 Qew Q1i Q1j
def Q4p(s:(List Int))(Leaf:(List Int)->Prop):Prop:=
(s=[]->Leaf [])/\cand (decide ((4:Nat)*((0:Nat)+s.length)<=(140737488355328:Nat))) (Leaf s)
set_option maxRecDepth 100000 in
theorem Qfu(s:(List Int))(Q:D->List Row->Prop):(fnVC tab [] (LL tab [] Tryz.f129.ntmps 0 [] 2) Tryz.f129 (Q3i s) (Q2b s) λd R=>Q96 (Q2b s).length Qdm d R Q)=Q4p s (λX=>Q (Q1i X) (Q1j X)):=by kernel_rfl
theorem Qdo(s:(List Int))(Leaf:(List Int)->Prop)(hw:Q07 s)(h:Leaf (Q03 s)):
Q4p s Leaf:=by
 delta Q4p
 refine⟨λe=>by rw[e]at h;exact h,?_⟩
 rw[Q06]
 refine⟨decide_eq_true ?_,h⟩
 have:s.length<=35184372088832:=hw
 omega
set_option maxRecDepth 100000 in
theorem Qdg(s:(List Int))(hw:Q07 s):Q4j Tryz.prog 129 (Q3i s) (Q2b s) (Q1i (Q03 s)) (Q1j (Q03 s)):=
 have hG:Q6w Tryz.prog []:= .nil
 FnOK.calls drawn Q0h hG Tryz.func129 (rf:=none) (λ_ _=>trivial) (Zl7 drawn Q0h hG (.inl rfl) 2 (invs:=[])) (FnOK.of (Qfu s _) (Qdo s (λX=>Q1i X=Q1i (Q03 s)/\Q1j X=Q1j (Q03 s)) hw ⟨rfl,rfl⟩))
set_option maxRecDepth 100000 in
theorem Qdu(args:List D)(rows:List Row):Qfz Q79 args 0=Q3i (argL .u32 args 0):=by kernel_rfl
set_option maxRecDepth 100000 in
theorem Qdf(args:List D)(rows:List Row):Q69 Q72 rows 0=Q2b (argL .u32 args 0):=by kernel_rfl
set_option maxRecDepth 100000 in
theorem Qfo(X:(List Int)):(ffB (Q1i X)&&ffBR (Q1j X))=true:=by kernel_rfl
theorem Q0s:Q04 Tryz.prog Qgd:=Qzz Tryz.call129 (λargs rows hp=>by rw[Qdu args rows,Qdf args rows];exact Qdg (argL .u32 args 0) hp) (λ_ X=>Qfo X)
def Q89(m:(List Int)):Tree Int:=
.br (Int.tmod (m.length:Int) (32:Int) !=(0:Int)) (.lf 0) (.br (decide ((m.length:Int)>(1024:Int))) (.lf 0) (.lf (wrap i64 (Int.tdiv (m.length:Int) 32))))
def Q0q(m:(List Int)):Int:=(Q89 m).m
def Z31:Q0c:=mkR 43 [] true [.one (.ints .u32)] [] (λargs rows=>Q0q (argL .u32 args 0)) (λX=> .int .i64 X) (λX=>[])
theorem Q45:Q04 Tryz.prog Z31:=Q0v drawn Q0h (.nil) Tryz.func43 Tryz.call43 (λargs rows=>Q89 (argL .u32 args 0)) [] [] 2
def Q30(m:(List Int))(addr:Int)(size:Int):Tree Bool:=
let T1:Tree (Bool):= .cn (decide (wrap u32 size≠0)) (.br (Int.tmod addr (wrap u32 size) !=0) (.lf false) (.lv (Q0q m) λ(x0:Int)=> .lf (decide (wrap u64 (wrap u64 addr+wrap u64 size)<=wrap u64 (wrap u64 x0*128))))); .br (size !=1) (.br (size !=4) (.lf false) T1) T1
def Qgc(m:(List Int))(addr:Int)(size:Int):Bool:=(Q30 m addr size).m
abbrev Qa6(m:(List Int))(addr:Int)(size:Int):Prop:=(Q30 m addr size).p
def Qys:Q0c:=mkP 275 [] true [.one (.ints .u32), .one (.int .u32), .one (.int .i64)] [] (λargs rows=>Qa6 (argL .u32 args 0) (argI args 1) (argI args 2)) (λargs rows=>Qgc (argL .u32 args 0) (argI args 1) (argI args 2)) (λX=> .bool X) (λX=>[])
theorem Qly:Q04 Tryz.prog Qys:=Q0k drawn Q0h (.cons Q45 (.nil)) Tryz.func275 Tryz.call275 (λargs rows=>Q30 (argL .u32 args 0) (argI args 1) (argI args 2)) [] [] 2
def Qbw(n:Int):Tree Int:=
.br (decide (n>=32)) (.lf 4294967295) (.cn (decide (0<=wrap u64 n)) (.lf (wrap u32 (ishl u32 1 (wrap u64 n)-1))))
def Qzo(n:Int):Int:=(Qbw n).m
abbrev Qga(n:Int):Prop:=(Qbw n).p
def Zha:Q0c:=mkP 276 [] true [.one (.int .i64)] [] (λargs rows=>Qga (argI args 0)) (λargs rows=>Qzo (argI args 0)) (λX=> .int .u32 X) (λX=>[])
theorem Qw2:Q04 Tryz.prog Zha:=Q0k drawn Q0h (.nil) Tryz.func276 Tryz.call276 (λargs rows=>Qbw (argI args 0)) [] [] 2
def Q8p(w:Int)(low:Int)(n:Int):Tree Int:=
.br (decide (low<0)) (.lf 0) (.br (decide (low>31)) (.lf 0) (.br (decide (n<1)) (.lf 0) (.cn (decide (0<=wrap u64 low)) (.an (Qga n) (.lv (Qzo n) λ(x0:Int)=> .lf (iand u32 (ishr u32 w (wrap u64 low)) x0))))))
def Q2t(w:Int)(low:Int)(n:Int):Int:=(Q8p w low n).m
abbrev Q50(w:Int)(low:Int)(n:Int):Prop:=(Q8p w low n).p
def Ze1:Q0c:=mkP 233 [] true [.one (.int .u32), .one (.int .i64), .one (.int .i64)] [] (λargs rows=>Q50 (argI args 0) (argI args 1) (argI args 2)) (λargs rows=>Q2t (argI args 0) (argI args 1) (argI args 2)) (λX=> .int .u32 X) (λX=>[])
theorem Qkh:Q04 Tryz.prog Ze1:=Q0k drawn Q0h (.cons Qw2 (.nil)) Tryz.func233 Tryz.call233 (λargs rows=>Q8p (argI args 0) (argI args 1) (argI args 2)) [] [] 2
def Q5c(w:Int)(low:Int)(n:Int)(v:Int):Tree Int:=
.br (decide (low<0)) (.lf w) (.br (decide (low>31)) (.lf w) (.br (decide (n<1)) (.lf w) (.an (Qga n) (.lv (Qzo n) λ(x0:Int)=> .cn (decide (0<=wrap u64 low)) (.cn (decide (0<=wrap u64 low)) (.lf (ior u32 (Qg7 u32 w (ishl u32 x0 (wrap u64 low))) (ishl u32 (iand u32 v x0) (wrap u64 low)))))))))
def Q7k(w:Int)(low:Int)(n:Int)(v:Int):Int:=(Q5c w low n v).m
abbrev Qe1(w:Int)(low:Int)(n:Int)(v:Int):Prop:=(Q5c w low n v).p
def Z06:Q0c:=mkP 278 [] true [.one (.int .u32), .one (.int .i64), .one (.int .i64), .one (.int .u32)] [] (λargs rows=>Qe1 (argI args 0) (argI args 1) (argI args 2) (argI args 3)) (λargs rows=>Q7k (argI args 0) (argI args 1) (argI args 2) (argI args 3)) (λX=> .int .u32 X) (λX=>[])
theorem Qx6:Q04 Tryz.prog Z06:=Q0k drawn Q0h (.cons Qw2 (.nil)) Tryz.func278 Tryz.call278 (λargs rows=>Q5c (argI args 0) (argI args 1) (argI args 2) (argI args 3)) [] [] 2
def Q4t(m:(List Int))(addr:Int)(size:Int)(v:Int):Tree ((List Int)×Bool):=
.an (Q07 m) (.lv (Q03 m) λ(x0:List Int)=> .an (Qa6 m addr size) (.lv (Qgc m addr size) λ(x1:Bool)=> .br (!x1) (.lf (x0,false)) (let E1:=Nat.beq 1 1&&Nat.blt 0 1&&decide (0<=wrap u32 (Int.tdiv addr 4)/\wrap u32 (Int.tdiv addr 4)<(x0.length:Int));let E2:=Int.toNat (wrap u32 (Int.tdiv addr 4)); .br (size==1) (.cn E1 (let E3:=wrap i64 (wrap i64 (Int.tmod addr 4)*8); .an (Qe1 (x0.getD E2 0) E3 8 v) (.lv (Q7k (x0.getD E2 0) E3 8 v) λ(x2:Int)=> .cn E1 (.lf (List.set x0 E2 x2,true))))) (.cn E1 (.lf (List.set x0 E2 v,true))))))
def Q8n(m:(List Int))(addr:Int)(size:Int)(v:Int):((List Int)×Bool):=(Q4t m addr size v).m
abbrev Q7z(m:(List Int))(addr:Int)(size:Int)(v:Int):Prop:=(Q4t m addr size v).p
def Z3h:Q0c:=mkP 239 [] true [.one (.ints .u32), .one (.int .u32), .one (.int .i64), .one (.int .u32)] [] (λargs rows=>Q7z (argL .u32 args 0) (argI args 1) (argI args 2) (argI args 3)) (λargs rows=>Q8n (argL .u32 args 0) (argI args 1) (argI args 2) (argI args 3)) (λX=> .tup [.all 0, .bool (X.2)]) (λX=>[⟨false,25,1, .ints .u32 (X.1)⟩])
theorem Qn7:Q04 Tryz.prog Z3h:=Q0k drawn Q0h (.cons Q0s (.cons Qly (.cons Qx6 (.nil)))) Tryz.func239 Tryz.call239 (λargs rows=>Q4t (argL .u32 args 0) (argI args 1) (argI args 2) (argI args 3)) [.row 25 1 (.ints .u32)] [] 2
def Zck(op:Int):Tree (Q8k×Bool):=
.br (op==1) (.lf ({a:=true,b:=true,c:=true,low:=0,D5:=0},true)) (.br (op==2) (.lf ({a:=true,b:=true,c:=true,low:=0,D5:=0},true)) (.br (op==3) (.lf ({a:=true,b:=true,c:=true,low:=0,D5:=0},true)) (.br (op==4) (.lf ({a:=true,b:=true,c:=true,low:=0,D5:=0},true)) (.br (op==5) (.lf ({a:=true,b:=true,c:=true,low:=0,D5:=0},true)) (.br (op==6) (.lf ({a:=true,b:=true,c:=true,low:=0,D5:=0},true)) (.br (op==7) (.lf ({a:=true,b:=true,c:=true,low:=0,D5:=0},true)) (.br (op==8) (.lf ({a:=true,b:=true,c:=true,low:=0,D5:=0},true)) (.br (op==9) (.lf ({a:=true,b:=true,c:=true,low:=0,D5:=0},true)) (.br (op==10) (.lf ({a:=true,b:=true,c:=true,low:=0,D5:=0},true)) (.br (op==11) (.lf ({a:=true,b:=true,c:=true,low:=0,D5:=0},true)) (.br (op==12) (.lf ({a:=true,b:=true,c:=true,low:=0,D5:=0},true)) (.br (op==13) (.lf ({a:=true,b:=true,c:=true,low:=0,D5:=0},true)) (.br (op==16) (.lf ({a:=true,b:=true,c:=false,low:=(-32768),D5:=32767},true)) (.br (op==23) (.lf ({a:=true,b:=true,c:=false,low:=(-32768),D5:=32767},true)) (.br (op==32) (.lf ({a:=true,b:=true,c:=false,low:=(-32768),D5:=32767},true)) (.br (op==33) (.lf ({a:=true,b:=true,c:=false,low:=(-32768),D5:=32767},true)) (.br (op==34) (.lf ({a:=true,b:=true,c:=false,low:=(-32768),D5:=32767},true)) (.br (op==35) (.lf ({a:=true,b:=true,c:=false,low:=(-32768),D5:=32767},true)) (.br (op==36) (.lf ({a:=true,b:=true,c:=false,low:=(-32768),D5:=32767},true)) (.br (op==40) (.lf ({a:=true,b:=true,c:=false,low:=(-32768),D5:=32767},true)) (.br (op==41) (.lf ({a:=true,b:=true,c:=false,low:=(-32768),D5:=32767},true)) (.br (op==42) (.lf ({a:=true,b:=true,c:=false,low:=(-32768),D5:=32767},true)) (.br (op==43) (.lf ({a:=true,b:=true,c:=false,low:=(-32768),D5:=32767},true)) (.br (op==44) (.lf ({a:=true,b:=true,c:=false,low:=(-32768),D5:=32767},true)) (.br (op==45) (.lf ({a:=true,b:=true,c:=false,low:=(-32768),D5:=32767},true)) (.br (op==49) (.lf ({a:=true,b:=true,c:=false,low:=(-32768),D5:=32767},true)) (.br (op==17) (.lf ({a:=true,b:=true,c:=false,low:=0,D5:=65535},true)) (.br (op==18) (.lf ({a:=true,b:=true,c:=false,low:=0,D5:=65535},true)) (.br (op==19) (.lf ({a:=true,b:=true,c:=false,low:=0,D5:=65535},true)) (.br (op==20) (.lf ({a:=true,b:=true,c:=false,low:=0,D5:=31},true)) (.br (op==21) (.lf ({a:=true,b:=true,c:=false,low:=0,D5:=31},true)) (.br (op==22) (.lf ({a:=true,b:=true,c:=false,low:=0,D5:=31},true)) (.br (op==24) (.lf ({a:=true,b:=false,c:=false,low:=0,D5:=65535},true)) (.br (op==48) (.lf ({a:=true,b:=false,c:=false,low:=(-32768),D5:=32767},true)) (.br (op==58) (.lf ({a:=true,b:=false,c:=false,low:=0,D5:=7},true)) (.br (op==59) (.lf ({a:=true,b:=false,c:=false,low:=0,D5:=7},true)) (.br (op==60) (.lf ({a:=true,b:=false,c:=false,low:=0,D5:=11},true)) (.br (op==61) (.lf ({a:=true,b:=false,c:=false,low:=0,D5:=11},true)) (.br (op==56) (.lf ({a:=false,b:=false,c:=false,low:=0,D5:=0},true)) (.br (op==57) (.lf ({a:=false,b:=false,c:=false,low:=0,D5:=0},true)) (.br (op==62) (.lf ({a:=false,b:=false,c:=false,low:=0,D5:=0},true)) (.br (op==63) (.lf ({a:=false,b:=false,c:=false,low:=0,D5:=0},true)) (.br (op==64) (.lf ({a:=false,b:=false,c:=false,low:=0,D5:=0},true)) (.lf ({a:=false,b:=false,c:=false,low:=0,D5:=0},false)))))))))))))))))))))))))))))))))))))))))))))
def Z0d(op:Int):(Q8k×Bool):=(Zck op).m
def xy:Q0c:=mkR 234 [] true [.one (.int .i64)] [] (λargs rows=>Z0d (argI args 0)) (λX=> .tup [.agg (Q8k.cells (X.1)), .bool (X.2)]) (λX=>[])
theorem Z4t:Q04 Tryz.prog xy:=Q0v drawn Q0h (.nil) Tryz.func234 Tryz.call234 (λargs rows=>Zck (argI args 0)) [] [] 2
def Q3e(x:Int)(n:Int):Tree Int:=
.br (decide (n<1)) (.lf 0) (.br (decide (n>=32)) (.lf x) (let E1:=decide (0<=wrap u64 (wrap i64 (32-n))); .cn E1 (.cn E1 (.lf (wrap u32 (ishr i32 (wrap i32 (ishl u32 x (wrap u64 (wrap i64 (32-n))))) (wrap u64 (wrap i64 (32-n)))))))))
def Q25(x:Int)(n:Int):Int:=(Q3e x n).m
abbrev Q7j(x:Int)(n:Int):Prop:=(Q3e x n).p
def Qu2:Q0c:=mkP 235 [] true [.one (.int .u32), .one (.int .i64)] [] (λargs rows=>Q7j (argI args 0) (argI args 1)) (λargs rows=>Q25 (argI args 0) (argI args 1)) (λX=> .int .u32 X) (λX=>[])
theorem Qil:Q04 Tryz.prog Qu2:=Q0k drawn Q0h (.nil) Tryz.func235 Tryz.call235 (λargs rows=>Q3e (argI args 0) (argI args 1)) [] [] 2
def Qel(r:Int)(used:Bool):Tree Bool:=
.br used (.br (decide (r>=0)) (.lf (decide (r<=15))) (.lf false)) (.lf (r==0))
def Q9(r:Int)(used:Bool):Bool:=(Qel r used).m
def Z2s:Q0c:=mkR 277 [] true [.one (.int .i64), .one (.bool)] [] (λargs rows=>Q9 (argI args 0) (argB args 1)) (λX=> .bool X) (λX=>[])
theorem Z09:Q04 Tryz.prog Z2s:=Q0v drawn Q0h (.nil) Tryz.func277 Tryz.call277 (λargs rows=>Qel (argI args 0) (argB args 1)) [] [] 2
def Qh6(i:Q0i):Tree Bool:=
.lv (Z0d i.Op) λ(x0:Q8k×Bool)=> .br x0.2 (.lv (Q9 i.A x0.1.a) λ(x1:Bool)=> .br x1 (.lv (Q9 i.B x0.1.b) λ(x2:Bool)=> .br x2 (.lv (Q9 i.C x0.1.c) λ(x3:Bool)=> .br x3 (.br (decide (i.Imm>=x0.1.low)) (.lf (decide (i.Imm<=x0.1.D5))) (.lf false)) (.lf false)) (.lf false)) (.lf false)) (.lf false)
def Qeu(i:Q0i):Bool:=(Qh6 i).m
def Zgw:Q0c:=mkR 236 [] true [.agg Q0i.sig] [] (λargs rows=>Qeu (Q0i.of (aC args 0))) (λX=> .bool X) (λX=>[])
theorem Zdx:Q04 Tryz.prog Zgw:=Q0v drawn Q0h (.cons Z4t (.cons Z09 (.nil))) Tryz.func236 Tryz.call236 (λargs rows=>Qh6 (Q0i.of (aC args 0))) [] [] 2
def Q7d(w:Int):Tree (Q0i×Bool):=
.an (Q50 w 24 8) (.lv (Q2t w 24 8) λ(x0:Int)=> .an (Q50 w 20 4) (.lv (Q2t w 20 4) λ(x1:Int)=> .an (Q50 w 16 4) (.lv (Q2t w 16 4) λ(x2:Int)=> .lv (Z0d (wrap i64 x0)) λ(x3:Q8k×Bool)=>let E1:=({Op:=0,A:=0,B:=0,C:=0,Imm:=0}:Q0i); .br (!x3.2) (.lf (E1,false)) (.an (Q50 w 0 16) (.lv (Q2t w 0 16) λ(x4:Int)=> .br x3.1.c (let E2:=({Op:=wrap i64 x0,A:=wrap i64 x1,B:=wrap i64 x2,C:=wrap i64 x4,Imm:=0}:Q0i); .lv (Qeu E2) λ(x5:Bool)=> .br (!x5) (.lf (E1,false)) (.lf (E2,true))) (.br (decide (x3.1.low<0)) (.an (Q7j x4 16) (.lv (Q25 x4 16) λ(x6:Int)=>let E3:=({Op:=wrap i64 x0,A:=wrap i64 x1,B:=wrap i64 x2,C:=0,Imm:=wrap i32 x6}:Q0i); .lv (Qeu E3) λ(x7:Bool)=> .br (!x7) (.lf (E1,false)) (.lf (E3,true)))) (let E4:=({Op:=wrap i64 x0,A:=wrap i64 x1,B:=wrap i64 x2,C:=0,Imm:=wrap i32 x4}:Q0i); .lv (Qeu E4) λ(x8:Bool)=> .br (!x8) (.lf (E1,false)) (.lf (E4,true)))))))))
def Qgm(w:Int):(Q0i×Bool):=(Q7d w).m
abbrev Qjd(w:Int):Prop:=(Q7d w).p
def Zcx:Q0c:=mkP 180 [] true [.one (.int .u32)] [] (λargs rows=>Qjd (argI args 0)) (λargs rows=>Qgm (argI args 0)) (λX=> .tup [.agg (Q0i.cells (X.1)), .bool (X.2)]) (λX=>[])
theorem Z9m:Q04 Tryz.prog Zcx:=Q0k drawn Q0h (.cons Qkh (.cons Z4t (.cons Qil (.cons Zdx (.nil))))) Tryz.func180 Tryz.call180 (λargs rows=>Q7d (argI args 0)) [] [] 2
def Q62(a:Int)(b:Int):Tree (Int×Int):=
.br (b==0) (.lf (4294967295,a)) (let T1:Tree ((Int×Int)):= .cn (decide (wrap i32 b≠0)) (.cn (decide (wrap i32 b≠0)) (.lf (wrap u32 (wrap i32 (Int.tdiv (wrap i32 a) (wrap i32 b))),wrap u32 (Int.tmod (wrap i32 a) (wrap i32 b))))); .br (a==2147483648) (.br (b==4294967295) (.lf (a,0)) T1) T1)
def Qbj(a:Int)(b:Int):(Int×Int):=(Q62 a b).m
abbrev Qdc(a:Int)(b:Int):Prop:=(Q62 a b).p
def Z8u:Q0c:=mkP 279 [] true [.one (.int .u32), .one (.int .u32)] [] (λargs rows=>Qdc (argI args 0) (argI args 1)) (λargs rows=>Qbj (argI args 0) (argI args 1)) (λX=> .tup [.int .u32 (X.1), .int .u32 (X.2)]) (λX=>[])
theorem Z4b:Q04 Tryz.prog Z8u:=Q0k drawn Q0h (.nil) Tryz.func279 Tryz.call279 (λargs rows=>Q62 (argI args 0) (argI args 1)) [] [] 2
def Z0e(b:Bool):Tree Int:=
.br b (.lf 1) (.lf 0)
def Qnc(b:Bool):Int:=(Z0e b).m
def Zhb:Q0c:=mkR 280 [] true [.one (.bool)] [] (λargs rows=>Qnc (argB args 0)) (λX=> .int .u32 X) (λX=>[])
theorem Zej:Q04 Tryz.prog Zhb:=Q0v drawn Q0h (.nil) Tryz.func280 Tryz.call280 (λargs rows=>Z0e (argB args 0)) [] [] 2
def Qgv(op:Int)(a:Int)(b:Int):Tree (Int×Bool):=
.br (op==2) (.lf (wrap u32 (a+wrap u32 (0-b)),true)) (.br (op==1) (.lf (wrap u32 (a+b),true)) (.br (op==16) (.lf (wrap u32 (a+b),true)) (.br (op==3) (.lf (iand u32 a b,true)) (.br (op==17) (.lf (iand u32 a b,true)) (.br (op==4) (.lf (ior u32 a b,true)) (.br (op==18) (.lf (ior u32 a b,true)) (.br (op==5) (.lf (ixor u32 a b,true)) (.br (op==19) (.lf (ixor u32 a b,true)) (.br (op==6) (.lf (ishl u32 a (iand u32 b 31),true)) (.br (op==20) (.lf (ishl u32 a (iand u32 b 31),true)) (.br (op==7) (.lf (ishr u32 a (iand u32 b 31),true)) (.br (op==21) (.lf (ishr u32 a (iand u32 b 31),true)) (let E1:=(wrap u32 (ishr i32 (wrap i32 a) (iand u32 b 31)),true); .br (op==8) (.lf E1) (.br (op==22) (.lf E1) (.br (op==9) (.lf (wrap u32 (a*b),true)) (.br (op==10) (.an (Qdc a b) (.lv (Qbj a b) λ(x0:Int×Int)=> .lf (x0.1,true))) (.br (op==11) (.an (Qdc a b) (.lv (Qbj a b) λ(x1:Int×Int)=> .lf (x1.2,true))) (.br (op==12) (.lv (Qnc (decide (wrap i32 a<wrap i32 b))) λ(x2:Int)=> .lf (x2,true)) (.br (op==23) (.lv (Qnc (decide (wrap i32 a<wrap i32 b))) λ(x3:Int)=> .lf (x3,true)) (.br (op==13) (.lv (Qnc (decide (a<b))) λ(x4:Int)=> .lf (x4,true)) (.lf (0,false))))))))))))))))))))))
def Q3y(op:Int)(a:Int)(b:Int):(Int×Bool):=(Qgv op a b).m
abbrev Qks(op:Int)(a:Int)(b:Int):Prop:=(Qgv op a b).p
def zy:Q0c:=mkP 243 [] true [.one (.int .i64), .one (.int .u32), .one (.int .u32)] [] (λargs rows=>Qks (argI args 0) (argI args 1) (argI args 2)) (λargs rows=>Q3y (argI args 0) (argI args 1) (argI args 2)) (λX=> .tup [.int .u32 (X.1), .bool (X.2)]) (λX=>[])
theorem Zkp:Q04 Tryz.prog zy:=Q0k drawn Q0h (.cons Z4b (.cons Zej (.nil))) Tryz.func243 Tryz.call243 (λargs rows=>Qgv (argI args 0) (argI args 1) (argI args 2)) [] [] 2
end
end Go.Proofs.YtmalmklaonainaaGreat

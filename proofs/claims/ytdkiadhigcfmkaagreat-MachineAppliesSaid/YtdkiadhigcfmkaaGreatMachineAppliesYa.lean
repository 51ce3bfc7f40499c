/-
  Functions of the program: models, and that its calls come to them (by a program: gen3.py).
-/
import Derived.Test.YtdkiadhigcfmkaaGreatMachineAppliesBase
namespace Go.Proofs.YtdkiadhigcfmkaaGreat
open Go Go.GD Go.IntKind
set_option linter.unusedVariables false
set_option linter.unusedSimpArgs false
set_option maxRecDepth 100000
noncomputable section
def Q07(s:(List Int)):(List Int):=
s
def Q0c(s:(List Int)):Prop:=
s.length≤35184372088832
def Q23(s:(List Int)):List D:=[.sl 1 (.ints .u32 s) false]
def Q1n(s:(List Int)):List Row:=[]
def Q14(X:(List Int)):D:= .all 0
def Q12(X:(List Int)):List Row:=[⟨false,27,1, .ints .u32 X⟩]
def Q9:List Dir:=[.row 27 1 (.ints .u32)]
def Q4p:List PT:=[.one (.ints .u32)]
def Q4h:List RT:=[]
def Qa3(args:List D)(rows:List Row):(List Int):=Q07 (argL .u32 args 0)
def Qaq(args:List D)(rows:List Row):Prop:=Q0c (argL .u32 args 0)
def Qbp:Q08:=mkP 59 [] true Q4p Q4h Qaq Qa3 Q14 Q12
def Q2v(s:(List Int))(Leaf:(List Int)→Prop):Prop:=
(s=[]→Leaf [])∧cand (decide ((4:Nat)*((0:Nat)+List.length s)≤(140737488355328:Nat))) (Leaf s)
set_option maxRecDepth 100000 in
theorem Qb1(s:(List Int))(Q:D→List Row→Prop):(fnVC tab [] (LL tab [] Tryz.f59.ntmps 0 [] 2) Tryz.f59 (Q23 s) (Q1n s) fun d R=>Qax (Q1n s).length Q9 d R Q)=Q2v s (fun X=>Q (Q14 X) (Q12 X)):=by kernel_rfl
theorem Q92(s:(List Int))(Leaf:(List Int)→Prop)(hw:Q0c s)(h:Leaf (Q07 s)):
Q2v s Leaf:=by
 delta Q2v
 refine⟨fun e=>by rw[e]at h;exact h,?_⟩
 rw[Q06]
 refine⟨decide_eq_true ?_,h⟩
 have:s.length≤35184372088832:=hw
 omega
set_option maxRecDepth 100000 in
theorem Q8r(s:(List Int))(hw:Q0c s):Q31 Tryz.prog 59 (Q23 s) (Q1n s) (Q14 (Q07 s)) (Q12 (Q07 s)):=
 have hG:Q6n Tryz.prog []:= .nil
 FnOK.calls Q0f Q0g hG Tryz.func59 (LL_ok Q0f Q0g hG 2 (invs:=[])) (FnOK.of (Qb1 s _) (Q92 s (fun X=>Q14 X=Q14 (Q07 s)∧Q12 X=Q12 (Q07 s)) hw ⟨rfl,rfl⟩))
set_option maxRecDepth 100000 in
theorem Q96(args:List D)(rows:List Row):Qi0 Q4p args 0=Q23 (argL .u32 args 0):=by kernel_rfl
set_option maxRecDepth 100000 in
theorem Q8q(args:List D)(rows:List Row):Q6e Q4h rows 0=Q1n (argL .u32 args 0):=by kernel_rfl
set_option maxRecDepth 100000 in
theorem Qas(X:(List Int)):(ffB (Q14 X)&&ffBR (Q12 X))=true:=by kernel_rfl
theorem Q0r:Q02 Tryz.prog Qbp:=Z4l Tryz.call59 (fun args rows hp=>by rw[Q96 args rows,Q8q args rows];exact Q8r (argL .u32 args 0) hp) (fun _ X=>Qas X)
def Q6k(m:(List Int)):Tree Int:=
.br (Int.tmod (↑(List.length m):Int) (32:Int) !=(0:Int)) (.lf 0) (.br (decide ((↑(List.length m):Int)>(1024:Int))) (.lf 0) (.lf (wrap i64 (Int.tdiv (↑(List.length m):Int) 32))))
def Q0s(m:(List Int)):Int:=(Q6k m).m
def Qyp:Q08:=mkR 56 [] true [.one (.ints .u32)] [] (fun args rows=>Q0s (argL .u32 args 0)) (fun X=> .int .i64 X) (fun X=>[])
theorem Q2b:Q02 Tryz.prog Qyp:=Q0q Q0f Q0g (.nil) Tryz.func56 Tryz.call56 (fun args rows=>Q6k (argL .u32 args 0)) [] [] 2 (fun _ _ _=>by kernel_rfl) (fun _ _=>rfl) (fun _ _=>Tree.free_ok (by kernel_rfl)) (fun _ X=>by kernel_rfl)
def Q7z(m:(List Int))(addr:Int)(size:Int):Tree Bool:=
let T1:Tree (Bool):= .cn (decide (wrap u32 size≠0)) (.br (Int.tmod addr (wrap u32 size) !=0) (.lf false) (.lv (Q0s m) fun(x0:Int)=> .lf (decide (wrap u64 (wrap u64 addr+wrap u64 size)≤wrap u64 (wrap u64 x0*128))))); .br (size !=1) (.br (size !=4) (.lf false) T1) T1
def Qgu(m:(List Int))(addr:Int)(size:Int):Bool:=(Q7z m addr size).m
abbrev Q4b(m:(List Int))(addr:Int)(size:Int):Prop:=(Q7z m addr size).p
def Qwa:Q08:=mkP 217 [] true [.one (.ints .u32), .one (.int .u32), .one (.int .i64)] [] (fun args rows=>Q4b (argL .u32 args 0) (argI args 1) (argI args 2)) (fun args rows=>Qgu (argL .u32 args 0) (argI args 1) (argI args 2)) (fun X=> .bool X) (fun X=>[])
theorem Qhd:Q02 Tryz.prog Qwa:=Q0j Q0f Q0g (.cons Q2b (.nil)) Tryz.func217 Tryz.call217 (fun args rows=>Q7z (argL .u32 args 0) (argI args 1) (argI args 2)) [] [] 2 (fun _ _ _=>by kernel_rfl) (fun _ _=>rfl) (fun _ _ h=>h) (fun _ X=>by kernel_rfl)
def Qgs(n:Int):Tree Int:=
.br (decide (n≥32)) (.lf 4294967295) (.cn (decide (0≤wrap u64 n)) (.lf (wrap u32 (ishl u32 1 (wrap u64 n)-1))))
def Qv(n:Int):Int:=(Qgs n).m
abbrev Q87(n:Int):Prop:=(Qgs n).p
def Z9s:Q08:=mkP 218 [] true [.one (.int .i64)] [] (fun args rows=>Q87 (argI args 0)) (fun args rows=>Qv (argI args 0)) (fun X=> .int .u32 X) (fun X=>[])
theorem Qr4:Q02 Tryz.prog Z9s:=Q0j Q0f Q0g (.nil) Tryz.func218 Tryz.call218 (fun args rows=>Qgs (argI args 0)) [] [] 2 (fun _ _ _=>by kernel_rfl) (fun _ _=>rfl) (fun _ _ h=>h) (fun _ X=>by kernel_rfl)
def Qec(w:Int)(low:Int)(n:Int):Tree Int:=
.br (decide (low<0)) (.lf 0) (.br (decide (low>31)) (.lf 0) (.br (decide (n<1)) (.lf 0) (.cn (decide (0≤wrap u64 low)) (.an (Q87 n) (.lv (Qv n) fun(x0:Int)=> .lf (iand u32 (ishr u32 w (wrap u64 low)) x0))))))
def Q8x(w:Int)(low:Int)(n:Int):Int:=(Qec w low n).m
abbrev Q25(w:Int)(low:Int)(n:Int):Prop:=(Qec w low n).p
def Z5w:Q08:=mkP 169 [] true [.one (.int .u32), .one (.int .i64), .one (.int .i64)] [] (fun args rows=>Q25 (argI args 0) (argI args 1) (argI args 2)) (fun args rows=>Q8x (argI args 0) (argI args 1) (argI args 2)) (fun X=> .int .u32 X) (fun X=>[])
theorem Qgq:Q02 Tryz.prog Z5w:=Q0j Q0f Q0g (.cons Qr4 (.nil)) Tryz.func169 Tryz.call169 (fun args rows=>Qec (argI args 0) (argI args 1) (argI args 2)) [] [] 2 (fun _ _ _=>by kernel_rfl) (fun _ _=>rfl) (fun _ _ h=>h) (fun _ X=>by kernel_rfl)
def Q8g(w:Int)(low:Int)(n:Int)(v:Int):Tree Int:=
.br (decide (low<0)) (.lf w) (.br (decide (low>31)) (.lf w) (.br (decide (n<1)) (.lf w) (.an (Q87 n) (.lv (Qv n) fun(x0:Int)=> .cn (decide (0≤wrap u64 low)) (.cn (decide (0≤wrap u64 low)) (.lf (ior u32 (Qka u32 w (ishl u32 x0 (wrap u64 low))) (ishl u32 (iand u32 v x0) (wrap u64 low)))))))))
def Qnh(w:Int)(low:Int)(n:Int)(v:Int):Int:=(Q8g w low n v).m
abbrev Q64(w:Int)(low:Int)(n:Int)(v:Int):Prop:=(Q8g w low n v).p
def Qui:Q08:=mkP 220 [] true [.one (.int .u32), .one (.int .i64), .one (.int .i64), .one (.int .u32)] [] (fun args rows=>Q64 (argI args 0) (argI args 1) (argI args 2) (argI args 3)) (fun args rows=>Qnh (argI args 0) (argI args 1) (argI args 2) (argI args 3)) (fun X=> .int .u32 X) (fun X=>[])
theorem Qsp:Q02 Tryz.prog Qui:=Q0j Q0f Q0g (.cons Qr4 (.nil)) Tryz.func220 Tryz.call220 (fun args rows=>Q8g (argI args 0) (argI args 1) (argI args 2) (argI args 3)) [] [] 2 (fun _ _ _=>by kernel_rfl) (fun _ _=>rfl) (fun _ _ h=>h) (fun _ X=>by kernel_rfl)
def Q9t(m:(List Int))(addr:Int)(size:Int)(v:Int):Tree ((List Int)×Bool):=
.an (Q0c m) (.lv (Q07 m) fun(x0:List Int)=> .an (Q4b m addr size) (.lv (Qgu m addr size) fun(x1:Bool)=> .br (!x1) (.lf (x0,false)) (let E1:=Nat.beq 1 1&&Nat.blt 0 1&&decide (0≤wrap u32 (Int.tdiv addr 4)∧wrap u32 (Int.tdiv addr 4)<(↑(List.length x0):Int));let E2:=Int.toNat (wrap u32 (Int.tdiv addr 4)); .br (size==1) (.cn E1 (let E3:=wrap i64 (wrap i64 (Int.tmod addr 4)*8); .an (Q64 (List.getD x0 E2 0) E3 8 v) (.lv (Qnh (List.getD x0 E2 0) E3 8 v) fun(x2:Int)=> .cn E1 (.lf (List.set x0 E2 x2,true))))) (.cn E1 (.lf (List.set x0 E2 v,true))))))
def Qeq(m:(List Int))(addr:Int)(size:Int)(v:Int):((List Int)×Bool):=(Q9t m addr size v).m
abbrev Q3o(m:(List Int))(addr:Int)(size:Int)(v:Int):Prop:=(Q9t m addr size v).p
def Qxw:Q08:=mkP 175 [] true [.one (.ints .u32), .one (.int .u32), .one (.int .i64), .one (.int .u32)] [] (fun args rows=>Q3o (argL .u32 args 0) (argI args 1) (argI args 2) (argI args 3)) (fun args rows=>Qeq (argL .u32 args 0) (argI args 1) (argI args 2) (argI args 3)) (fun X=> .tup [.all 0, .bool (X.2)]) (fun X=>[⟨false,27,1, .ints .u32 (X.1)⟩])
theorem Qj4:Q02 Tryz.prog Qxw:=Q0j Q0f Q0g (.cons Q0r (.cons Qhd (.cons Qsp (.nil)))) Tryz.func175 Tryz.call175 (fun args rows=>Q9t (argL .u32 args 0) (argI args 1) (argI args 2) (argI args 3)) [.row 27 1 (.ints .u32)] [] 2 (fun _ _ _=>by kernel_rfl) (fun _ _=>rfl) (fun _ _ h=>h) (fun _ X=>by kernel_rfl)
def Z6s(op:Int):Tree (Q85×Bool):=
.br (op==1) (.lf ({a:=true,b:=true,c:=true,low:=0,high:=0},true)) (.br (op==2) (.lf ({a:=true,b:=true,c:=true,low:=0,high:=0},true)) (.br (op==3) (.lf ({a:=true,b:=true,c:=true,low:=0,high:=0},true)) (.br (op==4) (.lf ({a:=true,b:=true,c:=true,low:=0,high:=0},true)) (.br (op==5) (.lf ({a:=true,b:=true,c:=true,low:=0,high:=0},true)) (.br (op==6) (.lf ({a:=true,b:=true,c:=true,low:=0,high:=0},true)) (.br (op==7) (.lf ({a:=true,b:=true,c:=true,low:=0,high:=0},true)) (.br (op==8) (.lf ({a:=true,b:=true,c:=true,low:=0,high:=0},true)) (.br (op==9) (.lf ({a:=true,b:=true,c:=true,low:=0,high:=0},true)) (.br (op==10) (.lf ({a:=true,b:=true,c:=true,low:=0,high:=0},true)) (.br (op==11) (.lf ({a:=true,b:=true,c:=true,low:=0,high:=0},true)) (.br (op==12) (.lf ({a:=true,b:=true,c:=true,low:=0,high:=0},true)) (.br (op==13) (.lf ({a:=true,b:=true,c:=true,low:=0,high:=0},true)) (.br (op==16) (.lf ({a:=true,b:=true,c:=false,low:=(-32768),high:=32767},true)) (.br (op==23) (.lf ({a:=true,b:=true,c:=false,low:=(-32768),high:=32767},true)) (.br (op==32) (.lf ({a:=true,b:=true,c:=false,low:=(-32768),high:=32767},true)) (.br (op==33) (.lf ({a:=true,b:=true,c:=false,low:=(-32768),high:=32767},true)) (.br (op==34) (.lf ({a:=true,b:=true,c:=false,low:=(-32768),high:=32767},true)) (.br (op==35) (.lf ({a:=true,b:=true,c:=false,low:=(-32768),high:=32767},true)) (.br (op==36) (.lf ({a:=true,b:=true,c:=false,low:=(-32768),high:=32767},true)) (.br (op==40) (.lf ({a:=true,b:=true,c:=false,low:=(-32768),high:=32767},true)) (.br (op==41) (.lf ({a:=true,b:=true,c:=false,low:=(-32768),high:=32767},true)) (.br (op==42) (.lf ({a:=true,b:=true,c:=false,low:=(-32768),high:=32767},true)) (.br (op==43) (.lf ({a:=true,b:=true,c:=false,low:=(-32768),high:=32767},true)) (.br (op==44) (.lf ({a:=true,b:=true,c:=false,low:=(-32768),high:=32767},true)) (.br (op==45) (.lf ({a:=true,b:=true,c:=false,low:=(-32768),high:=32767},true)) (.br (op==49) (.lf ({a:=true,b:=true,c:=false,low:=(-32768),high:=32767},true)) (.br (op==17) (.lf ({a:=true,b:=true,c:=false,low:=0,high:=65535},true)) (.br (op==18) (.lf ({a:=true,b:=true,c:=false,low:=0,high:=65535},true)) (.br (op==19) (.lf ({a:=true,b:=true,c:=false,low:=0,high:=65535},true)) (.br (op==20) (.lf ({a:=true,b:=true,c:=false,low:=0,high:=31},true)) (.br (op==21) (.lf ({a:=true,b:=true,c:=false,low:=0,high:=31},true)) (.br (op==22) (.lf ({a:=true,b:=true,c:=false,low:=0,high:=31},true)) (.br (op==24) (.lf ({a:=true,b:=false,c:=false,low:=0,high:=65535},true)) (.br (op==48) (.lf ({a:=true,b:=false,c:=false,low:=(-32768),high:=32767},true)) (.br (op==58) (.lf ({a:=true,b:=false,c:=false,low:=0,high:=7},true)) (.br (op==59) (.lf ({a:=true,b:=false,c:=false,low:=0,high:=7},true)) (.br (op==60) (.lf ({a:=true,b:=false,c:=false,low:=0,high:=11},true)) (.br (op==61) (.lf ({a:=true,b:=false,c:=false,low:=0,high:=11},true)) (.br (op==56) (.lf ({a:=false,b:=false,c:=false,low:=0,high:=0},true)) (.br (op==57) (.lf ({a:=false,b:=false,c:=false,low:=0,high:=0},true)) (.br (op==62) (.lf ({a:=false,b:=false,c:=false,low:=0,high:=0},true)) (.br (op==63) (.lf ({a:=false,b:=false,c:=false,low:=0,high:=0},true)) (.br (op==64) (.lf ({a:=false,b:=false,c:=false,low:=0,high:=0},true)) (.lf ({a:=false,b:=false,c:=false,low:=0,high:=0},false)))))))))))))))))))))))))))))))))))))))))))))
def Z82(op:Int):(Q85×Bool):=(Z6s op).m
def isa_use_m:Q08:=mkR 170 [] true [.one (.int .i64)] [] (fun args rows=>Z82 (argI args 0)) (fun X=> .tup [.agg (Q85.cells (X.1)), .bool (X.2)]) (fun X=>[])
theorem Z0:Q02 Tryz.prog isa_use_m:=Q0q Q0f Q0g (.nil) Tryz.func170 Tryz.call170 (fun args rows=>Z6s (argI args 0)) [] [] 2 (fun _ _ _=>by kernel_rfl) (fun _ _=>rfl) (fun _ _=>Tree.free_ok (by kernel_rfl)) (fun _ X=>by kernel_rfl)
def Q60(x:Int)(n:Int):Tree Int:=
.br (decide (n<1)) (.lf 0) (.br (decide (n≥32)) (.lf x) (let E1:=decide (0≤wrap u64 (wrap i64 (32-n))); .cn E1 (.cn E1 (.lf (wrap u32 (ishr i32 (wrap i32 (ishl u32 x (wrap u64 (wrap i64 (32-n))))) (wrap u64 (wrap i64 (32-n)))))))))
def Qdx(x:Int)(n:Int):Int:=(Q60 x n).m
abbrev Q3(x:Int)(n:Int):Prop:=(Q60 x n).p
def Qp5:Q08:=mkP 171 [] true [.one (.int .u32), .one (.int .i64)] [] (fun args rows=>Q3 (argI args 0) (argI args 1)) (fun args rows=>Qdx (argI args 0) (argI args 1)) (fun X=> .int .u32 X) (fun X=>[])
theorem Qe6:Q02 Tryz.prog Qp5:=Q0j Q0f Q0g (.nil) Tryz.func171 Tryz.call171 (fun args rows=>Q60 (argI args 0) (argI args 1)) [] [] 2 (fun _ _ _=>by kernel_rfl) (fun _ _=>rfl) (fun _ _ h=>h) (fun _ X=>by kernel_rfl)
def Ql5(r:Int)(used:Bool):Tree Bool:=
.br used (.br (decide (r≥0)) (.lf (decide (r≤15))) (.lf false)) (.lf (r==0))
def Qed(r:Int)(used:Bool):Bool:=(Ql5 r used).m
def Qxg:Q08:=mkR 219 [] true [.one (.int .i64), .one (.bool)] [] (fun args rows=>Qed (argI args 0) (argB args 1)) (fun X=> .bool X) (fun X=>[])
theorem Qx:Q02 Tryz.prog Qxg:=Q0q Q0f Q0g (.nil) Tryz.func219 Tryz.call219 (fun args rows=>Ql5 (argI args 0) (argB args 1)) [] [] 2 (fun _ _ _=>by kernel_rfl) (fun _ _=>rfl) (fun _ _=>Tree.free_ok (by kernel_rfl)) (fun _ X=>by kernel_rfl)
def Qx1(i:Q0i):Tree Bool:=
.lv (Z82 i.Op) fun(x0:Q85×Bool)=> .br x0.snd (.lv (Qed i.A x0.fst.a) fun(x1:Bool)=> .br x1 (.lv (Qed i.B x0.fst.b) fun(x2:Bool)=> .br x2 (.lv (Qed i.C x0.fst.c) fun(x3:Bool)=> .br x3 (.br (decide (i.Imm≥x0.fst.low)) (.lf (decide (i.Imm≤x0.fst.high))) (.lf false)) (.lf false)) (.lf false)) (.lf false)) (.lf false)
def Qn7(i:Q0i):Bool:=(Qx1 i).m
def Zad:Q08:=mkR 172 [] true [.agg Q0i.sig] [] (fun args rows=>Qn7 (Q0i.of (args.getD 0 .dead).cells)) (fun X=> .bool X) (fun X=>[])
theorem Z6r:Q02 Tryz.prog Zad:=Q0q Q0f Q0g (.cons Z0 (.cons Qx (.nil))) Tryz.func172 Tryz.call172 (fun args rows=>Qx1 (Q0i.of (args.getD 0 .dead).cells)) [] [] 2 (fun _ _ _=>by kernel_rfl) (fun _ _=>rfl) (fun _ _=>Tree.free_ok (by kernel_rfl)) (fun _ X=>by kernel_rfl)
def Qex(w:Int):Tree (Q0i×Bool):=
.an (Q25 w 24 8) (.lv (Q8x w 24 8) fun(x0:Int)=> .an (Q25 w 20 4) (.lv (Q8x w 20 4) fun(x1:Int)=> .an (Q25 w 16 4) (.lv (Q8x w 16 4) fun(x2:Int)=> .lv (Z82 (wrap i64 x0)) fun(x3:Q85×Bool)=>let E1:=({Op:=0,A:=0,B:=0,C:=0,Imm:=0}:Q0i); .br (!x3.snd) (.lf (E1,false)) (.an (Q25 w 0 16) (.lv (Q8x w 0 16) fun(x4:Int)=> .br x3.fst.c (let E2:=({Op:=wrap i64 x0,A:=wrap i64 x1,B:=wrap i64 x2,C:=wrap i64 x4,Imm:=0}:Q0i); .lv (Qn7 E2) fun(x5:Bool)=> .br (!x5) (.lf (E1,false)) (.lf (E2,true))) (.br (decide (x3.fst.low<0)) (.an (Q3 x4 16) (.lv (Qdx x4 16) fun(x6:Int)=>let E3:=({Op:=wrap i64 x0,A:=wrap i64 x1,B:=wrap i64 x2,C:=0,Imm:=wrap i32 x6}:Q0i); .lv (Qn7 E3) fun(x7:Bool)=> .br (!x7) (.lf (E1,false)) (.lf (E3,true)))) (let E4:=({Op:=wrap i64 x0,A:=wrap i64 x1,B:=wrap i64 x2,C:=0,Imm:=wrap i32 x4}:Q0i); .lv (Qn7 E4) fun(x8:Bool)=> .br (!x8) (.lf (E1,false)) (.lf (E4,true)))))))))
def Z0p(w:Int):(Q0i×Bool):=(Qex w).m
abbrev Q9w(w:Int):Prop:=(Qex w).p
def Z60:Q08:=mkP 121 [] true [.one (.int .u32)] [] (fun args rows=>Q9w (argI args 0)) (fun args rows=>Z0p (argI args 0)) (fun X=> .tup [.agg (Q0i.cells (X.1)), .bool (X.2)]) (fun X=>[])
theorem Z20:Q02 Tryz.prog Z60:=Q0j Q0f Q0g (.cons Qgq (.cons Z0 (.cons Qe6 (.cons Z6r (.nil))))) Tryz.func121 Tryz.call121 (fun args rows=>Qex (argI args 0)) [] [] 2 (fun _ _ _=>by kernel_rfl) (fun _ _=>rfl) (fun _ _ h=>h) (fun _ X=>by kernel_rfl)
def Qbc(a:Int)(b:Int):Tree (Int×Int):=
.br (b==0) (.lf (4294967295,a)) (let T1:Tree ((Int×Int)):= .cn (decide (wrap i32 b≠0)) (.cn (decide (wrap i32 b≠0)) (.lf (wrap u32 (wrap i32 (Int.tdiv (wrap i32 a) (wrap i32 b))),wrap u32 (Int.tmod (wrap i32 a) (wrap i32 b))))); .br (a==2147483648) (.br (b==4294967295) (.lf (a,0)) T1) T1)
def Qle(a:Int)(b:Int):(Int×Int):=(Qbc a b).m
abbrev Q5i(a:Int)(b:Int):Prop:=(Qbc a b).p
def Z1a:Q08:=mkP 221 [] true [.one (.int .u32), .one (.int .u32)] [] (fun args rows=>Q5i (argI args 0) (argI args 1)) (fun args rows=>Qle (argI args 0) (argI args 1)) (fun X=> .tup [.int .u32 (X.1), .int .u32 (X.2)]) (fun X=>[])
theorem Qxj:Q02 Tryz.prog Z1a:=Q0j Q0f Q0g (.nil) Tryz.func221 Tryz.call221 (fun args rows=>Qbc (argI args 0) (argI args 1)) [] [] 2 (fun _ _ _=>by kernel_rfl) (fun _ _=>rfl) (fun _ _ h=>h) (fun _ X=>by kernel_rfl)
def Qv7(b:Bool):Tree Int:=
.br b (.lf 1) (.lf 0)
def Qn4(b:Bool):Int:=(Qv7 b).m
def Za0:Q08:=mkR 222 [] true [.one (.bool)] [] (fun args rows=>Qn4 (argB args 0)) (fun X=> .int .u32 X) (fun X=>[])
theorem Z7i:Q02 Tryz.prog Za0:=Q0q Q0f Q0g (.nil) Tryz.func222 Tryz.call222 (fun args rows=>Qv7 (argB args 0)) [] [] 2 (fun _ _ _=>by kernel_rfl) (fun _ _=>rfl) (fun _ _=>Tree.free_ok (by kernel_rfl)) (fun _ X=>by kernel_rfl)
def Qmp(op:Int)(a:Int)(b:Int):Tree (Int×Bool):=
.br (op==2) (.lf (wrap u32 (a+wrap u32 (0-b)),true)) (.br (op==1) (.lf (wrap u32 (a+b),true)) (.br (op==16) (.lf (wrap u32 (a+b),true)) (.br (op==3) (.lf (iand u32 a b,true)) (.br (op==17) (.lf (iand u32 a b,true)) (.br (op==4) (.lf (ior u32 a b,true)) (.br (op==18) (.lf (ior u32 a b,true)) (.br (op==5) (.lf (ixor u32 a b,true)) (.br (op==19) (.lf (ixor u32 a b,true)) (.br (op==6) (.lf (ishl u32 a (iand u32 b 31),true)) (.br (op==20) (.lf (ishl u32 a (iand u32 b 31),true)) (.br (op==7) (.lf (ishr u32 a (iand u32 b 31),true)) (.br (op==21) (.lf (ishr u32 a (iand u32 b 31),true)) (let E1:=(wrap u32 (ishr i32 (wrap i32 a) (iand u32 b 31)),true); .br (op==8) (.lf E1) (.br (op==22) (.lf E1) (.br (op==9) (.lf (wrap u32 (a*b),true)) (.br (op==10) (.an (Q5i a b) (.lv (Qle a b) fun(x0:Int×Int)=> .lf (x0.fst,true))) (.br (op==11) (.an (Q5i a b) (.lv (Qle a b) fun(x1:Int×Int)=> .lf (x1.snd,true))) (.br (op==12) (.lv (Qn4 (decide (wrap i32 a<wrap i32 b))) fun(x2:Int)=> .lf (x2,true)) (.br (op==23) (.lv (Qn4 (decide (wrap i32 a<wrap i32 b))) fun(x3:Int)=> .lf (x3,true)) (.br (op==13) (.lv (Qn4 (decide (a<b))) fun(x4:Int)=> .lf (x4,true)) (.lf (0,false))))))))))))))))))))))
def Z9j(op:Int)(a:Int)(b:Int):(Int×Bool):=(Qmp op a b).m
abbrev Qcj(op:Int)(a:Int)(b:Int):Prop:=(Qmp op a b).p
def cpu_Alu_m:Q08:=mkP 179 [] true [.one (.int .i64), .one (.int .u32), .one (.int .u32)] [] (fun args rows=>Qcj (argI args 0) (argI args 1) (argI args 2)) (fun args rows=>Z9j (argI args 0) (argI args 1) (argI args 2)) (fun X=> .tup [.int .u32 (X.1), .bool (X.2)]) (fun X=>[])
theorem Zd8:Q02 Tryz.prog cpu_Alu_m:=Q0j Q0f Q0g (.cons Qxj (.cons Z7i (.nil))) Tryz.func179 Tryz.call179 (fun args rows=>Qmp (argI args 0) (argI args 1) (argI args 2)) [] [] 2 (fun _ _ _=>by kernel_rfl) (fun _ _=>rfl) (fun _ _ h=>h) (fun _ X=>by kernel_rfl)
end
end Go.Proofs.YtdkiadhigcfmkaaGreat

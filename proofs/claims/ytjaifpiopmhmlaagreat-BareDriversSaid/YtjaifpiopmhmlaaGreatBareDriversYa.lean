/-
  Functions of the program: models, and that its calls come to them (by a program: gen3.py).
-/
import Derived.Test.YtjaifpiopmhmlaaGreatBareDriversBase
set_option maxRecDepth 100000
set_option linter.unusedVariables false
set_option linter.unusedSimpArgs false
namespace Go.Proofs.YtjaifpiopmhmlaaGreat
open Go Go.GD Go.IntKind
noncomputable section
def Q01(s:(List Int)):(List Int):=
s
def Q03(s:(List Int)):Prop:=
s.length≤35184372088832
def Q3b(s:(List Int)):List D:=[.sl 1 (.ints .u32 s) false]
def Q2h(s:(List Int)):List Row:=[]
def Q1b(X:(List Int)):D:= .all 0
def Q1d(X:(List Int)):List Row:=[⟨false,23,1, .ints .u32 X⟩]
def Qb4:List Dir:=[.row 23 1 (.ints .u32)]
def Q69:List PT:=[.one (.ints .u32)]
def Q61:List RT:=[]
def Qc9(args:List D)(rows:List Row):(List Int):=Q01 (argL .u32 args 0)
def Qbv(args:List D)(rows:List Row):Prop:=Q03 (argL .u32 args 0)
def Qdm:Q0e:=mkP 67 [] true Q69 Q61 Qbv Qc9 Q1b Q1d
def Q4c(s:(List Int))(Leaf:(List Int)→Prop):Prop:=
(s=[]→Leaf [])∧cand (decide ((4:Nat)*((0:Nat)+s.length)≤(140737488355328:Nat))) (Leaf s)
set_option maxRecDepth 100000 in
theorem Qcu(s:(List Int))(Q:D→List Row→Prop):(fnVC tab [] (LL tab [] Tryz.f67.ntmps 0 [] 2) Tryz.f67 (Q3b s) (Q2h s) λd R=>Qap (Q2h s).length Qb4 d R Q)=Q4c s (λX=>Q (Q1b X) (Q1d X)):=by kernel_rfl
theorem Qav(s:(List Int))(Leaf:(List Int)→Prop)(hw:Q03 s)(h:Leaf (Q01 s)):
Q4c s Leaf:=by
 delta Q4c
 refine⟨λe=>by rw[e]at h;exact h,?_⟩
 rw[Q04]
 refine⟨decide_eq_true ?_,h⟩
 have:s.length≤35184372088832:=hw
 omega
set_option maxRecDepth 100000 in
theorem Qaj(s:(List Int))(hw:Q03 s):Q3q Tryz.prog 67 (Q3b s) (Q2h s) (Q1b (Q01 s)) (Q1d (Q01 s)):=
 have hG:Q85 Tryz.prog []:= .nil
 FnOK.calls Q0r Q0s hG Tryz.func67 (LL_ok Q0r Q0s hG 2 (invs:=[])) (FnOK.of (Qcu s _) (Qav s (λX=>Q1b X=Q1b (Q01 s)∧Q1d X=Q1d (Q01 s)) hw ⟨rfl,rfl⟩))
set_option maxRecDepth 100000 in
theorem Qbf(args:List D)(rows:List Row):Qfb Q69 args 0=Q3b (argL .u32 args 0):=by kernel_rfl
set_option maxRecDepth 100000 in
theorem Qai(args:List D)(rows:List Row):Q66 Q61 rows 0=Q2h (argL .u32 args 0):=by kernel_rfl
set_option maxRecDepth 100000 in
theorem Qco(X:(List Int)):(ffB (Q1b X)&&ffBR (Q1d X))=true:=by kernel_rfl
theorem Q0o:Q08 Tryz.prog Qdm:=Qwq Tryz.call67 (λargs rows hp=>by rw[Qbf args rows,Qai args rows];exact Qaj (argL .u32 args 0) hp) (λ_ X=>Qco X)
def Q93(m:(List Int)):Tree Int:=
.br (Int.tmod (m.length:Int) (32:Int) !=(0:Int)) (.lf 0) (.br (decide ((m.length:Int)>(1024:Int))) (.lf 0) (.lf (wrap i64 (Int.tdiv (m.length:Int) 32))))
def Q0q(m:(List Int)):Int:=(Q93 m).m
def Qvx:Q0e:=mkR 84 [] true [.one (.ints .u32)] [] (λargs rows=>Q0q (argL .u32 args 0)) (λX=> .int .i64 X) (λX=>[])
theorem Q3u:Q08 Tryz.prog Qvx:=Q2j Q0r Q0s (.nil) Tryz.func84 Tryz.call84 (λargs rows=>Q93 (argL .u32 args 0)) [] [] 2 (λ_ _ _=>by kernel_rfl) (λ_ _=>rfl) (λ_ _=>Tree.free_ok (by kernel_rfl)) (λ_ X=>by kernel_rfl)
def Q30(m:(List Int))(addr:Int)(size:Int):Tree Bool:=
let T1:Tree (Bool):= .cn (decide (wrap u32 size≠0)) (.br (Int.tmod addr (wrap u32 size) !=0) (.lf false) (.lv (Q0q m) λ(x0:Int)=> .lf (decide (wrap u64 (wrap u64 addr+wrap u64 size)≤wrap u64 (wrap u64 x0*128))))); .br (size !=1) (.br (size !=4) (.lf false) T1) T1
def Qde(m:(List Int))(addr:Int)(size:Int):Bool:=(Q30 m addr size).m
abbrev Q8c(m:(List Int))(addr:Int)(size:Int):Prop:=(Q30 m addr size).p
def Qu9:Q0e:=mkP 252 [] true [.one (.ints .u32), .one (.int .u32), .one (.int .i64)] [] (λargs rows=>Q8c (argL .u32 args 0) (argI args 1) (argI args 2)) (λargs rows=>Qde (argL .u32 args 0) (argI args 1) (argI args 2)) (λX=> .bool X) (λX=>[])
theorem Qid:Q08 Tryz.prog Qu9:=Q0x Q0r Q0s (.cons Q3u (.nil)) Tryz.func252 Tryz.call252 (λargs rows=>Q30 (argL .u32 args 0) (argI args 1) (argI args 2)) [] [] 2 (λ_ _ _=>by kernel_rfl) (λ_ _=>rfl) (λ_ _ h=>h) (λ_ X=>by kernel_rfl)
def Q9a(n:Int):Tree Int:=
.br (decide (n≥32)) (.lf 4294967295) (.cn (decide (0≤wrap u64 n)) (.lf (wrap u32 (ishl u32 1 (wrap u64 n)-1))))
def Qu5(n:Int):Int:=(Q9a n).m
abbrev Qd5(n:Int):Prop:=(Q9a n).p
def Z6k:Q0e:=mkP 253 [] true [.one (.int .i64)] [] (λargs rows=>Qd5 (argI args 0)) (λargs rows=>Qu5 (argI args 0)) (λX=> .int .u32 X) (λX=>[])
theorem Qpw:Q08 Tryz.prog Z6k:=Q0x Q0r Q0s (.nil) Tryz.func253 Tryz.call253 (λargs rows=>Q9a (argI args 0)) [] [] 2 (λ_ _ _=>by kernel_rfl) (λ_ _=>rfl) (λ_ _ h=>h) (λ_ X=>by kernel_rfl)
def Q7t(w:Int)(low:Int)(n:Int):Tree Int:=
.br (decide (low<0)) (.lf 0) (.br (decide (low>31)) (.lf 0) (.br (decide (n<1)) (.lf 0) (.cn (decide (0≤wrap u64 low)) (.an (Qd5 n) (.lv (Qu5 n) λ(x0:Int)=> .lf (iand u32 (ishr u32 w (wrap u64 low)) x0))))))
def Q2v(w:Int)(low:Int)(n:Int):Int:=(Q7t w low n).m
abbrev Q4h(w:Int)(low:Int)(n:Int):Prop:=(Q7t w low n).p
def Z4t:Q0e:=mkP 212 [] true [.one (.int .u32), .one (.int .i64), .one (.int .i64)] [] (λargs rows=>Q4h (argI args 0) (argI args 1) (argI args 2)) (λargs rows=>Q2v (argI args 0) (argI args 1) (argI args 2)) (λX=> .int .u32 X) (λX=>[])
theorem Qh1:Q08 Tryz.prog Z4t:=Q0x Q0r Q0s (.cons Qpw (.nil)) Tryz.func212 Tryz.call212 (λargs rows=>Q7t (argI args 0) (argI args 1) (argI args 2)) [] [] 2 (λ_ _ _=>by kernel_rfl) (λ_ _=>rfl) (λ_ _ h=>h) (λ_ X=>by kernel_rfl)
def Q4r(w:Int)(low:Int)(n:Int)(v:Int):Tree Int:=
.br (decide (low<0)) (.lf w) (.br (decide (low>31)) (.lf w) (.br (decide (n<1)) (.lf w) (.an (Qd5 n) (.lv (Qu5 n) λ(x0:Int)=> .cn (decide (0≤wrap u64 low)) (.cn (decide (0≤wrap u64 low)) (.lf (ior u32 (Qd8 u32 w (ishl u32 x0 (wrap u64 low))) (ishl u32 (iand u32 v x0) (wrap u64 low)))))))))
def Q6w(w:Int)(low:Int)(n:Int)(v:Int):Int:=(Q4r w low n v).m
abbrev Qbd(w:Int)(low:Int)(n:Int)(v:Int):Prop:=(Q4r w low n v).p
def Qsj:Q0e:=mkP 255 [] true [.one (.int .u32), .one (.int .i64), .one (.int .i64), .one (.int .u32)] [] (λargs rows=>Qbd (argI args 0) (argI args 1) (argI args 2) (argI args 3)) (λargs rows=>Q6w (argI args 0) (argI args 1) (argI args 2) (argI args 3)) (λX=> .int .u32 X) (λX=>[])
theorem Qr7:Q08 Tryz.prog Qsj:=Q0x Q0r Q0s (.cons Qpw (.nil)) Tryz.func255 Tryz.call255 (λargs rows=>Q4r (argI args 0) (argI args 1) (argI args 2) (argI args 3)) [] [] 2 (λ_ _ _=>by kernel_rfl) (λ_ _=>rfl) (λ_ _ h=>h) (λ_ X=>by kernel_rfl)
def Q4f(m:(List Int))(addr:Int)(size:Int)(v:Int):Tree ((List Int)×Bool):=
.an (Q03 m) (.lv (Q01 m) λ(x0:List Int)=> .an (Q8c m addr size) (.lv (Qde m addr size) λ(x1:Bool)=> .br (!x1) (.lf (x0,false)) (let E1:=Nat.beq 1 1&&Nat.blt 0 1&&decide (0≤wrap u32 (Int.tdiv addr 4)∧wrap u32 (Int.tdiv addr 4)<(x0.length:Int));let E2:=Int.toNat (wrap u32 (Int.tdiv addr 4)); .br (size==1) (.cn E1 (let E3:=wrap i64 (wrap i64 (Int.tmod addr 4)*8); .an (Qbd (x0.getD E2 0) E3 8 v) (.lv (Q6w (x0.getD E2 0) E3 8 v) λ(x2:Int)=> .cn E1 (.lf (List.set x0 E2 x2,true))))) (.cn E1 (.lf (List.set x0 E2 v,true))))))
def Q86(m:(List Int))(addr:Int)(size:Int)(v:Int):((List Int)×Bool):=(Q4f m addr size v).m
abbrev Q73(m:(List Int))(addr:Int)(size:Int)(v:Int):Prop:=(Q4f m addr size v).p
def Qw2:Q0e:=mkP 218 [] true [.one (.ints .u32), .one (.int .u32), .one (.int .i64), .one (.int .u32)] [] (λargs rows=>Q73 (argL .u32 args 0) (argI args 1) (argI args 2) (argI args 3)) (λargs rows=>Q86 (argL .u32 args 0) (argI args 1) (argI args 2) (argI args 3)) (λX=> .tup [.all 0, .bool (X.2)]) (λX=>[⟨false,23,1, .ints .u32 (X.1)⟩])
theorem Qjb:Q08 Tryz.prog Qw2:=Q0x Q0r Q0s (.cons Q0o (.cons Qid (.cons Qr7 (.nil)))) Tryz.func218 Tryz.call218 (λargs rows=>Q4f (argL .u32 args 0) (argI args 1) (argI args 2) (argI args 3)) [.row 23 1 (.ints .u32)] [] 2 (λ_ _ _=>by kernel_rfl) (λ_ _=>rfl) (λ_ _ h=>h) (λ_ X=>by kernel_rfl)
def Z37(op:Int):Tree (Q7i×Bool):=
.br (op==1) (.lf ({a:=true,b:=true,c:=true,low:=0,D1:=0},true)) (.br (op==2) (.lf ({a:=true,b:=true,c:=true,low:=0,D1:=0},true)) (.br (op==3) (.lf ({a:=true,b:=true,c:=true,low:=0,D1:=0},true)) (.br (op==4) (.lf ({a:=true,b:=true,c:=true,low:=0,D1:=0},true)) (.br (op==5) (.lf ({a:=true,b:=true,c:=true,low:=0,D1:=0},true)) (.br (op==6) (.lf ({a:=true,b:=true,c:=true,low:=0,D1:=0},true)) (.br (op==7) (.lf ({a:=true,b:=true,c:=true,low:=0,D1:=0},true)) (.br (op==8) (.lf ({a:=true,b:=true,c:=true,low:=0,D1:=0},true)) (.br (op==9) (.lf ({a:=true,b:=true,c:=true,low:=0,D1:=0},true)) (.br (op==10) (.lf ({a:=true,b:=true,c:=true,low:=0,D1:=0},true)) (.br (op==11) (.lf ({a:=true,b:=true,c:=true,low:=0,D1:=0},true)) (.br (op==12) (.lf ({a:=true,b:=true,c:=true,low:=0,D1:=0},true)) (.br (op==13) (.lf ({a:=true,b:=true,c:=true,low:=0,D1:=0},true)) (.br (op==16) (.lf ({a:=true,b:=true,c:=false,low:=(-32768),D1:=32767},true)) (.br (op==23) (.lf ({a:=true,b:=true,c:=false,low:=(-32768),D1:=32767},true)) (.br (op==32) (.lf ({a:=true,b:=true,c:=false,low:=(-32768),D1:=32767},true)) (.br (op==33) (.lf ({a:=true,b:=true,c:=false,low:=(-32768),D1:=32767},true)) (.br (op==34) (.lf ({a:=true,b:=true,c:=false,low:=(-32768),D1:=32767},true)) (.br (op==35) (.lf ({a:=true,b:=true,c:=false,low:=(-32768),D1:=32767},true)) (.br (op==36) (.lf ({a:=true,b:=true,c:=false,low:=(-32768),D1:=32767},true)) (.br (op==40) (.lf ({a:=true,b:=true,c:=false,low:=(-32768),D1:=32767},true)) (.br (op==41) (.lf ({a:=true,b:=true,c:=false,low:=(-32768),D1:=32767},true)) (.br (op==42) (.lf ({a:=true,b:=true,c:=false,low:=(-32768),D1:=32767},true)) (.br (op==43) (.lf ({a:=true,b:=true,c:=false,low:=(-32768),D1:=32767},true)) (.br (op==44) (.lf ({a:=true,b:=true,c:=false,low:=(-32768),D1:=32767},true)) (.br (op==45) (.lf ({a:=true,b:=true,c:=false,low:=(-32768),D1:=32767},true)) (.br (op==49) (.lf ({a:=true,b:=true,c:=false,low:=(-32768),D1:=32767},true)) (.br (op==17) (.lf ({a:=true,b:=true,c:=false,low:=0,D1:=65535},true)) (.br (op==18) (.lf ({a:=true,b:=true,c:=false,low:=0,D1:=65535},true)) (.br (op==19) (.lf ({a:=true,b:=true,c:=false,low:=0,D1:=65535},true)) (.br (op==20) (.lf ({a:=true,b:=true,c:=false,low:=0,D1:=31},true)) (.br (op==21) (.lf ({a:=true,b:=true,c:=false,low:=0,D1:=31},true)) (.br (op==22) (.lf ({a:=true,b:=true,c:=false,low:=0,D1:=31},true)) (.br (op==24) (.lf ({a:=true,b:=false,c:=false,low:=0,D1:=65535},true)) (.br (op==48) (.lf ({a:=true,b:=false,c:=false,low:=(-32768),D1:=32767},true)) (.br (op==58) (.lf ({a:=true,b:=false,c:=false,low:=0,D1:=7},true)) (.br (op==59) (.lf ({a:=true,b:=false,c:=false,low:=0,D1:=7},true)) (.br (op==60) (.lf ({a:=true,b:=false,c:=false,low:=0,D1:=11},true)) (.br (op==61) (.lf ({a:=true,b:=false,c:=false,low:=0,D1:=11},true)) (.br (op==56) (.lf ({a:=false,b:=false,c:=false,low:=0,D1:=0},true)) (.br (op==57) (.lf ({a:=false,b:=false,c:=false,low:=0,D1:=0},true)) (.br (op==62) (.lf ({a:=false,b:=false,c:=false,low:=0,D1:=0},true)) (.br (op==63) (.lf ({a:=false,b:=false,c:=false,low:=0,D1:=0},true)) (.br (op==64) (.lf ({a:=false,b:=false,c:=false,low:=0,D1:=0},true)) (.lf ({a:=false,b:=false,c:=false,low:=0,D1:=0},false)))))))))))))))))))))))))))))))))))))))))))))
def Quq(op:Int):(Q7i×Bool):=(Z37 op).m
def isa_use_m:Q0e:=mkR 213 [] true [.one (.int .i64)] [] (λargs rows=>Quq (argI args 0)) (λX=> .tup [.agg (Q7i.cells (X.1)), .bool (X.2)]) (λX=>[])
theorem Qxv:Q08 Tryz.prog isa_use_m:=Q2j Q0r Q0s (.nil) Tryz.func213 Tryz.call213 (λargs rows=>Z37 (argI args 0)) [] [] 2 (λ_ _ _=>by kernel_rfl) (λ_ _=>rfl) (λ_ _=>Tree.free_ok (by kernel_rfl)) (λ_ X=>by kernel_rfl)
def Q39(x:Int)(n:Int):Tree Int:=
.br (decide (n<1)) (.lf 0) (.br (decide (n≥32)) (.lf x) (let E1:=decide (0≤wrap u64 (wrap i64 (32-n))); .cn E1 (.cn E1 (.lf (wrap u32 (ishr i32 (wrap i32 (ishl u32 x (wrap u64 (wrap i64 (32-n))))) (wrap u64 (wrap i64 (32-n)))))))))
def Q28(x:Int)(n:Int):Int:=(Q39 x n).m
abbrev Q6f(x:Int)(n:Int):Prop:=(Q39 x n).p
def Qo8:Q0e:=mkP 214 [] true [.one (.int .u32), .one (.int .i64)] [] (λargs rows=>Q6f (argI args 0) (argI args 1)) (λargs rows=>Q28 (argI args 0) (argI args 1)) (λX=> .int .u32 X) (λX=>[])
theorem Qfs:Q08 Tryz.prog Qo8:=Q0x Q0r Q0s (.nil) Tryz.func214 Tryz.call214 (λargs rows=>Q39 (argI args 0) (argI args 1)) [] [] 2 (λ_ _ _=>by kernel_rfl) (λ_ _=>rfl) (λ_ _ h=>h) (λ_ X=>by kernel_rfl)
def Qbj(r:Int)(used:Bool):Tree Bool:=
.br used (.br (decide (r≥0)) (.lf (decide (r≤15))) (.lf false)) (.lf (r==0))
def Q7x(r:Int)(used:Bool):Bool:=(Qbj r used).m
def Qvz:Q0e:=mkR 254 [] true [.one (.int .i64), .one (.bool)] [] (λargs rows=>Q7x (argI args 0) (argB args 1)) (λX=> .bool X) (λX=>[])
theorem Qs4:Q08 Tryz.prog Qvz:=Q2j Q0r Q0s (.nil) Tryz.func254 Tryz.call254 (λargs rows=>Qbj (argI args 0) (argB args 1)) [] [] 2 (λ_ _ _=>by kernel_rfl) (λ_ _=>rfl) (λ_ _=>Tree.free_ok (by kernel_rfl)) (λ_ X=>by kernel_rfl)
def Qeo(i:Q0g):Tree Bool:=
.lv (Quq i.Op) λ(x0:Q7i×Bool)=> .br x0.2 (.lv (Q7x i.A x0.1.a) λ(x1:Bool)=> .br x1 (.lv (Q7x i.B x0.1.b) λ(x2:Bool)=> .br x2 (.lv (Q7x i.C x0.1.c) λ(x3:Bool)=> .br x3 (.br (decide (i.Imm≥x0.1.low)) (.lf (decide (i.Imm≤x0.1.D1))) (.lf false)) (.lf false)) (.lf false)) (.lf false)) (.lf false)
def Qbz(i:Q0g):Bool:=(Qeo i).m
def Z6s:Q0e:=mkR 215 [] true [.agg Q0g.sig] [] (λargs rows=>Qbz (Q0g.of (args.getD 0 .dead).cells)) (λX=> .bool X) (λX=>[])
theorem Z29:Q08 Tryz.prog Z6s:=Q2j Q0r Q0s (.cons Qxv (.cons Qs4 (.nil))) Tryz.func215 Tryz.call215 (λargs rows=>Qeo (Q0g.of (args.getD 0 .dead).cells)) [] [] 2 (λ_ _ _=>by kernel_rfl) (λ_ _=>rfl) (λ_ _=>Tree.free_ok (by kernel_rfl)) (λ_ X=>by kernel_rfl)
def Q4k(w:Int):Tree (Q0g×Bool):=
.an (Q4h w 24 8) (.lv (Q2v w 24 8) λ(x0:Int)=> .an (Q4h w 20 4) (.lv (Q2v w 20 4) λ(x1:Int)=> .an (Q4h w 16 4) (.lv (Q2v w 16 4) λ(x2:Int)=> .lv (Quq (wrap i64 x0)) λ(x3:Q7i×Bool)=>let E1:=({Op:=0,A:=0,B:=0,C:=0,Imm:=0}:Q0g); .br (!x3.2) (.lf (E1,false)) (.an (Q4h w 0 16) (.lv (Q2v w 0 16) λ(x4:Int)=> .br x3.1.c (let E2:=({Op:=wrap i64 x0,A:=wrap i64 x1,B:=wrap i64 x2,C:=wrap i64 x4,Imm:=0}:Q0g); .lv (Qbz E2) λ(x5:Bool)=> .br (!x5) (.lf (E1,false)) (.lf (E2,true))) (.br (decide (x3.1.low<0)) (.an (Q6f x4 16) (.lv (Q28 x4 16) λ(x6:Int)=>let E3:=({Op:=wrap i64 x0,A:=wrap i64 x1,B:=wrap i64 x2,C:=0,Imm:=wrap i32 x6}:Q0g); .lv (Qbz E3) λ(x7:Bool)=> .br (!x7) (.lf (E1,false)) (.lf (E3,true)))) (let E4:=({Op:=wrap i64 x0,A:=wrap i64 x1,B:=wrap i64 x2,C:=0,Imm:=wrap i32 x4}:Q0g); .lv (Qbz E4) λ(x8:Bool)=> .br (!x8) (.lf (E1,false)) (.lf (E4,true)))))))))
def Qdv(w:Int):(Q0g×Bool):=(Q4k w).m
abbrev Qbm(w:Int):Prop:=(Q4k w).p
def Z30:Q0e:=mkP 156 [] true [.one (.int .u32)] [] (λargs rows=>Qbm (argI args 0)) (λargs rows=>Qdv (argI args 0)) (λX=> .tup [.agg (Q0g.cells (X.1)), .bool (X.2)]) (λX=>[])
theorem Qyi:Q08 Tryz.prog Z30:=Q0x Q0r Q0s (.cons Qh1 (.cons Qxv (.cons Qfs (.cons Z29 (.nil))))) Tryz.func156 Tryz.call156 (λargs rows=>Q4k (argI args 0)) [] [] 2 (λ_ _ _=>by kernel_rfl) (λ_ _=>rfl) (λ_ _ h=>h) (λ_ X=>by kernel_rfl)
def Q5b(a:Int)(b:Int):Tree (Int×Int):=
.br (b==0) (.lf (4294967295,a)) (let T1:Tree ((Int×Int)):= .cn (decide (wrap i32 b≠0)) (.cn (decide (wrap i32 b≠0)) (.lf (wrap u32 (wrap i32 (Int.tdiv (wrap i32 a) (wrap i32 b))),wrap u32 (Int.tmod (wrap i32 a) (wrap i32 b))))); .br (a==2147483648) (.br (b==4294967295) (.lf (a,0)) T1) T1)
def Q9b(a:Int)(b:Int):(Int×Int):=(Q5b a b).m
abbrev Qa8(a:Int)(b:Int):Prop:=(Q5b a b).p
def Qyz:Q0e:=mkP 256 [] true [.one (.int .u32), .one (.int .u32)] [] (λargs rows=>Qa8 (argI args 0) (argI args 1)) (λargs rows=>Q9b (argI args 0) (argI args 1)) (λX=> .tup [.int .u32 (X.1), .int .u32 (X.2)]) (λX=>[])
theorem Qv6:Q08 Tryz.prog Qyz:=Q0x Q0r Q0s (.nil) Tryz.func256 Tryz.call256 (λargs rows=>Q5b (argI args 0) (argI args 1)) [] [] 2 (λ_ _ _=>by kernel_rfl) (λ_ _=>rfl) (λ_ _ h=>h) (λ_ X=>by kernel_rfl)
def Qtw(b:Bool):Tree Int:=
.br b (.lf 1) (.lf 0)
def Qit(b:Bool):Int:=(Qtw b).m
def Z6c:Q0e:=mkR 257 [] true [.one (.bool)] [] (λargs rows=>Qit (argB args 0)) (λX=> .int .u32 X) (λX=>[])
theorem Z36:Q08 Tryz.prog Z6c:=Q2j Q0r Q0s (.nil) Tryz.func257 Tryz.call257 (λargs rows=>Qtw (argB args 0)) [] [] 2 (λ_ _ _=>by kernel_rfl) (λ_ _=>rfl) (λ_ _=>Tree.free_ok (by kernel_rfl)) (λ_ X=>by kernel_rfl)
def Qf3(op:Int)(a:Int)(b:Int):Tree (Int×Bool):=
.br (op==2) (.lf (wrap u32 (a+wrap u32 (0-b)),true)) (.br (op==1) (.lf (wrap u32 (a+b),true)) (.br (op==16) (.lf (wrap u32 (a+b),true)) (.br (op==3) (.lf (iand u32 a b,true)) (.br (op==17) (.lf (iand u32 a b,true)) (.br (op==4) (.lf (ior u32 a b,true)) (.br (op==18) (.lf (ior u32 a b,true)) (.br (op==5) (.lf (ixor u32 a b,true)) (.br (op==19) (.lf (ixor u32 a b,true)) (.br (op==6) (.lf (ishl u32 a (iand u32 b 31),true)) (.br (op==20) (.lf (ishl u32 a (iand u32 b 31),true)) (.br (op==7) (.lf (ishr u32 a (iand u32 b 31),true)) (.br (op==21) (.lf (ishr u32 a (iand u32 b 31),true)) (let E1:=(wrap u32 (ishr i32 (wrap i32 a) (iand u32 b 31)),true); .br (op==8) (.lf E1) (.br (op==22) (.lf E1) (.br (op==9) (.lf (wrap u32 (a*b),true)) (.br (op==10) (.an (Qa8 a b) (.lv (Q9b a b) λ(x0:Int×Int)=> .lf (x0.1,true))) (.br (op==11) (.an (Qa8 a b) (.lv (Q9b a b) λ(x1:Int×Int)=> .lf (x1.2,true))) (.br (op==12) (.lv (Qit (decide (wrap i32 a<wrap i32 b))) λ(x2:Int)=> .lf (x2,true)) (.br (op==23) (.lv (Qit (decide (wrap i32 a<wrap i32 b))) λ(x3:Int)=> .lf (x3,true)) (.br (op==13) (.lv (Qit (decide (a<b))) λ(x4:Int)=> .lf (x4,true)) (.lf (0,false))))))))))))))))))))))
def Q3m(op:Int)(a:Int)(b:Int):(Int×Bool):=(Qf3 op a b).m
abbrev Qh5(op:Int)(a:Int)(b:Int):Prop:=(Qf3 op a b).p
def cpu_Alu_m:Q0e:=mkP 222 [] true [.one (.int .i64), .one (.int .u32), .one (.int .u32)] [] (λargs rows=>Qh5 (argI args 0) (argI args 1) (argI args 2)) (λargs rows=>Q3m (argI args 0) (argI args 1) (argI args 2)) (λX=> .tup [.int .u32 (X.1), .bool (X.2)]) (λX=>[])
theorem Z9g:Q08 Tryz.prog cpu_Alu_m:=Q0x Q0r Q0s (.cons Qv6 (.cons Z36 (.nil))) Tryz.func222 Tryz.call222 (λargs rows=>Qf3 (argI args 0) (argI args 1) (argI args 2)) [] [] 2 (λ_ _ _=>by kernel_rfl) (λ_ _=>rfl) (λ_ _ h=>h) (λ_ X=>by kernel_rfl)
end
end Go.Proofs.YtjaifpiopmhmlaaGreat

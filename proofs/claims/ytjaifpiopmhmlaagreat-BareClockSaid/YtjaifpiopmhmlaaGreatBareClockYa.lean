/-
  Functions of the program: models, and that its calls come to them (by a program: gen3.py).
-/
import Derived.Test.YtjaifpiopmhmlaaGreatBareClockBase
set_option maxRecDepth 100000
set_option linter.unusedVariables false
set_option linter.unusedSimpArgs false
namespace Go.Proofs.YtjaifpiopmhmlaaGreat
open Go Go.GD Go.IntKind
noncomputable section
def Q01(s:(List Int)):(List Int):=
s
def Q03(s:(List Int)):Prop:=
s.length≤35184372088832
def Q32(s:(List Int)):List D:=[.sl 1 (.ints .u32 s) false]
def Q1z(s:(List Int)):List Row:=[]
def Q17(X:(List Int)):D:= .all 0
def Q16(X:(List Int)):List Row:=[⟨false,23,1, .ints .u32 X⟩]
def Qb7:List Dir:=[.row 23 1 (.ints .u32)]
def Q60:List PT:=[.one (.ints .u32)]
def Q5o:List RT:=[]
def Qc3(args:List D)(rows:List Row):(List Int):=Q01 (argL .u32 args 0)
def Qc6(args:List D)(rows:List Row):Prop:=Q03 (argL .u32 args 0)
def Qd2:Q0c:=mkP 67 [] true Q60 Q5o Qc6 Qc3 Q17 Q16
def Q43(s:(List Int))(Leaf:(List Int)→Prop):Prop:=
(s=[]→Leaf [])∧cand (decide ((4:Nat)*((0:Nat)+s.length)≤(140737488355328:Nat))) (Leaf s)
set_option maxRecDepth 100000 in
theorem Qci(s:(List Int))(Q:D→List Row→Prop):(fnVC tab [] (LL tab [] Tryz.f67.ntmps 0 [] 2) Tryz.f67 (Q32 s) (Q1z s) λd R=>Qaw (Q1z s).length Qb7 d R Q)=Q43 s (λX=>Q (Q17 X) (Q16 X)):=by kernel_rfl
theorem Qar(s:(List Int))(Leaf:(List Int)→Prop)(hw:Q03 s)(h:Leaf (Q01 s)):
Q43 s Leaf:=by
 delta Q43
 refine⟨λe=>by rw[e]at h;exact h,?_⟩
 rw[Q04]
 refine⟨decide_eq_true ?_,h⟩
 have:s.length≤35184372088832:=hw
 omega
set_option maxRecDepth 100000 in
theorem Qac(s:(List Int))(hw:Q03 s):Q3g Tryz.prog 67 (Q32 s) (Q1z s) (Q17 (Q01 s)) (Q16 (Q01 s)):=
 have hG:Q7o Tryz.prog []:= .nil
 FnOK.calls Q0p Q0o hG Tryz.func67 (LL_ok Q0p Q0o hG 2 (invs:=[])) (FnOK.of (Qci s _) (Qar s (λX=>Q17 X=Q17 (Q01 s)∧Q16 X=Q16 (Q01 s)) hw ⟨rfl,rfl⟩))
set_option maxRecDepth 100000 in
theorem Qb6(args:List D)(rows:List Row):Qf1 Q60 args 0=Q32 (argL .u32 args 0):=by kernel_rfl
set_option maxRecDepth 100000 in
theorem Qad(args:List D)(rows:List Row):Q5y Q5o rows 0=Q1z (argL .u32 args 0):=by kernel_rfl
set_option maxRecDepth 100000 in
theorem Qck(X:(List Int)):(ffB (Q17 X)&&ffBR (Q16 X))=true:=by kernel_rfl
theorem Q0k:Q08 Tryz.prog Qd2:=Qxi Tryz.call67 (λargs rows hp=>by rw[Qb6 args rows,Qad args rows];exact Qac (argL .u32 args 0) hp) (λ_ X=>Qck X)
def Q8q(m:(List Int)):Tree Int:=
.br (Int.tmod (m.length:Int) (32:Int) !=(0:Int)) (.lf 0) (.br (decide ((m.length:Int)>(1024:Int))) (.lf 0) (.lf (wrap i64 (Int.tdiv (m.length:Int) 32))))
def Q0l(m:(List Int)):Int:=(Q8q m).m
def Quj:Q0c:=mkR 84 [] true [.one (.ints .u32)] [] (λargs rows=>Q0l (argL .u32 args 0)) (λX=> .int .i64 X) (λX=>[])
theorem Q3a:Q08 Tryz.prog Quj:=Q27 Q0p Q0o (.nil) Tryz.func84 Tryz.call84 (λargs rows=>Q8q (argL .u32 args 0)) [] [] 2 (λ_ _ _=>by kernel_rfl) (λ_ _=>rfl) (λ_ _=>Tree.free_ok (by kernel_rfl)) (λ_ X=>by kernel_rfl)
def Q2s(m:(List Int))(addr:Int)(size:Int):Tree Bool:=
let T1:Tree (Bool):= .cn (decide (wrap u32 size≠0)) (.br (Int.tmod addr (wrap u32 size) !=0) (.lf false) (.lv (Q0l m) λ(x0:Int)=> .lf (decide (wrap u64 (wrap u64 addr+wrap u64 size)≤wrap u64 (wrap u64 x0*128))))); .br (size !=1) (.br (size !=4) (.lf false) T1) T1
def Qda(m:(List Int))(addr:Int)(size:Int):Bool:=(Q2s m addr size).m
abbrev Q84(m:(List Int))(addr:Int)(size:Int):Prop:=(Q2s m addr size).p
def Qtb:Q0c:=mkP 252 [] true [.one (.ints .u32), .one (.int .u32), .one (.int .i64)] [] (λargs rows=>Q84 (argL .u32 args 0) (argI args 1) (argI args 2)) (λargs rows=>Qda (argL .u32 args 0) (argI args 1) (argI args 2)) (λX=> .bool X) (λX=>[])
theorem Qi8:Q08 Tryz.prog Qtb:=Q0t Q0p Q0o (.cons Q3a (.nil)) Tryz.func252 Tryz.call252 (λargs rows=>Q2s (argL .u32 args 0) (argI args 1) (argI args 2)) [] [] 2 (λ_ _ _=>by kernel_rfl) (λ_ _=>rfl) (λ_ _ h=>h) (λ_ X=>by kernel_rfl)
def Q96(n:Int):Tree Int:=
.br (decide (n≥32)) (.lf 4294967295) (.cn (decide (0≤wrap u64 n)) (.lf (wrap u32 (ishl u32 1 (wrap u64 n)-1))))
def Qtd(n:Int):Int:=(Q96 n).m
abbrev Qd3(n:Int):Prop:=(Q96 n).p
def Z67:Q0c:=mkP 253 [] true [.one (.int .i64)] [] (λargs rows=>Qd3 (argI args 0)) (λargs rows=>Qtd (argI args 0)) (λX=> .int .u32 X) (λX=>[])
theorem Qpt:Q08 Tryz.prog Z67:=Q0t Q0p Q0o (.nil) Tryz.func253 Tryz.call253 (λargs rows=>Q96 (argI args 0)) [] [] 2 (λ_ _ _=>by kernel_rfl) (λ_ _=>rfl) (λ_ _ h=>h) (λ_ X=>by kernel_rfl)
def Q7i(w:Int)(low:Int)(n:Int):Tree Int:=
.br (decide (low<0)) (.lf 0) (.br (decide (low>31)) (.lf 0) (.br (decide (n<1)) (.lf 0) (.cn (decide (0≤wrap u64 low)) (.an (Qd3 n) (.lv (Qtd n) λ(x0:Int)=> .lf (iand u32 (ishr u32 w (wrap u64 low)) x0))))))
def Q2k(w:Int)(low:Int)(n:Int):Int:=(Q7i w low n).m
abbrev Q47(w:Int)(low:Int)(n:Int):Prop:=(Q7i w low n).p
def Z34:Q0c:=mkP 212 [] true [.one (.int .u32), .one (.int .i64), .one (.int .i64)] [] (λargs rows=>Q47 (argI args 0) (argI args 1) (argI args 2)) (λargs rows=>Q2k (argI args 0) (argI args 1) (argI args 2)) (λX=> .int .u32 X) (λX=>[])
theorem Qhr:Q08 Tryz.prog Z34:=Q0t Q0p Q0o (.cons Qpt (.nil)) Tryz.func212 Tryz.call212 (λargs rows=>Q7i (argI args 0) (argI args 1) (argI args 2)) [] [] 2 (λ_ _ _=>by kernel_rfl) (λ_ _=>rfl) (λ_ _ h=>h) (λ_ X=>by kernel_rfl)
def Q4i(w:Int)(low:Int)(n:Int)(v:Int):Tree Int:=
.br (decide (low<0)) (.lf w) (.br (decide (low>31)) (.lf w) (.br (decide (n<1)) (.lf w) (.an (Qd3 n) (.lv (Qtd n) λ(x0:Int)=> .cn (decide (0≤wrap u64 low)) (.cn (decide (0≤wrap u64 low)) (.lf (ior u32 (Qdf u32 w (ishl u32 x0 (wrap u64 low))) (ishl u32 (iand u32 v x0) (wrap u64 low)))))))))
def Q65(w:Int)(low:Int)(n:Int)(v:Int):Int:=(Q4i w low n v).m
abbrev Qb1(w:Int)(low:Int)(n:Int)(v:Int):Prop:=(Q4i w low n v).p
def Qsl:Q0c:=mkP 255 [] true [.one (.int .u32), .one (.int .i64), .one (.int .i64), .one (.int .u32)] [] (λargs rows=>Qb1 (argI args 0) (argI args 1) (argI args 2) (argI args 3)) (λargs rows=>Q65 (argI args 0) (argI args 1) (argI args 2) (argI args 3)) (λX=> .int .u32 X) (λX=>[])
theorem Qq2:Q08 Tryz.prog Qsl:=Q0t Q0p Q0o (.cons Qpt (.nil)) Tryz.func255 Tryz.call255 (λargs rows=>Q4i (argI args 0) (argI args 1) (argI args 2) (argI args 3)) [] [] 2 (λ_ _ _=>by kernel_rfl) (λ_ _=>rfl) (λ_ _ h=>h) (λ_ X=>by kernel_rfl)
def Q49(m:(List Int))(addr:Int)(size:Int)(v:Int):Tree ((List Int)×Bool):=
.an (Q03 m) (.lv (Q01 m) λ(x0:List Int)=> .an (Q84 m addr size) (.lv (Qda m addr size) λ(x1:Bool)=> .br (!x1) (.lf (x0,false)) (let E1:=Nat.beq 1 1&&Nat.blt 0 1&&decide (0≤wrap u32 (Int.tdiv addr 4)∧wrap u32 (Int.tdiv addr 4)<(x0.length:Int));let E2:=Int.toNat (wrap u32 (Int.tdiv addr 4)); .br (size==1) (.cn E1 (let E3:=wrap i64 (wrap i64 (Int.tmod addr 4)*8); .an (Qb1 (x0.getD E2 0) E3 8 v) (.lv (Q65 (x0.getD E2 0) E3 8 v) λ(x2:Int)=> .cn E1 (.lf (List.set x0 E2 x2,true))))) (.cn E1 (.lf (List.set x0 E2 v,true))))))
def Q7y(m:(List Int))(addr:Int)(size:Int)(v:Int):((List Int)×Bool):=(Q49 m addr size v).m
abbrev Q6v(m:(List Int))(addr:Int)(size:Int)(v:Int):Prop:=(Q49 m addr size v).p
def Qur:Q0c:=mkP 218 [] true [.one (.ints .u32), .one (.int .u32), .one (.int .i64), .one (.int .u32)] [] (λargs rows=>Q6v (argL .u32 args 0) (argI args 1) (argI args 2) (argI args 3)) (λargs rows=>Q7y (argL .u32 args 0) (argI args 1) (argI args 2) (argI args 3)) (λX=> .tup [.all 0, .bool (X.2)]) (λX=>[⟨false,23,1, .ints .u32 (X.1)⟩])
theorem Qiv:Q08 Tryz.prog Qur:=Q0t Q0p Q0o (.cons Q0k (.cons Qi8 (.cons Qq2 (.nil)))) Tryz.func218 Tryz.call218 (λargs rows=>Q49 (argL .u32 args 0) (argI args 1) (argI args 2) (argI args 3)) [.row 23 1 (.ints .u32)] [] 2 (λ_ _ _=>by kernel_rfl) (λ_ _=>rfl) (λ_ _ h=>h) (λ_ X=>by kernel_rfl)
def Z32(op:Int):Tree (Q76×Bool):=
.br (op==1) (.lf ({a:=true,b:=true,c:=true,low:=0,D0:=0},true)) (.br (op==2) (.lf ({a:=true,b:=true,c:=true,low:=0,D0:=0},true)) (.br (op==3) (.lf ({a:=true,b:=true,c:=true,low:=0,D0:=0},true)) (.br (op==4) (.lf ({a:=true,b:=true,c:=true,low:=0,D0:=0},true)) (.br (op==5) (.lf ({a:=true,b:=true,c:=true,low:=0,D0:=0},true)) (.br (op==6) (.lf ({a:=true,b:=true,c:=true,low:=0,D0:=0},true)) (.br (op==7) (.lf ({a:=true,b:=true,c:=true,low:=0,D0:=0},true)) (.br (op==8) (.lf ({a:=true,b:=true,c:=true,low:=0,D0:=0},true)) (.br (op==9) (.lf ({a:=true,b:=true,c:=true,low:=0,D0:=0},true)) (.br (op==10) (.lf ({a:=true,b:=true,c:=true,low:=0,D0:=0},true)) (.br (op==11) (.lf ({a:=true,b:=true,c:=true,low:=0,D0:=0},true)) (.br (op==12) (.lf ({a:=true,b:=true,c:=true,low:=0,D0:=0},true)) (.br (op==13) (.lf ({a:=true,b:=true,c:=true,low:=0,D0:=0},true)) (.br (op==16) (.lf ({a:=true,b:=true,c:=false,low:=(-32768),D0:=32767},true)) (.br (op==23) (.lf ({a:=true,b:=true,c:=false,low:=(-32768),D0:=32767},true)) (.br (op==32) (.lf ({a:=true,b:=true,c:=false,low:=(-32768),D0:=32767},true)) (.br (op==33) (.lf ({a:=true,b:=true,c:=false,low:=(-32768),D0:=32767},true)) (.br (op==34) (.lf ({a:=true,b:=true,c:=false,low:=(-32768),D0:=32767},true)) (.br (op==35) (.lf ({a:=true,b:=true,c:=false,low:=(-32768),D0:=32767},true)) (.br (op==36) (.lf ({a:=true,b:=true,c:=false,low:=(-32768),D0:=32767},true)) (.br (op==40) (.lf ({a:=true,b:=true,c:=false,low:=(-32768),D0:=32767},true)) (.br (op==41) (.lf ({a:=true,b:=true,c:=false,low:=(-32768),D0:=32767},true)) (.br (op==42) (.lf ({a:=true,b:=true,c:=false,low:=(-32768),D0:=32767},true)) (.br (op==43) (.lf ({a:=true,b:=true,c:=false,low:=(-32768),D0:=32767},true)) (.br (op==44) (.lf ({a:=true,b:=true,c:=false,low:=(-32768),D0:=32767},true)) (.br (op==45) (.lf ({a:=true,b:=true,c:=false,low:=(-32768),D0:=32767},true)) (.br (op==49) (.lf ({a:=true,b:=true,c:=false,low:=(-32768),D0:=32767},true)) (.br (op==17) (.lf ({a:=true,b:=true,c:=false,low:=0,D0:=65535},true)) (.br (op==18) (.lf ({a:=true,b:=true,c:=false,low:=0,D0:=65535},true)) (.br (op==19) (.lf ({a:=true,b:=true,c:=false,low:=0,D0:=65535},true)) (.br (op==20) (.lf ({a:=true,b:=true,c:=false,low:=0,D0:=31},true)) (.br (op==21) (.lf ({a:=true,b:=true,c:=false,low:=0,D0:=31},true)) (.br (op==22) (.lf ({a:=true,b:=true,c:=false,low:=0,D0:=31},true)) (.br (op==24) (.lf ({a:=true,b:=false,c:=false,low:=0,D0:=65535},true)) (.br (op==48) (.lf ({a:=true,b:=false,c:=false,low:=(-32768),D0:=32767},true)) (.br (op==58) (.lf ({a:=true,b:=false,c:=false,low:=0,D0:=7},true)) (.br (op==59) (.lf ({a:=true,b:=false,c:=false,low:=0,D0:=7},true)) (.br (op==60) (.lf ({a:=true,b:=false,c:=false,low:=0,D0:=11},true)) (.br (op==61) (.lf ({a:=true,b:=false,c:=false,low:=0,D0:=11},true)) (.br (op==56) (.lf ({a:=false,b:=false,c:=false,low:=0,D0:=0},true)) (.br (op==57) (.lf ({a:=false,b:=false,c:=false,low:=0,D0:=0},true)) (.br (op==62) (.lf ({a:=false,b:=false,c:=false,low:=0,D0:=0},true)) (.br (op==63) (.lf ({a:=false,b:=false,c:=false,low:=0,D0:=0},true)) (.br (op==64) (.lf ({a:=false,b:=false,c:=false,low:=0,D0:=0},true)) (.lf ({a:=false,b:=false,c:=false,low:=0,D0:=0},false)))))))))))))))))))))))))))))))))))))))))))))
def Qty(op:Int):(Q76×Bool):=(Z32 op).m
def isa_use_m:Q0c:=mkR 213 [] true [.one (.int .i64)] [] (λargs rows=>Qty (argI args 0)) (λX=> .tup [.agg (Q76.cells (X.1)), .bool (X.2)]) (λX=>[])
theorem Qwh:Q08 Tryz.prog isa_use_m:=Q27 Q0p Q0o (.nil) Tryz.func213 Tryz.call213 (λargs rows=>Z32 (argI args 0)) [] [] 2 (λ_ _ _=>by kernel_rfl) (λ_ _=>rfl) (λ_ _=>Tree.free_ok (by kernel_rfl)) (λ_ X=>by kernel_rfl)
def Q2z(x:Int)(n:Int):Tree Int:=
.br (decide (n<1)) (.lf 0) (.br (decide (n≥32)) (.lf x) (let E1:=decide (0≤wrap u64 (wrap i64 (32-n))); .cn E1 (.cn E1 (.lf (wrap u32 (ishr i32 (wrap i32 (ishl u32 x (wrap u64 (wrap i64 (32-n))))) (wrap u64 (wrap i64 (32-n)))))))))
def Q1t(x:Int)(n:Int):Int:=(Q2z x n).m
abbrev Q66(x:Int)(n:Int):Prop:=(Q2z x n).p
def Qna:Q0c:=mkP 214 [] true [.one (.int .u32), .one (.int .i64)] [] (λargs rows=>Q66 (argI args 0) (argI args 1)) (λargs rows=>Q1t (argI args 0) (argI args 1)) (λX=> .int .u32 X) (λX=>[])
theorem Qfj:Q08 Tryz.prog Qna:=Q0t Q0p Q0o (.nil) Tryz.func214 Tryz.call214 (λargs rows=>Q2z (argI args 0) (argI args 1)) [] [] 2 (λ_ _ _=>by kernel_rfl) (λ_ _=>rfl) (λ_ _ h=>h) (λ_ X=>by kernel_rfl)
def Qbe(r:Int)(used:Bool):Tree Bool:=
.br used (.br (decide (r≥0)) (.lf (decide (r≤15))) (.lf false)) (.lf (r==0))
def Q7w(r:Int)(used:Bool):Bool:=(Qbe r used).m
def Qus:Q0c:=mkR 254 [] true [.one (.int .i64), .one (.bool)] [] (λargs rows=>Q7w (argI args 0) (argB args 1)) (λX=> .bool X) (λX=>[])
theorem Qsv:Q08 Tryz.prog Qus:=Q27 Q0p Q0o (.nil) Tryz.func254 Tryz.call254 (λargs rows=>Qbe (argI args 0) (argB args 1)) [] [] 2 (λ_ _ _=>by kernel_rfl) (λ_ _=>rfl) (λ_ _=>Tree.free_ok (by kernel_rfl)) (λ_ X=>by kernel_rfl)
def Qds(i:Q0e):Tree Bool:=
.lv (Qty i.Op) λ(x0:Q76×Bool)=> .br x0.2 (.lv (Q7w i.A x0.1.a) λ(x1:Bool)=> .br x1 (.lv (Q7w i.B x0.1.b) λ(x2:Bool)=> .br x2 (.lv (Q7w i.C x0.1.c) λ(x3:Bool)=> .br x3 (.br (decide (i.Imm≥x0.1.low)) (.lf (decide (i.Imm≤x0.1.D0))) (.lf false)) (.lf false)) (.lf false)) (.lf false)) (.lf false)
def Qc5(i:Q0e):Bool:=(Qds i).m
def Z5q:Q0c:=mkR 215 [] true [.agg Q0e.sig] [] (λargs rows=>Qc5 (Q0e.of (args.getD 0 .dead).cells)) (λX=> .bool X) (λX=>[])
theorem Z3g:Q08 Tryz.prog Z5q:=Q27 Q0p Q0o (.cons Qwh (.cons Qsv (.nil))) Tryz.func215 Tryz.call215 (λargs rows=>Qds (Q0e.of (args.getD 0 .dead).cells)) [] [] 2 (λ_ _ _=>by kernel_rfl) (λ_ _=>rfl) (λ_ _=>Tree.free_ok (by kernel_rfl)) (λ_ X=>by kernel_rfl)
def Q4a(w:Int):Tree (Q0e×Bool):=
.an (Q47 w 24 8) (.lv (Q2k w 24 8) λ(x0:Int)=> .an (Q47 w 20 4) (.lv (Q2k w 20 4) λ(x1:Int)=> .an (Q47 w 16 4) (.lv (Q2k w 16 4) λ(x2:Int)=> .lv (Qty (wrap i64 x0)) λ(x3:Q76×Bool)=>let E1:=({Op:=0,A:=0,B:=0,C:=0,Imm:=0}:Q0e); .br (!x3.2) (.lf (E1,false)) (.an (Q47 w 0 16) (.lv (Q2k w 0 16) λ(x4:Int)=> .br x3.1.c (let E2:=({Op:=wrap i64 x0,A:=wrap i64 x1,B:=wrap i64 x2,C:=wrap i64 x4,Imm:=0}:Q0e); .lv (Qc5 E2) λ(x5:Bool)=> .br (!x5) (.lf (E1,false)) (.lf (E2,true))) (.br (decide (x3.1.low<0)) (.an (Q66 x4 16) (.lv (Q1t x4 16) λ(x6:Int)=>let E3:=({Op:=wrap i64 x0,A:=wrap i64 x1,B:=wrap i64 x2,C:=0,Imm:=wrap i32 x6}:Q0e); .lv (Qc5 E3) λ(x7:Bool)=> .br (!x7) (.lf (E1,false)) (.lf (E3,true)))) (let E4:=({Op:=wrap i64 x0,A:=wrap i64 x1,B:=wrap i64 x2,C:=0,Imm:=wrap i32 x4}:Q0e); .lv (Qc5 E4) λ(x8:Bool)=> .br (!x8) (.lf (E1,false)) (.lf (E4,true)))))))))
def Qdm(w:Int):(Q0e×Bool):=(Q4a w).m
abbrev Qbc(w:Int):Prop:=(Q4a w).p
def Z38:Q0c:=mkP 156 [] true [.one (.int .u32)] [] (λargs rows=>Qbc (argI args 0)) (λargs rows=>Qdm (argI args 0)) (λX=> .tup [.agg (Q0e.cells (X.1)), .bool (X.2)]) (λX=>[])
theorem Z0l:Q08 Tryz.prog Z38:=Q0t Q0p Q0o (.cons Qhr (.cons Qwh (.cons Qfj (.cons Z3g (.nil))))) Tryz.func156 Tryz.call156 (λargs rows=>Q4a (argI args 0)) [] [] 2 (λ_ _ _=>by kernel_rfl) (λ_ _=>rfl) (λ_ _ h=>h) (λ_ X=>by kernel_rfl)
def Q50(a:Int)(b:Int):Tree (Int×Int):=
.br (b==0) (.lf (4294967295,a)) (let T1:Tree ((Int×Int)):= .cn (decide (wrap i32 b≠0)) (.cn (decide (wrap i32 b≠0)) (.lf (wrap u32 (wrap i32 (Int.tdiv (wrap i32 a) (wrap i32 b))),wrap u32 (Int.tmod (wrap i32 a) (wrap i32 b))))); .br (a==2147483648) (.br (b==4294967295) (.lf (a,0)) T1) T1)
def Q9(a:Int)(b:Int):(Int×Int):=(Q50 a b).m
abbrev Q9x(a:Int)(b:Int):Prop:=(Q50 a b).p
def Z0n:Q0c:=mkP 256 [] true [.one (.int .u32), .one (.int .u32)] [] (λargs rows=>Q9x (argI args 0) (argI args 1)) (λargs rows=>Q9 (argI args 0) (argI args 1)) (λX=> .tup [.int .u32 (X.1), .int .u32 (X.2)]) (λX=>[])
theorem Qv4:Q08 Tryz.prog Z0n:=Q0t Q0p Q0o (.nil) Tryz.func256 Tryz.call256 (λargs rows=>Q50 (argI args 0) (argI args 1)) [] [] 2 (λ_ _ _=>by kernel_rfl) (λ_ _=>rfl) (λ_ _ h=>h) (λ_ X=>by kernel_rfl)
def Qtj(b:Bool):Tree Int:=
.br b (.lf 1) (.lf 0)
def Qj8(b:Bool):Int:=(Qtj b).m
def Z5x:Q0c:=mkR 257 [] true [.one (.bool)] [] (λargs rows=>Qj8 (argB args 0)) (λX=> .int .u32 X) (λX=>[])
theorem Z12:Q08 Tryz.prog Z5x:=Q27 Q0p Q0o (.nil) Tryz.func257 Tryz.call257 (λargs rows=>Qtj (argB args 0)) [] [] 2 (λ_ _ _=>by kernel_rfl) (λ_ _=>rfl) (λ_ _=>Tree.free_ok (by kernel_rfl)) (λ_ X=>by kernel_rfl)
def Qen(op:Int)(a:Int)(b:Int):Tree (Int×Bool):=
.br (op==2) (.lf (wrap u32 (a+wrap u32 (0-b)),true)) (.br (op==1) (.lf (wrap u32 (a+b),true)) (.br (op==16) (.lf (wrap u32 (a+b),true)) (.br (op==3) (.lf (iand u32 a b,true)) (.br (op==17) (.lf (iand u32 a b,true)) (.br (op==4) (.lf (ior u32 a b,true)) (.br (op==18) (.lf (ior u32 a b,true)) (.br (op==5) (.lf (ixor u32 a b,true)) (.br (op==19) (.lf (ixor u32 a b,true)) (.br (op==6) (.lf (ishl u32 a (iand u32 b 31),true)) (.br (op==20) (.lf (ishl u32 a (iand u32 b 31),true)) (.br (op==7) (.lf (ishr u32 a (iand u32 b 31),true)) (.br (op==21) (.lf (ishr u32 a (iand u32 b 31),true)) (let E1:=(wrap u32 (ishr i32 (wrap i32 a) (iand u32 b 31)),true); .br (op==8) (.lf E1) (.br (op==22) (.lf E1) (.br (op==9) (.lf (wrap u32 (a*b),true)) (.br (op==10) (.an (Q9x a b) (.lv (Q9 a b) λ(x0:Int×Int)=> .lf (x0.1,true))) (.br (op==11) (.an (Q9x a b) (.lv (Q9 a b) λ(x1:Int×Int)=> .lf (x1.2,true))) (.br (op==12) (.lv (Qj8 (decide (wrap i32 a<wrap i32 b))) λ(x2:Int)=> .lf (x2,true)) (.br (op==23) (.lv (Qj8 (decide (wrap i32 a<wrap i32 b))) λ(x3:Int)=> .lf (x3,true)) (.br (op==13) (.lv (Qj8 (decide (a<b))) λ(x4:Int)=> .lf (x4,true)) (.lf (0,false))))))))))))))))))))))
def Q3e(op:Int)(a:Int)(b:Int):(Int×Bool):=(Qen op a b).m
abbrev Qh5(op:Int)(a:Int)(b:Int):Prop:=(Qen op a b).p
def cpu_Alu_m:Q0c:=mkP 222 [] true [.one (.int .i64), .one (.int .u32), .one (.int .u32)] [] (λargs rows=>Qh5 (argI args 0) (argI args 1) (argI args 2)) (λargs rows=>Q3e (argI args 0) (argI args 1) (argI args 2)) (λX=> .tup [.int .u32 (X.1), .bool (X.2)]) (λX=>[])
theorem Z96:Q08 Tryz.prog cpu_Alu_m:=Q0t Q0p Q0o (.cons Qv4 (.cons Z12 (.nil))) Tryz.func222 Tryz.call222 (λargs rows=>Qen (argI args 0) (argI args 1) (argI args 2)) [] [] 2 (λ_ _ _=>by kernel_rfl) (λ_ _=>rfl) (λ_ _ h=>h) (λ_ X=>by kernel_rfl)
end
end Go.Proofs.YtjaifpiopmhmlaaGreat

/-
  Functions of the program: models, and that its calls come to them (by a program: gen3.py).
-/
import Derived.Test.YtmalmklaonainaaGreatPrecopyCopiesBase
set_option maxRecDepth 100000
set_option linter.unusedVariables false
set_option linter.unusedSimpArgs false
namespace Go.Proofs.YtmalmklaonainaaGreat
open Go Go.GD Go.IntKind
noncomputable section
def Q05(s:(List Int)):(List Int):=
s
def Q08(s:(List Int)):Prop:=
s.length≤35184372088832
def Q24(s:(List Int)):List D:=[.sl 1 (.ints .u32 s) false]
def Q1k(s:(List Int)):List Row:=[]
def Q10(X:(List Int)):D:= .all 0
def Q0y(X:(List Int)):List Row:=[⟨false,25,1, .ints .u32 X⟩]
def Q9i:List Dir:=[.row 25 1 (.ints .u32)]
def Q4g:List PT:=[.one (.ints .u32)]
def Q4d:List RT:=[]
def Qb6(args:List D)(rows:List Row):(List Int):=Q05 (argL .u32 args 0)
def Qak(args:List D)(rows:List Row):Prop:=Q08 (argL .u32 args 0)
def Qbu:Q09:=mkP 129 [] true Q4g Q4d Qak Qb6 Q10 Q0y
def Q2u(s:(List Int))(Leaf:(List Int)→Prop):Prop:=
(s=[]→Leaf [])∧cand (decide ((4:Nat)*((0:Nat)+s.length)≤(140737488355328:Nat))) (Leaf s)
set_option maxRecDepth 100000 in
theorem Qbf(s:(List Int))(Q:D→List Row→Prop):(fnVC tab [] (LL tab [] Tryz.f129.ntmps 0 [] 2) Tryz.f129 (Q24 s) (Q1k s) λd R=>Q5c (Q1k s).length Q9i d R Q)=Q2u s (λX=>Q (Q10 X) (Q0y X)):=by kernel_rfl
theorem Q9x(s:(List Int))(Leaf:(List Int)→Prop)(hw:Q08 s)(h:Leaf (Q05 s)):
Q2u s Leaf:=by
 delta Q2u
 refine⟨λe=>by rw[e]at h;exact h,?_⟩
 rw[Q04]
 refine⟨decide_eq_true ?_,h⟩
 have:s.length≤35184372088832:=hw
 omega
set_option maxRecDepth 100000 in
theorem Q9a(s:(List Int))(hw:Q08 s):Q2x Tryz.prog 129 (Q24 s) (Q1k s) (Q10 (Q05 s)) (Q0y (Q05 s)):=
 have hG:Q41 Tryz.prog []:= .nil
 FnOK.calls drawn Q0g hG Tryz.func129 (rf:=none) (λ_ _=>trivial) (LL_ok drawn Q0g hG (.inl rfl) 2 (invs:=[])) (FnOK.of (Qbf s _) (Q9x s (λX=>Q10 X=Q10 (Q05 s)∧Q0y X=Q0y (Q05 s)) hw ⟨rfl,rfl⟩))
set_option maxRecDepth 100000 in
theorem Qa(args:List D)(rows:List Row):Q9v Q4g args 0=Q24 (argL .u32 args 0):=by kernel_rfl
set_option maxRecDepth 100000 in
theorem Q97(args:List D)(rows:List Row):Q31 Q4d rows 0=Q1k (argL .u32 args 0):=by kernel_rfl
set_option maxRecDepth 100000 in
theorem Qbh(X:(List Int)):(ffB (Q10 X)&&ffBR (Q0y X))=true:=by kernel_rfl
theorem Q0u:Q01 Tryz.prog Qbu:=Z1b Tryz.call129 (λargs rows hp=>by rw[Qa args rows,Q97 args rows];exact Q9a (argL .u32 args 0) hp) (λ_ X=>Qbh X)
def Q3v(m:(List Int)):Tree Int:=
.br (Int.tmod (m.length:Int) (32:Int) !=(0:Int)) (.lf 0) (.br (decide ((m.length:Int)>(1024:Int))) (.lf 0) (.lf (wrap i64 (Int.tdiv (m.length:Int) 32))))
def Q0f(m:(List Int)):Int:=(Q3v m).m
def Qyr:Q09:=mkR 43 [] true [.one (.ints .u32)] [] (λargs rows=>Q0f (argL .u32 args 0)) (λX=> .int .i64 X) (λX=>[])
theorem Q1a:Q01 Tryz.prog Qyr:=Q0p drawn Q0g (.nil) Tryz.func43 Tryz.call43 (λargs rows=>Q3v (argL .u32 args 0)) [] [] 2 (λ_ _ _=>by kernel_rfl) (λ_ _=>rfl) (λ_ _=>Tree.free_ok (by kernel_rfl)) (λ_ X=>by kernel_rfl)
def Q5n(m:(List Int))(addr:Int)(size:Int):Tree Bool:=
let T1:Tree (Bool):= .cn (decide (wrap u32 size≠0)) (.br (Int.tmod addr (wrap u32 size) !=0) (.lf false) (.lv (Q0f m) λ(x0:Int)=> .lf (decide (wrap u64 (wrap u64 addr+wrap u64 size)≤wrap u64 (wrap u64 x0*128))))); .br (size !=1) (.br (size !=4) (.lf false) T1) T1
def Qh3(m:(List Int))(addr:Int)(size:Int):Bool:=(Q5n m addr size).m
abbrev Q9z(m:(List Int))(addr:Int)(size:Int):Prop:=(Q5n m addr size).p
def Qxy:Q09:=mkP 275 [] true [.one (.ints .u32), .one (.int .u32), .one (.int .i64)] [] (λargs rows=>Q9z (argL .u32 args 0) (argI args 1) (argI args 2)) (λargs rows=>Qh3 (argL .u32 args 0) (argI args 1) (argI args 2)) (λX=> .bool X) (λX=>[])
theorem Qhy:Q01 Tryz.prog Qxy:=Q0j drawn Q0g (.cons Q1a (.nil)) Tryz.func275 Tryz.call275 (λargs rows=>Q5n (argL .u32 args 0) (argI args 1) (argI args 2)) [] [] 2 (λ_ _ _=>by kernel_rfl) (λ_ _=>rfl) (λ_ _ h=>h) (λ_ X=>by kernel_rfl)
def Qe0(n:Int):Tree Int:=
.br (decide (n≥32)) (.lf 4294967295) (.cn (decide (0≤wrap u64 n)) (.lf (wrap u32 (ishl u32 1 (wrap u64 n)-1))))
def Qx0(n:Int):Int:=(Qe0 n).m
abbrev Qgx(n:Int):Prop:=(Qe0 n).p
def Zb:Q09:=mkP 276 [] true [.one (.int .i64)] [] (λargs rows=>Qgx (argI args 0)) (λargs rows=>Qx0 (argI args 0)) (λX=> .int .u32 X) (λX=>[])
theorem Qs1:Q01 Tryz.prog Zb:=Q0j drawn Q0g (.nil) Tryz.func276 Tryz.call276 (λargs rows=>Qe0 (argI args 0)) [] [] 2 (λ_ _ _=>by kernel_rfl) (λ_ _=>rfl) (λ_ _ h=>h) (λ_ X=>by kernel_rfl)
def Qb7(w:Int)(low:Int)(n:Int):Tree Int:=
.br (decide (low<0)) (.lf 0) (.br (decide (low>31)) (.lf 0) (.br (decide (n<1)) (.lf 0) (.cn (decide (0≤wrap u64 low)) (.an (Qgx n) (.lv (Qx0 n) λ(x0:Int)=> .lf (iand u32 (ishr u32 w (wrap u64 low)) x0))))))
def Qa0(w:Int)(low:Int)(n:Int):Int:=(Qb7 w low n).m
abbrev Q3s(w:Int)(low:Int)(n:Int):Prop:=(Qb7 w low n).p
def Z7u:Q09:=mkP 233 [] true [.one (.int .u32), .one (.int .i64), .one (.int .i64)] [] (λargs rows=>Q3s (argI args 0) (argI args 1) (argI args 2)) (λargs rows=>Qa0 (argI args 0) (argI args 1) (argI args 2)) (λX=> .int .u32 X) (λX=>[])
theorem Qgm:Q01 Tryz.prog Z7u:=Q0j drawn Q0g (.cons Qs1 (.nil)) Tryz.func233 Tryz.call233 (λargs rows=>Qb7 (argI args 0) (argI args 1) (argI args 2)) [] [] 2 (λ_ _ _=>by kernel_rfl) (λ_ _=>rfl) (λ_ _ h=>h) (λ_ X=>by kernel_rfl)
def Q5g(w:Int)(low:Int)(n:Int)(v:Int):Tree Int:=
.br (decide (low<0)) (.lf w) (.br (decide (low>31)) (.lf w) (.br (decide (n<1)) (.lf w) (.an (Qgx n) (.lv (Qx0 n) λ(x0:Int)=> .cn (decide (0≤wrap u64 low)) (.cn (decide (0≤wrap u64 low)) (.lf (ior u32 (Ql9 u32 w (ishl u32 x0 (wrap u64 low))) (ishl u32 (iand u32 v x0) (wrap u64 low)))))))))
def Qod(w:Int)(low:Int)(n:Int)(v:Int):Int:=(Q5g w low n v).m
abbrev Qg6(w:Int)(low:Int)(n:Int)(v:Int):Prop:=(Q5g w low n v).p
def Qye:Q09:=mkP 278 [] true [.one (.int .u32), .one (.int .i64), .one (.int .i64), .one (.int .u32)] [] (λargs rows=>Qg6 (argI args 0) (argI args 1) (argI args 2) (argI args 3)) (λargs rows=>Qod (argI args 0) (argI args 1) (argI args 2) (argI args 3)) (λX=> .int .u32 X) (λX=>[])
theorem Qtv:Q01 Tryz.prog Qye:=Q0j drawn Q0g (.cons Qs1 (.nil)) Tryz.func278 Tryz.call278 (λargs rows=>Q5g (argI args 0) (argI args 1) (argI args 2) (argI args 3)) [] [] 2 (λ_ _ _=>by kernel_rfl) (λ_ _=>rfl) (λ_ _ h=>h) (λ_ X=>by kernel_rfl)
def Q71(m:(List Int))(addr:Int)(size:Int)(v:Int):Tree ((List Int)×Bool):=
.an (Q08 m) (.lv (Q05 m) λ(x0:List Int)=> .an (Q9z m addr size) (.lv (Qh3 m addr size) λ(x1:Bool)=> .br (!x1) (.lf (x0,false)) (let E1:=Nat.beq 1 1&&Nat.blt 0 1&&decide (0≤wrap u32 (Int.tdiv addr 4)∧wrap u32 (Int.tdiv addr 4)<(x0.length:Int));let E2:=Int.toNat (wrap u32 (Int.tdiv addr 4)); .br (size==1) (.cn E1 (let E3:=wrap i64 (wrap i64 (Int.tmod addr 4)*8); .an (Qg6 (x0.getD E2 0) E3 8 v) (.lv (Qod (x0.getD E2 0) E3 8 v) λ(x2:Int)=> .cn E1 (.lf (List.set x0 E2 x2,true))))) (.cn E1 (.lf (List.set x0 E2 v,true))))))
def Qei(m:(List Int))(addr:Int)(size:Int)(v:Int):((List Int)×Bool):=(Q71 m addr size v).m
abbrev Q76(m:(List Int))(addr:Int)(size:Int)(v:Int):Prop:=(Q71 m addr size v).p
def Qzf:Q09:=mkP 239 [] true [.one (.ints .u32), .one (.int .u32), .one (.int .i64), .one (.int .u32)] [] (λargs rows=>Q76 (argL .u32 args 0) (argI args 1) (argI args 2) (argI args 3)) (λargs rows=>Qei (argL .u32 args 0) (argI args 1) (argI args 2) (argI args 3)) (λX=> .tup [.all 0, .bool (X.2)]) (λX=>[⟨false,25,1, .ints .u32 (X.1)⟩])
theorem Qja:Q01 Tryz.prog Qzf:=Q0j drawn Q0g (.cons Q0u (.cons Qhy (.cons Qtv (.nil)))) Tryz.func239 Tryz.call239 (λargs rows=>Q71 (argL .u32 args 0) (argI args 1) (argI args 2) (argI args 3)) [.row 25 1 (.ints .u32)] [] 2 (λ_ _ _=>by kernel_rfl) (λ_ _=>rfl) (λ_ _ h=>h) (λ_ X=>by kernel_rfl)
def Z9q(op:Int):Tree (Q8v×Bool):=
.br (op==1) (.lf ({a:=true,b:=true,c:=true,low:=0,C9:=0},true)) (.br (op==2) (.lf ({a:=true,b:=true,c:=true,low:=0,C9:=0},true)) (.br (op==3) (.lf ({a:=true,b:=true,c:=true,low:=0,C9:=0},true)) (.br (op==4) (.lf ({a:=true,b:=true,c:=true,low:=0,C9:=0},true)) (.br (op==5) (.lf ({a:=true,b:=true,c:=true,low:=0,C9:=0},true)) (.br (op==6) (.lf ({a:=true,b:=true,c:=true,low:=0,C9:=0},true)) (.br (op==7) (.lf ({a:=true,b:=true,c:=true,low:=0,C9:=0},true)) (.br (op==8) (.lf ({a:=true,b:=true,c:=true,low:=0,C9:=0},true)) (.br (op==9) (.lf ({a:=true,b:=true,c:=true,low:=0,C9:=0},true)) (.br (op==10) (.lf ({a:=true,b:=true,c:=true,low:=0,C9:=0},true)) (.br (op==11) (.lf ({a:=true,b:=true,c:=true,low:=0,C9:=0},true)) (.br (op==12) (.lf ({a:=true,b:=true,c:=true,low:=0,C9:=0},true)) (.br (op==13) (.lf ({a:=true,b:=true,c:=true,low:=0,C9:=0},true)) (.br (op==16) (.lf ({a:=true,b:=true,c:=false,low:=(-32768),C9:=32767},true)) (.br (op==23) (.lf ({a:=true,b:=true,c:=false,low:=(-32768),C9:=32767},true)) (.br (op==32) (.lf ({a:=true,b:=true,c:=false,low:=(-32768),C9:=32767},true)) (.br (op==33) (.lf ({a:=true,b:=true,c:=false,low:=(-32768),C9:=32767},true)) (.br (op==34) (.lf ({a:=true,b:=true,c:=false,low:=(-32768),C9:=32767},true)) (.br (op==35) (.lf ({a:=true,b:=true,c:=false,low:=(-32768),C9:=32767},true)) (.br (op==36) (.lf ({a:=true,b:=true,c:=false,low:=(-32768),C9:=32767},true)) (.br (op==40) (.lf ({a:=true,b:=true,c:=false,low:=(-32768),C9:=32767},true)) (.br (op==41) (.lf ({a:=true,b:=true,c:=false,low:=(-32768),C9:=32767},true)) (.br (op==42) (.lf ({a:=true,b:=true,c:=false,low:=(-32768),C9:=32767},true)) (.br (op==43) (.lf ({a:=true,b:=true,c:=false,low:=(-32768),C9:=32767},true)) (.br (op==44) (.lf ({a:=true,b:=true,c:=false,low:=(-32768),C9:=32767},true)) (.br (op==45) (.lf ({a:=true,b:=true,c:=false,low:=(-32768),C9:=32767},true)) (.br (op==49) (.lf ({a:=true,b:=true,c:=false,low:=(-32768),C9:=32767},true)) (.br (op==17) (.lf ({a:=true,b:=true,c:=false,low:=0,C9:=65535},true)) (.br (op==18) (.lf ({a:=true,b:=true,c:=false,low:=0,C9:=65535},true)) (.br (op==19) (.lf ({a:=true,b:=true,c:=false,low:=0,C9:=65535},true)) (.br (op==20) (.lf ({a:=true,b:=true,c:=false,low:=0,C9:=31},true)) (.br (op==21) (.lf ({a:=true,b:=true,c:=false,low:=0,C9:=31},true)) (.br (op==22) (.lf ({a:=true,b:=true,c:=false,low:=0,C9:=31},true)) (.br (op==24) (.lf ({a:=true,b:=false,c:=false,low:=0,C9:=65535},true)) (.br (op==48) (.lf ({a:=true,b:=false,c:=false,low:=(-32768),C9:=32767},true)) (.br (op==58) (.lf ({a:=true,b:=false,c:=false,low:=0,C9:=7},true)) (.br (op==59) (.lf ({a:=true,b:=false,c:=false,low:=0,C9:=7},true)) (.br (op==60) (.lf ({a:=true,b:=false,c:=false,low:=0,C9:=11},true)) (.br (op==61) (.lf ({a:=true,b:=false,c:=false,low:=0,C9:=11},true)) (.br (op==56) (.lf ({a:=false,b:=false,c:=false,low:=0,C9:=0},true)) (.br (op==57) (.lf ({a:=false,b:=false,c:=false,low:=0,C9:=0},true)) (.br (op==62) (.lf ({a:=false,b:=false,c:=false,low:=0,C9:=0},true)) (.br (op==63) (.lf ({a:=false,b:=false,c:=false,low:=0,C9:=0},true)) (.br (op==64) (.lf ({a:=false,b:=false,c:=false,low:=0,C9:=0},true)) (.lf ({a:=false,b:=false,c:=false,low:=0,C9:=0},false)))))))))))))))))))))))))))))))))))))))))))))
def Zc2(op:Int):(Q8v×Bool):=(Z9q op).m
def isa_use_m:Q09:=mkR 234 [] true [.one (.int .i64)] [] (λargs rows=>Zc2 (argI args 0)) (λX=> .tup [.agg (Q8v.cells (X.1)), .bool (X.2)]) (λX=>[])
theorem Z1t:Q01 Tryz.prog isa_use_m:=Q0p drawn Q0g (.nil) Tryz.func234 Tryz.call234 (λargs rows=>Z9q (argI args 0)) [] [] 2 (λ_ _ _=>by kernel_rfl) (λ_ _=>rfl) (λ_ _=>Tree.free_ok (by kernel_rfl)) (λ_ X=>by kernel_rfl)
def Q46(x:Int)(n:Int):Tree Int:=
.br (decide (n<1)) (.lf 0) (.br (decide (n≥32)) (.lf x) (let E1:=decide (0≤wrap u64 (wrap i64 (32-n))); .cn E1 (.cn E1 (.lf (wrap u32 (ishr i32 (wrap i32 (ishl u32 x (wrap u64 (wrap i64 (32-n))))) (wrap u64 (wrap i64 (32-n)))))))))
def Qct(x:Int)(n:Int):Int:=(Q46 x n).m
abbrev Q7f(x:Int)(n:Int):Prop:=(Q46 x n).p
def Qq6:Q09:=mkP 235 [] true [.one (.int .u32), .one (.int .i64)] [] (λargs rows=>Q7f (argI args 0) (argI args 1)) (λargs rows=>Qct (argI args 0) (argI args 1)) (λX=> .int .u32 X) (λX=>[])
theorem Qef:Q01 Tryz.prog Qq6:=Q0j drawn Q0g (.nil) Tryz.func235 Tryz.call235 (λargs rows=>Q46 (argI args 0) (argI args 1)) [] [] 2 (λ_ _ _=>by kernel_rfl) (λ_ _=>rfl) (λ_ _ h=>h) (λ_ X=>by kernel_rfl)
def Qez(r:Int)(used:Bool):Tree Bool:=
.br used (.br (decide (r≥0)) (.lf (decide (r≤15))) (.lf false)) (.lf (r==0))
def Q7r(r:Int)(used:Bool):Bool:=(Qez r used).m
def Qzn:Q09:=mkR 277 [] true [.one (.int .i64), .one (.bool)] [] (λargs rows=>Q7r (argI args 0) (argB args 1)) (λX=> .bool X) (λX=>[])
theorem Qvv:Q01 Tryz.prog Qzn:=Q0p drawn Q0g (.nil) Tryz.func277 Tryz.call277 (λargs rows=>Qez (argI args 0) (argB args 1)) [] [] 2 (λ_ _ _=>by kernel_rfl) (λ_ _=>rfl) (λ_ _=>Tree.free_ok (by kernel_rfl)) (λ_ X=>by kernel_rfl)
def Qgs(i:Q0h):Tree Bool:=
.lv (Zc2 i.Op) λ(x0:Q8v×Bool)=> .br x0.2 (.lv (Q7r i.A x0.1.a) λ(x1:Bool)=> .br x1 (.lv (Q7r i.B x0.1.b) λ(x2:Bool)=> .br x2 (.lv (Q7r i.C x0.1.c) λ(x3:Bool)=> .br x3 (.br (decide (i.D3≥x0.1.low)) (.lf (decide (i.D3≤x0.1.C9))) (.lf false)) (.lf false)) (.lf false)) (.lf false)) (.lf false)
def Qg8(i:Q0h):Bool:=(Qgs i).m
def Z9y:Q09:=mkR 236 [] true [.agg Q0h.sig] [] (λargs rows=>Qg8 (Q0h.of (args.getD 0 .dead).cells)) (λX=> .bool X) (λX=>[])
theorem Z86:Q01 Tryz.prog Z9y:=Q0p drawn Q0g (.cons Z1t (.cons Qvv (.nil))) Tryz.func236 Tryz.call236 (λargs rows=>Qgs (Q0h.of (args.getD 0 .dead).cells)) [] [] 2 (λ_ _ _=>by kernel_rfl) (λ_ _=>rfl) (λ_ _=>Tree.free_ok (by kernel_rfl)) (λ_ X=>by kernel_rfl)
def Qb1(w:Int):Tree (Q0h×Bool):=
.an (Q3s w 24 8) (.lv (Qa0 w 24 8) λ(x0:Int)=> .an (Q3s w 20 4) (.lv (Qa0 w 20 4) λ(x1:Int)=> .an (Q3s w 16 4) (.lv (Qa0 w 16 4) λ(x2:Int)=> .lv (Zc2 (wrap i64 x0)) λ(x3:Q8v×Bool)=>let E1:=({Op:=0,A:=0,B:=0,C:=0,D3:=0}:Q0h); .br (!x3.2) (.lf (E1,false)) (.an (Q3s w 0 16) (.lv (Qa0 w 0 16) λ(x4:Int)=> .br x3.1.c (let E2:=({Op:=wrap i64 x0,A:=wrap i64 x1,B:=wrap i64 x2,C:=wrap i64 x4,D3:=0}:Q0h); .lv (Qg8 E2) λ(x5:Bool)=> .br (!x5) (.lf (E1,false)) (.lf (E2,true))) (.br (decide (x3.1.low<0)) (.an (Q7f x4 16) (.lv (Qct x4 16) λ(x6:Int)=>let E3:=({Op:=wrap i64 x0,A:=wrap i64 x1,B:=wrap i64 x2,C:=0,D3:=wrap i32 x6}:Q0h); .lv (Qg8 E3) λ(x7:Bool)=> .br (!x7) (.lf (E1,false)) (.lf (E3,true)))) (let E4:=({Op:=wrap i64 x0,A:=wrap i64 x1,B:=wrap i64 x2,C:=0,D3:=wrap i32 x4}:Q0h); .lv (Qg8 E4) λ(x8:Bool)=> .br (!x8) (.lf (E1,false)) (.lf (E4,true)))))))))
def Z2a(w:Int):(Q0h×Bool):=(Qb1 w).m
abbrev Qlp(w:Int):Prop:=(Qb1 w).p
def Z9a:Q09:=mkP 180 [] true [.one (.int .u32)] [] (λargs rows=>Qlp (argI args 0)) (λargs rows=>Z2a (argI args 0)) (λX=> .tup [.agg (Q0h.cells (X.1)), .bool (X.2)]) (λX=>[])
theorem Z2s:Q01 Tryz.prog Z9a:=Q0j drawn Q0g (.cons Qgm (.cons Z1t (.cons Qef (.cons Z86 (.nil))))) Tryz.func180 Tryz.call180 (λargs rows=>Qb1 (argI args 0)) [] [] 2 (λ_ _ _=>by kernel_rfl) (λ_ _=>rfl) (λ_ _ h=>h) (λ_ X=>by kernel_rfl)
def Q8k(a:Int)(b:Int):Tree (Int×Int):=
.br (b==0) (.lf (4294967295,a)) (let T1:Tree ((Int×Int)):= .cn (decide (wrap i32 b≠0)) (.cn (decide (wrap i32 b≠0)) (.lf (wrap u32 (wrap i32 (Int.tdiv (wrap i32 a) (wrap i32 b))),wrap u32 (Int.tmod (wrap i32 a) (wrap i32 b))))); .br (a==2147483648) (.br (b==4294967295) (.lf (a,0)) T1) T1)
def Qms(a:Int)(b:Int):(Int×Int):=(Q8k a b).m
abbrev Qdj(a:Int)(b:Int):Prop:=(Q8k a b).p
def Z3t:Q09:=mkP 279 [] true [.one (.int .u32), .one (.int .u32)] [] (λargs rows=>Qdj (argI args 0) (argI args 1)) (λargs rows=>Qms (argI args 0) (argI args 1)) (λX=> .tup [.int .u32 (X.1), .int .u32 (X.2)]) (λX=>[])
theorem Qyv:Q01 Tryz.prog Z3t:=Q0j drawn Q0g (.nil) Tryz.func279 Tryz.call279 (λargs rows=>Q8k (argI args 0) (argI args 1)) [] [] 2 (λ_ _ _=>by kernel_rfl) (λ_ _=>rfl) (λ_ _ h=>h) (λ_ X=>by kernel_rfl)
def Qx5(b:Bool):Tree Int:=
.br b (.lf 1) (.lf 0)
def Qjn(b:Bool):Int:=(Qx5 b).m
def Zbr:Q09:=mkR 280 [] true [.one (.bool)] [] (λargs rows=>Qjn (argB args 0)) (λX=> .int .u32 X) (λX=>[])
theorem Z70:Q01 Tryz.prog Zbr:=Q0p drawn Q0g (.nil) Tryz.func280 Tryz.call280 (λargs rows=>Qx5 (argB args 0)) [] [] 2 (λ_ _ _=>by kernel_rfl) (λ_ _=>rfl) (λ_ _=>Tree.free_ok (by kernel_rfl)) (λ_ X=>by kernel_rfl)
def Qj3(op:Int)(a:Int)(b:Int):Tree (Int×Bool):=
.br (op==2) (.lf (wrap u32 (a+wrap u32 (0-b)),true)) (.br (op==1) (.lf (wrap u32 (a+b),true)) (.br (op==16) (.lf (wrap u32 (a+b),true)) (.br (op==3) (.lf (iand u32 a b,true)) (.br (op==17) (.lf (iand u32 a b,true)) (.br (op==4) (.lf (ior u32 a b,true)) (.br (op==18) (.lf (ior u32 a b,true)) (.br (op==5) (.lf (ixor u32 a b,true)) (.br (op==19) (.lf (ixor u32 a b,true)) (.br (op==6) (.lf (ishl u32 a (iand u32 b 31),true)) (.br (op==20) (.lf (ishl u32 a (iand u32 b 31),true)) (.br (op==7) (.lf (ishr u32 a (iand u32 b 31),true)) (.br (op==21) (.lf (ishr u32 a (iand u32 b 31),true)) (let E1:=(wrap u32 (ishr i32 (wrap i32 a) (iand u32 b 31)),true); .br (op==8) (.lf E1) (.br (op==22) (.lf E1) (.br (op==9) (.lf (wrap u32 (a*b),true)) (.br (op==10) (.an (Qdj a b) (.lv (Qms a b) λ(x0:Int×Int)=> .lf (x0.1,true))) (.br (op==11) (.an (Qdj a b) (.lv (Qms a b) λ(x1:Int×Int)=> .lf (x1.2,true))) (.br (op==12) (.lv (Qjn (decide (wrap i32 a<wrap i32 b))) λ(x2:Int)=> .lf (x2,true)) (.br (op==23) (.lv (Qjn (decide (wrap i32 a<wrap i32 b))) λ(x3:Int)=> .lf (x3,true)) (.br (op==13) (.lv (Qjn (decide (a<b))) λ(x4:Int)=> .lf (x4,true)) (.lf (0,false))))))))))))))))))))))
def Zbv(op:Int)(a:Int)(b:Int):(Int×Bool):=(Qj3 op a b).m
abbrev Qn1(op:Int)(a:Int)(b:Int):Prop:=(Qj3 op a b).p
def cpu_Alu_m:Q09:=mkP 243 [] true [.one (.int .i64), .one (.int .u32), .one (.int .u32)] [] (λargs rows=>Qn1 (argI args 0) (argI args 1) (argI args 2)) (λargs rows=>Zbv (argI args 0) (argI args 1) (argI args 2)) (λX=> .tup [.int .u32 (X.1), .bool (X.2)]) (λX=>[])
theorem Zf0:Q01 Tryz.prog cpu_Alu_m:=Q0j drawn Q0g (.cons Qyv (.cons Z70 (.nil))) Tryz.func243 Tryz.call243 (λargs rows=>Qj3 (argI args 0) (argI args 1) (argI args 2)) [] [] 2 (λ_ _ _=>by kernel_rfl) (λ_ _=>rfl) (λ_ _ h=>h) (λ_ X=>by kernel_rfl)
end
end Go.Proofs.YtmalmklaonainaaGreat

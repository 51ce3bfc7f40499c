import Derived.Test.YthjfindbamdacaaGreatDoorPostNeedsBase
open Int renaming tmod->dA,tdiv->eN,toNat->dB
open Nat renaming beq->bT,blt->bJ
open List renaming set->dC,getD->aK,length->dG,append->cN
open UInt8 renaming toNat->eQ
set_option maxRecDepth 100000
set_option linter.all false
namespace Go.Proofs.YthjfindbamdacaaGreatDoor
open Go Go.GD Go.IntKind
noncomputable section
def Q02(s:List Int):(List Int):=
s
def Q07(s:List Int):Prop:=
s.length<=35184372088832
def Q47(s:List Int):List D:=[.sl 1 (.ints .u32 s) false]
def Q2u(s:List Int):List Row:=[]
def Q1q(X:List Int):D:=.all 0
def Q1r(X:List Int):List Row:=[⟨false,23,1,.ints .u32 X⟩]
def Qd:List Dir:=[.row 23 1 (.ints .u32)]
def Q7m:List PT:=[.one (.ints .u32)]
def Q7d:List RT:=[]
def Qeg(args:List D)(rows:List Row):(List Int):=Q02 (argL .u32 args 0)
def Qef(args:List D)(rows:List Row):Prop:=Q07 (argL .u32 args 0)
def Qfo:Q0a:=mkP 59 [] true Q7m Q7d Qef Qeg Q1q Q1r
def Q52(s:List Int)(Leaf:(List Int)->Prop):Prop:=
(s=[]->Leaf [])/\cand (decide ((4:Nat)*((0:Nat)+s.length)<=(140737488355328:Nat))) (Leaf s)
set_option maxRecDepth 100000 in
theorem Qf2(s:List Int)(Q:D->List Row->Prop):(fnVC tab [] (LL tab [] Tryz.f59.ntmps 0 [] 2) Tryz.f59 (Q47 s) (Q2u s) λd R=>Qcs (Q2u s).length Qd d R Q)=Q52 s (λX=>Q (Q1q X) (Q1r X)):=by kernel_rfl
theorem Qcv(s:List Int)(Leaf:(List Int)->Prop)(hw:Q07 s)(h:Leaf (Q02 s)):
Q52 s Leaf:=by
 delta Q52
 refine⟨λe=>by rw[e]at h;exact h,?_⟩
 rw[Q05]
 refine⟨dY ?_,h⟩
 have:s.length<=35184372088832:=hw
 omega
set_option maxRecDepth 100000 in
theorem Qcn(s:List Int)(hw:Q07 s):Q4 pG 59 (Q47 s) (Q2u s) (Q1q (Q02 s)) (Q1r (Q02 s)):=
 have hG:Q8c pG []:=.nil
 FnOK.calls drawn Q0h hG Tryz.func59 (rf:=none) (λ_ _=>trivial) (LL_ok drawn Q0h hG (.inl rfl) 2 (invs:=[])) (FnOK.of (Qf2 s _) (Qcv s (λX=>Q1q X=Q1q (Q02 s)/\Q1r X=Q1r (Q02 s)) hw ⟨rfl,rfl⟩))
set_option maxRecDepth 100000 in
theorem Qd5(args:List D)(rows:List Row):Qms Q7m args 0=Q47 (argL .u32 args 0):=by kernel_rfl
set_option maxRecDepth 100000 in
theorem Qcp(args:List D)(rows:List Row):Qaw Q7d rows 0=Q2u (argL .u32 args 0):=by kernel_rfl
set_option maxRecDepth 100000 in
theorem Qf5(X:List Int):(ffB (Q1q X)&&ffBR (Q1r X))=true:=by kernel_rfl
theorem Q1h:Q04 pG Qfo:=Z1r Tryz.call59 (λargs rows hp=>by rw[Qd5 args rows,Qcp args rows];exact Qcn (argL .u32 args 0) hp) (λ_ X=>Qf5 X)
def Q8d(m:List Int):Tree Int:=
.br (dA (m.length:Int) (32:Int) !=(0:Int)) (.lf 0) (.br (decide ((m.length:Int)>(1024:Int))) (.lf 0) (.lf (wrap i64 (eN (m.length:Int) 32))))
def Q0u m:=(Q8d m).m
def Z2z:Q0a:=mS 14 [] true [.one (.ints .u32)] [] (λa r=>Q8d (argL .u32 a 0)) (λX=>.int .i64 X) (λX=>[])
theorem Q2a:Q04 pG Z2z:=oS (.nil) Tryz.func14 Tryz.call14 [] [] 2
def Q5m(m:List Int)(addr size:Int):Tree Bool:=
let T1:Tree (Bool):=.cn (decide (wrap u32 size≠0)) (.br (dA addr (wrap u32 size) !=0) (.lf false) (.lv (Q0u m) λ(x0:Int)=>.lf (decide (wrap u64 (wrap u64 addr+wrap u64 size)<=wrap u64 (wrap u64 x0*128)))));.br (size !=1) (.br (size !=4) (.lf false) T1) T1
def Q26 m addr size:=(Q5m m addr size).m
abbrev Qdr m addr size:=(Q5m m addr size).p
def Qzs:Q0a:=mT 247 [] true [.one (.ints .u32),.one (.int .u32),.one (.int .i64)] [] (λa r=>Q5m (argL .u32 a 0) (argI a 1) (argI a 2)) (λX=>.bool X) (λX=>[])
theorem Qlw:Q04 pG Qzs:=oT (.cons Q2a (.nil)) Tryz.func247 Tryz.call247 [] [] 2
def Qhk(n:Int):Tree Int:=
.br (decide (n>=32)) (.lf 4294967295) (.cn (decide (0<=wrap u64 n)) (.lf (wrap u32 (ishl u32 1 (wrap u64 n)-1))))
def Z00 n:=(Qhk n).m
abbrev Qko n:=(Qhk n).p
def Zg5:Q0a:=mT 248 [] true [.one (.int .i64)] [] (λa r=>Qhk (argI a 0)) (λX=>.int .u32 X) (λX=>[])
theorem Qwg:Q04 pG Zg5:=oT (.nil) Tryz.func248 Tryz.call248 [] [] 2
def Qen(w low n:Int):Tree Int:=
.br (decide (low<0)) (.lf 0) (.br (decide (low>31)) (.lf 0) (.br (decide (n<1)) (.lf 0) (.cn (decide (0<=wrap u64 low)) (.an (Qko n) (.lv (Z00 n) λ(x0:Int)=>.lf (iand u32 (ishr u32 w (wrap u64 low)) x0))))))
def Q3 w low n:=(Qen w low n).m
abbrev Q6v w low n:=(Qen w low n).p
def Zc1:Q0a:=mT 179 [] true [.one (.int .u32),.one (.int .i64),.one (.int .i64)] [] (λa r=>Qen (argI a 0) (argI a 1) (argI a 2)) (λX=>.int .u32 X) (λX=>[])
theorem Qku:Q04 pG Zc1:=oT (.cons Qwg (.nil)) Tryz.func179 Tryz.call179 [] [] 2
def Q8x(w low n v:Int):Tree Int:=
.br (decide (low<0)) (.lf w) (.br (decide (low>31)) (.lf w) (.br (decide (n<1)) (.lf w) (.an (Qko n) (.lv (Z00 n) λ(x0:Int)=>.cn (decide (0<=wrap u64 low)) (.cn (decide (0<=wrap u64 low)) (.lf (ior u32 (Q7k u32 w (ishl u32 x0 (wrap u64 low))) (ishl u32 (iand u32 v x0) (wrap u64 low)))))))))
def Q6g w low n v:=(Q8x w low n v).m
abbrev Qkg w low n v:=(Q8x w low n v).p
def Z0m:Q0a:=mT 250 [] true [.one (.int .u32),.one (.int .i64),.one (.int .i64),.one (.int .u32)] [] (λa r=>Q8x (argI a 0) (argI a 1) (argI a 2) (argI a 3)) (λX=>.int .u32 X) (λX=>[])
theorem Qxn:Q04 pG Z0m:=oT (.cons Qwg (.nil)) Tryz.func250 Tryz.call250 [] [] 2
def Q8i(m:List Int)(addr size v:Int):Tree ((List Int)×Bool):=
.an (Q07 m) (.lv (Q02 m) λ(x0:List Int)=>.an (Qdr m addr size) (.lv (Q26 m addr size) λ(x1:Bool)=>.br (!x1) (.lf (x0,false)) (let E1:=bT 1 1&&bJ 0 1&&decide (0<=wrap u32 (eN addr 4)/\wrap u32 (eN addr 4)<(x0.length:Int));let E2:=dB (wrap u32 (eN addr 4));.br (size==1) (.cn E1 (let E3:=wrap i64 (wrap i64 (dA addr 4)*8);.an (Qkg (x0.getD E2 0) E3 8 v) (.lv (Q6g (x0.getD E2 0) E3 8 v) λ(x2:Int)=>.cn E1 (.lf (dC x0 E2 x2,true))))) (.cn E1 (.lf (dC x0 E2 v,true))))))
def Q1w m addr size v:=(Q8i m addr size v).m
abbrev Qb0 m addr size v:=(Q8i m addr size v).p
def Z2y:Q0a:=mT 186 [] true [.one (.ints .u32),.one (.int .u32),.one (.int .i64),.one (.int .u32)] [] (λa r=>Q8i (argL .u32 a 0) (argI a 1) (argI a 2) (argI a 3)) (λX=>.tup [.all 0,.bool (X.2)]) (λX=>[⟨false,23,1,.ints .u32 (X.1)⟩])
theorem Qnq:Q04 pG Z2y:=oT (.cons Q1h (.cons Qlw (.cons Qxn (.nil)))) Tryz.func186 Tryz.call186 [.row 23 1 (.ints .u32)] [] 2
def Zae(op:Int):Tree (Q8s×Bool):=
.br (op==1) (.lf ({a:=true,b:=true,c:=true,low:=0,D1:=0},true)) (.br (op==2) (.lf ({a:=true,b:=true,c:=true,low:=0,D1:=0},true)) (.br (op==3) (.lf ({a:=true,b:=true,c:=true,low:=0,D1:=0},true)) (.br (op==4) (.lf ({a:=true,b:=true,c:=true,low:=0,D1:=0},true)) (.br (op==5) (.lf ({a:=true,b:=true,c:=true,low:=0,D1:=0},true)) (.br (op==6) (.lf ({a:=true,b:=true,c:=true,low:=0,D1:=0},true)) (.br (op==7) (.lf ({a:=true,b:=true,c:=true,low:=0,D1:=0},true)) (.br (op==8) (.lf ({a:=true,b:=true,c:=true,low:=0,D1:=0},true)) (.br (op==9) (.lf ({a:=true,b:=true,c:=true,low:=0,D1:=0},true)) (.br (op==10) (.lf ({a:=true,b:=true,c:=true,low:=0,D1:=0},true)) (.br (op==11) (.lf ({a:=true,b:=true,c:=true,low:=0,D1:=0},true)) (.br (op==12) (.lf ({a:=true,b:=true,c:=true,low:=0,D1:=0},true)) (.br (op==13) (.lf ({a:=true,b:=true,c:=true,low:=0,D1:=0},true)) (.br (op==16) (.lf ({a:=true,b:=true,c:=false,low:=(-32768),D1:=32767},true)) (.br (op==23) (.lf ({a:=true,b:=true,c:=false,low:=(-32768),D1:=32767},true)) (.br (op==32) (.lf ({a:=true,b:=true,c:=false,low:=(-32768),D1:=32767},true)) (.br (op==33) (.lf ({a:=true,b:=true,c:=false,low:=(-32768),D1:=32767},true)) (.br (op==34) (.lf ({a:=true,b:=true,c:=false,low:=(-32768),D1:=32767},true)) (.br (op==35) (.lf ({a:=true,b:=true,c:=false,low:=(-32768),D1:=32767},true)) (.br (op==36) (.lf ({a:=true,b:=true,c:=false,low:=(-32768),D1:=32767},true)) (.br (op==40) (.lf ({a:=true,b:=true,c:=false,low:=(-32768),D1:=32767},true)) (.br (op==41) (.lf ({a:=true,b:=true,c:=false,low:=(-32768),D1:=32767},true)) (.br (op==42) (.lf ({a:=true,b:=true,c:=false,low:=(-32768),D1:=32767},true)) (.br (op==43) (.lf ({a:=true,b:=true,c:=false,low:=(-32768),D1:=32767},true)) (.br (op==44) (.lf ({a:=true,b:=true,c:=false,low:=(-32768),D1:=32767},true)) (.br (op==45) (.lf ({a:=true,b:=true,c:=false,low:=(-32768),D1:=32767},true)) (.br (op==49) (.lf ({a:=true,b:=true,c:=false,low:=(-32768),D1:=32767},true)) (.br (op==17) (.lf ({a:=true,b:=true,c:=false,low:=0,D1:=65535},true)) (.br (op==18) (.lf ({a:=true,b:=true,c:=false,low:=0,D1:=65535},true)) (.br (op==19) (.lf ({a:=true,b:=true,c:=false,low:=0,D1:=65535},true)) (.br (op==20) (.lf ({a:=true,b:=true,c:=false,low:=0,D1:=31},true)) (.br (op==21) (.lf ({a:=true,b:=true,c:=false,low:=0,D1:=31},true)) (.br (op==22) (.lf ({a:=true,b:=true,c:=false,low:=0,D1:=31},true)) (.br (op==24) (.lf ({a:=true,b:=false,c:=false,low:=0,D1:=65535},true)) (.br (op==48) (.lf ({a:=true,b:=false,c:=false,low:=(-32768),D1:=32767},true)) (.br (op==58) (.lf ({a:=true,b:=false,c:=false,low:=0,D1:=7},true)) (.br (op==59) (.lf ({a:=true,b:=false,c:=false,low:=0,D1:=7},true)) (.br (op==60) (.lf ({a:=true,b:=false,c:=false,low:=0,D1:=11},true)) (.br (op==61) (.lf ({a:=true,b:=false,c:=false,low:=0,D1:=11},true)) (.br (op==56) (.lf ({a:=false,b:=false,c:=false,low:=0,D1:=0},true)) (.br (op==57) (.lf ({a:=false,b:=false,c:=false,low:=0,D1:=0},true)) (.br (op==62) (.lf ({a:=false,b:=false,c:=false,low:=0,D1:=0},true)) (.br (op==63) (.lf ({a:=false,b:=false,c:=false,low:=0,D1:=0},true)) (.br (op==64) (.lf ({a:=false,b:=false,c:=false,low:=0,D1:=0},true)) (.lf ({a:=false,b:=false,c:=false,low:=0,D1:=0},false)))))))))))))))))))))))))))))))))))))))))))))
def Z20 op:=(Zae op).m
def vv:Q0a:=mS 180 [] true [.one (.int .i64)] [] (λa r=>Zae (argI a 0)) (λX=>.tup [.agg (Q8s.cells (X.1)),.bool (X.2)]) (λX=>[])
theorem Z4j:Q04 pG vv:=oS (.nil) Tryz.func180 Tryz.call180 [] [] 2
def Q75(x n:Int):Tree Int:=
.br (decide (n<1)) (.lf 0) (.br (decide (n>=32)) (.lf x) (let E1:=decide (0<=wrap u64 (wrap i64 (32-n)));.cn E1 (.cn E1 (.lf (wrap u32 (ishr i32 (wrap i32 (ishl u32 x (wrap u64 (wrap i64 (32-n))))) (wrap u64 (wrap i64 (32-n)))))))))
def Q2q x n:=(Q75 x n).m
abbrev Qbc x n:=(Q75 x n).p
def Qvk:Q0a:=mT 181 [] true [.one (.int .u32),.one (.int .i64)] [] (λa r=>Q75 (argI a 0) (argI a 1)) (λX=>.int .u32 X) (λX=>[])
theorem Qih:Q04 pG Qvk:=oT (.nil) Tryz.func181 Tryz.call181 [] [] 2
def Qdw(r:Int)(used:Bool):Tree Bool:=
.br used (.br (decide (r>=0)) (.lf (decide (r<=15))) (.lf false)) (.lf (r==0))
def Q8v r used:=(Qdw r used).m
def Z3:Q0a:=mS 249 [] true [.one (.int .i64),.one (.bool)] [] (λa r=>Qdw (argI a 0) (argB a 1)) (λX=>.bool X) (λX=>[])
theorem Z2m:Q04 pG Z3:=oS (.nil) Tryz.func249 Tryz.call249 [] [] 2
def Qht(i:Q0f):Tree Bool:=
.lv (Z20 i.Op) λ(x0:Q8s×Bool)=>.br x0.2 (.lv (Q8v i.A x0.1.a) λ(x1:Bool)=>.br x1 (.lv (Q8v i.B x0.1.b) λ(x2:Bool)=>.br x2 (.lv (Q8v i.C x0.1.c) λ(x3:Bool)=>.br x3 (.br (decide (i.Imm>=x0.1.low)) (.lf (decide (i.Imm<=x0.1.D1))) (.lf false)) (.lf false)) (.lf false)) (.lf false)) (.lf false)
def Qe9 i:=(Qht i).m
def Zg8:Q0a:=mS 182 [] true [.agg Q0f.sig] [] (λa r=>Qht (Q0f.of (aC a 0))) (λX=>.bool X) (λX=>[])
theorem Zdr:Q04 pG Zg8:=oS (.cons Z4j (.cons Z2m (.nil))) Tryz.func182 Tryz.call182 [] [] 2
def Qbl(w:Int):Tree (Q0f×Bool):=
.an (Q6v w 24 8) (.lv (Q3 w 24 8) λ(x0:Int)=>.an (Q6v w 20 4) (.lv (Q3 w 20 4) λ(x1:Int)=>.an (Q6v w 16 4) (.lv (Q3 w 16 4) λ(x2:Int)=>.lv (Z20 (wrap i64 x0)) λ(x3:Q8s×Bool)=>let E1:=({Op:=0,A:=0,B:=0,C:=0,Imm:=0}:Q0f);.br (!x3.2) (.lf (E1,false)) (.an (Q6v w 0 16) (.lv (Q3 w 0 16) λ(x4:Int)=>.br x3.1.c (let E2:=({Op:=wrap i64 x0,A:=wrap i64 x1,B:=wrap i64 x2,C:=wrap i64 x4,Imm:=0}:Q0f);.lv (Qe9 E2) λ(x5:Bool)=>.br (!x5) (.lf (E1,false)) (.lf (E2,true))) (.br (decide (x3.1.low<0)) (.an (Qbc x4 16) (.lv (Q2q x4 16) λ(x6:Int)=>let E3:=({Op:=wrap i64 x0,A:=wrap i64 x1,B:=wrap i64 x2,C:=0,Imm:=wrap i32 x6}:Q0f);.lv (Qe9 E3) λ(x7:Bool)=>.br (!x7) (.lf (E1,false)) (.lf (E3,true)))) (let E4:=({Op:=wrap i64 x0,A:=wrap i64 x1,B:=wrap i64 x2,C:=0,Imm:=wrap i32 x4}:Q0f);.lv (Qe9 E4) λ(x8:Bool)=>.br (!x8) (.lf (E1,false)) (.lf (E4,true)))))))))
def Q19 w:=(Qbl w).m
abbrev Qaj w:=(Qbl w).p
def Za8:Q0a:=mT 112 [] true [.one (.int .u32)] [] (λa r=>Qbl (argI a 0)) (λX=>.tup [.agg (Q0f.cells (X.1)),.bool (X.2)]) (λX=>[])
theorem Qrb:Q04 pG Za8:=oT (.cons Qku (.cons Z4j (.cons Qih (.cons Zdr (.nil))))) Tryz.func112 Tryz.call112 [] [] 2
def Q9p(a b:Int):Tree (Int×Int):=
.br (b==0) (.lf (4294967295,a)) (let T1:Tree ((Int×Int)):=.cn (decide (wrap i32 b≠0)) (.cn (decide (wrap i32 b≠0)) (.lf (wrap u32 (wrap i32 (eN (wrap i32 a) (wrap i32 b))),wrap u32 (dA (wrap i32 a) (wrap i32 b)))));.br (a==2147483648) (.br (b==4294967295) (.lf (a,0)) T1) T1)
def Qbb a b:=(Q9p a b).m
abbrev Qgi a b:=(Q9p a b).p
def Z7i:Q0a:=mT 251 [] true [.one (.int .u32),.one (.int .u32)] [] (λa r=>Q9p (argI a 0) (argI a 1)) (λX=>.tup [.int .u32 (X.1),.int .u32 (X.2)]) (λX=>[])
theorem Z3i:Q04 pG Z7i:=oT (.nil) Tryz.func251 Tryz.call251 [] [] 2
def Z1z(b:Bool):Tree Int:=
.br b (.lf 1) (.lf 0)
def Qnm b:=(Z1z b).m
def Zg2:Q0a:=mS 252 [] true [.one (.bool)] [] (λa r=>Z1z (argB a 0)) (λX=>.int .u32 X) (λX=>[])
theorem Zcl:Q04 pG Zg2:=oS (.nil) Tryz.func252 Tryz.call252 [] [] 2
def Qmf(op a b:Int):Tree (Int×Bool):=
.br (op==2) (.lf (wrap u32 (a+wrap u32 (0-b)),true)) (.br (op==1) (.lf (wrap u32 (a+b),true)) (.br (op==16) (.lf (wrap u32 (a+b),true)) (.br (op==3) (.lf (iand u32 a b,true)) (.br (op==17) (.lf (iand u32 a b,true)) (.br (op==4) (.lf (ior u32 a b,true)) (.br (op==18) (.lf (ior u32 a b,true)) (.br (op==5) (.lf (ixor u32 a b,true)) (.br (op==19) (.lf (ixor u32 a b,true)) (.br (op==6) (.lf (ishl u32 a (iand u32 b 31),true)) (.br (op==20) (.lf (ishl u32 a (iand u32 b 31),true)) (.br (op==7) (.lf (ishr u32 a (iand u32 b 31),true)) (.br (op==21) (.lf (ishr u32 a (iand u32 b 31),true)) (let E1:=(wrap u32 (ishr i32 (wrap i32 a) (iand u32 b 31)),true);.br (op==8) (.lf E1) (.br (op==22) (.lf E1) (.br (op==9) (.lf (wrap u32 (a*b),true)) (.br (op==10) (.an (Qgi a b) (.lv (Qbb a b) λ(x0:Int×Int)=>.lf (x0.1,true))) (.br (op==11) (.an (Qgi a b) (.lv (Qbb a b) λ(x1:Int×Int)=>.lf (x1.2,true))) (.br (op==12) (.lv (Qnm (decide (wrap i32 a<wrap i32 b))) λ(x2:Int)=>.lf (x2,true)) (.br (op==23) (.lv (Qnm (decide (wrap i32 a<wrap i32 b))) λ(x3:Int)=>.lf (x3,true)) (.br (op==13) (.lv (Qnm (decide (a<b))) λ(x4:Int)=>.lf (x4,true)) (.lf (0,false))))))))))))))))))))))
def Q4h op a b:=(Qmf op a b).m
abbrev Qqk op a b:=(Qmf op a b).p
def qw:Q0a:=mT 190 [] true [.one (.int .i64),.one (.int .u32),.one (.int .u32)] [] (λa r=>Qmf (argI a 0) (argI a 1) (argI a 2)) (λX=>.tup [.int .u32 (X.1),.bool (X.2)]) (λX=>[])
theorem Zk3:Q04 pG qw:=oT (.cons Z3i (.cons Zcl (.nil))) Tryz.func190 Tryz.call190 [] [] 2
end
noncomputable section
def Qo5(status from0 to:Int):Tree Int:=
.br (iand u32 status from0 !=0) (.lf (ior u32 status to)) (.lf (Q7k u32 status to))
def Q8p status from0 to:=(Qo5 status from0 to).m
def Zkg:Q0a:=mS 175 [] true [.one (.int .u32),.one (.int .u32),.one (.int .u32)] [] (λa r=>Qo5 (argI a 0) (argI a 1) (argI a 2)) (λX=>.int .u32 X) (λX=>[])
theorem Z10:Q04 pG Zkg:=oS (.nil) Tryz.func175 Tryz.call175 [] [] 2
def Qk3(c:Q01)(cause bad:Int):Tree Q01:=
.lv (Q8p c.B3.a0 1 8) λ(x0:Int)=>.lv (Q8p x0 2 16) λ(x1:Int)=>.lf ({X:=c.X,Pc:=c.B3.a1,B3:={a0:=Q7k u32 (ior u32 x1 1) 2,a1:=c.B3.a1,a2:=c.Pc,a3:=wrap u32 cause,a4:=bad,a5:=c.B3.a5,a6:=c.B3.a6,a7:=c.B3.a7}})
def Q2z c cause bad:=(Qk3 c cause bad).m
def Zlq:Q0a:=mS 109 [] true [.agg Q01.sig,.one (.int .i64),.one (.int .u32)] [] (λa r=>Qk3 (Q01.of (aC a 0)) (argI a 1) (argI a 2)) (λX=>.agg (Q01.cells X)) (λX=>[])
theorem Qdl:Q04 pG Zlq:=oS (.cons Z10 (.nil)) Tryz.func109 Tryz.call109 [] [] 2
def Qle(access:Int):Tree (Int×Bool):=
.br (access==1) (.lf (4,true)) (.br (access==2) (.lf (5,true)) (.br (access==3) (.lf (6,true)) (.lf (5,false))))
def Qb4 access:=(Qle access).m
def Z9m:Q0a:=mS 245 [] true [.one (.int .i64)] [] (λa r=>Qle (argI a 0)) (λX=>.tup [.int .i64 (X.1),.bool (X.2)]) (λX=>[])
theorem Z3l:Q04 pG Z9m:=oS (.nil) Tryz.func245 Tryz.call245 [] [] 2
def Qvx(c:Q01):Tree Bool:=
.lf (iand u32 c.B3.a0 (1:Int) !=(0:Int))
def Q5d c:=(Qvx c).m
def Zab:Q0a:=mS 118 [] true [.agg Q01.sig] [] (λa r=>Qvx (Q01.of (aC a 0))) (λX=>.bool X) (λX=>[])
theorem Qrj:Q04 pG Zab:=oS (.nil) Tryz.func118 Tryz.call118 [] [] 2
def Qf(access:Int):Tree (Int×Bool):=
.br (access==1) (.lf (4,true)) (.br (access==2) (.lf (5,true)) (.br (access==3) (.lf (6,true)) (.lf (5,false))))
def Q14 access:=(Qf access).m
def Qx6:Q0a:=mS 241 [] true [.one (.int .i64)] [] (λa r=>Qf (argI a 0)) (λX=>.tup [.int .i64 (X.1),.bool (X.2)]) (λX=>[])
theorem Qv5:Q04 pG Qx6:=oS (.nil) Tryz.func241 Tryz.call241 [] [] 2
def Qga(m:List Int)(frame:Int):Tree Bool:=
.lv (Q0u m) λ(x0:Int)=>.lf (decide (wrap u64 frame<wrap u64 x0))
def Q1i m frame:=(Qga m frame).m
def Z0e:Q0a:=mS 242 [] true [.one (.ints .u32),.one (.int .u32)] [] (λa r=>Qga (argL .u32 a 0) (argI a 1)) (λX=>.bool X) (λX=>[])
theorem Qxm:Q04 pG Z0e:=oS (.cons Q2a (.nil)) Tryz.func242 Tryz.call242 [] [] 2
def Q9w(m:List Int)(addr size:Int):Tree (Int×Bool):=
.an (Qdr m addr size) (.lv (Q26 m addr size) λ(x0:Bool)=>.br (!x0) (.lf (0,false)) (.cn (bT 1 1&&bJ 0 1&&decide (0<=wrap u32 (eN addr 4)/\wrap u32 (eN addr 4)<(m.length:Int))) (let E1:=dB (wrap u32 (eN addr 4));.br (size==1) (let E2:=wrap i64 (wrap i64 (dA addr 4)*8);.an (Q6v (m.getD E1 0) E2 8) (.lv (Q3 (m.getD E1 0) E2 8) λ(x1:Int)=>.lf (x1,true))) (.lf (m.getD E1 0,true)))))
def Q0y m addr size:=(Q9w m addr size).m
abbrev Q4p m addr size:=(Q9w m addr size).p
def Z7:Q0a:=mT 178 [] true [.one (.ints .u32),.one (.int .u32),.one (.int .i64)] [] (λa r=>Q9w (argL .u32 a 0) (argI a 1) (argI a 2)) (λX=>.tup [.int .u32 (X.1),.bool (X.2)]) (λX=>[])
theorem Qar:Q04 pG Z7:=oT (.cons Qlw (.cons Qku (.nil))) Tryz.func178 Tryz.call178 [] [] 2
def Qlo(pte access:Int):Tree Bool:=
.br (iand u32 pte (1:Int)==(0:Int)) (.lf false) (.br (access==3) (.lf (iand u32 pte (2:Int) !=(0:Int))) (.br (access==1) (.lf (iand u32 pte (4:Int) !=(0:Int))) (.lf true)))
def Q2s pte access:=(Qlo pte access).m
def Qxi:Q0a:=mS 243 [] true [.one (.int .u32),.one (.int .i64)] [] (λa r=>Qlo (argI a 0) (argI a 1)) (λX=>.bool X) (λX=>[])
theorem Qtp:Q04 pG Qxi:=oS (.nil) Tryz.func243 Tryz.call243 [] [] 2
def Q83(pte:Int):Tree Int:=
.an (Q6v pte 8 8) (.lv (Q3 pte 8 8) λ(x0:Int)=>.lf x0)
def Q1v pte:=(Q83 pte).m
abbrev Qcg pte:=(Q83 pte).p
def Qxx:Q0a:=mT 244 [] true [.one (.int .u32)] [] (λa r=>Q83 (argI a 0)) (λX=>.int .u32 X) (λX=>[])
theorem Quh:Q04 pG Qxx:=oT (.cons Qku (.nil)) Tryz.func244 Tryz.call244 [] [] 2
def Qa5(m:List Int)(root va access:Int):Tree Q13:=
.lv (Q14 access) λ(x0:Int×Bool)=>let E1:=({Addr:=0,D9:=0,D0:=x0.1}:Q13);.br (!x0.2) (.lf (E1)) (.br (decide (va>=4096)) (.lf (E1)) (.lv (Q1i m root) λ(x1:Bool)=>.br (!x1) (.lf (E1)) (let E2:=wrap u32 (root*128)+wrap u32 (4*wrap u32 (eN va 128));.an (Q4p m (wrap u32 E2) 4) (.lv (Q0y m (wrap u32 E2) 4) λ(x2:Int×Bool)=>.br (!x2.2) (.lf (E1)) (.lv (Q2s x2.1 access) λ(x3:Bool)=>.br (!x3) (.lf (E1)) (.an (Qcg x2.1) (.lv (Q1v x2.1) λ(x4:Int)=>.lv (Q1i m x4) λ(x5:Bool)=>.br (!x5) (.lf (E1)) (.an (Qcg x2.1) (.lv (Q1v x2.1) λ(x6:Int)=>.lf ({Addr:=wrap u32 (wrap u32 (x6*128)+dA va 128),D9:=wrap u32 E2,D0:=0}))))))))))
def Q0z m root va access:=(Qa5 m root va access).m
abbrev Qcc m root va access:=(Qa5 m root va access).p
def Z81:Q0a:=mT 176 [] true [.one (.ints .u32),.one (.int .u32),.one (.int .u32),.one (.int .i64)] [] (λa r=>Qa5 (argL .u32 a 0) (argI a 1) (argI a 2) (argI a 3)) (λX=>.agg (Q13.cells X)) (λX=>[])
theorem Qpd:Q04 pG Z81:=oT (.cons Qv5 (.cons Qxm (.cons Qar (.cons Qtp (.cons Quh (.nil)))))) Tryz.func176 Tryz.call176 [] [] 2
def Q8n(m:List Int)(entry access:Int):Tree (List Int):=
.an (Q4p m entry 4) (.lv (Q0y m entry 4) λ(x0:Int×Bool)=>.br (!x0.2) (.an (Q07 m) (.lv (Q02 m) λ(x1:List Int)=>.lf x1)) (.br (access==3) (.an (Qb0 m entry 4 (ior u32 (ior u32 x0.1 8) 16)) (.lv (Q1w m entry 4 (ior u32 (ior u32 x0.1 8) 16)) λ(x2:List Int×Bool)=>.lf x2.1)) (.an (Qb0 m entry 4 (ior u32 x0.1 8)) (.lv (Q1w m entry 4 (ior u32 x0.1 8)) λ(x3:List Int×Bool)=>.lf x3.1))))
def Q2g m entry access:=(Q8n m entry access).m
abbrev Qfd m entry access:=(Q8n m entry access).p
def Z2r:Q0a:=mT 246 [] true [.one (.ints .u32),.one (.int .u32),.one (.int .i64)] [] (λa r=>Q8n (argL .u32 a 0) (argI a 1) (argI a 2)) (λX=>.all 0) (λX=>[⟨false,23,1,.ints .u32 X⟩])
theorem Z27:Q04 pG Z2r:=oT (.cons Qar (.cons Q1h (.cons Qnq (.nil)))) Tryz.func246 Tryz.call246 [.row 23 1 (.ints .u32)] [] 2
def Qa1(c:Q01)(m:List Int)(va size access:Int):Tree (Int×(List Int)×Int):=
.lv (Qb4 access) λ(x0:Int×Bool)=>let T3:Tree ((Int×(List Int)×Int)):=.an (Q07 m) (.lv (Q02 m) λ(x1:List Int)=>.lf (0,x1,5));.br (!x0.2) T3 (let T1:Tree ((Int×(List Int)×Int)):=.cn (decide (wrap u32 size≠0)) (.br (dA va (wrap u32 size) !=0) (.an (Q07 m) (.lv (Q02 m) λ(x3:List Int)=>.lf (0,x3,3))) (.lv (Q5d c) λ(x4:Bool)=>let T2:Tree ((Int×(List Int)×Int)):=.an (Q4p m va size) (.lv (Q0y m va size) λ(x8:Int×Bool)=>.br (!x8.2) (.an (Q07 m) (.lv (Q02 m) λ(x9:List Int)=>.lf (0,x9,x0.1))) (.an (Q07 m) (.lv (Q02 m) λ(x10:List Int)=>.lf (va,x10,0))));.br (!x4) (.br (iand u32 c.B3.a0 (4:Int) !=(0:Int)) (.an (Qcc m c.B3.a6 va access) (.lv (Q0z m c.B3.a6 va access) λ(x5:Q13)=>.br (x5.D0 !=0) (.an (Q07 m) (.lv (Q02 m) λ(x6:List Int)=>.lf (0,x6,x5.D0))) (.an (Qfd m x5.D9 access) (.lv (Q2g m x5.D9 access) λ(x7:List Int)=>.lf (x5.Addr,x7,0))))) T2) T2));.br (size !=1) (.br (size !=4) T3 T1) T1)
def Q0t c m va size access:=(Qa1 c m va size access).m
abbrev Qc6 c m va size access:=(Qa1 c m va size access).p
def Z7g:Q0a:=mT 177 [] true [.agg Q01.sig,.one (.ints .u32),.one (.int .u32),.one (.int .i64),.one (.int .i64)] [] (λa r=>Qa1 (Q01.of (aC a 0)) (argL .u32 a 1) (argI a 2) (argI a 3) (argI a 4)) (λX=>.tup [.int .u32 (X.1),.all 0,.int .i64 (X.2.2)]) (λX=>[⟨false,23,1,.ints .u32 (X.2.1)⟩])
theorem Qj3:Q04 pG Z7g:=oT (.cons Z3l (.cons Q1h (.cons Qrj (.cons Qpd (.cons Z27 (.cons Qar (.nil))))))) Tryz.func177 Tryz.call177 [.row 23 1 (.ints .u32)] [] 2
def Qi(c:Q01)(m:List Int):Tree (Int×(List Int)×Int):=
.an (Qc6 c m c.Pc 4 1) (.lv (Q0t c m c.Pc 4 1) λ(x0:Int×List Int×Int)=>.br (x0.2.2 !=0) (.lf (0,x0.2.1,x0.2.2)) (.an (Q4p x0.2.1 x0.1 4) (.lv (Q0y x0.2.1 x0.1 4) λ(x1:Int×Bool)=>.lf (x1.1,x0.2.1,0))))
def Q0o c m:=(Qi c m).m
abbrev Qch c m:=(Qi c m).p
def Zez:Q0a:=mT 111 [] true [.agg Q01.sig,.one (.ints .u32)] [] (λa r=>Qi (Q01.of (aC a 0)) (argL .u32 a 1)) (λX=>.tup [.int .u32 (X.1),.all 0,.int .i64 (X.2.2)]) (λX=>[⟨false,23,1,.ints .u32 (X.2.1)⟩])
theorem Qwx:Q04 pG Zez:=oT (.cons Qj3 (.cons Qar (.nil))) Tryz.func111 Tryz.call111 [.row 23 1 (.ints .u32)] [] 2
def Qlm(op:Int):Tree Bool:=
.br (op==57) (.lf true) (.br (op==58) (.lf true) (.br (op==59) (.lf true) (.br (op==60) (.lf true) (.br (op==61) (.lf true) (.br (op==62) (.lf true) (.br (op==63) (.lf true) (.br (op==64) (.lf true) (.lf false))))))))
def Q2c op:=(Qlm op).m
def Qxk:Q0a:=mS 114 [] true [.one (.int .i64)] [] (λa r=>Qlm (argI a 0)) (λX=>.bool X) (λX=>[])
theorem Qk5:Q04 pG Qxk:=oS (.nil) Tryz.func114 Tryz.call114 [] [] 2
def Qqi(op:Int):Tree Int:=
.br (op==32) (.lf 4) (.br (op==35) (.lf 4) (.lf 1))
def Qev op:=(Qqi op).m
def Zfi:Q0a:=mS 184 [] true [.one (.int .i64)] [] (λa r=>Qqi (argI a 0)) (λX=>.int .i64 X) (λX=>[])
theorem Qwe:Q04 pG Zfi:=oS (.nil) Tryz.func184 Tryz.call184 [] [] 2
def Qc7(c:Q01)(register v:Int):Tree Q01:=
.br (register !=0) (.cn (bJ 0 1&&decide (0<=register/\register<(↑16:Int))) (.lf ({X:=A16.of 0 (dC (A16.l c.X) register.toNat v),Pc:=c.Pc,B3:=c.B3}))) (.lf c)
def Qah c register v:=(Qc7 c register v).m
abbrev Q7s c register v:=(Qc7 c register v).p
def xw:Q0a:=mT 185 [] true [.agg Q01.sig,.one (.int .i64),.one (.int .u32)] [] (λa r=>Qc7 (Q01.of (aC a 0)) (argI a 1) (argI a 2)) (λX=>.agg (Q01.cells X)) (λX=>[])
theorem Z5z:Q04 pG xw:=oT (.nil) Tryz.func185 Tryz.call185 [] [] 2
def Qcx(c:Q01)(m:List Int)(i:Q0f):Tree (Q01×(List Int)):=
.cn (bJ 0 1&&decide (0<=i.B/\i.B<(↑16:Int))) (.lv (Qev i.Op) λ(x0:Int)=>let E1:=wrap u32 (aK (A16.l c.X) i.B.toNat 0+wrap u32 i.Imm);.an (Qc6 c m E1 x0 2) (.lv (Q0t c m E1 x0 2) λ(x1:Int×List Int×Int)=>.br (x1.2.2 !=0) (.lv (Q2z c x1.2.2 E1) λ(x2:Q01)=>.lf (x2,x1.2.1)) (.lv (Qev i.Op) λ(x3:Int)=>.an (Q4p x1.2.1 x1.1 x3) (.lv (Q0y x1.2.1 x1.1 x3) λ(x4:Int×Bool)=>.br (i.Op==33) (.an (Qbc x4.1 8) (.lv (Q2q x4.1 8) λ(x5:Int)=>.an (Q7s c i.A x5) (.lv (Qah c i.A x5) λ(x6:Q01)=>.lf ({X:=x6.X,Pc:=wrap u32 (x6.Pc+4),B3:=x6.B3},x1.2.1)))) (.an (Q7s c i.A x4.1) (.lv (Qah c i.A x4.1) λ(x7:Q01)=>.lf ({X:=x7.X,Pc:=wrap u32 (x7.Pc+4),B3:=x7.B3},x1.2.1)))))))
def Q2j c m i:=(Qcx c m i).m
abbrev Qw2 c m i:=(Qcx c m i).p
def Zk8:Q0a:=mT 119 [] true [.agg Q01.sig,.one (.ints .u32),.agg Q0f.sig] [] (λa r=>Qcx (Q01.of (aC a 0)) (argL .u32 a 1) (Q0f.of (aC a 2))) (λX=>.tup [.agg (Q01.cells (X.1)),.all 0]) (λX=>[⟨false,23,1,.ints .u32 (X.2)⟩])
theorem Zh3:Q04 pG Zk8:=oT (.cons Qj3 (.cons Qwe (.cons Qdl (.cons Qar (.cons Qih (.cons Z5z (.nil))))))) Tryz.func119 Tryz.call119 [.row 23 1 (.ints .u32)] [] 2
def Qb5(c:Q01)(m:List Int)(i:Q0f):Tree (Q01×(List Int)):=
.cn (bJ 0 1&&decide (0<=i.B/\i.B<(↑16:Int))) (.lv (Qev i.Op) λ(x0:Int)=>let E1:=wrap u32 (aK (A16.l c.X) i.B.toNat 0+wrap u32 i.Imm);.an (Qc6 c m E1 x0 3) (.lv (Q0t c m E1 x0 3) λ(x1:Int×List Int×Int)=>.br (x1.2.2 !=0) (.lv (Q2z c x1.2.2 E1) λ(x2:Q01)=>.lf (x2,x1.2.1)) (.lv (Qev i.Op) λ(x3:Int)=>.cn (bJ 0 1&&decide (0<=i.A/\i.A<(↑16:Int))) (let E2:=aK (A16.l c.X) i.A.toNat 0;.an (Qb0 x1.2.1 x1.1 x3 E2) (.lv (Q1w x1.2.1 x1.1 x3 E2) λ(x4:List Int×Bool)=>.lf ({X:=c.X,Pc:=wrap u32 (c.Pc+4),B3:=c.B3},x4.1))))))
def Q3a c m i:=(Qb5 c m i).m
abbrev Qsv c m i:=(Qb5 c m i).p
def Zfe:Q0a:=mT 120 [] true [.agg Q01.sig,.one (.ints .u32),.agg Q0f.sig] [] (λa r=>Qb5 (Q01.of (aC a 0)) (argL .u32 a 1) (Q0f.of (aC a 2))) (λX=>.tup [.agg (Q01.cells (X.1)),.all 0]) (λX=>[⟨false,23,1,.ints .u32 (X.2)⟩])
theorem Zdo:Q04 pG Zfe:=oT (.cons Qj3 (.cons Qwe (.cons Qdl (.cons Qnq (.nil))))) Tryz.func120 Tryz.call120 [.row 23 1 (.ints .u32)] [] 2
def Qz1(op a b:Int):Tree Bool:=
.br (op==40) (.lf (a==b)) (.br (op==41) (.lf (a !=b)) (.br (op==42) (.lf (decide (wrap i32 a<wrap i32 b))) (.br (op==43) (.lf (decide (wrap i32 a>=wrap i32 b))) (.br (op==44) (.lf (decide (a<b))) (.lf (decide (a>=b)))))))
def Zbx op a b:=(Qz1 op a b).m
def Zeq:Q0a:=mS 187 [] true [.one (.int .i64),.one (.int .u32),.one (.int .u32)] [] (λa r=>Qz1 (argI a 0) (argI a 1) (argI a 2)) (λX=>.bool X) (λX=>[])
theorem Zdf:Q04 pG Zeq:=oS (.nil) Tryz.func187 Tryz.call187 [] [] 2
def Qes(c:Q01):Tree Q01:=
.lv (Q8p c.B3.a0 8 1) λ(x0:Int)=>.lv (Q8p x0 16 2) λ(x1:Int)=>.lf ({X:=c.X,Pc:=c.B3.a2,B3:={a0:=x1,a1:=c.B3.a1,a2:=c.B3.a2,a3:=c.B3.a3,a4:=c.B3.a4,a5:=c.B3.a5,a6:=c.B3.a6,a7:=c.B3.a7}})
def Qcy c:=(Qes c).m
def Zdy:Q0a:=mS 188 [] true [.agg Q01.sig] [] (λa r=>Qes (Q01.of (aC a 0))) (λX=>.agg (Q01.cells X)) (λX=>[])
theorem Z8n:Q04 pG Zdy:=oS (.cons Z10 (.nil)) Tryz.func188 Tryz.call188 [] [] 2
def Qbd(c:Q01)(csr v:Int):Tree Q01:=
let E4:=bJ 0 1&&decide (0<=csr/\csr<(↑8:Int));let T2:Tree (Q01):=.cn E4 (.lf ({X:=c.X,Pc:=c.Pc,B3:=A8.of 0 (dC (A8.l c.B3) csr.toNat (iand u32 v 31))}));.br (csr==0) T2 (.br (csr==7) T2 (.br (csr==6) (.cn E4 (.lf ({X:=c.X,Pc:=c.Pc,B3:=A8.of 0 (dC (A8.l c.B3) csr.toNat (iand u32 v 255))}))) (let T3:Tree (Q01):=.cn E4 (.lf ({X:=c.X,Pc:=c.Pc,B3:=A8.of 0 (dC (A8.l c.B3) csr.toNat (Q7k u32 v 3))}));.br (csr==1) T3 (.br (csr==2) T3 (let T1:Tree (Q01):=.cn E4 (.lf ({X:=c.X,Pc:=c.Pc,B3:=A8.of 0 (dC (A8.l c.B3) csr.toNat v)}));.br (csr==3) T1 (.br (csr==4) T1 (.br (csr==5) T1 (.lf c))))))))
def Zbc c csr v:=(Qbd c csr v).m
abbrev Qrd c csr v:=(Qbd c csr v).p
def Zff:Q0a:=mT 189 [] true [.agg Q01.sig,.one (.int .i64),.one (.int .u32)] [] (λa r=>Qbd (Q01.of (aC a 0)) (argI a 1) (argI a 2)) (λX=>.agg (Q01.cells X)) (λX=>[])
theorem Zdx:Q04 pG Zff:=oT (.nil) Tryz.func189 Tryz.call189 [] [] 2
def Q3g(c:Q01)(i:Q0f):Tree (Q01×Q1b):=
.cn (bJ 0 1&&decide (0<=i.A/\i.A<(↑16:Int))) (.cn (bJ 0 1&&decide (0<=i.B/\i.B<(↑16:Int))) (.br (i.Op==24) (.an (Q7s c i.A (ishl u32 (wrap u32 i.Imm) 16)) (.lv (Qah c i.A (ishl u32 (wrap u32 i.Imm) 16)) λ(x0:Q01)=>.lf ({X:=x0.X,Pc:=wrap u32 (c.Pc+4),B3:=x0.B3},{C2:=0,C5:=0,D7:=0,Value:=0}))) (let E2:=({X:=c.X,Pc:=wrap u32 (c.Pc+4),B3:=c.B3}:Q01);let E3:=aK (A16.l c.X) i.B.toNat 0;let E4:=aK (A16.l c.X) i.A.toNat 0;let T1:Tree ((Q01×Q1b)):=.lv (Zbx i.Op E4 E3) λ(x1:Bool)=>.br x1 (.lf ({X:=c.X,Pc:=wrap u32 (c.Pc+wrap u32 (4*wrap u32 i.Imm)),B3:=c.B3},{C2:=0,C5:=0,D7:=0,Value:=0})) (.lf (E2,{C2:=0,C5:=0,D7:=0,Value:=0}));.br (i.Op==40) T1 (.br (i.Op==41) T1 (.br (i.Op==42) T1 (.br (i.Op==43) T1 (.br (i.Op==44) T1 (.br (i.Op==45) T1 (.br (i.Op==48) (.an (Q7s c i.A (wrap u32 (c.Pc+4))) (.lv (Qah c i.A (wrap u32 (c.Pc+4))) λ(x7:Q01)=>.lf ({X:=x7.X,Pc:=wrap u32 (x7.Pc+wrap u32 (4*wrap u32 i.Imm)),B3:=x7.B3},{C2:=0,C5:=0,D7:=0,Value:=0}))) (.br (i.Op==49) (.an (Q7s c i.A (wrap u32 (c.Pc+4))) (.lv (Qah c i.A (wrap u32 (c.Pc+4))) λ(x8:Q01)=>.lf ({X:=x8.X,Pc:=wrap u32 (aK (A16.l c.X) i.B.toNat 0+wrap u32 i.Imm),B3:=x8.B3},{C2:=0,C5:=0,D7:=0,Value:=0}))) (.br (i.Op==56) (.lv (Q2z c 7 0) λ(x9:Q01)=>.lf (x9,{C2:=0,C5:=0,D7:=0,Value:=0})) (.br (i.Op==57) (.lv (Qcy c) λ(x10:Q01)=>.lf (x10,{C2:=0,C5:=0,D7:=0,Value:=0})) (.br (i.Op==58) (.cn (bJ 0 1&&decide (0<=i.Imm/\i.Imm<(↑8:Int))) (let E5:=aK (A8.l c.B3) i.Imm.toNat 0;.an (Q7s c i.A E5) (.lv (Qah c i.A E5) λ(x11:Q01)=>.lf ({X:=x11.X,Pc:=wrap u32 (c.Pc+4),B3:=x11.B3},{C2:=0,C5:=0,D7:=0,Value:=0})))) (.br (i.Op==59) (.an (Qrd c (wrap i64 i.Imm) E4) (.lv (Zbc c (wrap i64 i.Imm) E4) λ(x12:Q01)=>.lf ({X:=x12.X,Pc:=wrap u32 (c.Pc+4),B3:=x12.B3},{C2:=0,C5:=0,D7:=0,Value:=0}))) (.br (i.Op==60) (.lf (E2,{C2:=1,C5:=wrap i64 i.Imm,D7:=i.A,Value:=0})) (.br (i.Op==61) (.lf (E2,{C2:=2,C5:=wrap i64 i.Imm,D7:=0,Value:=aK (A16.l c.X) i.A.toNat 0})) (.br (i.Op==62) (.lf (E2,{C2:=3,C5:=0,D7:=0,Value:=0})) (.br (i.Op==63) (.lf (E2,{C2:=5,C5:=0,D7:=0,Value:=0})) (.br (i.Op==64) (.lf (E2,{C2:=4,C5:=0,D7:=0,Value:=0})) (.cn (bJ 0 1&&decide (0<=i.C/\i.C<(↑16:Int))) (.br (decide (i.Op>=16)) (.an (Qqk i.Op E3 (wrap u32 i.Imm)) (.lv (Q4h i.Op E3 (wrap u32 i.Imm)) λ(x13:Int×Bool)=>.an (Q7s c i.A x13.1) (.lv (Qah c i.A x13.1) λ(x14:Q01)=>.lf ({X:=x14.X,Pc:=wrap u32 (c.Pc+4),B3:=x14.B3},{C2:=0,C5:=0,D7:=0,Value:=0})))) (let E6:=aK (A16.l c.X) i.C.toNat 0;.an (Qqk i.Op E3 E6) (.lv (Q4h i.Op E3 E6) λ(x15:Int×Bool)=>.an (Q7s c i.A x15.1) (.lv (Qah c i.A x15.1) λ(x16:Q01)=>.lf ({X:=x16.X,Pc:=wrap u32 (c.Pc+4),B3:=x16.B3},{C2:=0,C5:=0,D7:=0,Value:=0})))))))))))))))))))))))))
def Q4v c i:=(Q3g c i).m
abbrev Qnc c i:=(Q3g c i).p
def Z8r:Q0a:=mT 121 [] true [.agg Q01.sig,.agg Q0f.sig] [] (λa r=>Q3g (Q01.of (aC a 0)) (Q0f.of (aC a 1))) (λX=>.tup [.agg (Q01.cells (X.1)),.agg (Q1b.cells (X.2))]) (λX=>[])
theorem Z35:Q04 pG Z8r:=oT (.cons Z5z (.cons Zdf (.cons Qdl (.cons Z8n (.cons Zdx (.cons Zk3 (.nil))))))) Tryz.func121 Tryz.call121 [] [] 2
def Qa4(c:Q01)(m:List Int):Tree (Q01×(List Int)×Q1b):=
.an (Qch c m) (.lv (Q0o c m) λ(x0:Int×List Int×Int)=>.br (x0.2.2 !=0) (.lv (Q2z c x0.2.2 c.Pc) λ(x1:Q01)=>.lf (x1,x0.2.1,{C2:=0,C5:=0,D7:=0,Value:=0})) (.an (Qaj x0.1) (.lv (Q19 x0.1) λ(x2:Q0f×Bool)=>.br (!x2.2) (.lv (Q2z c 1 x0.1) λ(x3:Q01)=>.lf (x3,x0.2.1,{C2:=0,C5:=0,D7:=0,Value:=0})) (.lv (Q2c x2.1.Op) λ(x4:Bool)=>let T1:Tree ((Q01×(List Int)×Q1b)):=let T2:Tree ((Q01×(List Int)×Q1b)):=.an (Qw2 c x0.2.1 x2.1) (.lv (Q2j c x0.2.1 x2.1) λ(x7:Q01×List Int)=>.lf (x7.1,x7.2,{C2:=0,C5:=0,D7:=0,Value:=0}));.br (x2.1.Op==32) T2 (.br (x2.1.Op==33) T2 (.br (x2.1.Op==34) T2 (let T3:Tree ((Q01×(List Int)×Q1b)):=.an (Qsv c x0.2.1 x2.1) (.lv (Q3a c x0.2.1 x2.1) λ(x10:Q01×List Int)=>.lf (x10.1,x10.2,{C2:=0,C5:=0,D7:=0,Value:=0}));.br (x2.1.Op==35) T3 (.br (x2.1.Op==36) T3 (.an (Qnc c x2.1) (.lv (Q4v c x2.1) λ(x12:Q01×Q1b)=>.lf (x12.1,x0.2.1,x12.2)))))));.br x4 (.lv (Q5d c) λ(x5:Bool)=>.br (!x5) (.lv (Q2z c 2 x0.1) λ(x6:Q01)=>.lf (x6,x0.2.1,{C2:=0,C5:=0,D7:=0,Value:=0})) T1) T1))))
def Q2i c m:=(Qa4 c m).m
abbrev Qw5 c m:=(Qa4 c m).p
def Zli:Q0a:=mT 63 [] true [.agg Q01.sig,.one (.ints .u32)] [] (λa r=>Qa4 (Q01.of (aC a 0)) (argL .u32 a 1)) (λX=>.tup [.agg (Q01.cells (X.1)),.all 0,.agg (Q1b.cells (X.2.2))]) (λX=>[⟨false,23,1,.ints .u32 (X.2.1)⟩])
theorem Zg3:Q04 pG Zli:=oT (.cons Qwx (.cons Qdl (.cons Qrb (.cons Qk5 (.cons Qrj (.cons Zh3 (.cons Zdo (.cons Z35 (.nil))))))))) Tryz.func63 Tryz.call63 [.row 23 1 (.ints .u32)] [] 2
end
noncomputable section
def tblYc0:List UInt8:=[(0:UInt8),1,2,2,3,3,3,3,4,4,4,4,4,4,4,4,5,5,5,5,5,5,5,5,5,5,5,5,5,5,5,5,6,6,6,6,6,6,6,6,6,6,6,6,6,6,6,6,6,6,6,6,6,6,6,6,6,6,6,6,6,6,6,6]
def Zcq:List UInt8:=[(7:UInt8),7,7,7,7,7,7,7,7,7,7,7,7,7,7,7,7,7,7,7,7,7,7,7,7,7,7,7,7,7,7,7,7,7,7,7,7,7,7,7,7,7,7,7,7,7,7,7,7,7,7,7,7,7,7,7,7,7,7,7,7,7,7,7]
def Qpc:List UInt8:=[(8:UInt8),8,8,8,8,8,8,8,8,8,8,8,8,8,8,8,8,8,8,8,8,8,8,8,8,8,8,8,8,8,8,8,8,8,8,8,8,8,8,8,8,8,8,8,8,8,8,8,8,8,8,8,8,8,8,8,8,8,8,8,8,8,8,8]
def Zje:List UInt8:=[(1:UInt8),2,2,3,3,3,3,4,4,4,4,4,4,4,4,5,5,5,5,5,5,5,5,5,5,5,5,5,5,5,5,6,6,6,6,6,6,6,6,6,6,6,6,6,6,6,6,6,6,6,6,6,6,6,6,6,6,6,6,6,6,6,6]
def tblYc4:List UInt8:=[(0:UInt8),1,1,2,1,2,2,3,1,2,2,3,2,3,3,4,1,2,2,3,2,3,3,4,2,3,3,4,3,4,4,5,1,2,2,3,2,3,3,4,2,3,3,4,3,4,4,5,2,3,3,4,3,4,4,5,3,4,4,5,4,5,5,6]
def Qph:List UInt8:=[(1:UInt8),2,2,3,2,3,3,4,2,3,3,4,3,4,4,5,2,3,3,4,3,4,4,5,3,4,4,5,4,5,5,6,2,3,3,4,3,4,4,5,3,4,4,5,4,5,5,6,3,4,4,5,4,5,5,6,4,5,5,6,5,6,6,7]
def Zci:List UInt8:=[(2:UInt8),3,3,4,3,4,4,5,3,4,4,5,4,5,5,6,3,4,4,5,4,5,5,6,4,5,5,6,5,6,6,7,3,4,4,5,4,5,5,6,4,5,5,6,5,6,6,7,4,5,5,6,5,6,6,7,5,6,6,7,6,7,7,8]
def Zhr:List UInt8:=[(1:UInt8),1,2,1,2,2,3,1,2,2,3,2,3,3,4,1,2,2,3,2,3,3,4,2,3,3,4,3,4,4,5,1,2,2,3,2,3,3,4,2,3,3,4,3,4,4,5,2,3,3,4,3,4,4,5,3,4,4,5,4,5,5,6]
def Qsy(c:Q0e):Tree Bool:=
.lf (decide ((c.C9.length:Int)<=(16:Int)))
def Q2m c:=(Qsy c).m
def Z8w:Q0a:=mS 195 [] true [.agg Q0e.sig] [] (λa r=>Qsy (Q0e.of (aC a 0))) (λX=>.bool X) (λX=>[])
theorem Z4a:Q04 pG Z8w:=oS (.nil) Tryz.func195 Tryz.call195 [] [] 2
def Qlh(t:Q0l):Tree Bool:=
.br t.D4 (.br (!t.D2) (.lf (t.C6 !=0)) (.lf false)) (.br t.D2 (.lf true) (.lf (t.C6==0)))
def Q4j t:=(Qlh t).m
def Zfy:Q0a:=mS 196 [] true [.agg Q0l.sig] [] (λa r=>Qlh (Q0l.of (aC a 0))) (λX=>.bool X) (λX=>[])
theorem Zai:Q04 pG Zfy:=oS (.nil) Tryz.func196 Tryz.call196 [] [] 2
def Q71(d0:Q0d):Tree Bool:=
.br (d0.D6==1) (.lf (decide (d0.C0=[]))) (.br (d0.D6==2) (.lf ((d0.C0.length:Int)==(128:Int))) (.lf false))
def Q9k d0:=(Q71 d0).m
def Qut:Q0a:=mS 260 [] true [.agg Q0d.sig] [] (λa r=>Q71 (Q0d.of (aC a 0))) (λX=>.bool X) (λX=>[])
theorem Qru:Q04 pG Qut:=oS (.nil) Tryz.func260 Tryz.call260 [] [] 2
def Q61(d0:Q0d)(pages:Int):Tree Bool:=
.br (decide (d0.Blocks>64)) (.lf false) (let T1:Tree (Bool):=.br (d0.D6==0) (.br (d0.B4==0) (.br (d0.B1==0) (.lf (decide (d0.C0=[]))) (.lf false)) (.lf false)) (.lf false);.br (d0.B7==0) T1 (.br (d0.B7==2) T1 (.br (d0.B7==3) T1 (.br (d0.B7==1) (.lv (Q9k d0) λ(x0:Bool)=>.br x0 (.br (decide (d0.B4<d0.Blocks)) (.lf (decide (wrap i64 d0.B1<pages))) (.lf false)) (.lf false)) (.lf false)))))
def Q1j d0 pages:=(Q61 d0 pages).m
def Zlr:Q0a:=mS 197 [] true [.agg Q0d.sig,.one (.int .i64)] [] (λa r=>Q61 (Q0d.of (aC a 0)) (argI a 1)) (λX=>.bool X) (λX=>[])
theorem Zgp:Q04 pG Zlr:=oS (.cons Qru (.nil)) Tryz.func197 Tryz.call197 [] [] 2
def Qjr(n:Q0w)(pages:Int):Tree Bool:=
let T1:Tree (Bool):=let T2:Tree (Bool):=.br n.B5 (.br (decide (n.E0>=1)) (.lf (decide (n.E0<=128))) (.lf false)) (.lf (n.E0==0));.br n.C3 (.br (decide (wrap i64 n.B6>=pages)) (.lf false) T2) (.br (n.B6 !=0) (.lf false) T2);.br n.C3 (.br n.B5 (.lf false) T1) T1
def Q5x n pages:=(Qjr n pages).m
def zw:Q0a:=mS 198 [] true [.agg Q0w.sig,.one (.int .i64)] [] (λa r=>Qjr (Q0w.of (aC a 0)) (argI a 1)) (λX=>.bool X) (λX=>[])
theorem Zjt:Q04 pG zw:=oS (.nil) Tryz.func198 Tryz.call198 [] [] 2
def Q2e(x:Int):Tree Int:=
let E1:=(↑(dG (cN (cN tblYc0 Zcq) (cN Qpc Qpc))):Int);.br (decide (x>=65536)) (.br (decide (ishr u32 x (16:Int)>=(256:Int))) (.cn (decide (0<=wrap u8 (ishr u32 (ishr u32 x 16) 8)/\wrap u8 (ishr u32 (ishr u32 x 16) 8)<E1)) (.lf (wrap i64 (wrap i64 ((16:Int)+(8:Int))+wrap i64 (↑(eQ (aK ((0:UInt8)::(Zje++Zcq++(Qpc++Qpc))) (dB (wrap u8 (ishr u32 (ishr u32 x 16) 8))) (0:UInt8))):Int))))) (.cn (decide (0<=wrap u8 (ishr u32 x 16)/\wrap u8 (ishr u32 x 16)<E1)) (.lf (wrap i64 (16+wrap i64 (↑(eQ (aK ((0:UInt8)::(Zje++Zcq++(Qpc++Qpc))) (dB (wrap u8 (ishr u32 x 16))) (0:UInt8))):Int)))))) (.br (decide (x>=256)) (.cn (decide (0<=wrap u8 (ishr u32 x 8)/\wrap u8 (ishr u32 x 8)<E1)) (.lf (wrap i64 (wrap i64 ((0:Int)+(8:Int))+wrap i64 (↑(eQ (aK ((0:UInt8)::(Zje++Zcq++(Qpc++Qpc))) (dB (wrap u8 (ishr u32 x 8))) (0:UInt8))):Int))))) (.cn (decide (0<=wrap u8 x/\wrap u8 x<E1)) (.lf (wrap i64 (0+wrap i64 (↑(eQ (aK ((0:UInt8)::(Zje++Zcq++(Qpc++Qpc))) (dB (wrap u8 x)) (0:UInt8))):Int))))))
def Q1m x:=(Q2e x).m
abbrev Qgg x:=(Q2e x).p
def Qvi:Q0a:=mT 261 [] true [.one (.int .u32)] [] (λa r=>Q2e (argI a 0)) (λX=>.int .i64 X) (λX=>[])
theorem Qsh:Q04 pG Qvi:=oT (.nil) Tryz.func261 Tryz.call261 [] [] 2
def Q6e(b:Q06)(pages:Int):Tree Bool:=
.an (Qgg b.B9) (.lv (Q1m b.B9) λ(x0:Int)=>.lf (decide (x0<=if 0>pages then 0 else pages)))
def Q2x b pages:=(Q6e b pages).m
abbrev Qgb b pages:=(Q6e b pages).p
def Z6w:Q0a:=mT 199 [] true [.agg Q06.sig,.one (.int .i64)] [] (λa r=>Q6e (Q06.of (aC a 0)) (argI a 1)) (λX=>.bool X) (λX=>[])
theorem Z42:Q04 pG Z6w:=oT (.cons Qsh (.nil)) Tryz.func199 Tryz.call199 [] [] 2
def Q1z(m:Q00):Tree Bool:=
.lv (Q0u m.Mem) λ(x0:Int)=>.lv (Q2m m.A2) λ(x1:Bool)=>.br x1 (.lv (Q4j m.A9) λ(x2:Bool)=>.br x2 (.lv (Q1j m.A7 x0) λ(x3:Bool)=>.br x3 (.lv (Q5x m.C1 x0) λ(x4:Bool)=>.br x4 (.an (Qgb m.A0 x0) (.lv (Q2x m.A0 x0) λ(x5:Bool)=>.lf x5)) (.lf false)) (.lf false)) (.lf false)) (.lf false)
def Q1 m:=(Q1z m).m
abbrev Q40 m:=(Q1z m).p
def Qp:Q0a:=mT 131 [] true [.agg Q00.sig] [] (λa r=>Q1z (Q00.of (aC a 0))) (λX=>.bool X) (λX=>[])
theorem Qnn:Q04 pG Qp:=oT (.cons Q2a (.cons Z4a (.cons Zai (.cons Zgp (.cons Zjt (.cons Z42 (.nil))))))) Tryz.func131 Tryz.call131 [] [] 2
def Q6l(m:Q00):Tree Bool:=
.lv (Q0u m.Mem) λ(x0:Int)=>.br (x0==0) (.lf false) (.br (m.B2.X.a0 !=0) (.lf false) (.br (decide (m.B2.B3.a0>31)) (.lf false) (.br (decide (m.B2.B3.a7>31)) (.lf false) (.br (decide (m.B2.B3.a6>255)) (.lf false) (.br (dA m.B2.B3.a1 (4:Int) !=(0:Int)) (.lf false) (.br (decide (m.A3>1152921504606846976)) (.lf false) (.br m.A4 (.br m.A6 (.lf false) (.an (Q40 m) (.lv (Q1 m) λ(x1:Bool)=>.lf x1))) (.an (Q40 m) (.lv (Q1 m) λ(x2:Bool)=>.lf x2)))))))))
def Q10 m:=(Q6l m).m
abbrev Q4l m:=(Q6l m).p
def Z7l:Q0a:=mT 68 [] true [.agg Q00.sig] [] (λa r=>Q6l (Q00.of (aC a 0))) (λX=>.bool X) (λX=>[])
theorem Qe2:Q04 pG Z7l:=oT (.cons Q2a (.cons Qnn (.nil))) Tryz.func68 Tryz.call68 [] [] 2
def Qns(t:Q0l):Tree Bool:=
.lf t.D2
def Qfm t:=(Qns t).m
def Qzj:Q0a:=mS 170 [] true [.agg Q0l.sig] [] (λa r=>Qns (Q0l.of (aC a 0))) (λX=>.bool X) (λX=>[])
theorem Qxp:Q04 pG Qzj:=oS (.nil) Tryz.func170 Tryz.call170 [] [] 2
def Qk1(c:Q0e):Tree Bool:=
.lf (!decide (c.C9=[]))
def Q9b c:=(Qk1 c).m
def Qv1:Q0a:=mS 171 [] true [.agg Q0e.sig] [] (λa r=>Qk1 (Q0e.of (aC a 0))) (λX=>.bool X) (λX=>[])
theorem Qsi:Q04 pG Qv1:=oS (.nil) Tryz.func171 Tryz.call171 [] [] 2
def Qje(d0:Q0d):Tree Bool:=
.br (d0.B7==2) (.lf true) (.lf (d0.B7==3))
def Q8y d0:=(Qje d0).m
def Z3p:Q0a:=mS 172 [] true [.agg Q0d.sig] [] (λa r=>Qje (Q0d.of (aC a 0))) (λX=>.bool X) (λX=>[])
theorem Qnw:Q04 pG Z3p:=oS (.nil) Tryz.func172 Tryz.call172 [] [] 2
def Qsx(n:Q0w):Tree Bool:=
.lf n.B5
def Qlc n:=(Qsx n).m
def Z80:Q0a:=mS 173 [] true [.agg Q0w.sig] [] (λa r=>Qsx (Q0w.of (aC a 0))) (λX=>.bool X) (λX=>[])
theorem Z2p:Q04 pG Z80:=oS (.nil) Tryz.func173 Tryz.call173 [] [] 2
def Q3o(x:Int):Tree Int:=
let E1:=(↑(dG (cN (cN tblYc4 Qph) (cN Qph Zci))):Int);.cn (decide (0<=ishr u32 x 24/\ishr u32 x 24<E1)) (.cn (decide (0<=iand u32 (ishr u32 x 16) 255/\iand u32 (ishr u32 x 16) 255<E1)) (.cn (decide (0<=iand u32 (ishr u32 x 8) 255/\iand u32 (ishr u32 x 8) 255<E1)) (.cn (decide (0<=iand u32 x 255/\iand u32 x 255<E1)) (.lf (wrap i64 (wrap u8 (wrap u8 (wrap u8 ((↑(eQ (aK ((0:UInt8)::(Zhr++Qph++(Qph++Zci))) (dB (ishr u32 x 24)) (0:UInt8))):Int)+(↑(eQ (aK ((0:UInt8)::(Zhr++Qph++(Qph++Zci))) (dB (iand u32 (ishr u32 x 16) 255)) (0:UInt8))):Int))+(↑(eQ (aK ((0:UInt8)::(Zhr++Qph++(Qph++Zci))) (dB (iand u32 (ishr u32 x 8) 255)) (0:UInt8))):Int))+(↑(eQ (aK ((0:UInt8)::(Zhr++Qph++(Qph++Zci))) (dB (iand u32 x 255)) (0:UInt8))):Int))))))))
def Q69 x:=(Q3o x).m
abbrev Qav x:=(Q3o x).p
def Ql3:Q0a:=mT 253 [] true [.one (.int .u32)] [] (λa r=>Q3o (argI a 0)) (λX=>.int .i64 X) (λX=>[])
theorem Qk2:Q04 pG Ql3:=oT (.nil) Tryz.func253 Tryz.call253 [] [] 2
def Q94(b:Q06):Tree Int:=
.an (Qav b.B9) (.lv (Q69 b.B9) λ(x0:Int)=>.lf x0)
def Qce b:=(Q94 b).m
abbrev Qdq b:=(Q94 b).p
def Z1p:Q0a:=mT 191 [] true [.agg Q06.sig] [] (λa r=>Q94 (Q06.of (aC a 0))) (λX=>.int .i64 X) (λX=>[])
theorem Qll:Q04 pG Z1p:=oT (.cons Qk2 (.nil)) Tryz.func191 Tryz.call191 [] [] 2
def Q5a(b:Q06):Tree Bool:=
.an (Qdq b) (.lv (Qce b) λ(x0:Int)=>.lf (wrap u32 x0 !=b.C4))
def Q70 b:=(Q5a b).m
abbrev Qi0 b:=(Q5a b).p
def Qus:Q0a:=mT 174 [] true [.agg Q06.sig] [] (λa r=>Q5a (Q06.of (aC a 0))) (λX=>.bool X) (λX=>[])
theorem Qt0:Q04 pG Qus:=oT (.cons Qll (.nil)) Tryz.func174 Tryz.call174 [] [] 2
def Qi2(m:Q00)(z:(Int)×(Int)):Nat:=(5-z.2).toNat
def Q7c(m:Q00):Tree Int:=
.lv (Qfm m.A9) λ(x0:Bool)=>.lv (Q9b m.A2) λ(x1:Bool)=>.lv (Q8y m.A7) λ(x2:Bool)=>.lv (Qlc m.C1) λ(x3:Bool)=>.an (Qi0 m.A0) (.lv (Q70 m.A0) λ(x4:Bool)=>.lp inferInstance (Qi2 m (0,0)+1) ((rE (0:Int)/\(rE (x0:Bool)/\rE (x1:Bool)/\rE (x2:Bool)/\rE (x3:Bool)/\rE (x4:Bool)/\True)/\rE (0:Int)/\True)/\True) (0,0) λ(v0:Int×Int)=>.br (decide (v0.2<5)) (.cn (bT 1 1&&(bT 5 5&&decide (0<=v0.2/\v0.2<(↑5:Int)))) (.br (aK [x0,x1,x2,x3,x4] v0.2.toNat false) (.cn (decide (0<=v0.2)) (.nx ((rE ((ior u32 v0.1 (ishl u32 1 v0.2)):Int)/\(rE (x0:Bool)/\rE (x1:Bool)/\rE (x2:Bool)/\rE (x3:Bool)/\rE (x4:Bool)/\True)/\rE ((wrap i64 (v0.2+1)):Int)/\True)/\True) (Sum.inl (ior u32 v0.1 (ishl u32 1 v0.2),wrap i64 (v0.2+1))))) (.nx ((rE v0.1/\(rE (x0:Bool)/\rE (x1:Bool)/\rE (x2:Bool)/\rE (x3:Bool)/\rE (x4:Bool)/\True)/\rE ((wrap i64 (v0.2+1)):Int)/\True)/\True) (Sum.inl (v0.1,wrap i64 (v0.2+1)))))) (.lf (Sum.inr v0.1)))
def Q31 m:=(Q7c m).m
abbrev Qd9 m:=(Q7c m).p
def Qy:LInv:={
 α:=(Int)×(Int)
 F:=λst a=>([(4,.int u32 a.1),(23,(lk st 23)),(24,.int i64 a.2)],[])
 a0:=λst=>((lk st 4).toInt,(lk st 24).toInt)
 ex0:=λst=>[]++[]}
def Qsd:List (Nat×LInv):=[(4,Qy)]
def Qzq:Q0a:=mT 108 [] true [.agg Q00.sig] [] (λa r=>Q7c (Q00.of (aC a 0))) (λX=>.int .u32 X) (λX=>[])
theorem Qlk:Q04 pG Qzq:=oT (.cons Qxp (.cons Qsi (.cons Qnw (.cons Z2p (.cons Qt0 (.nil)))))) Tryz.func108 Tryz.call108 [] Qsd 3
def Q38(m:Q00):Tree Int:=
.an (Qd9 m) (.lv (Q31 m) λ(x0:Int)=>.lf (iand u32 x0 m.B2.B3.a7))
def Q5o m:=(Q38 m).m
abbrev Qba m:=(Q38 m).p
def Qug:Q0a:=mT 117 [] true [.agg Q00.sig] [] (λa r=>Q38 (Q00.of (aC a 0))) (λX=>.int .u32 X) (λX=>[])
theorem Qio:Q04 pG Qug:=oT (.cons Qlk (.nil)) Tryz.func117 Tryz.call117 [] [] 2
def Q57(m:Q00):Tree Bool:=
.br m.A4 (.an (Qba m) (.lv (Q5o m) λ(x0:Int)=>.lf (x0==0))) (.lf false)
def Q4k m:=(Q57 m).m
abbrev Qb2 m:=(Q57 m).p
def Z3e:Q0a:=mT 107 [] true [.agg Q00.sig] [] (λa r=>Q57 (Q00.of (aC a 0))) (λX=>.bool X) (λX=>[])
theorem Qn5:Q04 pG Z3e:=oT (.cons Qio (.nil)) Tryz.func107 Tryz.call107 [] [] 2

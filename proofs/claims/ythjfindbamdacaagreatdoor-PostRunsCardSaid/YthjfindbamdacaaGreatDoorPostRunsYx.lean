import Derived.Test.YthjfindbamdacaaGreatDoorPostRunsBase
open Int renaming tmod->dA,tdiv->eN,toNat->dB
open Nat renaming beq->bT,blt->bJ
open List renaming set->dC,getD->aK,length->dG,append->cN
open UInt8 renaming toNat->eQ
set_option maxRecDepth 100000
set_option linter.all false
namespace Go.Proofs.YthjfindbamdacaaGreatDoor
open Go Go.GD Go.IntKind
noncomputable section
def Q03(s:List Int):(List Int):=
s
def Q08(s:List Int):Prop:=
s.length<=35184372088832
def Q4q(s:List Int):List D:=[.sl 1 (.ints .u32 s) false]
def Q35(s:List Int):List Row:=[]
def Q1x(X:List Int):D:=.all 0
def Q1w(X:List Int):List Row:=[⟨false,23,1,.ints .u32 X⟩]
def Qen:List Dir:=[.row 23 1 (.ints .u32)]
def Q85:List PT:=[.one (.ints .u32)]
def Q7q:List RT:=[]
def Qfg(args:List D)(rows:List Row):(List Int):=Q03 (argL .u32 args 0)
def Qfp(args:List D)(rows:List Row):Prop:=Q08 (argL .u32 args 0)
def Qgv:Q0b:=mkP 59 [] true Q85 Q7q Qfp Qfg Q1x Q1w
def Q5m(s:List Int)(Leaf:(List Int)->Prop):Prop:=
(s=[]->Leaf [])/\cand (decide ((4:Nat)*((0:Nat)+s.length)<=(140737488355328:Nat))) (Leaf s)
set_option maxRecDepth 100000 in
theorem Qfw(s:List Int)(Q:D->List Row->Prop):(fnVC tab [] (LL tab [] Tryz.f59.ntmps 0 [] 2) Tryz.f59 (Q4q s) (Q35 s) λd R=>Qds (Q35 s).length Qen d R Q)=Q5m s (λX=>Q (Q1x X) (Q1w X)):=by kernel_rfl
theorem Qeo(s:List Int)(Leaf:(List Int)->Prop)(hw:Q08 s)(h:Leaf (Q03 s)):
Q5m s Leaf:=by
 delta Q5m
 refine⟨λe=>by rw[e]at h;exact h,?_⟩
 rw[Q05]
 refine⟨dY ?_,h⟩
 have:s.length<=35184372088832:=hw
 omega
set_option maxRecDepth 100000 in
theorem Qdo(s:List Int)(hw:Q08 s):Q4g pG 59 (Q4q s) (Q35 s) (Q1x (Q03 s)) (Q1w (Q03 s)):=
 have hG:Q8r pG []:=.nil
 FnOK.calls drawn Q0m hG Tryz.func59 (rf:=none) (λ_ _=>trivial) (LL_ok drawn Q0m hG (.inl rfl) 2 (invs:=[])) (FnOK.of (Qfw s _) (Qeo s (λX=>Q1x X=Q1x (Q03 s)/\Q1w X=Q1w (Q03 s)) hw ⟨rfl,rfl⟩))
set_option maxRecDepth 100000 in
theorem Qdv(args:List D)(rows:List Row):Qp4 Q85 args 0=Q4q (argL .u32 args 0):=by kernel_rfl
set_option maxRecDepth 100000 in
theorem Qdp(args:List D)(rows:List Row):Qbi Q7q rows 0=Q35 (argL .u32 args 0):=by kernel_rfl
set_option maxRecDepth 100000 in
theorem Qga(X:List Int):(ffB (Q1x X)&&ffBR (Q1w X))=true:=by kernel_rfl
theorem Q15:Q04 pG Qgv:=Z20 Tryz.call59 (λargs rows hp=>by rw[Qdv args rows,Qdp args rows];exact Qdo (argL .u32 args 0) hp) (λ_ X=>Qga X)
def Q8z(m:List Int):Tree Int:=
.br (dA (m.length:Int) (32:Int) !=(0:Int)) (.lf 0) (.br (decide ((m.length:Int)>(1024:Int))) (.lf 0) (.lf (wrap i64 (eN (m.length:Int) 32))))
def Q1 m:=(Q8z m).m
def Z5g:Q0b:=mS 14 [] true [.one (.ints .u32)] [] (λa r=>Q8z (argL .u32 a 0)) (λX=>.int .i64 X) (λX=>[])
theorem Q3:Q04 pG Z5g:=oS (.nil) Tryz.func14 Tryz.call14 [] [] 2
def Q6e(m:List Int)(addr size:Int):Tree Bool:=
let T1:Tree (Bool):=.cn (decide (wrap u32 size≠0)) (.br (dA addr (wrap u32 size) !=0) (.lf false) (.lv (Q1 m) λ(x0:Int)=>.lf (decide (wrap u64 (wrap u64 addr+wrap u64 size)<=wrap u64 (wrap u64 x0*128)))));.br (size !=1) (.br (size !=4) (.lf false) T1) T1
def Q20 m addr size:=(Q6e m addr size).m
abbrev Qed m addr size:=(Q6e m addr size).p
def Z27:Q0b:=mT 247 [] true [.one (.ints .u32),.one (.int .u32),.one (.int .i64)] [] (λa r=>Q6e (argL .u32 a 0) (argI a 1) (argI a 2)) (λX=>.bool X) (λX=>[])
theorem Qn:Q04 pG Z27:=oT (.cons Q3 (.nil)) Tryz.func247 Tryz.call247 [] [] 2
def Qj0(n:Int):Tree Int:=
.br (decide (n>=32)) (.lf 4294967295) (.cn (decide (0<=wrap u64 n)) (.lf (wrap u32 (ishl u32 1 (wrap u64 n)-1))))
def Z24 n:=(Qj0 n).m
abbrev Qm0 n:=(Qj0 n).p
def Zgz:Q0b:=mT 248 [] true [.one (.int .i64)] [] (λa r=>Qj0 (argI a 0)) (λX=>.int .u32 X) (λX=>[])
theorem Qy0:Q04 pG Zgz:=oT (.nil) Tryz.func248 Tryz.call248 [] [] 2
def Qfm(w low n:Int):Tree Int:=
.br (decide (low<0)) (.lf 0) (.br (decide (low>31)) (.lf 0) (.br (decide (n<1)) (.lf 0) (.cn (decide (0<=wrap u64 low)) (.an (Qm0 n) (.lv (Z24 n) λ(x0:Int)=>.lf (iand u32 (ishr u32 w (wrap u64 low)) x0))))))
def Q3c w low n:=(Qfm w low n).m
abbrev Q7f w low n:=(Qfm w low n).p
def Ze7:Q0b:=mT 179 [] true [.one (.int .u32),.one (.int .i64),.one (.int .i64)] [] (λa r=>Qfm (argI a 0) (argI a 1) (argI a 2)) (λX=>.int .u32 X) (λX=>[])
theorem Qmm:Q04 pG Ze7:=oT (.cons Qy0 (.nil)) Tryz.func179 Tryz.call179 [] [] 2
def Q9s(w low n v:Int):Tree Int:=
.br (decide (low<0)) (.lf w) (.br (decide (low>31)) (.lf w) (.br (decide (n<1)) (.lf w) (.an (Qm0 n) (.lv (Z24 n) λ(x0:Int)=>.cn (decide (0<=wrap u64 low)) (.cn (decide (0<=wrap u64 low)) (.lf (ior u32 (Q7 u32 w (ishl u32 x0 (wrap u64 low))) (ishl u32 (iand u32 v x0) (wrap u64 low)))))))))
def Q6u w low n v:=(Q9s w low n v).m
abbrev Qkx w low n v:=(Q9s w low n v).p
def Z0e:Q0b:=mT 250 [] true [.one (.int .u32),.one (.int .i64),.one (.int .i64),.one (.int .u32)] [] (λa r=>Q9s (argI a 0) (argI a 1) (argI a 2) (argI a 3)) (λX=>.int .u32 X) (λX=>[])
theorem Qym:Q04 pG Z0e:=oT (.cons Qy0 (.nil)) Tryz.func250 Tryz.call250 [] [] 2
def Q9(m:List Int)(addr size v:Int):Tree ((List Int)×Bool):=
.an (Q08 m) (.lv (Q03 m) λ(x0:List Int)=>.an (Qed m addr size) (.lv (Q20 m addr size) λ(x1:Bool)=>.br (!x1) (.lf (x0,false)) (let E1:=bT 1 1&&bJ 0 1&&decide (0<=wrap u32 (eN addr 4)/\wrap u32 (eN addr 4)<(x0.length:Int));let E2:=dB (wrap u32 (eN addr 4));.br (size==1) (.cn E1 (let E3:=wrap i64 (wrap i64 (dA addr 4)*8);.an (Qkx (x0.getD E2 0) E3 8 v) (.lv (Q6u (x0.getD E2 0) E3 8 v) λ(x2:Int)=>.cn E1 (.lf (dC x0 E2 x2,true))))) (.cn E1 (.lf (dC x0 E2 v,true))))))
def Q23 m addr size v:=(Q9 m addr size v).m
abbrev Qby m addr size v:=(Q9 m addr size v).p
def Z4t:Q0b:=mT 186 [] true [.one (.ints .u32),.one (.int .u32),.one (.int .i64),.one (.int .u32)] [] (λa r=>Q9 (argL .u32 a 0) (argI a 1) (argI a 2) (argI a 3)) (λX=>.tup [.all 0,.bool (X.2)]) (λX=>[⟨false,23,1,.ints .u32 (X.1)⟩])
theorem Qo3:Q04 pG Z4t:=oT (.cons Q15 (.cons Qn (.cons Qym (.nil)))) Tryz.func186 Tryz.call186 [.row 23 1 (.ints .u32)] [] 2
def Zbq(op:Int):Tree (Q9b×Bool):=
.br (op==1) (.lf ({a:=true,b:=true,c:=true,low:=0,D3:=0},true)) (.br (op==2) (.lf ({a:=true,b:=true,c:=true,low:=0,D3:=0},true)) (.br (op==3) (.lf ({a:=true,b:=true,c:=true,low:=0,D3:=0},true)) (.br (op==4) (.lf ({a:=true,b:=true,c:=true,low:=0,D3:=0},true)) (.br (op==5) (.lf ({a:=true,b:=true,c:=true,low:=0,D3:=0},true)) (.br (op==6) (.lf ({a:=true,b:=true,c:=true,low:=0,D3:=0},true)) (.br (op==7) (.lf ({a:=true,b:=true,c:=true,low:=0,D3:=0},true)) (.br (op==8) (.lf ({a:=true,b:=true,c:=true,low:=0,D3:=0},true)) (.br (op==9) (.lf ({a:=true,b:=true,c:=true,low:=0,D3:=0},true)) (.br (op==10) (.lf ({a:=true,b:=true,c:=true,low:=0,D3:=0},true)) (.br (op==11) (.lf ({a:=true,b:=true,c:=true,low:=0,D3:=0},true)) (.br (op==12) (.lf ({a:=true,b:=true,c:=true,low:=0,D3:=0},true)) (.br (op==13) (.lf ({a:=true,b:=true,c:=true,low:=0,D3:=0},true)) (.br (op==16) (.lf ({a:=true,b:=true,c:=false,low:=(-32768),D3:=32767},true)) (.br (op==23) (.lf ({a:=true,b:=true,c:=false,low:=(-32768),D3:=32767},true)) (.br (op==32) (.lf ({a:=true,b:=true,c:=false,low:=(-32768),D3:=32767},true)) (.br (op==33) (.lf ({a:=true,b:=true,c:=false,low:=(-32768),D3:=32767},true)) (.br (op==34) (.lf ({a:=true,b:=true,c:=false,low:=(-32768),D3:=32767},true)) (.br (op==35) (.lf ({a:=true,b:=true,c:=false,low:=(-32768),D3:=32767},true)) (.br (op==36) (.lf ({a:=true,b:=true,c:=false,low:=(-32768),D3:=32767},true)) (.br (op==40) (.lf ({a:=true,b:=true,c:=false,low:=(-32768),D3:=32767},true)) (.br (op==41) (.lf ({a:=true,b:=true,c:=false,low:=(-32768),D3:=32767},true)) (.br (op==42) (.lf ({a:=true,b:=true,c:=false,low:=(-32768),D3:=32767},true)) (.br (op==43) (.lf ({a:=true,b:=true,c:=false,low:=(-32768),D3:=32767},true)) (.br (op==44) (.lf ({a:=true,b:=true,c:=false,low:=(-32768),D3:=32767},true)) (.br (op==45) (.lf ({a:=true,b:=true,c:=false,low:=(-32768),D3:=32767},true)) (.br (op==49) (.lf ({a:=true,b:=true,c:=false,low:=(-32768),D3:=32767},true)) (.br (op==17) (.lf ({a:=true,b:=true,c:=false,low:=0,D3:=65535},true)) (.br (op==18) (.lf ({a:=true,b:=true,c:=false,low:=0,D3:=65535},true)) (.br (op==19) (.lf ({a:=true,b:=true,c:=false,low:=0,D3:=65535},true)) (.br (op==20) (.lf ({a:=true,b:=true,c:=false,low:=0,D3:=31},true)) (.br (op==21) (.lf ({a:=true,b:=true,c:=false,low:=0,D3:=31},true)) (.br (op==22) (.lf ({a:=true,b:=true,c:=false,low:=0,D3:=31},true)) (.br (op==24) (.lf ({a:=true,b:=false,c:=false,low:=0,D3:=65535},true)) (.br (op==48) (.lf ({a:=true,b:=false,c:=false,low:=(-32768),D3:=32767},true)) (.br (op==58) (.lf ({a:=true,b:=false,c:=false,low:=0,D3:=7},true)) (.br (op==59) (.lf ({a:=true,b:=false,c:=false,low:=0,D3:=7},true)) (.br (op==60) (.lf ({a:=true,b:=false,c:=false,low:=0,D3:=11},true)) (.br (op==61) (.lf ({a:=true,b:=false,c:=false,low:=0,D3:=11},true)) (.br (op==56) (.lf ({a:=false,b:=false,c:=false,low:=0,D3:=0},true)) (.br (op==57) (.lf ({a:=false,b:=false,c:=false,low:=0,D3:=0},true)) (.br (op==62) (.lf ({a:=false,b:=false,c:=false,low:=0,D3:=0},true)) (.br (op==63) (.lf ({a:=false,b:=false,c:=false,low:=0,D3:=0},true)) (.br (op==64) (.lf ({a:=false,b:=false,c:=false,low:=0,D3:=0},true)) (.lf ({a:=false,b:=false,c:=false,low:=0,D3:=0},false)))))))))))))))))))))))))))))))))))))))))))))
def Z3i op:=(Zbq op).m
def yx:Q0b:=mS 180 [] true [.one (.int .i64)] [] (λa r=>Zbq (argI a 0)) (λX=>.tup [.agg (Q9b.cells (X.1)),.bool (X.2)]) (λX=>[])
theorem Z74:Q04 pG yx:=oS (.nil) Tryz.func180 Tryz.call180 [] [] 2
def Q7n(x n:Int):Tree Int:=
.br (decide (n<1)) (.lf 0) (.br (decide (n>=32)) (.lf x) (let E1:=decide (0<=wrap u64 (wrap i64 (32-n)));.cn E1 (.cn E1 (.lf (wrap u32 (ishr i32 (wrap i32 (ishl u32 x (wrap u64 (wrap i64 (32-n))))) (wrap u64 (wrap i64 (32-n)))))))))
def Q2y x n:=(Q7n x n).m
abbrev Qcb x n:=(Q7n x n).p
def Qw7:Q0b:=mT 181 [] true [.one (.int .u32),.one (.int .i64)] [] (λa r=>Q7n (argI a 0) (argI a 1)) (λX=>.int .u32 X) (λX=>[])
theorem Qjv:Q04 pG Qw7:=oT (.nil) Tryz.func181 Tryz.call181 [] [] 2
def Qet(r:Int)(used:Bool):Tree Bool:=
.br used (.br (decide (r>=0)) (.lf (decide (r<=15))) (.lf false)) (.lf (r==0))
def Q9g r used:=(Qet r used).m
def Z5:Q0b:=mS 249 [] true [.one (.int .i64),.one (.bool)] [] (λa r=>Qet (argI a 0) (argB a 1)) (λX=>.bool X) (λX=>[])
theorem Z1r:Q04 pG Z5:=oS (.nil) Tryz.func249 Tryz.call249 [] [] 2
def Qht(i:Q0g):Tree Bool:=
.lv (Z3i i.Op) λ(x0:Q9b×Bool)=>.br x0.2 (.lv (Q9g i.A x0.1.a) λ(x1:Bool)=>.br x1 (.lv (Q9g i.B x0.1.b) λ(x2:Bool)=>.br x2 (.lv (Q9g i.C x0.1.c) λ(x3:Bool)=>.br x3 (.br (decide (i.Imm>=x0.1.low)) (.lf (decide (i.Imm<=x0.1.D3))) (.lf false)) (.lf false)) (.lf false)) (.lf false)) (.lf false)
def Qf2 i:=(Qht i).m
def Zhk:Q0b:=mS 182 [] true [.agg Q0g.sig] [] (λa r=>Qht (Q0g.of (aC a 0))) (λX=>.bool X) (λX=>[])
theorem Zdz:Q04 pG Zhk:=oS (.cons Z74 (.cons Z1r (.nil))) Tryz.func182 Tryz.call182 [] [] 2
def Qch(w:Int):Tree (Q0g×Bool):=
.an (Q7f w 24 8) (.lv (Q3c w 24 8) λ(x0:Int)=>.an (Q7f w 20 4) (.lv (Q3c w 20 4) λ(x1:Int)=>.an (Q7f w 16 4) (.lv (Q3c w 16 4) λ(x2:Int)=>.lv (Z3i (wrap i64 x0)) λ(x3:Q9b×Bool)=>let E1:=({Op:=0,A:=0,B:=0,C:=0,Imm:=0}:Q0g);.br (!x3.2) (.lf (E1,false)) (.an (Q7f w 0 16) (.lv (Q3c w 0 16) λ(x4:Int)=>.br x3.1.c (let E2:=({Op:=wrap i64 x0,A:=wrap i64 x1,B:=wrap i64 x2,C:=wrap i64 x4,Imm:=0}:Q0g);.lv (Qf2 E2) λ(x5:Bool)=>.br (!x5) (.lf (E1,false)) (.lf (E2,true))) (.br (decide (x3.1.low<0)) (.an (Qcb x4 16) (.lv (Q2y x4 16) λ(x6:Int)=>let E3:=({Op:=wrap i64 x0,A:=wrap i64 x1,B:=wrap i64 x2,C:=0,Imm:=wrap i32 x6}:Q0g);.lv (Qf2 E3) λ(x7:Bool)=>.br (!x7) (.lf (E1,false)) (.lf (E3,true)))) (let E4:=({Op:=wrap i64 x0,A:=wrap i64 x1,B:=wrap i64 x2,C:=0,Imm:=wrap i32 x4}:Q0g);.lv (Qf2 E4) λ(x8:Bool)=>.br (!x8) (.lf (E1,false)) (.lf (E4,true)))))))))
def Q11 w:=(Qch w).m
abbrev Qbd w:=(Qch w).p
def Zey:Q0b:=mT 112 [] true [.one (.int .u32)] [] (λa r=>Qch (argI a 0)) (λX=>.tup [.agg (Q0g.cells (X.1)),.bool (X.2)]) (λX=>[])
theorem Qsv:Q04 pG Zey:=oT (.cons Qmm (.cons Z74 (.cons Qjv (.cons Zdz (.nil))))) Tryz.func112 Tryz.call112 [] [] 2
def Qay(a b:Int):Tree (Int×Int):=
.br (b==0) (.lf (4294967295,a)) (let T1:Tree ((Int×Int)):=.cn (decide (wrap i32 b≠0)) (.cn (decide (wrap i32 b≠0)) (.lf (wrap u32 (wrap i32 (eN (wrap i32 a) (wrap i32 b))),wrap u32 (dA (wrap i32 a) (wrap i32 b)))));.br (a==2147483648) (.br (b==4294967295) (.lf (a,0)) T1) T1)
def Qc2 a b:=(Qay a b).m
abbrev Qil a b:=(Qay a b).p
def Z9f:Q0b:=mT 251 [] true [.one (.int .u32),.one (.int .u32)] [] (λa r=>Qay (argI a 0) (argI a 1)) (λX=>.tup [.int .u32 (X.1),.int .u32 (X.2)]) (λX=>[])
theorem Z4e:Q04 pG Z9f:=oT (.nil) Tryz.func251 Tryz.call251 [] [] 2
def Z0s(b:Bool):Tree Int:=
.br b (.lf 1) (.lf 0)
def Qo0 b:=(Z0s b).m
def Zhj:Q0b:=mS 252 [] true [.one (.bool)] [] (λa r=>Z0s (argB a 0)) (λX=>.int .u32 X) (λX=>[])
theorem Zcd:Q04 pG Zhj:=oS (.nil) Tryz.func252 Tryz.call252 [] [] 2
def Qon(op a b:Int):Tree (Int×Bool):=
.br (op==2) (.lf (wrap u32 (a+wrap u32 (0-b)),true)) (.br (op==1) (.lf (wrap u32 (a+b),true)) (.br (op==16) (.lf (wrap u32 (a+b),true)) (.br (op==3) (.lf (iand u32 a b,true)) (.br (op==17) (.lf (iand u32 a b,true)) (.br (op==4) (.lf (ior u32 a b,true)) (.br (op==18) (.lf (ior u32 a b,true)) (.br (op==5) (.lf (ixor u32 a b,true)) (.br (op==19) (.lf (ixor u32 a b,true)) (.br (op==6) (.lf (ishl u32 a (iand u32 b 31),true)) (.br (op==20) (.lf (ishl u32 a (iand u32 b 31),true)) (.br (op==7) (.lf (ishr u32 a (iand u32 b 31),true)) (.br (op==21) (.lf (ishr u32 a (iand u32 b 31),true)) (let E1:=(wrap u32 (ishr i32 (wrap i32 a) (iand u32 b 31)),true);.br (op==8) (.lf E1) (.br (op==22) (.lf E1) (.br (op==9) (.lf (wrap u32 (a*b),true)) (.br (op==10) (.an (Qil a b) (.lv (Qc2 a b) λ(x0:Int×Int)=>.lf (x0.1,true))) (.br (op==11) (.an (Qil a b) (.lv (Qc2 a b) λ(x1:Int×Int)=>.lf (x1.2,true))) (.br (op==12) (.lv (Qo0 (decide (wrap i32 a<wrap i32 b))) λ(x2:Int)=>.lf (x2,true)) (.br (op==23) (.lv (Qo0 (decide (wrap i32 a<wrap i32 b))) λ(x3:Int)=>.lf (x3,true)) (.br (op==13) (.lv (Qo0 (decide (a<b))) λ(x4:Int)=>.lf (x4,true)) (.lf (0,false))))))))))))))))))))))
def Q52 op a b:=(Qon op a b).m
abbrev Qrg op a b:=(Qon op a b).p
def qy:Q0b:=mT 190 [] true [.one (.int .i64),.one (.int .u32),.one (.int .u32)] [] (λa r=>Qon (argI a 0) (argI a 1) (argI a 2)) (λX=>.tup [.int .u32 (X.1),.bool (X.2)]) (λX=>[])
theorem Zlu:Q04 pG qy:=oT (.cons Z4e (.cons Zcd (.nil))) Tryz.func190 Tryz.call190 [] [] 2
end
noncomputable section
def Qpp(status from0 to:Int):Tree Int:=
.br (iand u32 status from0 !=0) (.lf (ior u32 status to)) (.lf (Q7 u32 status to))
def Q99 status from0 to:=(Qpp status from0 to).m
def Zmy:Q0b:=mS 175 [] true [.one (.int .u32),.one (.int .u32),.one (.int .u32)] [] (λa r=>Qpp (argI a 0) (argI a 1) (argI a 2)) (λX=>.int .u32 X) (λX=>[])
theorem Z1y:Q04 pG Zmy:=oS (.nil) Tryz.func175 Tryz.call175 [] [] 2
def Qkk(c:Q02)(cause bad:Int):Tree Q02:=
.lv (Q99 c.B3.a0 1 8) λ(x0:Int)=>.lv (Q99 x0 2 16) λ(x1:Int)=>.lf ({X:=c.X,Pc:=c.B3.a1,B3:={a0:=Q7 u32 (ior u32 x1 1) 2,a1:=c.B3.a1,a2:=c.Pc,a3:=wrap u32 cause,a4:=bad,a5:=c.B3.a5,a6:=c.B3.a6,a7:=c.B3.a7}})
def Q3a c cause bad:=(Qkk c cause bad).m
def Zn1:Q0b:=mS 109 [] true [.agg Q02.sig,.one (.int .i64),.one (.int .u32)] [] (λa r=>Qkk (Q02.of (aC a 0)) (argI a 1) (argI a 2)) (λX=>.agg (Q02.cells X)) (λX=>[])
theorem Qe:Q04 pG Zn1:=oS (.cons Z1y (.nil)) Tryz.func109 Tryz.call109 [] [] 2
def Qmh(access:Int):Tree (Int×Bool):=
.br (access==1) (.lf (4,true)) (.br (access==2) (.lf (5,true)) (.br (access==3) (.lf (6,true)) (.lf (5,false))))
def Q9i access:=(Qmh access).m
def Z8l:Q0b:=mS 245 [] true [.one (.int .i64)] [] (λa r=>Qmh (argI a 0)) (λX=>.tup [.int .i64 (X.1),.bool (X.2)]) (λX=>[])
theorem Z5i:Q04 pG Z8l:=oS (.nil) Tryz.func245 Tryz.call245 [] [] 2
def Qy5(c:Q02):Tree Bool:=
.lf (iand u32 c.B3.a0 (1:Int) !=(0:Int))
def Q58 c:=(Qy5 c).m
def Zg2:Q0b:=mS 118 [] true [.agg Q02.sig] [] (λa r=>Qy5 (Q02.of (aC a 0))) (λX=>.bool X) (λX=>[])
theorem Qu0:Q04 pG Zg2:=oS (.nil) Tryz.func118 Tryz.call118 [] [] 2
def Qfv(access:Int):Tree (Int×Bool):=
.br (access==1) (.lf (4,true)) (.br (access==2) (.lf (5,true)) (.br (access==3) (.lf (6,true)) (.lf (5,false))))
def Q17 access:=(Qfv access).m
def Qyd:Q0b:=mS 241 [] true [.one (.int .i64)] [] (λa r=>Qfv (argI a 0)) (λX=>.tup [.int .i64 (X.1),.bool (X.2)]) (λX=>[])
theorem Qwx:Q04 pG Qyd:=oS (.nil) Tryz.func241 Tryz.call241 [] [] 2
def Qiy(m:List Int)(frame:Int):Tree Bool:=
.lv (Q1 m) λ(x0:Int)=>.lf (decide (wrap u64 frame<wrap u64 x0))
def Q1j m frame:=(Qiy m frame).m
def Z3h:Q0b:=mS 242 [] true [.one (.ints .u32),.one (.int .u32)] [] (λa r=>Qiy (argL .u32 a 0) (argI a 1)) (λX=>.bool X) (λX=>[])
theorem Qye:Q04 pG Z3h:=oS (.cons Q3 (.nil)) Tryz.func242 Tryz.call242 [] [] 2
def Qaf(m:List Int)(addr size:Int):Tree (Int×Bool):=
.an (Qed m addr size) (.lv (Q20 m addr size) λ(x0:Bool)=>.br (!x0) (.lf (0,false)) (.cn (bT 1 1&&bJ 0 1&&decide (0<=wrap u32 (eN addr 4)/\wrap u32 (eN addr 4)<(m.length:Int))) (let E1:=dB (wrap u32 (eN addr 4));.br (size==1) (let E2:=wrap i64 (wrap i64 (dA addr 4)*8);.an (Q7f (m.getD E1 0) E2 8) (.lv (Q3c (m.getD E1 0) E2 8) λ(x1:Int)=>.lf (x1,true))) (.lf (m.getD E1 0,true)))))
def Q0x m addr size:=(Qaf m addr size).m
abbrev Q4x m addr size:=(Qaf m addr size).p
def Zay:Q0b:=mT 178 [] true [.one (.ints .u32),.one (.int .u32),.one (.int .i64)] [] (λa r=>Qaf (argL .u32 a 0) (argI a 1) (argI a 2)) (λX=>.tup [.int .u32 (X.1),.bool (X.2)]) (λX=>[])
theorem Qbl:Q04 pG Zay:=oT (.cons Qn (.cons Qmm (.nil))) Tryz.func178 Tryz.call178 [] [] 2
def Qn8(pte access:Int):Tree Bool:=
.br (iand u32 pte (1:Int)==(0:Int)) (.lf false) (.br (access==3) (.lf (iand u32 pte (2:Int) !=(0:Int))) (.br (access==1) (.lf (iand u32 pte (4:Int) !=(0:Int))) (.lf true)))
def Q2k pte access:=(Qn8 pte access).m
def Qyn:Q0b:=mS 243 [] true [.one (.int .u32),.one (.int .i64)] [] (λa r=>Qn8 (argI a 0) (argI a 1)) (λX=>.bool X) (λX=>[])
theorem Qwd:Q04 pG Qyn:=oS (.nil) Tryz.func243 Tryz.call243 [] [] 2
def Q8k(pte:Int):Tree Int:=
.an (Q7f pte 8 8) (.lv (Q3c pte 8 8) λ(x0:Int)=>.lf x0)
def Q21 pte:=(Q8k pte).m
abbrev Qct pte:=(Q8k pte).p
def Qyh:Q0b:=mT 244 [] true [.one (.int .u32)] [] (λa r=>Q8k (argI a 0)) (λX=>.int .u32 X) (λX=>[])
theorem Qwr:Q04 pG Qyh:=oT (.cons Qmm (.nil)) Tryz.func244 Tryz.call244 [] [] 2
def Qac(m:List Int)(root va access:Int):Tree Q18:=
.lv (Q17 access) λ(x0:Int×Bool)=>let E1:=({Addr:=0,D9:=0,D1:=x0.1}:Q18);.br (!x0.2) (.lf (E1)) (.br (decide (va>=4096)) (.lf (E1)) (.lv (Q1j m root) λ(x1:Bool)=>.br (!x1) (.lf (E1)) (let E2:=wrap u32 (root*128)+wrap u32 (4*wrap u32 (eN va 128));.an (Q4x m (wrap u32 E2) 4) (.lv (Q0x m (wrap u32 E2) 4) λ(x2:Int×Bool)=>.br (!x2.2) (.lf (E1)) (.lv (Q2k x2.1 access) λ(x3:Bool)=>.br (!x3) (.lf (E1)) (.an (Qct x2.1) (.lv (Q21 x2.1) λ(x4:Int)=>.lv (Q1j m x4) λ(x5:Bool)=>.br (!x5) (.lf (E1)) (.an (Qct x2.1) (.lv (Q21 x2.1) λ(x6:Int)=>.lf ({Addr:=wrap u32 (wrap u32 (x6*128)+dA va 128),D9:=wrap u32 E2,D1:=0}))))))))))
def Q0t m root va access:=(Qac m root va access).m
abbrev Qd4 m root va access:=(Qac m root va access).p
def Zal:Q0b:=mT 176 [] true [.one (.ints .u32),.one (.int .u32),.one (.int .u32),.one (.int .i64)] [] (λa r=>Qac (argL .u32 a 0) (argI a 1) (argI a 2) (argI a 3)) (λX=>.agg (Q18.cells X)) (λX=>[])
theorem Qqi:Q04 pG Zal:=oT (.cons Qwx (.cons Qye (.cons Qbl (.cons Qwd (.cons Qwr (.nil)))))) Tryz.func176 Tryz.call176 [] [] 2
def Q92(m:List Int)(entry access:Int):Tree (List Int):=
.an (Q4x m entry 4) (.lv (Q0x m entry 4) λ(x0:Int×Bool)=>.br (!x0.2) (.an (Q08 m) (.lv (Q03 m) λ(x1:List Int)=>.lf x1)) (.br (access==3) (.an (Qby m entry 4 (ior u32 (ior u32 x0.1 8) 16)) (.lv (Q23 m entry 4 (ior u32 (ior u32 x0.1 8) 16)) λ(x2:List Int×Bool)=>.lf x2.1)) (.an (Qby m entry 4 (ior u32 x0.1 8)) (.lv (Q23 m entry 4 (ior u32 x0.1 8)) λ(x3:List Int×Bool)=>.lf x3.1))))
def Q2n m entry access:=(Q92 m entry access).m
abbrev Qfy m entry access:=(Q92 m entry access).p
def Z4x:Q0b:=mT 246 [] true [.one (.ints .u32),.one (.int .u32),.one (.int .i64)] [] (λa r=>Q92 (argL .u32 a 0) (argI a 1) (argI a 2)) (λX=>.all 0) (λX=>[⟨false,23,1,.ints .u32 X⟩])
theorem Z3n:Q04 pG Z4x:=oT (.cons Qbl (.cons Q15 (.cons Qo3 (.nil)))) Tryz.func246 Tryz.call246 [.row 23 1 (.ints .u32)] [] 2
def Qaq(c:Q02)(m:List Int)(va size access:Int):Tree (Int×(List Int)×Int):=
.lv (Q9i access) λ(x0:Int×Bool)=>let T3:Tree ((Int×(List Int)×Int)):=.an (Q08 m) (.lv (Q03 m) λ(x1:List Int)=>.lf (0,x1,5));.br (!x0.2) T3 (let T1:Tree ((Int×(List Int)×Int)):=.cn (decide (wrap u32 size≠0)) (.br (dA va (wrap u32 size) !=0) (.an (Q08 m) (.lv (Q03 m) λ(x3:List Int)=>.lf (0,x3,3))) (.lv (Q58 c) λ(x4:Bool)=>let T2:Tree ((Int×(List Int)×Int)):=.an (Q4x m va size) (.lv (Q0x m va size) λ(x8:Int×Bool)=>.br (!x8.2) (.an (Q08 m) (.lv (Q03 m) λ(x9:List Int)=>.lf (0,x9,x0.1))) (.an (Q08 m) (.lv (Q03 m) λ(x10:List Int)=>.lf (va,x10,0))));.br (!x4) (.br (iand u32 c.B3.a0 (4:Int) !=(0:Int)) (.an (Qd4 m c.B3.a6 va access) (.lv (Q0t m c.B3.a6 va access) λ(x5:Q18)=>.br (x5.D1 !=0) (.an (Q08 m) (.lv (Q03 m) λ(x6:List Int)=>.lf (0,x6,x5.D1))) (.an (Qfy m x5.D9 access) (.lv (Q2n m x5.D9 access) λ(x7:List Int)=>.lf (x5.Addr,x7,0))))) T2) T2));.br (size !=1) (.br (size !=4) T3 T1) T1)
def Q0y c m va size access:=(Qaq c m va size access).m
abbrev Qd3 c m va size access:=(Qaq c m va size access).p
def Za7:Q0b:=mT 177 [] true [.agg Q02.sig,.one (.ints .u32),.one (.int .u32),.one (.int .i64),.one (.int .i64)] [] (λa r=>Qaq (Q02.of (aC a 0)) (argL .u32 a 1) (argI a 2) (argI a 3) (argI a 4)) (λX=>.tup [.int .u32 (X.1),.all 0,.int .i64 (X.2.2)]) (λX=>[⟨false,23,1,.ints .u32 (X.2.1)⟩])
theorem Qk3:Q04 pG Za7:=oT (.cons Z5i (.cons Q15 (.cons Qu0 (.cons Qqi (.cons Z3n (.cons Qbl (.nil))))))) Tryz.func177 Tryz.call177 [.row 23 1 (.ints .u32)] [] 2
def Qhs(c:Q02)(m:List Int):Tree (Int×(List Int)×Int):=
.an (Qd3 c m c.Pc 4 1) (.lv (Q0y c m c.Pc 4 1) λ(x0:Int×List Int×Int)=>.br (x0.2.2 !=0) (.lf (0,x0.2.1,x0.2.2)) (.an (Q4x x0.2.1 x0.1 4) (.lv (Q0x x0.2.1 x0.1 4) λ(x1:Int×Bool)=>.lf (x1.1,x0.2.1,0))))
def Q0h c m:=(Qhs c m).m
abbrev Qdi c m:=(Qhs c m).p
def Zi9:Q0b:=mT 111 [] true [.agg Q02.sig,.one (.ints .u32)] [] (λa r=>Qhs (Q02.of (aC a 0)) (argL .u32 a 1)) (λX=>.tup [.int .u32 (X.1),.all 0,.int .i64 (X.2.2)]) (λX=>[⟨false,23,1,.ints .u32 (X.2.1)⟩])
theorem Qxo:Q04 pG Zi9:=oT (.cons Qk3 (.cons Qbl (.nil))) Tryz.func111 Tryz.call111 [.row 23 1 (.ints .u32)] [] 2
def Qmt(op:Int):Tree Bool:=
.br (op==57) (.lf true) (.br (op==58) (.lf true) (.br (op==59) (.lf true) (.br (op==60) (.lf true) (.br (op==61) (.lf true) (.br (op==62) (.lf true) (.br (op==63) (.lf true) (.br (op==64) (.lf true) (.lf false))))))))
def Q2j op:=(Qmt op).m
def Qz1:Q0b:=mS 114 [] true [.one (.int .i64)] [] (λa r=>Qmt (argI a 0)) (λX=>.bool X) (λX=>[])
theorem Ql1:Q04 pG Qz1:=oS (.nil) Tryz.func114 Tryz.call114 [] [] 2
def Qre(op:Int):Tree Int:=
.br (op==32) (.lf 4) (.br (op==35) (.lf 4) (.lf 1))
def Qfc op:=(Qre op).m
def Zhc:Q0b:=mS 184 [] true [.one (.int .i64)] [] (λa r=>Qre (argI a 0)) (λX=>.int .i64 X) (λX=>[])
theorem Qxr:Q04 pG Zhc:=oS (.nil) Tryz.func184 Tryz.call184 [] [] 2
def Qd9(c:Q02)(register v:Int):Tree Q02:=
.br (register !=0) (.cn (bJ 0 1&&decide (0<=register/\register<(↑16:Int))) (.lf ({X:=A16.of 0 (dC (A16.l c.X) register.toNat v),Pc:=c.Pc,B3:=c.B3}))) (.lf c)
def Qbb c register v:=(Qd9 c register v).m
abbrev Q8e c register v:=(Qd9 c register v).p
def xy:Q0b:=mT 185 [] true [.agg Q02.sig,.one (.int .i64),.one (.int .u32)] [] (λa r=>Qd9 (Q02.of (aC a 0)) (argI a 1) (argI a 2)) (λX=>.agg (Q02.cells X)) (λX=>[])
theorem Z7b:Q04 pG xy:=oT (.nil) Tryz.func185 Tryz.call185 [] [] 2
def Qec(c:Q02)(m:List Int)(i:Q0g):Tree (Q02×(List Int)):=
.cn (bJ 0 1&&decide (0<=i.B/\i.B<(↑16:Int))) (.lv (Qfc i.Op) λ(x0:Int)=>let E1:=wrap u32 (aK (A16.l c.X) i.B.toNat 0+wrap u32 i.Imm);.an (Qd3 c m E1 x0 2) (.lv (Q0y c m E1 x0 2) λ(x1:Int×List Int×Int)=>.br (x1.2.2 !=0) (.lv (Q3a c x1.2.2 E1) λ(x2:Q02)=>.lf (x2,x1.2.1)) (.lv (Qfc i.Op) λ(x3:Int)=>.an (Q4x x1.2.1 x1.1 x3) (.lv (Q0x x1.2.1 x1.1 x3) λ(x4:Int×Bool)=>.br (i.Op==33) (.an (Qcb x4.1 8) (.lv (Q2y x4.1 8) λ(x5:Int)=>.an (Q8e c i.A x5) (.lv (Qbb c i.A x5) λ(x6:Q02)=>.lf ({X:=x6.X,Pc:=wrap u32 (x6.Pc+4),B3:=x6.B3},x1.2.1)))) (.an (Q8e c i.A x4.1) (.lv (Qbb c i.A x4.1) λ(x7:Q02)=>.lf ({X:=x7.X,Pc:=wrap u32 (x7.Pc+4),B3:=x7.B3},x1.2.1)))))))
def Q2q c m i:=(Qec c m i).m
abbrev Qx2 c m i:=(Qec c m i).p
def Zmd:Q0b:=mT 119 [] true [.agg Q02.sig,.one (.ints .u32),.agg Q0g.sig] [] (λa r=>Qec (Q02.of (aC a 0)) (argL .u32 a 1) (Q0g.of (aC a 2))) (λX=>.tup [.agg (Q02.cells (X.1)),.all 0]) (λX=>[⟨false,23,1,.ints .u32 (X.2)⟩])
theorem Zj:Q04 pG Zmd:=oT (.cons Qk3 (.cons Qxr (.cons Qe (.cons Qbl (.cons Qjv (.cons Z7b (.nil))))))) Tryz.func119 Tryz.call119 [.row 23 1 (.ints .u32)] [] 2
def Qc3(c:Q02)(m:List Int)(i:Q0g):Tree (Q02×(List Int)):=
.cn (bJ 0 1&&decide (0<=i.B/\i.B<(↑16:Int))) (.lv (Qfc i.Op) λ(x0:Int)=>let E1:=wrap u32 (aK (A16.l c.X) i.B.toNat 0+wrap u32 i.Imm);.an (Qd3 c m E1 x0 3) (.lv (Q0y c m E1 x0 3) λ(x1:Int×List Int×Int)=>.br (x1.2.2 !=0) (.lv (Q3a c x1.2.2 E1) λ(x2:Q02)=>.lf (x2,x1.2.1)) (.lv (Qfc i.Op) λ(x3:Int)=>.cn (bJ 0 1&&decide (0<=i.A/\i.A<(↑16:Int))) (let E2:=aK (A16.l c.X) i.A.toNat 0;.an (Qby x1.2.1 x1.1 x3 E2) (.lv (Q23 x1.2.1 x1.1 x3 E2) λ(x4:List Int×Bool)=>.lf ({X:=c.X,Pc:=wrap u32 (c.Pc+4),B3:=c.B3},x4.1))))))
def Q3n c m i:=(Qc3 c m i).m
abbrev Qth c m i:=(Qc3 c m i).p
def Zg7:Q0b:=mT 120 [] true [.agg Q02.sig,.one (.ints .u32),.agg Q0g.sig] [] (λa r=>Qc3 (Q02.of (aC a 0)) (argL .u32 a 1) (Q0g.of (aC a 2))) (λX=>.tup [.agg (Q02.cells (X.1)),.all 0]) (λX=>[⟨false,23,1,.ints .u32 (X.2)⟩])
theorem Zce:Q04 pG Zg7:=oT (.cons Qk3 (.cons Qxr (.cons Qe (.cons Qo3 (.nil))))) Tryz.func120 Tryz.call120 [.row 23 1 (.ints .u32)] [] 2
def Z0c(op a b:Int):Tree Bool:=
.br (op==40) (.lf (a==b)) (.br (op==41) (.lf (a !=b)) (.br (op==42) (.lf (decide (wrap i32 a<wrap i32 b))) (.br (op==43) (.lf (decide (wrap i32 a>=wrap i32 b))) (.br (op==44) (.lf (decide (a<b))) (.lf (decide (a>=b)))))))
def Zbz op a b:=(Z0c op a b).m
def Zhm:Q0b:=mS 187 [] true [.one (.int .i64),.one (.int .u32),.one (.int .u32)] [] (λa r=>Z0c (argI a 0) (argI a 1) (argI a 2)) (λX=>.bool X) (λX=>[])
theorem Zdr:Q04 pG Zhm:=oS (.nil) Tryz.func187 Tryz.call187 [] [] 2
def Qfi(c:Q02):Tree Q02:=
.lv (Q99 c.B3.a0 8 1) λ(x0:Int)=>.lv (Q99 x0 16 2) λ(x1:Int)=>.lf ({X:=c.X,Pc:=c.B3.a2,B3:={a0:=x1,a1:=c.B3.a1,a2:=c.B3.a2,a3:=c.B3.a3,a4:=c.B3.a4,a5:=c.B3.a5,a6:=c.B3.a6,a7:=c.B3.a7}})
def Qel c:=(Qfi c).m
def Zdi:Q0b:=mS 188 [] true [.agg Q02.sig] [] (λa r=>Qfi (Q02.of (aC a 0))) (λX=>.agg (Q02.cells X)) (λX=>[])
theorem Zaa:Q04 pG Zdi:=oS (.cons Z1y (.nil)) Tryz.func188 Tryz.call188 [] [] 2
def Qcc(c:Q02)(csr v:Int):Tree Q02:=
let E4:=bJ 0 1&&decide (0<=csr/\csr<(↑8:Int));let T2:Tree (Q02):=.cn E4 (.lf ({X:=c.X,Pc:=c.Pc,B3:=A8.of 0 (dC (A8.l c.B3) csr.toNat (iand u32 v 31))}));.br (csr==0) T2 (.br (csr==7) T2 (.br (csr==6) (.cn E4 (.lf ({X:=c.X,Pc:=c.Pc,B3:=A8.of 0 (dC (A8.l c.B3) csr.toNat (iand u32 v 255))}))) (let T3:Tree (Q02):=.cn E4 (.lf ({X:=c.X,Pc:=c.Pc,B3:=A8.of 0 (dC (A8.l c.B3) csr.toNat (Q7 u32 v 3))}));.br (csr==1) T3 (.br (csr==2) T3 (let T1:Tree (Q02):=.cn E4 (.lf ({X:=c.X,Pc:=c.Pc,B3:=A8.of 0 (dC (A8.l c.B3) csr.toNat v)}));.br (csr==3) T1 (.br (csr==4) T1 (.br (csr==5) T1 (.lf c))))))))
def Zeu c csr v:=(Qcc c csr v).m
abbrev Qtt c csr v:=(Qcc c csr v).p
def Zh:Q0b:=mT 189 [] true [.agg Q02.sig,.one (.int .i64),.one (.int .u32)] [] (λa r=>Qcc (Q02.of (aC a 0)) (argI a 1) (argI a 2)) (λX=>.agg (Q02.cells X)) (λX=>[])
theorem Ze5:Q04 pG Zh:=oT (.nil) Tryz.func189 Tryz.call189 [] [] 2
def Q3u(c:Q02)(i:Q0g):Tree (Q02×Q1f):=
.cn (bJ 0 1&&decide (0<=i.A/\i.A<(↑16:Int))) (.cn (bJ 0 1&&decide (0<=i.B/\i.B<(↑16:Int))) (.br (i.Op==24) (.an (Q8e c i.A (ishl u32 (wrap u32 i.Imm) 16)) (.lv (Qbb c i.A (ishl u32 (wrap u32 i.Imm) 16)) λ(x0:Q02)=>.lf ({X:=x0.X,Pc:=wrap u32 (c.Pc+4),B3:=x0.B3},{C3:=0,C8:=0,D8:=0,Value:=0}))) (let E2:=({X:=c.X,Pc:=wrap u32 (c.Pc+4),B3:=c.B3}:Q02);let E3:=aK (A16.l c.X) i.B.toNat 0;let E4:=aK (A16.l c.X) i.A.toNat 0;let T1:Tree ((Q02×Q1f)):=.lv (Zbz i.Op E4 E3) λ(x1:Bool)=>.br x1 (.lf ({X:=c.X,Pc:=wrap u32 (c.Pc+wrap u32 (4*wrap u32 i.Imm)),B3:=c.B3},{C3:=0,C8:=0,D8:=0,Value:=0})) (.lf (E2,{C3:=0,C8:=0,D8:=0,Value:=0}));.br (i.Op==40) T1 (.br (i.Op==41) T1 (.br (i.Op==42) T1 (.br (i.Op==43) T1 (.br (i.Op==44) T1 (.br (i.Op==45) T1 (.br (i.Op==48) (.an (Q8e c i.A (wrap u32 (c.Pc+4))) (.lv (Qbb c i.A (wrap u32 (c.Pc+4))) λ(x7:Q02)=>.lf ({X:=x7.X,Pc:=wrap u32 (x7.Pc+wrap u32 (4*wrap u32 i.Imm)),B3:=x7.B3},{C3:=0,C8:=0,D8:=0,Value:=0}))) (.br (i.Op==49) (.an (Q8e c i.A (wrap u32 (c.Pc+4))) (.lv (Qbb c i.A (wrap u32 (c.Pc+4))) λ(x8:Q02)=>.lf ({X:=x8.X,Pc:=wrap u32 (aK (A16.l c.X) i.B.toNat 0+wrap u32 i.Imm),B3:=x8.B3},{C3:=0,C8:=0,D8:=0,Value:=0}))) (.br (i.Op==56) (.lv (Q3a c 7 0) λ(x9:Q02)=>.lf (x9,{C3:=0,C8:=0,D8:=0,Value:=0})) (.br (i.Op==57) (.lv (Qel c) λ(x10:Q02)=>.lf (x10,{C3:=0,C8:=0,D8:=0,Value:=0})) (.br (i.Op==58) (.cn (bJ 0 1&&decide (0<=i.Imm/\i.Imm<(↑8:Int))) (let E5:=aK (A8.l c.B3) i.Imm.toNat 0;.an (Q8e c i.A E5) (.lv (Qbb c i.A E5) λ(x11:Q02)=>.lf ({X:=x11.X,Pc:=wrap u32 (c.Pc+4),B3:=x11.B3},{C3:=0,C8:=0,D8:=0,Value:=0})))) (.br (i.Op==59) (.an (Qtt c (wrap i64 i.Imm) E4) (.lv (Zeu c (wrap i64 i.Imm) E4) λ(x12:Q02)=>.lf ({X:=x12.X,Pc:=wrap u32 (c.Pc+4),B3:=x12.B3},{C3:=0,C8:=0,D8:=0,Value:=0}))) (.br (i.Op==60) (.lf (E2,{C3:=1,C8:=wrap i64 i.Imm,D8:=i.A,Value:=0})) (.br (i.Op==61) (.lf (E2,{C3:=2,C8:=wrap i64 i.Imm,D8:=0,Value:=aK (A16.l c.X) i.A.toNat 0})) (.br (i.Op==62) (.lf (E2,{C3:=3,C8:=0,D8:=0,Value:=0})) (.br (i.Op==63) (.lf (E2,{C3:=5,C8:=0,D8:=0,Value:=0})) (.br (i.Op==64) (.lf (E2,{C3:=4,C8:=0,D8:=0,Value:=0})) (.cn (bJ 0 1&&decide (0<=i.C/\i.C<(↑16:Int))) (.br (decide (i.Op>=16)) (.an (Qrg i.Op E3 (wrap u32 i.Imm)) (.lv (Q52 i.Op E3 (wrap u32 i.Imm)) λ(x13:Int×Bool)=>.an (Q8e c i.A x13.1) (.lv (Qbb c i.A x13.1) λ(x14:Q02)=>.lf ({X:=x14.X,Pc:=wrap u32 (c.Pc+4),B3:=x14.B3},{C3:=0,C8:=0,D8:=0,Value:=0})))) (let E6:=aK (A16.l c.X) i.C.toNat 0;.an (Qrg i.Op E3 E6) (.lv (Q52 i.Op E3 E6) λ(x15:Int×Bool)=>.an (Q8e c i.A x15.1) (.lv (Qbb c i.A x15.1) λ(x16:Q02)=>.lf ({X:=x16.X,Pc:=wrap u32 (c.Pc+4),B3:=x16.B3},{C3:=0,C8:=0,D8:=0,Value:=0})))))))))))))))))))))))))
def Q5f c i:=(Q3u c i).m
abbrev Qnk c i:=(Q3u c i).p
def Z9h:Q0b:=mT 121 [] true [.agg Q02.sig,.agg Q0g.sig] [] (λa r=>Q3u (Q02.of (aC a 0)) (Q0g.of (aC a 1))) (λX=>.tup [.agg (Q02.cells (X.1)),.agg (Q1f.cells (X.2))]) (λX=>[])
theorem Z4m:Q04 pG Z9h:=oT (.cons Z7b (.cons Zdr (.cons Qe (.cons Zaa (.cons Ze5 (.cons Zlu (.nil))))))) Tryz.func121 Tryz.call121 [] [] 2
def Qad(c:Q02)(m:List Int):Tree (Q02×(List Int)×Q1f):=
.an (Qdi c m) (.lv (Q0h c m) λ(x0:Int×List Int×Int)=>.br (x0.2.2 !=0) (.lv (Q3a c x0.2.2 c.Pc) λ(x1:Q02)=>.lf (x1,x0.2.1,{C3:=0,C8:=0,D8:=0,Value:=0})) (.an (Qbd x0.1) (.lv (Q11 x0.1) λ(x2:Q0g×Bool)=>.br (!x2.2) (.lv (Q3a c 1 x0.1) λ(x3:Q02)=>.lf (x3,x0.2.1,{C3:=0,C8:=0,D8:=0,Value:=0})) (.lv (Q2j x2.1.Op) λ(x4:Bool)=>let T1:Tree ((Q02×(List Int)×Q1f)):=let T2:Tree ((Q02×(List Int)×Q1f)):=.an (Qx2 c x0.2.1 x2.1) (.lv (Q2q c x0.2.1 x2.1) λ(x7:Q02×List Int)=>.lf (x7.1,x7.2,{C3:=0,C8:=0,D8:=0,Value:=0}));.br (x2.1.Op==32) T2 (.br (x2.1.Op==33) T2 (.br (x2.1.Op==34) T2 (let T3:Tree ((Q02×(List Int)×Q1f)):=.an (Qth c x0.2.1 x2.1) (.lv (Q3n c x0.2.1 x2.1) λ(x10:Q02×List Int)=>.lf (x10.1,x10.2,{C3:=0,C8:=0,D8:=0,Value:=0}));.br (x2.1.Op==35) T3 (.br (x2.1.Op==36) T3 (.an (Qnk c x2.1) (.lv (Q5f c x2.1) λ(x12:Q02×Q1f)=>.lf (x12.1,x0.2.1,x12.2)))))));.br x4 (.lv (Q58 c) λ(x5:Bool)=>.br (!x5) (.lv (Q3a c 2 x0.1) λ(x6:Q02)=>.lf (x6,x0.2.1,{C3:=0,C8:=0,D8:=0,Value:=0})) T1) T1))))
def Q2s c m:=(Qad c m).m
abbrev Qx3 c m:=(Qad c m).p
def Zmo:Q0b:=mT 63 [] true [.agg Q02.sig,.one (.ints .u32)] [] (λa r=>Qad (Q02.of (aC a 0)) (argL .u32 a 1)) (λX=>.tup [.agg (Q02.cells (X.1)),.all 0,.agg (Q1f.cells (X.2.2))]) (λX=>[⟨false,23,1,.ints .u32 (X.2.1)⟩])
theorem Zhz:Q04 pG Zmo:=oT (.cons Qxo (.cons Qe (.cons Qsv (.cons Ql1 (.cons Qu0 (.cons Zj (.cons Zce (.cons Z4m (.nil))))))))) Tryz.func63 Tryz.call63 [.row 23 1 (.ints .u32)] [] 2
end
noncomputable section
def tblYc0:List UInt8:=[(0:UInt8),1,2,2,3,3,3,3,4,4,4,4,4,4,4,4,5,5,5,5,5,5,5,5,5,5,5,5,5,5,5,5,6,6,6,6,6,6,6,6,6,6,6,6,6,6,6,6,6,6,6,6,6,6,6,6,6,6,6,6,6,6,6,6]
def Zg:List UInt8:=[(7:UInt8),7,7,7,7,7,7,7,7,7,7,7,7,7,7,7,7,7,7,7,7,7,7,7,7,7,7,7,7,7,7,7,7,7,7,7,7,7,7,7,7,7,7,7,7,7,7,7,7,7,7,7,7,7,7,7,7,7,7,7,7,7,7,7]
def Qqh:List UInt8:=[(8:UInt8),8,8,8,8,8,8,8,8,8,8,8,8,8,8,8,8,8,8,8,8,8,8,8,8,8,8,8,8,8,8,8,8,8,8,8,8,8,8,8,8,8,8,8,8,8,8,8,8,8,8,8,8,8,8,8,8,8,8,8,8,8,8,8]
def Zjj:List UInt8:=[(1:UInt8),2,2,3,3,3,3,4,4,4,4,4,4,4,4,5,5,5,5,5,5,5,5,5,5,5,5,5,5,5,5,6,6,6,6,6,6,6,6,6,6,6,6,6,6,6,6,6,6,6,6,6,6,6,6,6,6,6,6,6,6,6,6]
def tblYc4:List UInt8:=[(0:UInt8),1,1,2,1,2,2,3,1,2,2,3,2,3,3,4,1,2,2,3,2,3,3,4,2,3,3,4,3,4,4,5,1,2,2,3,2,3,3,4,2,3,3,4,3,4,4,5,2,3,3,4,3,4,4,5,3,4,4,5,4,5,5,6]
def Qqu:List UInt8:=[(1:UInt8),2,2,3,2,3,3,4,2,3,3,4,3,4,4,5,2,3,3,4,3,4,4,5,3,4,4,5,4,5,5,6,2,3,3,4,3,4,4,5,3,4,4,5,4,5,5,6,3,4,4,5,4,5,5,6,4,5,5,6,5,6,6,7]
def Zfu:List UInt8:=[(2:UInt8),3,3,4,3,4,4,5,3,4,4,5,4,5,5,6,3,4,4,5,4,5,5,6,4,5,5,6,5,6,6,7,3,4,4,5,4,5,5,6,4,5,5,6,5,6,6,7,4,5,5,6,5,6,6,7,5,6,6,7,6,7,7,8]
def Zkb:List UInt8:=[(1:UInt8),1,2,1,2,2,3,1,2,2,3,2,3,3,4,1,2,2,3,2,3,3,4,2,3,3,4,3,4,4,5,1,2,2,3,2,3,3,4,2,3,3,4,3,4,4,5,2,3,3,4,3,4,4,5,3,4,4,5,4,5,5,6]
def Quf(c:Q0c):Tree Bool:=
.lf (decide ((c.D0.length:Int)<=(16:Int)))
def Q2v c:=(Quf c).m
def Z89:Q0b:=mS 195 [] true [.agg Q0c.sig] [] (λa r=>Quf (Q0c.of (aC a 0))) (λX=>.bool X) (λX=>[])
theorem Z49:Q04 pG Z89:=oS (.nil) Tryz.func195 Tryz.call195 [] [] 2
def Qlm(t:Q0n):Tree Bool:=
.br t.D4 (.br (!t.D2) (.lf (t.C7 !=0)) (.lf false)) (.br t.D2 (.lf true) (.lf (t.C7==0)))
def Q56 t:=(Qlm t).m
def Zhv:Q0b:=mS 196 [] true [.agg Q0n.sig] [] (λa r=>Qlm (Q0n.of (aC a 0))) (λX=>.bool X) (λX=>[])
theorem Zdl:Q04 pG Zhv:=oS (.nil) Tryz.func196 Tryz.call196 [] [] 2
def Q80(d0:Q0d):Tree Bool:=
.br (d0.D5==1) (.lf (decide (d0.C1=[]))) (.br (d0.D5==2) (.lf ((d0.C1.length:Int)==(128:Int))) (.lf false))
def Q9m d0:=(Q80 d0).m
def Qwh:Q0b:=mS 260 [] true [.agg Q0d.sig] [] (λa r=>Q80 (Q0d.of (aC a 0))) (λX=>.bool X) (λX=>[])
theorem Qug:Q04 pG Qwh:=oS (.nil) Tryz.func260 Tryz.call260 [] [] 2
def Q6k(d0:Q0d)(pages:Int):Tree Bool:=
.br (decide (d0.Blocks>64)) (.lf false) (let T1:Tree (Bool):=.br (d0.D5==0) (.br (d0.B5==0) (.br (d0.B1==0) (.lf (decide (d0.C1=[]))) (.lf false)) (.lf false)) (.lf false);.br (d0.B9==0) T1 (.br (d0.B9==2) T1 (.br (d0.B9==3) T1 (.br (d0.B9==1) (.lv (Q9m d0) λ(x0:Bool)=>.br x0 (.br (decide (d0.B5<d0.Blocks)) (.lf (decide (wrap i64 d0.B1<pages))) (.lf false)) (.lf false)) (.lf false)))))
def Q1m d0 pages:=(Q6k d0 pages).m
def Znc:Q0b:=mS 197 [] true [.agg Q0d.sig,.one (.int .i64)] [] (λa r=>Q6k (Q0d.of (aC a 0)) (argI a 1)) (λX=>.bool X) (λX=>[])
theorem Zi2:Q04 pG Znc:=oS (.cons Qug (.nil)) Tryz.func197 Tryz.call197 [] [] 2
def Qla(n:Q0u)(pages:Int):Tree Bool:=
let T1:Tree (Bool):=let T2:Tree (Bool):=.br n.B7 (.br (decide (n.E0>=1)) (.lf (decide (n.E0<=128))) (.lf false)) (.lf (n.E0==0));.br n.C4 (.br (decide (wrap i64 n.B6>=pages)) (.lf false) T2) (.br (n.B6 !=0) (.lf false) T2);.br n.C4 (.br n.B7 (.lf false) T1) T1
def Q6i n pages:=(Qla n pages).m
def zy:Q0b:=mS 198 [] true [.agg Q0u.sig,.one (.int .i64)] [] (λa r=>Qla (Q0u.of (aC a 0)) (argI a 1)) (λX=>.bool X) (λX=>[])
theorem Zlt:Q04 pG zy:=oS (.nil) Tryz.func198 Tryz.call198 [] [] 2
def Q2i(x:Int):Tree Int:=
let E1:=(↑(dG (cN (cN tblYc0 Zg) (cN Qqh Qqh))):Int);.br (decide (x>=65536)) (.br (decide (ishr u32 x (16:Int)>=(256:Int))) (.cn (decide (0<=wrap u8 (ishr u32 (ishr u32 x 16) 8)/\wrap u8 (ishr u32 (ishr u32 x 16) 8)<E1)) (.lf (wrap i64 (wrap i64 ((16:Int)+(8:Int))+wrap i64 (↑(eQ (aK ((0:UInt8)::(Zjj++Zg++(Qqh++Qqh))) (dB (wrap u8 (ishr u32 (ishr u32 x 16) 8))) (0:UInt8))):Int))))) (.cn (decide (0<=wrap u8 (ishr u32 x 16)/\wrap u8 (ishr u32 x 16)<E1)) (.lf (wrap i64 (16+wrap i64 (↑(eQ (aK ((0:UInt8)::(Zjj++Zg++(Qqh++Qqh))) (dB (wrap u8 (ishr u32 x 16))) (0:UInt8))):Int)))))) (.br (decide (x>=256)) (.cn (decide (0<=wrap u8 (ishr u32 x 8)/\wrap u8 (ishr u32 x 8)<E1)) (.lf (wrap i64 (wrap i64 ((0:Int)+(8:Int))+wrap i64 (↑(eQ (aK ((0:UInt8)::(Zjj++Zg++(Qqh++Qqh))) (dB (wrap u8 (ishr u32 x 8))) (0:UInt8))):Int))))) (.cn (decide (0<=wrap u8 x/\wrap u8 x<E1)) (.lf (wrap i64 (0+wrap i64 (↑(eQ (aK ((0:UInt8)::(Zjj++Zg++(Qqh++Qqh))) (dB (wrap u8 x)) (0:UInt8))):Int))))))
def Q1s x:=(Q2i x).m
abbrev Qig x:=(Q2i x).p
def Qw8:Q0b:=mT 261 [] true [.one (.int .u32)] [] (λa r=>Q2i (argI a 0)) (λX=>.int .i64 X) (λX=>[])
theorem Qu6:Q04 pG Qw8:=oT (.nil) Tryz.func261 Tryz.call261 [] [] 2
def Q71(b:Q06)(pages:Int):Tree Bool:=
.an (Qig b.C0) (.lv (Q1s b.C0) λ(x0:Int)=>.lf (decide (x0<=if 0>pages then 0 else pages)))
def Q37 b pages:=(Q71 b pages).m
abbrev Qiz b pages:=(Q71 b pages).p
def Za3:Q0b:=mT 199 [] true [.agg Q06.sig,.one (.int .i64)] [] (λa r=>Q71 (Q06.of (aC a 0)) (argI a 1)) (λX=>.bool X) (λX=>[])
theorem Z5k:Q04 pG Za3:=oT (.cons Qu6 (.nil)) Tryz.func199 Tryz.call199 [] [] 2
def Q26(m:Q00):Tree Bool:=
.lv (Q1 m.Mem) λ(x0:Int)=>.lv (Q2v m.A3) λ(x1:Bool)=>.br x1 (.lv (Q56 m.B2) λ(x2:Bool)=>.br x2 (.lv (Q1m m.B0 x0) λ(x3:Bool)=>.br x3 (.lv (Q6i m.C2 x0) λ(x4:Bool)=>.br x4 (.an (Qiz m.A1 x0) (.lv (Q37 m.A1 x0) λ(x5:Bool)=>.lf x5)) (.lf false)) (.lf false)) (.lf false)) (.lf false)
def Q16 m:=(Q26 m).m
abbrev Q4e m:=(Q26 m).p
def Qqf:Q0b:=mT 131 [] true [.agg Q00.sig] [] (λa r=>Q26 (Q00.of (aC a 0))) (λX=>.bool X) (λX=>[])
theorem Qox:Q04 pG Qqf:=oT (.cons Q3 (.cons Z49 (.cons Zdl (.cons Zi2 (.cons Zlt (.cons Z5k (.nil))))))) Tryz.func131 Tryz.call131 [] [] 2
def Q6w(m:Q00):Tree Bool:=
.lv (Q1 m.Mem) λ(x0:Int)=>.br (x0==0) (.lf false) (.br (m.A4.X.a0 !=0) (.lf false) (.br (decide (m.A4.B3.a0>31)) (.lf false) (.br (decide (m.A4.B3.a7>31)) (.lf false) (.br (decide (m.A4.B3.a6>255)) (.lf false) (.br (dA m.A4.B3.a1 (4:Int) !=(0:Int)) (.lf false) (.br (decide (m.A2>1152921504606846976)) (.lf false) (.br m.A6 (.br m.A9 (.lf false) (.an (Q4e m) (.lv (Q16 m) λ(x1:Bool)=>.lf x1))) (.an (Q4e m) (.lv (Q16 m) λ(x2:Bool)=>.lf x2)))))))))
def Q10 m:=(Q6w m).m
abbrev Q51 m:=(Q6w m).p
def Z86:Q0b:=mT 68 [] true [.agg Q00.sig] [] (λa r=>Q6w (Q00.of (aC a 0))) (λX=>.bool X) (λX=>[])
theorem Qbn:Q04 pG Z86:=oT (.cons Q3 (.cons Qox (.nil))) Tryz.func68 Tryz.call68 [] [] 2
def Qoo(t:Q0n):Tree Bool:=
.lf t.D2
def Qgn t:=(Qoo t).m
def Z3t:Q0b:=mS 170 [] true [.agg Q0n.sig] [] (λa r=>Qoo (Q0n.of (aC a 0))) (λX=>.bool X) (λX=>[])
theorem Qzd:Q04 pG Z3t:=oS (.nil) Tryz.func170 Tryz.call170 [] [] 2
def Qkl(c:Q0c):Tree Bool:=
.lf (!decide (c.D0=[]))
def Q9f c:=(Qkl c).m
def Qvk:Q0b:=mS 171 [] true [.agg Q0c.sig] [] (λa r=>Qkl (Q0c.of (aC a 0))) (λX=>.bool X) (λX=>[])
theorem Qto:Q04 pG Qvk:=oS (.nil) Tryz.func171 Tryz.call171 [] [] 2
def Qka(d0:Q0d):Tree Bool:=
.br (d0.B9==2) (.lf true) (.lf (d0.B9==3))
def Q9r d0:=(Qka d0).m
def Z52:Q0b:=mS 172 [] true [.agg Q0d.sig] [] (λa r=>Qka (Q0d.of (aC a 0))) (λX=>.bool X) (λX=>[])
theorem Qoa:Q04 pG Z52:=oS (.nil) Tryz.func172 Tryz.call172 [] [] 2
def Qs8(n:Q0u):Tree Bool:=
.lf n.B7
def Qm7 n:=(Qs8 n).m
def Zbj:Q0b:=mS 173 [] true [.agg Q0u.sig] [] (λa r=>Qs8 (Q0u.of (aC a 0))) (λX=>.bool X) (λX=>[])
theorem Z5m:Q04 pG Zbj:=oS (.nil) Tryz.func173 Tryz.call173 [] [] 2
def Q3x(x:Int):Tree Int:=
let E1:=(↑(dG (cN (cN tblYc4 Qqu) (cN Qqu Zfu))):Int);.cn (decide (0<=ishr u32 x 24/\ishr u32 x 24<E1)) (.cn (decide (0<=iand u32 (ishr u32 x 16) 255/\iand u32 (ishr u32 x 16) 255<E1)) (.cn (decide (0<=iand u32 (ishr u32 x 8) 255/\iand u32 (ishr u32 x 8) 255<E1)) (.cn (decide (0<=iand u32 x 255/\iand u32 x 255<E1)) (.lf (wrap i64 (wrap u8 (wrap u8 (wrap u8 ((↑(eQ (aK ((0:UInt8)::(Zkb++Qqu++(Qqu++Zfu))) (dB (ishr u32 x 24)) (0:UInt8))):Int)+(↑(eQ (aK ((0:UInt8)::(Zkb++Qqu++(Qqu++Zfu))) (dB (iand u32 (ishr u32 x 16) 255)) (0:UInt8))):Int))+(↑(eQ (aK ((0:UInt8)::(Zkb++Qqu++(Qqu++Zfu))) (dB (iand u32 (ishr u32 x 8) 255)) (0:UInt8))):Int))+(↑(eQ (aK ((0:UInt8)::(Zkb++Qqu++(Qqu++Zfu))) (dB (iand u32 x 255)) (0:UInt8))):Int))))))))
def Q6z x:=(Q3x x).m
abbrev Qbr x:=(Q3x x).p
def Qma:Q0b:=mT 253 [] true [.one (.int .u32)] [] (λa r=>Q3x (argI a 0)) (λX=>.int .i64 X) (λX=>[])
theorem Ql9:Q04 pG Qma:=oT (.nil) Tryz.func253 Tryz.call253 [] [] 2
def Qa6(b:Q06):Tree Int:=
.an (Qbr b.C0) (.lv (Q6z b.C0) λ(x0:Int)=>.lf x0)
def Qdm b:=(Qa6 b).m
abbrev Qeb b:=(Qa6 b).p
def Z23:Q0b:=mT 191 [] true [.agg Q06.sig] [] (λa r=>Qa6 (Q06.of (aC a 0))) (λX=>.int .i64 X) (λX=>[])
theorem Qmu:Q04 pG Z23:=oT (.cons Ql9 (.nil)) Tryz.func191 Tryz.call191 [] [] 2
def Q5z(b:Q06):Tree Bool:=
.an (Qeb b) (.lv (Qdm b) λ(x0:Int)=>.lf (wrap u32 x0 !=b.C6))
def Q7s b:=(Q5z b).m
abbrev Qha b:=(Q5z b).p
def Qvs:Q0b:=mT 174 [] true [.agg Q06.sig] [] (λa r=>Q5z (Q06.of (aC a 0))) (λX=>.bool X) (λX=>[])
theorem Qtu:Q04 pG Qvs:=oT (.cons Qmu (.nil)) Tryz.func174 Tryz.call174 [] [] 2
def Qi0(m:Q00)(z:(Int)×(Int)):Nat:=(5-z.2).toNat
def Q7w(m:Q00):Tree Int:=
.lv (Qgn m.B2) λ(x0:Bool)=>.lv (Q9f m.A3) λ(x1:Bool)=>.lv (Q9r m.B0) λ(x2:Bool)=>.lv (Qm7 m.C2) λ(x3:Bool)=>.an (Qha m.A1) (.lv (Q7s m.A1) λ(x4:Bool)=>.lp inferInstance (Qi0 m (0,0)+1) ((rE (0:Int)/\(rE (x0:Bool)/\rE (x1:Bool)/\rE (x2:Bool)/\rE (x3:Bool)/\rE (x4:Bool)/\True)/\rE (0:Int)/\True)/\True) (0,0) λ(v0:Int×Int)=>.br (decide (v0.2<5)) (.cn (bT 1 1&&(bT 5 5&&decide (0<=v0.2/\v0.2<(↑5:Int)))) (.br (aK [x0,x1,x2,x3,x4] v0.2.toNat false) (.cn (decide (0<=v0.2)) (.nx ((rE ((ior u32 v0.1 (ishl u32 1 v0.2)):Int)/\(rE (x0:Bool)/\rE (x1:Bool)/\rE (x2:Bool)/\rE (x3:Bool)/\rE (x4:Bool)/\True)/\rE ((wrap i64 (v0.2+1)):Int)/\True)/\True) (Sum.inl (ior u32 v0.1 (ishl u32 1 v0.2),wrap i64 (v0.2+1))))) (.nx ((rE v0.1/\(rE (x0:Bool)/\rE (x1:Bool)/\rE (x2:Bool)/\rE (x3:Bool)/\rE (x4:Bool)/\True)/\rE ((wrap i64 (v0.2+1)):Int)/\True)/\True) (Sum.inl (v0.1,wrap i64 (v0.2+1)))))) (.lf (Sum.inr v0.1)))
def Q3g m:=(Q7w m).m
abbrev Qe6 m:=(Q7w m).p
def Qz4:LInv:={
 α:=(Int)×(Int)
 F:=λst a=>([(4,.int u32 a.1),(23,(lk st 23)),(24,.int i64 a.2)],[])
 a0:=λst=>((lk st 4).toInt,(lk st 24).toInt)
 ex0:=λst=>[]++[]}
def Qsc:List (Nat×LInv):=[(4,Qz4)]
def Z04:Q0b:=mT 108 [] true [.agg Q00.sig] [] (λa r=>Q7w (Q00.of (aC a 0))) (λX=>.int .u32 X) (λX=>[])
theorem Qmy:Q04 pG Z04:=oT (.cons Qzd (.cons Qto (.cons Qoa (.cons Z5m (.cons Qtu (.nil)))))) Tryz.func108 Tryz.call108 [] Qsc 3
def Q3p(m:Q00):Tree Int:=
.an (Qe6 m) (.lv (Q3g m) λ(x0:Int)=>.lf (iand u32 x0 m.A4.B3.a7))
def Q61 m:=(Q3p m).m
abbrev Qc7 m:=(Q3p m).p
def Qw2:Q0b:=mT 117 [] true [.agg Q00.sig] [] (λa r=>Q3p (Q00.of (aC a 0))) (λX=>.int .u32 X) (λX=>[])
theorem Qjg:Q04 pG Qw2:=oT (.cons Qmy (.nil)) Tryz.func117 Tryz.call117 [] [] 2
def Q5v(m:Q00):Tree Bool:=
.br m.A6 (.an (Qc7 m) (.lv (Q61 m) λ(x0:Int)=>.lf (x0==0))) (.lf false)
def Q5 m:=(Q5v m).m
abbrev Qc1 m:=(Q5v m).p
def Z5o:Q0b:=mT 107 [] true [.agg Q00.sig] [] (λa r=>Q5v (Q00.of (aC a 0))) (λX=>.bool X) (λX=>[])
theorem Qoi:Q04 pG Z5o:=oT (.cons Qjg (.nil)) Tryz.func107 Tryz.call107 [] [] 2

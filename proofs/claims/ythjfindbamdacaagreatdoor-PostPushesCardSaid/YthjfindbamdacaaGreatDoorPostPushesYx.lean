import Derived.Test.YthjfindbamdacaaGreatDoorPostPushesBase
open Int renaming tmod->dA,tdiv->eN,toNat->dB
open Nat renaming beq->bT,blt->bJ
open List renaming set->dC,getD->aK,length->dG,append->cN
open UInt8 renaming toNat->eQ
set_option maxRecDepth 100000
set_option linter.all false
namespace Go.Proofs.YthjfindbamdacaaGreatDoor
open Go Go.GD Go.IntKind
noncomputable section
def Q02(s:List Int):(List Int):=
s
def Q07(s:List Int):Prop:=
s.length<=35184372088832
def Q3q(s:List Int):List D:=[.sl 1 (.ints .u32 s) false]
def Q2h(s:List Int):List Row:=[]
def Q1f(X:List Int):D:=.all 0
def Q1d(X:List Int):List Row:=[⟨false,23,1,.ints .u32 X⟩]
def Qcr:List Dir:=[.row 23 1 (.ints .u32)]
def Q6v:List PT:=[.one (.ints .u32)]
def Q6k:List RT:=[]
def Qdg(args:List D)(rows:List Row):(List Int):=Q02 (argL .u32 args 0)
def Qe1(args:List D)(rows:List Row):Prop:=Q07 (argL .u32 args 0)
def Qer:Q09:=mkP 59 [] true Q6v Q6k Qe1 Qdg Q1f Q1d
def Q4l(s:List Int)(Leaf:(List Int)->Prop):Prop:=
(s=[]->Leaf [])/\cand (decide ((4:Nat)*((0:Nat)+s.length)<=(140737488355328:Nat))) (Leaf s)
set_option maxRecDepth 100000 in
theorem Qe9(s:List Int)(Q:D->List Row->Prop):(fnVC tab [] (LL tab [] Tryz.f59.ntmps 0 [] 2) Tryz.f59 (Q3q s) (Q2h s) λd R=>Qcw (Q2h s).length Qcr d R Q)=Q4l s (λX=>Q (Q1f X) (Q1d X)):=by kernel_rfl
theorem Qcd(s:List Int)(Leaf:(List Int)->Prop)(hw:Q07 s)(h:Leaf (Q02 s)):
Q4l s Leaf:=by
 delta Q4l
 refine⟨λe=>by rw[e]at h;exact h,?_⟩
 rw[Q05]
 refine⟨dY ?_,h⟩
 have:s.length<=35184372088832:=hw
 omega
set_option maxRecDepth 100000 in
theorem Qbz(s:List Int)(hw:Q07 s):Q3i pG 59 (Q3q s) (Q2h s) (Q1f (Q02 s)) (Q1d (Q02 s)):=
 have hG:Q7l pG []:=.nil
 FnOK.calls drawn Q0h hG Tryz.func59 (rf:=none) (λ_ _=>trivial) (LL_ok drawn Q0h hG (.inl rfl) 2 (invs:=[])) (FnOK.of (Qe9 s _) (Qcd s (λX=>Q1f X=Q1f (Q02 s)/\Q1d X=Q1d (Q02 s)) hw ⟨rfl,rfl⟩))
set_option maxRecDepth 100000 in
theorem Qcz(args:List D)(rows:List Row):Qlq Q6v args 0=Q3q (argL .u32 args 0):=by kernel_rfl
set_option maxRecDepth 100000 in
theorem Qby(args:List D)(rows:List Row):Qa0 Q6k rows 0=Q2h (argL .u32 args 0):=by kernel_rfl
set_option maxRecDepth 100000 in
theorem Qeb(X:List Int):(ffB (Q1f X)&&ffBR (Q1d X))=true:=by kernel_rfl
theorem Q14:Q04 pG Qer:=Qy9 Tryz.call59 (λargs rows hp=>by rw[Qcz args rows,Qby args rows];exact Qbz (argL .u32 args 0) hp) (λ_ X=>Qeb X)
def Q7n(m:List Int):Tree Int:=
.br (dA (m.length:Int) (32:Int) !=(0:Int)) (.lf 0) (.br (decide ((m.length:Int)>(1024:Int))) (.lf 0) (.lf (wrap i64 (eN (m.length:Int) 32))))
def Q0m m:=(Q7n m).m
def Z0q:Q09:=mS 14 [] true [.one (.ints .u32)] [] (λa r=>Q7n (argL .u32 a 0)) (λX=>.int .i64 X) (λX=>[])
theorem Q1w:Q04 pG Z0q:=oS (.nil) Tryz.func14 Tryz.call14 [] [] 2
def Q55(m:List Int)(addr size:Int):Tree Bool:=
let T1:Tree (Bool):=.cn (decide (wrap u32 size≠0)) (.br (dA addr (wrap u32 size) !=0) (.lf false) (.lv (Q0m m) λ(x0:Int)=>.lf (decide (wrap u64 (wrap u64 addr+wrap u64 size)<=wrap u64 (wrap u64 x0*128)))));.br (size !=1) (.br (size !=4) (.lf false) T1) T1
def Q4j m addr size:=(Q55 m addr size).m
abbrev Qc8 m addr size:=(Q55 m addr size).p
def Qx5:Q09:=mT 247 [] true [.one (.ints .u32),.one (.int .u32),.one (.int .i64)] [] (λa r=>Q55 (argL .u32 a 0) (argI a 1) (argI a 2)) (λX=>.bool X) (λX=>[])
theorem Qkg:Q04 pG Qx5:=oT (.cons Q1w (.nil)) Tryz.func247 Tryz.call247 [] [] 2
def Qfs(n:Int):Tree Int:=
.br (decide (n>=32)) (.lf 4294967295) (.cn (decide (0<=wrap u64 n)) (.lf (wrap u32 (ishl u32 1 (wrap u64 n)-1))))
def Qxd n:=(Qfs n).m
abbrev Qkf n:=(Qfs n).p
def Zco:Q09:=mT 248 [] true [.one (.int .i64)] [] (λa r=>Qfs (argI a 0)) (λX=>.int .u32 X) (λX=>[])
theorem Qug:Q04 pG Zco:=oT (.nil) Tryz.func248 Tryz.call248 [] [] 2
def Qdr(w low n:Int):Tree Int:=
.br (decide (low<0)) (.lf 0) (.br (decide (low>31)) (.lf 0) (.br (decide (n<1)) (.lf 0) (.cn (decide (0<=wrap u64 low)) (.an (Qkf n) (.lv (Qxd n) λ(x0:Int)=>.lf (iand u32 (ishr u32 w (wrap u64 low)) x0))))))
def Q2t w low n:=(Qdr w low n).m
abbrev Q6 w low n:=(Qdr w low n).p
def Z9p:Q09:=mT 179 [] true [.one (.int .u32),.one (.int .i64),.one (.int .i64)] [] (λa r=>Qdr (argI a 0) (argI a 1) (argI a 2)) (λX=>.int .u32 X) (λX=>[])
theorem Qkc:Q04 pG Z9p:=oT (.cons Qug (.nil)) Tryz.func179 Tryz.call179 [] [] 2
def Q89(w low n v:Int):Tree Int:=
.br (decide (low<0)) (.lf w) (.br (decide (low>31)) (.lf w) (.br (decide (n<1)) (.lf w) (.an (Qkf n) (.lv (Qxd n) λ(x0:Int)=>.cn (decide (0<=wrap u64 low)) (.cn (decide (0<=wrap u64 low)) (.lf (ior u32 (Q7f u32 w (ishl u32 x0 (wrap u64 low))) (ishl u32 (iand u32 v x0) (wrap u64 low)))))))))
def Q76 w low n v:=(Q89 w low n v).m
abbrev Qje w low n v:=(Q89 w low n v).p
def Qzp:Q09:=mT 250 [] true [.one (.int .u32),.one (.int .i64),.one (.int .i64),.one (.int .u32)] [] (λa r=>Q89 (argI a 0) (argI a 1) (argI a 2) (argI a 3)) (λX=>.int .u32 X) (λX=>[])
theorem Qvb:Q04 pG Qzp:=oT (.cons Qug (.nil)) Tryz.func250 Tryz.call250 [] [] 2
def Q7w(m:List Int)(addr size v:Int):Tree ((List Int)×Bool):=
.an (Q07 m) (.lv (Q02 m) λ(x0:List Int)=>.an (Qc8 m addr size) (.lv (Q4j m addr size) λ(x1:Bool)=>.br (!x1) (.lf (x0,false)) (let E1:=bT 1 1&&bJ 0 1&&decide (0<=wrap u32 (eN addr 4)/\wrap u32 (eN addr 4)<(x0.length:Int));let E2:=dB (wrap u32 (eN addr 4));.br (size==1) (.cn E1 (let E3:=wrap i64 (wrap i64 (dA addr 4)*8);.an (Qje (x0.getD E2 0) E3 8 v) (.lv (Q76 (x0.getD E2 0) E3 8 v) λ(x2:Int)=>.cn E1 (.lf (dC x0 E2 x2,true))))) (.cn E1 (.lf (dC x0 E2 v,true))))))
def Q3d m addr size v:=(Q7w m addr size v).m
abbrev Qae m addr size v:=(Q7w m addr size v).p
def Z1v:Q09:=mT 186 [] true [.one (.ints .u32),.one (.int .u32),.one (.int .i64),.one (.int .u32)] [] (λa r=>Q7w (argL .u32 a 0) (argI a 1) (argI a 2) (argI a 3)) (λX=>.tup [.all 0,.bool (X.2)]) (λX=>[⟨false,23,1,.ints .u32 (X.1)⟩])
theorem Ql5:Q04 pG Z1v:=oT (.cons Q14 (.cons Qkg (.cons Qvb (.nil)))) Tryz.func186 Tryz.call186 [.row 23 1 (.ints .u32)] [] 2
def Z9n(op:Int):Tree (Q81×Bool):=
.br (op==1) (.lf ({a:=true,b:=true,c:=true,low:=0,D1:=0},true)) (.br (op==2) (.lf ({a:=true,b:=true,c:=true,low:=0,D1:=0},true)) (.br (op==3) (.lf ({a:=true,b:=true,c:=true,low:=0,D1:=0},true)) (.br (op==4) (.lf ({a:=true,b:=true,c:=true,low:=0,D1:=0},true)) (.br (op==5) (.lf ({a:=true,b:=true,c:=true,low:=0,D1:=0},true)) (.br (op==6) (.lf ({a:=true,b:=true,c:=true,low:=0,D1:=0},true)) (.br (op==7) (.lf ({a:=true,b:=true,c:=true,low:=0,D1:=0},true)) (.br (op==8) (.lf ({a:=true,b:=true,c:=true,low:=0,D1:=0},true)) (.br (op==9) (.lf ({a:=true,b:=true,c:=true,low:=0,D1:=0},true)) (.br (op==10) (.lf ({a:=true,b:=true,c:=true,low:=0,D1:=0},true)) (.br (op==11) (.lf ({a:=true,b:=true,c:=true,low:=0,D1:=0},true)) (.br (op==12) (.lf ({a:=true,b:=true,c:=true,low:=0,D1:=0},true)) (.br (op==13) (.lf ({a:=true,b:=true,c:=true,low:=0,D1:=0},true)) (.br (op==16) (.lf ({a:=true,b:=true,c:=false,low:=(-32768),D1:=32767},true)) (.br (op==23) (.lf ({a:=true,b:=true,c:=false,low:=(-32768),D1:=32767},true)) (.br (op==32) (.lf ({a:=true,b:=true,c:=false,low:=(-32768),D1:=32767},true)) (.br (op==33) (.lf ({a:=true,b:=true,c:=false,low:=(-32768),D1:=32767},true)) (.br (op==34) (.lf ({a:=true,b:=true,c:=false,low:=(-32768),D1:=32767},true)) (.br (op==35) (.lf ({a:=true,b:=true,c:=false,low:=(-32768),D1:=32767},true)) (.br (op==36) (.lf ({a:=true,b:=true,c:=false,low:=(-32768),D1:=32767},true)) (.br (op==40) (.lf ({a:=true,b:=true,c:=false,low:=(-32768),D1:=32767},true)) (.br (op==41) (.lf ({a:=true,b:=true,c:=false,low:=(-32768),D1:=32767},true)) (.br (op==42) (.lf ({a:=true,b:=true,c:=false,low:=(-32768),D1:=32767},true)) (.br (op==43) (.lf ({a:=true,b:=true,c:=false,low:=(-32768),D1:=32767},true)) (.br (op==44) (.lf ({a:=true,b:=true,c:=false,low:=(-32768),D1:=32767},true)) (.br (op==45) (.lf ({a:=true,b:=true,c:=false,low:=(-32768),D1:=32767},true)) (.br (op==49) (.lf ({a:=true,b:=true,c:=false,low:=(-32768),D1:=32767},true)) (.br (op==17) (.lf ({a:=true,b:=true,c:=false,low:=0,D1:=65535},true)) (.br (op==18) (.lf ({a:=true,b:=true,c:=false,low:=0,D1:=65535},true)) (.br (op==19) (.lf ({a:=true,b:=true,c:=false,low:=0,D1:=65535},true)) (.br (op==20) (.lf ({a:=true,b:=true,c:=false,low:=0,D1:=31},true)) (.br (op==21) (.lf ({a:=true,b:=true,c:=false,low:=0,D1:=31},true)) (.br (op==22) (.lf ({a:=true,b:=true,c:=false,low:=0,D1:=31},true)) (.br (op==24) (.lf ({a:=true,b:=false,c:=false,low:=0,D1:=65535},true)) (.br (op==48) (.lf ({a:=true,b:=false,c:=false,low:=(-32768),D1:=32767},true)) (.br (op==58) (.lf ({a:=true,b:=false,c:=false,low:=0,D1:=7},true)) (.br (op==59) (.lf ({a:=true,b:=false,c:=false,low:=0,D1:=7},true)) (.br (op==60) (.lf ({a:=true,b:=false,c:=false,low:=0,D1:=11},true)) (.br (op==61) (.lf ({a:=true,b:=false,c:=false,low:=0,D1:=11},true)) (.br (op==56) (.lf ({a:=false,b:=false,c:=false,low:=0,D1:=0},true)) (.br (op==57) (.lf ({a:=false,b:=false,c:=false,low:=0,D1:=0},true)) (.br (op==62) (.lf ({a:=false,b:=false,c:=false,low:=0,D1:=0},true)) (.br (op==63) (.lf ({a:=false,b:=false,c:=false,low:=0,D1:=0},true)) (.br (op==64) (.lf ({a:=false,b:=false,c:=false,low:=0,D1:=0},true)) (.lf ({a:=false,b:=false,c:=false,low:=0,D1:=0},false)))))))))))))))))))))))))))))))))))))))))))))
def Qzf op:=(Z9n op).m
def qv:Q09:=mS 180 [] true [.one (.int .i64)] [] (λa r=>Z9n (argI a 0)) (λX=>.tup [.agg (Q81.cells (X.1)),.bool (X.2)]) (λX=>[])
theorem Z4a:Q04 pG qv:=oS (.nil) Tryz.func180 Tryz.call180 [] [] 2
def Q6h(x n:Int):Tree Int:=
.br (decide (n<1)) (.lf 0) (.br (decide (n>=32)) (.lf x) (let E1:=decide (0<=wrap u64 (wrap i64 (32-n)));.cn E1 (.cn E1 (.lf (wrap u32 (ishr i32 (wrap i32 (ishl u32 x (wrap u64 (wrap i64 (32-n))))) (wrap u64 (wrap i64 (32-n)))))))))
def Q2a x n:=(Q6h x n).m
abbrev Qak x n:=(Q6h x n).p
def Qt7:Q09:=mT 181 [] true [.one (.int .u32),.one (.int .i64)] [] (λa r=>Q6h (argI a 0) (argI a 1)) (λX=>.int .u32 X) (λX=>[])
theorem Qhh:Q04 pG Qt7:=oT (.nil) Tryz.func181 Tryz.call181 [] [] 2
def Qd0(r:Int)(used:Bool):Tree Bool:=
.br used (.br (decide (r>=0)) (.lf (decide (r<=15))) (.lf false)) (.lf (r==0))
def Q88 r used:=(Qd0 r used).m
def Z1f:Q09:=mS 249 [] true [.one (.int .i64),.one (.bool)] [] (λa r=>Qd0 (argI a 0) (argB a 1)) (λX=>.bool X) (λX=>[])
theorem Qz1:Q04 pG Z1f:=oS (.nil) Tryz.func249 Tryz.call249 [] [] 2
def Qff(i:Q0f):Tree Bool:=
.lv (Qzf i.Op) λ(x0:Q81×Bool)=>.br x0.2 (.lv (Q88 i.A x0.1.a) λ(x1:Bool)=>.br x1 (.lv (Q88 i.B x0.1.b) λ(x2:Bool)=>.br x2 (.lv (Q88 i.C x0.1.c) λ(x3:Bool)=>.br x3 (.br (decide (i.Imm>=x0.1.low)) (.lf (decide (i.Imm<=x0.1.D1))) (.lf false)) (.lf false)) (.lf false)) (.lf false)) (.lf false)
def Qdi i:=(Qff i).m
def Zeo:Q09:=mS 182 [] true [.agg Q0f.sig] [] (λa r=>Qff (Q0f.of (aC a 0))) (λX=>.bool X) (λX=>[])
theorem Zaj:Q04 pG Zeo:=oS (.cons Z4a (.cons Qz1 (.nil))) Tryz.func182 Tryz.call182 [] [] 2
def Qap(w:Int):Tree (Q0f×Bool):=
.an (Q6 w 24 8) (.lv (Q2t w 24 8) λ(x0:Int)=>.an (Q6 w 20 4) (.lv (Q2t w 20 4) λ(x1:Int)=>.an (Q6 w 16 4) (.lv (Q2t w 16 4) λ(x2:Int)=>.lv (Qzf (wrap i64 x0)) λ(x3:Q81×Bool)=>let E1:=({Op:=0,A:=0,B:=0,C:=0,Imm:=0}:Q0f);.br (!x3.2) (.lf (E1,false)) (.an (Q6 w 0 16) (.lv (Q2t w 0 16) λ(x4:Int)=>.br x3.1.c (let E2:=({Op:=wrap i64 x0,A:=wrap i64 x1,B:=wrap i64 x2,C:=wrap i64 x4,Imm:=0}:Q0f);.lv (Qdi E2) λ(x5:Bool)=>.br (!x5) (.lf (E1,false)) (.lf (E2,true))) (.br (decide (x3.1.low<0)) (.an (Qak x4 16) (.lv (Q2a x4 16) λ(x6:Int)=>let E3:=({Op:=wrap i64 x0,A:=wrap i64 x1,B:=wrap i64 x2,C:=0,Imm:=wrap i32 x6}:Q0f);.lv (Qdi E3) λ(x7:Bool)=>.br (!x7) (.lf (E1,false)) (.lf (E3,true)))) (let E4:=({Op:=wrap i64 x0,A:=wrap i64 x1,B:=wrap i64 x2,C:=0,Imm:=wrap i32 x4}:Q0f);.lv (Qdi E4) λ(x8:Bool)=>.br (!x8) (.lf (E1,false)) (.lf (E4,true)))))))))
def Q1j w:=(Qap w).m
abbrev Qa6 w:=(Qap w).p
def Zaq:Q09:=mT 112 [] true [.one (.int .u32)] [] (λa r=>Qap (argI a 0)) (λX=>.tup [.agg (Q0f.cells (X.1)),.bool (X.2)]) (λX=>[])
theorem Qpu:Q04 pG Zaq:=oT (.cons Qkc (.cons Z4a (.cons Qhh (.cons Zaj (.nil))))) Tryz.func112 Tryz.call112 [] [] 2
def Q9i(a b:Int):Tree (Int×Int):=
.br (b==0) (.lf (4294967295,a)) (let T1:Tree ((Int×Int)):=.cn (decide (wrap i32 b≠0)) (.cn (decide (wrap i32 b≠0)) (.lf (wrap u32 (wrap i32 (eN (wrap i32 a) (wrap i32 b))),wrap u32 (dA (wrap i32 a) (wrap i32 b)))));.br (a==2147483648) (.br (b==4294967295) (.lf (a,0)) T1) T1)
def Qah a b:=(Q9i a b).m
abbrev Qfi a b:=(Q9i a b).p
def Z7r:Q09:=mT 251 [] true [.one (.int .u32),.one (.int .u32)] [] (λa r=>Q9i (argI a 0) (argI a 1)) (λX=>.tup [.int .u32 (X.1),.int .u32 (X.2)]) (λX=>[])
theorem Z1w:Q04 pG Z7r:=oT (.nil) Tryz.func251 Tryz.call251 [] [] 2
def Qx4(b:Bool):Tree Int:=
.br b (.lf 1) (.lf 0)
def Qlh b:=(Qx4 b).m
def Zct:Q09:=mS 252 [] true [.one (.bool)] [] (λa r=>Qx4 (argB a 0)) (λX=>.int .u32 X) (λX=>[])
theorem Z9y:Q04 pG Zct:=oS (.nil) Tryz.func252 Tryz.call252 [] [] 2
def Qmd(op a b:Int):Tree (Int×Bool):=
.br (op==2) (.lf (wrap u32 (a+wrap u32 (0-b)),true)) (.br (op==1) (.lf (wrap u32 (a+b),true)) (.br (op==16) (.lf (wrap u32 (a+b),true)) (.br (op==3) (.lf (iand u32 a b,true)) (.br (op==17) (.lf (iand u32 a b,true)) (.br (op==4) (.lf (ior u32 a b,true)) (.br (op==18) (.lf (ior u32 a b,true)) (.br (op==5) (.lf (ixor u32 a b,true)) (.br (op==19) (.lf (ixor u32 a b,true)) (.br (op==6) (.lf (ishl u32 a (iand u32 b 31),true)) (.br (op==20) (.lf (ishl u32 a (iand u32 b 31),true)) (.br (op==7) (.lf (ishr u32 a (iand u32 b 31),true)) (.br (op==21) (.lf (ishr u32 a (iand u32 b 31),true)) (let E1:=(wrap u32 (ishr i32 (wrap i32 a) (iand u32 b 31)),true);.br (op==8) (.lf E1) (.br (op==22) (.lf E1) (.br (op==9) (.lf (wrap u32 (a*b),true)) (.br (op==10) (.an (Qfi a b) (.lv (Qah a b) λ(x0:Int×Int)=>.lf (x0.1,true))) (.br (op==11) (.an (Qfi a b) (.lv (Qah a b) λ(x1:Int×Int)=>.lf (x1.2,true))) (.br (op==12) (.lv (Qlh (decide (wrap i32 a<wrap i32 b))) λ(x2:Int)=>.lf (x2,true)) (.br (op==23) (.lv (Qlh (decide (wrap i32 a<wrap i32 b))) λ(x3:Int)=>.lf (x3,true)) (.br (op==13) (.lv (Qlh (decide (a<b))) λ(x4:Int)=>.lf (x4,true)) (.lf (0,false))))))))))))))))))))))
def Q43 op a b:=(Qmd op a b).m
abbrev Qou op a b:=(Qmd op a b).p
def xv:Q09:=mT 190 [] true [.one (.int .i64),.one (.int .u32),.one (.int .u32)] [] (λa r=>Qmd (argI a 0) (argI a 1) (argI a 2)) (λX=>.tup [.int .u32 (X.1),.bool (X.2)]) (λX=>[])
theorem Zgs:Q04 pG xv:=oT (.cons Z1w (.cons Z9y (.nil))) Tryz.func190 Tryz.call190 [] [] 2
end
noncomputable section
def Qnk(status from0 to:Int):Tree Int:=
.br (iand u32 status from0 !=0) (.lf (ior u32 status to)) (.lf (Q7f u32 status to))
def Q82 status from0 to:=(Qnk status from0 to).m
def Zi0:Q09:=mS 175 [] true [.one (.int .u32),.one (.int .u32),.one (.int .u32)] [] (λa r=>Qnk (argI a 0) (argI a 1) (argI a 2)) (λX=>.int .u32 X) (λX=>[])
theorem Qza:Q04 pG Zi0:=oS (.nil) Tryz.func175 Tryz.call175 [] [] 2
def Qj8(c:Q01)(cause bad:Int):Tree Q01:=
.lv (Q82 c.B3.a0 1 8) λ(x0:Int)=>.lv (Q82 x0 2 16) λ(x1:Int)=>.lf ({X:=c.X,Pc:=c.B3.a1,B3:={a0:=Q7f u32 (ior u32 x1 1) 2,a1:=c.B3.a1,a2:=c.Pc,a3:=wrap u32 cause,a4:=bad,a5:=c.B3.a5,a6:=c.B3.a6,a7:=c.B3.a7}})
def Q2x c cause bad:=(Qj8 c cause bad).m
def Zh0:Q09:=mS 109 [] true [.agg Q01.sig,.one (.int .i64),.one (.int .u32)] [] (λa r=>Qj8 (Q01.of (aC a 0)) (argI a 1) (argI a 2)) (λX=>.agg (Q01.cells X)) (λX=>[])
theorem Qc2:Q04 pG Zh0:=oS (.cons Qza (.nil)) Tryz.func109 Tryz.call109 [] [] 2
def Qq7(access:Int):Tree (Int×Bool):=
.br (access==1) (.lf (4,true)) (.br (access==2) (.lf (5,true)) (.br (access==3) (.lf (6,true)) (.lf (5,false))))
def Qpb access:=(Qq7 access).m
def Z52:Q09:=mS 245 [] true [.one (.int .i64)] [] (λa r=>Qq7 (argI a 0)) (λX=>.tup [.int .i64 (X.1),.bool (X.2)]) (λX=>[])
theorem Z1d:Q04 pG Z52:=oS (.nil) Tryz.func245 Tryz.call245 [] [] 2
def Qv3(c:Q01):Tree Bool:=
.lf (iand u32 c.B3.a0 (1:Int) !=(0:Int))
def Qav c:=(Qv3 c).m
def Z9j:Q09:=mS 118 [] true [.agg Q01.sig] [] (λa r=>Qv3 (Q01.of (aC a 0))) (λX=>.bool X) (λX=>[])
theorem Qq2:Q04 pG Z9j:=oS (.nil) Tryz.func118 Tryz.call118 [] [] 2
def Qkw(access:Int):Tree (Int×Bool):=
.br (access==1) (.lf (4,true)) (.br (access==2) (.lf (5,true)) (.br (access==3) (.lf (6,true)) (.lf (5,false))))
def Q4u access:=(Qkw access).m
def Qvc:Q09:=mS 241 [] true [.one (.int .i64)] [] (λa r=>Qkw (argI a 0)) (λX=>.tup [.int .i64 (X.1),.bool (X.2)]) (λX=>[])
theorem Qs2:Q04 pG Qvc:=oS (.nil) Tryz.func241 Tryz.call241 [] [] 2
def Qgb(m:List Int)(frame:Int):Tree Bool:=
.lv (Q0m m) λ(x0:Int)=>.lf (decide (wrap u64 frame<wrap u64 x0))
def Q37 m frame:=(Qgb m frame).m
def Qy3:Q09:=mS 242 [] true [.one (.ints .u32),.one (.int .u32)] [] (λa r=>Qgb (argL .u32 a 0) (argI a 1)) (λX=>.bool X) (λX=>[])
theorem Qvx:Q04 pG Qy3:=oS (.cons Q1w (.nil)) Tryz.func242 Tryz.call242 [] [] 2
def Q94(m:List Int)(addr size:Int):Tree (Int×Bool):=
.an (Qc8 m addr size) (.lv (Q4j m addr size) λ(x0:Bool)=>.br (!x0) (.lf (0,false)) (.cn (bT 1 1&&bJ 0 1&&decide (0<=wrap u32 (eN addr 4)/\wrap u32 (eN addr 4)<(m.length:Int))) (let E1:=dB (wrap u32 (eN addr 4));.br (size==1) (let E2:=wrap i64 (wrap i64 (dA addr 4)*8);.an (Q6 (m.getD E1 0) E2 8) (.lv (Q2t (m.getD E1 0) E2 8) λ(x1:Int)=>.lf (x1,true))) (.lf (m.getD E1 0,true)))))
def Q2b m addr size:=(Q94 m addr size).m
abbrev Q42 m addr size:=(Q94 m addr size).p
def Z67:Q09:=mT 178 [] true [.one (.ints .u32),.one (.int .u32),.one (.int .i64)] [] (λa r=>Q94 (argL .u32 a 0) (argI a 1) (argI a 2)) (λX=>.tup [.int .u32 (X.1),.bool (X.2)]) (λX=>[])
theorem Q9v:Q04 pG Z67:=oT (.cons Qkg (.cons Qkc (.nil))) Tryz.func178 Tryz.call178 [] [] 2
def Ql1(pte access:Int):Tree Bool:=
.br (iand u32 pte (1:Int)==(0:Int)) (.lf false) (.br (access==3) (.lf (iand u32 pte (2:Int) !=(0:Int))) (.br (access==1) (.lf (iand u32 pte (4:Int) !=(0:Int))) (.lf true)))
def Q2v pte access:=(Ql1 pte access).m
def Qw9:Q09:=mS 243 [] true [.one (.int .u32),.one (.int .i64)] [] (λa r=>Ql1 (argI a 0) (argI a 1)) (λX=>.bool X) (λX=>[])
theorem Qss:Q04 pG Qw9:=oS (.nil) Tryz.func243 Tryz.call243 [] [] 2
def Q7c(pte:Int):Tree Int:=
.an (Q6 pte 8 8) (.lv (Q2t pte 8 8) λ(x0:Int)=>.lf x0)
def Q3w pte:=(Q7c pte).m
abbrev Qbm pte:=(Q7c pte).p
def Qvq:Q09:=mT 244 [] true [.one (.int .u32)] [] (λa r=>Q7c (argI a 0)) (λX=>.int .u32 X) (λX=>[])
theorem Qsv:Q04 pG Qvq:=oT (.cons Qkc (.nil)) Tryz.func244 Tryz.call244 [] [] 2
def Q93(m:List Int)(root va access:Int):Tree Q0w:=
.lv (Q4u access) λ(x0:Int×Bool)=>let E1:=({Addr:=0,D9:=0,D6:=x0.1}:Q0w);.br (!x0.2) (.lf (E1)) (.br (decide (va>=4096)) (.lf (E1)) (.lv (Q37 m root) λ(x1:Bool)=>.br (!x1) (.lf (E1)) (let E2:=wrap u32 (root*128)+wrap u32 (4*wrap u32 (eN va 128));.an (Q42 m (wrap u32 E2) 4) (.lv (Q2b m (wrap u32 E2) 4) λ(x2:Int×Bool)=>.br (!x2.2) (.lf (E1)) (.lv (Q2v x2.1 access) λ(x3:Bool)=>.br (!x3) (.lf (E1)) (.an (Qbm x2.1) (.lv (Q3w x2.1) λ(x4:Int)=>.lv (Q37 m x4) λ(x5:Bool)=>.br (!x5) (.lf (E1)) (.an (Qbm x2.1) (.lv (Q3w x2.1) λ(x6:Int)=>.lf ({Addr:=wrap u32 (wrap u32 (x6*128)+dA va 128),D9:=wrap u32 E2,D6:=0}))))))))))
def Q2m m root va access:=(Q93 m root va access).m
abbrev Qbn m root va access:=(Q93 m root va access).p
def Z7o:Q09:=mT 176 [] true [.one (.ints .u32),.one (.int .u32),.one (.int .u32),.one (.int .i64)] [] (λa r=>Q93 (argL .u32 a 0) (argI a 1) (argI a 2) (argI a 3)) (λX=>.agg (Q0w.cells X)) (λX=>[])
theorem Qof:Q04 pG Z7o:=oT (.cons Qs2 (.cons Qvx (.cons Q9v (.cons Qss (.cons Qsv (.nil)))))) Tryz.func176 Tryz.call176 [] [] 2
def Q7p(m:List Int)(entry access:Int):Tree (List Int):=
.an (Q42 m entry 4) (.lv (Q2b m entry 4) λ(x0:Int×Bool)=>.br (!x0.2) (.an (Q07 m) (.lv (Q02 m) λ(x1:List Int)=>.lf x1)) (.br (access==3) (.an (Qae m entry 4 (ior u32 (ior u32 x0.1 8) 16)) (.lv (Q3d m entry 4 (ior u32 (ior u32 x0.1 8) 16)) λ(x2:List Int×Bool)=>.lf x2.1)) (.an (Qae m entry 4 (ior u32 x0.1 8)) (.lv (Q3d m entry 4 (ior u32 x0.1 8)) λ(x3:List Int×Bool)=>.lf x3.1))))
def Q41 m entry access:=(Q7p m entry access).m
abbrev Qed m entry access:=(Q7p m entry access).p
def Z21:Q09:=mT 246 [] true [.one (.ints .u32),.one (.int .u32),.one (.int .i64)] [] (λa r=>Q7p (argL .u32 a 0) (argI a 1) (argI a 2)) (λX=>.all 0) (λX=>[⟨false,23,1,.ints .u32 X⟩])
theorem Z08:Q04 pG Z21:=oT (.cons Q9v (.cons Q14 (.cons Ql5 (.nil)))) Tryz.func246 Tryz.call246 [.row 23 1 (.ints .u32)] [] 2
def Q9l(c:Q01)(m:List Int)(va size access:Int):Tree (Int×(List Int)×Int):=
.lv (Qpb access) λ(x0:Int×Bool)=>let T3:Tree ((Int×(List Int)×Int)):=.an (Q07 m) (.lv (Q02 m) λ(x1:List Int)=>.lf (0,x1,5));.br (!x0.2) T3 (let T1:Tree ((Int×(List Int)×Int)):=.cn (decide (wrap u32 size≠0)) (.br (dA va (wrap u32 size) !=0) (.an (Q07 m) (.lv (Q02 m) λ(x3:List Int)=>.lf (0,x3,3))) (.lv (Qav c) λ(x4:Bool)=>let T2:Tree ((Int×(List Int)×Int)):=.an (Q42 m va size) (.lv (Q2b m va size) λ(x8:Int×Bool)=>.br (!x8.2) (.an (Q07 m) (.lv (Q02 m) λ(x9:List Int)=>.lf (0,x9,x0.1))) (.an (Q07 m) (.lv (Q02 m) λ(x10:List Int)=>.lf (va,x10,0))));.br (!x4) (.br (iand u32 c.B3.a0 (4:Int) !=(0:Int)) (.an (Qbn m c.B3.a6 va access) (.lv (Q2m m c.B3.a6 va access) λ(x5:Q0w)=>.br (x5.D6 !=0) (.an (Q07 m) (.lv (Q02 m) λ(x6:List Int)=>.lf (0,x6,x5.D6))) (.an (Qed m x5.D9 access) (.lv (Q41 m x5.D9 access) λ(x7:List Int)=>.lf (x5.Addr,x7,0))))) T2) T2));.br (size !=1) (.br (size !=4) T3 T1) T1)
def Q1t c m va size access:=(Q9l c m va size access).m
abbrev Qb2 c m va size access:=(Q9l c m va size access).p
def Z5y:Q09:=mT 177 [] true [.agg Q01.sig,.one (.ints .u32),.one (.int .u32),.one (.int .i64),.one (.int .i64)] [] (λa r=>Q9l (Q01.of (aC a 0)) (argL .u32 a 1) (argI a 2) (argI a 3) (argI a 4)) (λX=>.tup [.int .u32 (X.1),.all 0,.int .i64 (X.2.2)]) (λX=>[⟨false,23,1,.ints .u32 (X.2.1)⟩])
theorem Qi9:Q04 pG Z5y:=oT (.cons Z1d (.cons Q14 (.cons Qq2 (.cons Qof (.cons Z08 (.cons Q9v (.nil))))))) Tryz.func177 Tryz.call177 [.row 23 1 (.ints .u32)] [] 2
def Qh0(c:Q01)(m:List Int):Tree (Int×(List Int)×Int):=
.an (Qb2 c m c.Pc 4 1) (.lv (Q1t c m c.Pc 4 1) λ(x0:Int×List Int×Int)=>.br (x0.2.2 !=0) (.lf (0,x0.2.1,x0.2.2)) (.an (Q42 x0.2.1 x0.1 4) (.lv (Q2b x0.2.1 x0.1 4) λ(x1:Int×Bool)=>.lf (x1.1,x0.2.1,0))))
def Q1i c m:=(Qh0 c m).m
abbrev Qbw c m:=(Qh0 c m).p
def Zcr:Q09:=mT 111 [] true [.agg Q01.sig,.one (.ints .u32)] [] (λa r=>Qh0 (Q01.of (aC a 0)) (argL .u32 a 1)) (λX=>.tup [.int .u32 (X.1),.all 0,.int .i64 (X.2.2)]) (λX=>[⟨false,23,1,.ints .u32 (X.2.1)⟩])
theorem Qul:Q04 pG Zcr:=oT (.cons Qi9 (.cons Q9v (.nil))) Tryz.func111 Tryz.call111 [.row 23 1 (.ints .u32)] [] 2
def Qkn(op:Int):Tree Bool:=
.br (op==57) (.lf true) (.br (op==58) (.lf true) (.br (op==59) (.lf true) (.br (op==60) (.lf true) (.br (op==61) (.lf true) (.br (op==62) (.lf true) (.br (op==63) (.lf true) (.br (op==64) (.lf true) (.lf false))))))))
def Q2e op:=(Qkn op).m
def Qw3:Q09:=mS 114 [] true [.one (.int .i64)] [] (λa r=>Qkn (argI a 0)) (λX=>.bool X) (λX=>[])
theorem Qjb:Q04 pG Qw3:=oS (.nil) Tryz.func114 Tryz.call114 [] [] 2
def Qol(op:Int):Tree Int:=
.br (op==32) (.lf 4) (.br (op==35) (.lf 4) (.lf 1))
def Qe op:=(Qol op).m
def Ze6:Q09:=mS 184 [] true [.one (.int .i64)] [] (λa r=>Qol (argI a 0)) (λX=>.int .i64 X) (λX=>[])
theorem Quj:Q04 pG Ze6:=oS (.nil) Tryz.func184 Tryz.call184 [] [] 2
def Qbb(c:Q01)(register v:Int):Tree Q01:=
.br (register !=0) (.cn (bJ 0 1&&decide (0<=register/\register<(↑16:Int))) (.lf ({X:=A16.of 0 (dC (A16.l c.X) register.toNat v),Pc:=c.Pc,B3:=c.B3}))) (.lf c)
def Q9q c register v:=(Qbb c register v).m
abbrev Q72 c register v:=(Qbb c register v).p
def zv:Q09:=mT 185 [] true [.agg Q01.sig,.one (.int .i64),.one (.int .u32)] [] (λa r=>Qbb (Q01.of (aC a 0)) (argI a 1) (argI a 2)) (λX=>.agg (Q01.cells X)) (λX=>[])
theorem Z48:Q04 pG zv:=oT (.nil) Tryz.func185 Tryz.call185 [] [] 2
def Qc5(c:Q01)(m:List Int)(i:Q0f):Tree (Q01×(List Int)):=
.cn (bJ 0 1&&decide (0<=i.B/\i.B<(↑16:Int))) (.lv (Qe i.Op) λ(x0:Int)=>let E1:=wrap u32 (aK (A16.l c.X) i.B.toNat 0+wrap u32 i.Imm);.an (Qb2 c m E1 x0 2) (.lv (Q1t c m E1 x0 2) λ(x1:Int×List Int×Int)=>.br (x1.2.2 !=0) (.lv (Q2x c x1.2.2 E1) λ(x2:Q01)=>.lf (x2,x1.2.1)) (.lv (Qe i.Op) λ(x3:Int)=>.an (Q42 x1.2.1 x1.1 x3) (.lv (Q2b x1.2.1 x1.1 x3) λ(x4:Int×Bool)=>.br (i.Op==33) (.an (Qak x4.1 8) (.lv (Q2a x4.1 8) λ(x5:Int)=>.an (Q72 c i.A x5) (.lv (Q9q c i.A x5) λ(x6:Q01)=>.lf ({X:=x6.X,Pc:=wrap u32 (x6.Pc+4),B3:=x6.B3},x1.2.1)))) (.an (Q72 c i.A x4.1) (.lv (Q9q c i.A x4.1) λ(x7:Q01)=>.lf ({X:=x7.X,Pc:=wrap u32 (x7.Pc+4),B3:=x7.B3},x1.2.1)))))))
def Q5n c m i:=(Qc5 c m i).m
abbrev Qup c m i:=(Qc5 c m i).p
def Zis:Q09:=mT 119 [] true [.agg Q01.sig,.one (.ints .u32),.agg Q0f.sig] [] (λa r=>Qc5 (Q01.of (aC a 0)) (argL .u32 a 1) (Q0f.of (aC a 2))) (λX=>.tup [.agg (Q01.cells (X.1)),.all 0]) (λX=>[⟨false,23,1,.ints .u32 (X.2)⟩])
theorem Zdc:Q04 pG Zis:=oT (.cons Qi9 (.cons Quj (.cons Qc2 (.cons Q9v (.cons Qhh (.cons Z48 (.nil))))))) Tryz.func119 Tryz.call119 [.row 23 1 (.ints .u32)] [] 2
def Qal(c:Q01)(m:List Int)(i:Q0f):Tree (Q01×(List Int)):=
.cn (bJ 0 1&&decide (0<=i.B/\i.B<(↑16:Int))) (.lv (Qe i.Op) λ(x0:Int)=>let E1:=wrap u32 (aK (A16.l c.X) i.B.toNat 0+wrap u32 i.Imm);.an (Qb2 c m E1 x0 3) (.lv (Q1t c m E1 x0 3) λ(x1:Int×List Int×Int)=>.br (x1.2.2 !=0) (.lv (Q2x c x1.2.2 E1) λ(x2:Q01)=>.lf (x2,x1.2.1)) (.lv (Qe i.Op) λ(x3:Int)=>.cn (bJ 0 1&&decide (0<=i.A/\i.A<(↑16:Int))) (let E2:=aK (A16.l c.X) i.A.toNat 0;.an (Qae x1.2.1 x1.1 x3 E2) (.lv (Q3d x1.2.1 x1.1 x3 E2) λ(x4:List Int×Bool)=>.lf ({X:=c.X,Pc:=wrap u32 (c.Pc+4),B3:=c.B3},x4.1))))))
def Q7h c m i:=(Qal c m i).m
abbrev Qqo c m i:=(Qal c m i).p
def Zcy:Q09:=mT 120 [] true [.agg Q01.sig,.one (.ints .u32),.agg Q0f.sig] [] (λa r=>Qal (Q01.of (aC a 0)) (argL .u32 a 1) (Q0f.of (aC a 2))) (λX=>.tup [.agg (Q01.cells (X.1)),.all 0]) (λX=>[⟨false,23,1,.ints .u32 (X.2)⟩])
theorem Z8n:Q04 pG Zcy:=oT (.cons Qi9 (.cons Quj (.cons Qc2 (.cons Ql5 (.nil))))) Tryz.func120 Tryz.call120 [.row 23 1 (.ints .u32)] [] 2
def Qzt(op a b:Int):Tree Bool:=
.br (op==40) (.lf (a==b)) (.br (op==41) (.lf (a !=b)) (.br (op==42) (.lf (decide (wrap i32 a<wrap i32 b))) (.br (op==43) (.lf (decide (wrap i32 a>=wrap i32 b))) (.br (op==44) (.lf (decide (a<b))) (.lf (decide (a>=b)))))))
def Zbp op a b:=(Qzt op a b).m
def Zei:Q09:=mS 187 [] true [.one (.int .i64),.one (.int .u32),.one (.int .u32)] [] (λa r=>Qzt (argI a 0) (argI a 1) (argI a 2)) (λX=>.bool X) (λX=>[])
theorem Zag:Q04 pG Zei:=oS (.nil) Tryz.func187 Tryz.call187 [] [] 2
def Qdq(c:Q01):Tree Q01:=
.lv (Q82 c.B3.a0 8 1) λ(x0:Int)=>.lv (Q82 x0 16 2) λ(x1:Int)=>.lf ({X:=c.X,Pc:=c.B3.a2,B3:={a0:=x1,a1:=c.B3.a1,a2:=c.B3.a2,a3:=c.B3.a3,a4:=c.B3.a4,a5:=c.B3.a5,a6:=c.B3.a6,a7:=c.B3.a7}})
def Qch c:=(Qdq c).m
def Zbr:Q09:=mS 188 [] true [.agg Q01.sig] [] (λa r=>Qdq (Q01.of (aC a 0))) (λX=>.agg (Q01.cells X)) (λX=>[])
theorem Z6a:Q04 pG Zbr:=oS (.cons Qza (.nil)) Tryz.func188 Tryz.call188 [] [] 2
def Qai(c:Q01)(csr v:Int):Tree Q01:=
let E4:=bJ 0 1&&decide (0<=csr/\csr<(↑8:Int));let T2:Tree (Q01):=.cn E4 (.lf ({X:=c.X,Pc:=c.Pc,B3:=A8.of 0 (dC (A8.l c.B3) csr.toNat (iand u32 v 31))}));.br (csr==0) T2 (.br (csr==7) T2 (.br (csr==6) (.cn E4 (.lf ({X:=c.X,Pc:=c.Pc,B3:=A8.of 0 (dC (A8.l c.B3) csr.toNat (iand u32 v 255))}))) (let T3:Tree (Q01):=.cn E4 (.lf ({X:=c.X,Pc:=c.Pc,B3:=A8.of 0 (dC (A8.l c.B3) csr.toNat (Q7f u32 v 3))}));.br (csr==1) T3 (.br (csr==2) T3 (let T1:Tree (Q01):=.cn E4 (.lf ({X:=c.X,Pc:=c.Pc,B3:=A8.of 0 (dC (A8.l c.B3) csr.toNat v)}));.br (csr==3) T1 (.br (csr==4) T1 (.br (csr==5) T1 (.lf c))))))))
def Zc0 c csr v:=(Qai c csr v).m
abbrev Qrm c csr v:=(Qai c csr v).p
def Zdx:Q09:=mT 189 [] true [.agg Q01.sig,.one (.int .i64),.one (.int .u32)] [] (λa r=>Qai (Q01.of (aC a 0)) (argI a 1) (argI a 2)) (λX=>.agg (Q01.cells X)) (λX=>[])
theorem Zb3:Q04 pG Zdx:=oT (.nil) Tryz.func189 Tryz.call189 [] [] 2
def Q4m(c:Q01)(i:Q0f):Tree (Q01×Q10):=
.cn (bJ 0 1&&decide (0<=i.A/\i.A<(↑16:Int))) (.cn (bJ 0 1&&decide (0<=i.B/\i.B<(↑16:Int))) (.br (i.Op==24) (.an (Q72 c i.A (ishl u32 (wrap u32 i.Imm) 16)) (.lv (Q9q c i.A (ishl u32 (wrap u32 i.Imm) 16)) λ(x0:Q01)=>.lf ({X:=x0.X,Pc:=wrap u32 (c.Pc+4),B3:=x0.B3},{C1:=0,C7:=0,D7:=0,Value:=0}))) (let E2:=({X:=c.X,Pc:=wrap u32 (c.Pc+4),B3:=c.B3}:Q01);let E3:=aK (A16.l c.X) i.B.toNat 0;let E4:=aK (A16.l c.X) i.A.toNat 0;let T1:Tree ((Q01×Q10)):=.lv (Zbp i.Op E4 E3) λ(x1:Bool)=>.br x1 (.lf ({X:=c.X,Pc:=wrap u32 (c.Pc+wrap u32 (4*wrap u32 i.Imm)),B3:=c.B3},{C1:=0,C7:=0,D7:=0,Value:=0})) (.lf (E2,{C1:=0,C7:=0,D7:=0,Value:=0}));.br (i.Op==40) T1 (.br (i.Op==41) T1 (.br (i.Op==42) T1 (.br (i.Op==43) T1 (.br (i.Op==44) T1 (.br (i.Op==45) T1 (.br (i.Op==48) (.an (Q72 c i.A (wrap u32 (c.Pc+4))) (.lv (Q9q c i.A (wrap u32 (c.Pc+4))) λ(x7:Q01)=>.lf ({X:=x7.X,Pc:=wrap u32 (x7.Pc+wrap u32 (4*wrap u32 i.Imm)),B3:=x7.B3},{C1:=0,C7:=0,D7:=0,Value:=0}))) (.br (i.Op==49) (.an (Q72 c i.A (wrap u32 (c.Pc+4))) (.lv (Q9q c i.A (wrap u32 (c.Pc+4))) λ(x8:Q01)=>.lf ({X:=x8.X,Pc:=wrap u32 (aK (A16.l c.X) i.B.toNat 0+wrap u32 i.Imm),B3:=x8.B3},{C1:=0,C7:=0,D7:=0,Value:=0}))) (.br (i.Op==56) (.lv (Q2x c 7 0) λ(x9:Q01)=>.lf (x9,{C1:=0,C7:=0,D7:=0,Value:=0})) (.br (i.Op==57) (.lv (Qch c) λ(x10:Q01)=>.lf (x10,{C1:=0,C7:=0,D7:=0,Value:=0})) (.br (i.Op==58) (.cn (bJ 0 1&&decide (0<=i.Imm/\i.Imm<(↑8:Int))) (let E5:=aK (A8.l c.B3) i.Imm.toNat 0;.an (Q72 c i.A E5) (.lv (Q9q c i.A E5) λ(x11:Q01)=>.lf ({X:=x11.X,Pc:=wrap u32 (c.Pc+4),B3:=x11.B3},{C1:=0,C7:=0,D7:=0,Value:=0})))) (.br (i.Op==59) (.an (Qrm c (wrap i64 i.Imm) E4) (.lv (Zc0 c (wrap i64 i.Imm) E4) λ(x12:Q01)=>.lf ({X:=x12.X,Pc:=wrap u32 (c.Pc+4),B3:=x12.B3},{C1:=0,C7:=0,D7:=0,Value:=0}))) (.br (i.Op==60) (.lf (E2,{C1:=1,C7:=wrap i64 i.Imm,D7:=i.A,Value:=0})) (.br (i.Op==61) (.lf (E2,{C1:=2,C7:=wrap i64 i.Imm,D7:=0,Value:=aK (A16.l c.X) i.A.toNat 0})) (.br (i.Op==62) (.lf (E2,{C1:=3,C7:=0,D7:=0,Value:=0})) (.br (i.Op==63) (.lf (E2,{C1:=5,C7:=0,D7:=0,Value:=0})) (.br (i.Op==64) (.lf (E2,{C1:=4,C7:=0,D7:=0,Value:=0})) (.cn (bJ 0 1&&decide (0<=i.C/\i.C<(↑16:Int))) (.br (decide (i.Op>=16)) (.an (Qou i.Op E3 (wrap u32 i.Imm)) (.lv (Q43 i.Op E3 (wrap u32 i.Imm)) λ(x13:Int×Bool)=>.an (Q72 c i.A x13.1) (.lv (Q9q c i.A x13.1) λ(x14:Q01)=>.lf ({X:=x14.X,Pc:=wrap u32 (c.Pc+4),B3:=x14.B3},{C1:=0,C7:=0,D7:=0,Value:=0})))) (let E6:=aK (A16.l c.X) i.C.toNat 0;.an (Qou i.Op E3 E6) (.lv (Q43 i.Op E3 E6) λ(x15:Int×Bool)=>.an (Q72 c i.A x15.1) (.lv (Q9q c i.A x15.1) λ(x16:Q01)=>.lf ({X:=x16.X,Pc:=wrap u32 (c.Pc+4),B3:=x16.B3},{C1:=0,C7:=0,D7:=0,Value:=0})))))))))))))))))))))))))
def Qk5 c i:=(Q4m c i).m
abbrev Qma c i:=(Q4m c i).p
def Z4x:Q09:=mT 121 [] true [.agg Q01.sig,.agg Q0f.sig] [] (λa r=>Q4m (Q01.of (aC a 0)) (Q0f.of (aC a 1))) (λX=>.tup [.agg (Q01.cells (X.1)),.agg (Q10.cells (X.2))]) (λX=>[])
theorem Z0p:Q04 pG Z4x:=oT (.cons Z48 (.cons Zag (.cons Qc2 (.cons Z6a (.cons Zb3 (.cons Zgs (.nil))))))) Tryz.func121 Tryz.call121 [] [] 2
def Q9b(c:Q01)(m:List Int):Tree (Q01×(List Int)×Q10):=
.an (Qbw c m) (.lv (Q1i c m) λ(x0:Int×List Int×Int)=>.br (x0.2.2 !=0) (.lv (Q2x c x0.2.2 c.Pc) λ(x1:Q01)=>.lf (x1,x0.2.1,{C1:=0,C7:=0,D7:=0,Value:=0})) (.an (Qa6 x0.1) (.lv (Q1j x0.1) λ(x2:Q0f×Bool)=>.br (!x2.2) (.lv (Q2x c 1 x0.1) λ(x3:Q01)=>.lf (x3,x0.2.1,{C1:=0,C7:=0,D7:=0,Value:=0})) (.lv (Q2e x2.1.Op) λ(x4:Bool)=>let T1:Tree ((Q01×(List Int)×Q10)):=let T2:Tree ((Q01×(List Int)×Q10)):=.an (Qup c x0.2.1 x2.1) (.lv (Q5n c x0.2.1 x2.1) λ(x7:Q01×List Int)=>.lf (x7.1,x7.2,{C1:=0,C7:=0,D7:=0,Value:=0}));.br (x2.1.Op==32) T2 (.br (x2.1.Op==33) T2 (.br (x2.1.Op==34) T2 (let T3:Tree ((Q01×(List Int)×Q10)):=.an (Qqo c x0.2.1 x2.1) (.lv (Q7h c x0.2.1 x2.1) λ(x10:Q01×List Int)=>.lf (x10.1,x10.2,{C1:=0,C7:=0,D7:=0,Value:=0}));.br (x2.1.Op==35) T3 (.br (x2.1.Op==36) T3 (.an (Qma c x2.1) (.lv (Qk5 c x2.1) λ(x12:Q01×Q10)=>.lf (x12.1,x0.2.1,x12.2)))))));.br x4 (.lv (Qav c) λ(x5:Bool)=>.br (!x5) (.lv (Q2x c 2 x0.1) λ(x6:Q01)=>.lf (x6,x0.2.1,{C1:=0,C7:=0,D7:=0,Value:=0})) T1) T1))))
def Qa8 c m:=(Q9b c m).m
abbrev Quc c m:=(Q9b c m).p
def Zi8:Q09:=mT 63 [] true [.agg Q01.sig,.one (.ints .u32)] [] (λa r=>Q9b (Q01.of (aC a 0)) (argL .u32 a 1)) (λX=>.tup [.agg (Q01.cells (X.1)),.all 0,.agg (Q10.cells (X.2.2))]) (λX=>[⟨false,23,1,.ints .u32 (X.2.1)⟩])
theorem Zcn:Q04 pG Zi8:=oT (.cons Qul (.cons Qc2 (.cons Qpu (.cons Qjb (.cons Qq2 (.cons Zdc (.cons Z8n (.cons Z0p (.nil))))))))) Tryz.func63 Tryz.call63 [.row 23 1 (.ints .u32)] [] 2
end
noncomputable section
def tblYc0:List UInt8:=[(0:UInt8),1,2,2,3,3,3,3,4,4,4,4,4,4,4,4,5,5,5,5,5,5,5,5,5,5,5,5,5,5,5,5,6,6,6,6,6,6,6,6,6,6,6,6,6,6,6,6,6,6,6,6,6,6,6,6,6,6,6,6,6,6,6,6]
def Z8r:List UInt8:=[(7:UInt8),7,7,7,7,7,7,7,7,7,7,7,7,7,7,7,7,7,7,7,7,7,7,7,7,7,7,7,7,7,7,7,7,7,7,7,7,7,7,7,7,7,7,7,7,7,7,7,7,7,7,7,7,7,7,7,7,7,7,7,7,7,7,7]
def Qo:List UInt8:=[(8:UInt8),8,8,8,8,8,8,8,8,8,8,8,8,8,8,8,8,8,8,8,8,8,8,8,8,8,8,8,8,8,8,8,8,8,8,8,8,8,8,8,8,8,8,8,8,8,8,8,8,8,8,8,8,8,8,8,8,8,8,8,8,8,8,8]
def Zg7:List UInt8:=[(1:UInt8),2,2,3,3,3,3,4,4,4,4,4,4,4,4,5,5,5,5,5,5,5,5,5,5,5,5,5,5,5,5,6,6,6,6,6,6,6,6,6,6,6,6,6,6,6,6,6,6,6,6,6,6,6,6,6,6,6,6,6,6,6,6]
def tblYc4:List UInt8:=[(0:UInt8),1,1,2,1,2,2,3,1,2,2,3,2,3,3,4,1,2,2,3,2,3,3,4,2,3,3,4,3,4,4,5,1,2,2,3,2,3,3,4,2,3,3,4,3,4,4,5,2,3,3,4,3,4,4,5,3,4,4,5,4,5,5,6]
def Qo0:List UInt8:=[(1:UInt8),2,2,3,2,3,3,4,2,3,3,4,3,4,4,5,2,3,3,4,3,4,4,5,3,4,4,5,4,5,5,6,2,3,3,4,3,4,4,5,3,4,4,5,4,5,5,6,3,4,4,5,4,5,5,6,4,5,5,6,5,6,6,7]
def Zaz:List UInt8:=[(2:UInt8),3,3,4,3,4,4,5,3,4,4,5,4,5,5,6,3,4,4,5,4,5,5,6,4,5,5,6,5,6,6,7,3,4,4,5,4,5,5,6,4,5,5,6,5,6,6,7,4,5,5,6,5,6,6,7,5,6,6,7,6,7,7,8]
def Zg2:List UInt8:=[(1:UInt8),1,2,1,2,2,3,1,2,2,3,2,3,3,4,1,2,2,3,2,3,3,4,2,3,3,4,3,4,4,5,1,2,2,3,2,3,3,4,2,3,3,4,3,4,4,5,2,3,3,4,3,4,4,5,3,4,4,5,4,5,5,6]
def Qpx(c:Q0c):Tree Bool:=
.lf (decide ((c.C9.length:Int)<=(16:Int)))
def Q2c c:=(Qpx c).m
def Z5g:Q09:=mS 195 [] true [.agg Q0c.sig] [] (λa r=>Qpx (Q0c.of (aC a 0))) (λX=>.bool X) (λX=>[])
theorem Z1p:Q04 pG Z5g:=oS (.nil) Tryz.func195 Tryz.call195 [] [] 2
def Qk9(t:Q0j):Tree Bool:=
.br t.D4 (.br (!t.D3) (.lf (t.C6 !=0)) (.lf false)) (.br t.D3 (.lf true) (.lf (t.C6==0)))
def Q49 t:=(Qk9 t).m
def Zej:Q09:=mS 196 [] true [.agg Q0j.sig] [] (λa r=>Qk9 (Q0j.of (aC a 0))) (λX=>.bool X) (λX=>[])
theorem Z93:Q04 pG Zej:=oS (.nil) Tryz.func196 Tryz.call196 [] [] 2
def Q6q(d0:Q0a):Tree Bool:=
.br (d0.D5==1) (.lf (decide (d0.C0=[]))) (.br (d0.D5==2) (.lf ((d0.C0.length:Int)==(128:Int))) (.lf false))
def Q8n d0:=(Q6q d0).m
def Qs4:Q09:=mS 260 [] true [.agg Q0a.sig] [] (λa r=>Q6q (Q0a.of (aC a 0))) (λX=>.bool X) (λX=>[])
theorem Qpv:Q04 pG Qs4:=oS (.nil) Tryz.func260 Tryz.call260 [] [] 2
def Q5e(d0:Q0a)(pages:Int):Tree Bool:=
.br (decide (d0.Blocks>64)) (.lf false) (let T1:Tree (Bool):=.br (d0.D5==0) (.br (d0.B4==0) (.br (d0.B0==0) (.lf (decide (d0.C0=[]))) (.lf false)) (.lf false)) (.lf false);.br (d0.B7==0) T1 (.br (d0.B7==2) T1 (.br (d0.B7==3) T1 (.br (d0.B7==1) (.lv (Q8n d0) λ(x0:Bool)=>.br x0 (.br (decide (d0.B4<d0.Blocks)) (.lf (decide (wrap i64 d0.B0<pages))) (.lf false)) (.lf false)) (.lf false)))))
def Q16 d0 pages:=(Q5e d0 pages).m
def Zho:Q09:=mS 197 [] true [.agg Q0a.sig,.one (.int .i64)] [] (λa r=>Q5e (Q0a.of (aC a 0)) (argI a 1)) (λX=>.bool X) (λX=>[])
theorem Ze9:Q04 pG Zho:=oS (.cons Qpv (.nil)) Tryz.func197 Tryz.call197 [] [] 2
def Qiw(n:Q0o)(pages:Int):Tree Bool:=
let T1:Tree (Bool):=let T2:Tree (Bool):=.br n.B5 (.br (decide (n.E0>=1)) (.lf (decide (n.E0<=128))) (.lf false)) (.lf (n.E0==0));.br n.C2 (.br (decide (wrap i64 n.B6>=pages)) (.lf false) T2) (.br (n.B6 !=0) (.lf false) T2);.br n.C2 (.br n.B5 (.lf false) T1) T1
def Q5c n pages:=(Qiw n pages).m
def yv:Q09:=mS 198 [] true [.agg Q0o.sig,.one (.int .i64)] [] (λa r=>Qiw (Q0o.of (aC a 0)) (argI a 1)) (λX=>.bool X) (λX=>[])
theorem Zij:Q04 pG yv:=oS (.nil) Tryz.func198 Tryz.call198 [] [] 2
def Q2(x:Int):Tree Int:=
let E1:=(↑(dG (cN (cN tblYc0 Z8r) (cN Qo Qo))):Int);.br (decide (x>=65536)) (.br (decide (ishr u32 x (16:Int)>=(256:Int))) (.cn (decide (0<=wrap u8 (ishr u32 (ishr u32 x 16) 8)/\wrap u8 (ishr u32 (ishr u32 x 16) 8)<E1)) (.lf (wrap i64 (wrap i64 ((16:Int)+(8:Int))+wrap i64 (↑(eQ (aK ((0:UInt8)::(Zg7++Z8r++(Qo++Qo))) (dB (wrap u8 (ishr u32 (ishr u32 x 16) 8))) (0:UInt8))):Int))))) (.cn (decide (0<=wrap u8 (ishr u32 x 16)/\wrap u8 (ishr u32 x 16)<E1)) (.lf (wrap i64 (16+wrap i64 (↑(eQ (aK ((0:UInt8)::(Zg7++Z8r++(Qo++Qo))) (dB (wrap u8 (ishr u32 x 16))) (0:UInt8))):Int)))))) (.br (decide (x>=256)) (.cn (decide (0<=wrap u8 (ishr u32 x 8)/\wrap u8 (ishr u32 x 8)<E1)) (.lf (wrap i64 (wrap i64 ((0:Int)+(8:Int))+wrap i64 (↑(eQ (aK ((0:UInt8)::(Zg7++Z8r++(Qo++Qo))) (dB (wrap u8 (ishr u32 x 8))) (0:UInt8))):Int))))) (.cn (decide (0<=wrap u8 x/\wrap u8 x<E1)) (.lf (wrap i64 (0+wrap i64 (↑(eQ (aK ((0:UInt8)::(Zg7++Z8r++(Qo++Qo))) (dB (wrap u8 x)) (0:UInt8))):Int))))))
def Q1a x:=(Q2 x).m
abbrev Qfw x:=(Q2 x).p
def Qtt:Q09:=mT 261 [] true [.one (.int .u32)] [] (λa r=>Q2 (argI a 0)) (λX=>.int .i64 X) (λX=>[])
theorem Qpn:Q04 pG Qtt:=oT (.nil) Tryz.func261 Tryz.call261 [] [] 2
def Q5l(b:Q06)(pages:Int):Tree Bool:=
.an (Qfw b.B9) (.lv (Q1a b.B9) λ(x0:Int)=>.lf (decide (x0<=if 0>pages then 0 else pages)))
def Q2k b pages:=(Q5l b pages).m
abbrev Qg2 b pages:=(Q5l b pages).p
def Z5x:Q09:=mT 199 [] true [.agg Q06.sig,.one (.int .i64)] [] (λa r=>Q5l (Q06.of (aC a 0)) (argI a 1)) (λX=>.bool X) (λX=>[])
theorem Z1l:Q04 pG Z5x:=oT (.cons Qpn (.nil)) Tryz.func199 Tryz.call199 [] [] 2
def Q1k(m:Q00):Tree Bool:=
.lv (Q0m m.Mem) λ(x0:Int)=>.lv (Q2c m.A2) λ(x1:Bool)=>.br x1 (.lv (Q49 m.A9) λ(x2:Bool)=>.br x2 (.lv (Q16 m.B1 x0) λ(x3:Bool)=>.br x3 (.lv (Q5c m.C3 x0) λ(x4:Bool)=>.br x4 (.an (Qg2 m.A0 x0) (.lv (Q2k m.A0 x0) λ(x5:Bool)=>.lf x5)) (.lf false)) (.lf false)) (.lf false)) (.lf false)
def Q0r m:=(Q1k m).m
abbrev Q3h m:=(Q1k m).p
def Qnr:Q09:=mT 131 [] true [.agg Q00.sig] [] (λa r=>Q1k (Q00.of (aC a 0))) (λX=>.bool X) (λX=>[])
theorem Ql8:Q04 pG Qnr:=oT (.cons Q1w (.cons Z1p (.cons Z93 (.cons Ze9 (.cons Zij (.cons Z1l (.nil))))))) Tryz.func131 Tryz.call131 [] [] 2
def Q5m(m:Q00):Tree Bool:=
.lv (Q0m m.Mem) λ(x0:Int)=>.br (x0==0) (.lf false) (.br (m.B2.X.a0 !=0) (.lf false) (.br (decide (m.B2.B3.a0>31)) (.lf false) (.br (decide (m.B2.B3.a7>31)) (.lf false) (.br (decide (m.B2.B3.a6>255)) (.lf false) (.br (dA m.B2.B3.a1 (4:Int) !=(0:Int)) (.lf false) (.br (decide (m.A4>1152921504606846976)) (.lf false) (.br m.A3 (.br m.A6 (.lf false) (.an (Q3h m) (.lv (Q0r m) λ(x1:Bool)=>.lf x1))) (.an (Q3h m) (.lv (Q0r m) λ(x2:Bool)=>.lf x2)))))))))
def Q0t m:=(Q5m m).m
abbrev Q44 m:=(Q5m m).p
def Z7d:Q09:=mT 68 [] true [.agg Q00.sig] [] (λa r=>Q5m (Q00.of (aC a 0))) (λX=>.bool X) (λX=>[])
theorem Qd5:Q04 pG Z7d:=oT (.cons Q1w (.cons Ql8 (.nil))) Tryz.func68 Tryz.call68 [] [] 2
def Ql7(t:Q0j):Tree Bool:=
.lf t.D3
def Qf2 t:=(Ql7 t).m
def Qzl:Q09:=mS 170 [] true [.agg Q0j.sig] [] (λa r=>Ql7 (Q0j.of (aC a 0))) (λX=>.bool X) (λX=>[])
theorem Qw1:Q04 pG Qzl:=oS (.nil) Tryz.func170 Tryz.call170 [] [] 2
def Qiv(c:Q0c):Tree Bool:=
.lf (!decide (c.C9=[]))
def Q8g c:=(Qiv c).m
def Qtj:Q09:=mS 171 [] true [.agg Q0c.sig] [] (λa r=>Qiv (Q0c.of (aC a 0))) (λX=>.bool X) (λX=>[])
theorem Qrr:Q04 pG Qtj:=oS (.nil) Tryz.func171 Tryz.call171 [] [] 2
def Qi1(d0:Q0a):Tree Bool:=
.br (d0.B7==2) (.lf true) (.lf (d0.B7==3))
def Q8e d0:=(Qi1 d0).m
def Z14:Q09:=mS 172 [] true [.agg Q0a.sig] [] (λa r=>Qi1 (Q0a.of (aC a 0))) (λX=>.bool X) (λX=>[])
theorem Qlp:Q04 pG Z14:=oS (.nil) Tryz.func172 Tryz.call172 [] [] 2
def Qpo(n:Q0o):Tree Bool:=
.lf n.B5
def Qjk n:=(Qpo n).m
def Z58:Q09:=mS 173 [] true [.agg Q0o.sig] [] (λa r=>Qpo (Q0o.of (aC a 0))) (λX=>.bool X) (λX=>[])
theorem Z13:Q04 pG Z58:=oS (.nil) Tryz.func173 Tryz.call173 [] [] 2
def Q32(x:Int):Tree Int:=
let E1:=(↑(dG (cN (cN tblYc4 Qo0) (cN Qo0 Zaz))):Int);.cn (decide (0<=ishr u32 x 24/\ishr u32 x 24<E1)) (.cn (decide (0<=iand u32 (ishr u32 x 16) 255/\iand u32 (ishr u32 x 16) 255<E1)) (.cn (decide (0<=iand u32 (ishr u32 x 8) 255/\iand u32 (ishr u32 x 8) 255<E1)) (.cn (decide (0<=iand u32 x 255/\iand u32 x 255<E1)) (.lf (wrap i64 (wrap u8 (wrap u8 (wrap u8 ((↑(eQ (aK ((0:UInt8)::(Zg2++Qo0++(Qo0++Zaz))) (dB (ishr u32 x 24)) (0:UInt8))):Int)+(↑(eQ (aK ((0:UInt8)::(Zg2++Qo0++(Qo0++Zaz))) (dB (iand u32 (ishr u32 x 16) 255)) (0:UInt8))):Int))+(↑(eQ (aK ((0:UInt8)::(Zg2++Qo0++(Qo0++Zaz))) (dB (iand u32 (ishr u32 x 8) 255)) (0:UInt8))):Int))+(↑(eQ (aK ((0:UInt8)::(Zg2++Qo0++(Qo0++Zaz))) (dB (iand u32 x 255)) (0:UInt8))):Int))))))))
def Q5v x:=(Q32 x).m
abbrev Qa x:=(Q32 x).p
def Qju:Q09:=mT 253 [] true [.one (.int .u32)] [] (λa r=>Q32 (argI a 0)) (λX=>.int .i64 X) (λX=>[])
theorem Qj:Q04 pG Qju:=oT (.nil) Tryz.func253 Tryz.call253 [] [] 2
def Q85(b:Q06):Tree Int:=
.an (Qa b.B9) (.lv (Q5v b.B9) λ(x0:Int)=>.lf x0)
def Qb b:=(Q85 b).m
abbrev Qcs b:=(Q85 b).p
def Qz6:Q09:=mT 191 [] true [.agg Q06.sig] [] (λa r=>Q85 (Q06.of (aC a 0))) (λX=>.int .i64 X) (λX=>[])
theorem Qkv:Q04 pG Qz6:=oT (.cons Qj (.nil)) Tryz.func191 Tryz.call191 [] [] 2
def Q4w(b:Q06):Tree Bool:=
.an (Qcs b) (.lv (Qb b) λ(x0:Int)=>.lf (wrap u32 x0 !=b.C5))
def Q6n b:=(Q4w b).m
abbrev Qgc b:=(Q4w b).p
def Qsg:Q09:=mT 174 [] true [.agg Q06.sig] [] (λa r=>Q4w (Q06.of (aC a 0))) (λX=>.bool X) (λX=>[])
theorem Qra:Q04 pG Qsg:=oT (.cons Qkv (.nil)) Tryz.func174 Tryz.call174 [] [] 2
def Qfo(m:Q00)(z:(Int)×(Int)):Nat:=(5-z.2).toNat
def Q6g(m:Q00):Tree Int:=
.lv (Qf2 m.A9) λ(x0:Bool)=>.lv (Q8g m.A2) λ(x1:Bool)=>.lv (Q8e m.B1) λ(x2:Bool)=>.lv (Qjk m.C3) λ(x3:Bool)=>.an (Qgc m.A0) (.lv (Q6n m.A0) λ(x4:Bool)=>.lp inferInstance (Qfo m (0,0)+1) ((rE (0:Int)/\(rE (x0:Bool)/\rE (x1:Bool)/\rE (x2:Bool)/\rE (x3:Bool)/\rE (x4:Bool)/\True)/\rE (0:Int)/\True)/\True) (0,0) λ(v0:Int×Int)=>.br (decide (v0.2<5)) (.cn (bT 1 1&&(bT 5 5&&decide (0<=v0.2/\v0.2<(↑5:Int)))) (.br (aK [x0,x1,x2,x3,x4] v0.2.toNat false) (.cn (decide (0<=v0.2)) (.nx ((rE ((ior u32 v0.1 (ishl u32 1 v0.2)):Int)/\(rE (x0:Bool)/\rE (x1:Bool)/\rE (x2:Bool)/\rE (x3:Bool)/\rE (x4:Bool)/\True)/\rE ((wrap i64 (v0.2+1)):Int)/\True)/\True) (Sum.inl (ior u32 v0.1 (ishl u32 1 v0.2),wrap i64 (v0.2+1))))) (.nx ((rE v0.1/\(rE (x0:Bool)/\rE (x1:Bool)/\rE (x2:Bool)/\rE (x3:Bool)/\rE (x4:Bool)/\True)/\rE ((wrap i64 (v0.2+1)):Int)/\True)/\True) (Sum.inl (v0.1,wrap i64 (v0.2+1)))))) (.lf (Sum.inr v0.1)))
def Q2p m:=(Q6g m).m
abbrev Qcu m:=(Q6g m).p
def Qw2:LInv:={
 α:=(Int)×(Int)
 F:=λst a=>([(4,.int u32 a.1),(23,(lk st 23)),(24,.int i64 a.2)],[])
 a0:=λst=>((lk st 4).toInt,(lk st 24).toInt)
 ex0:=λst=>[]++[]}
def Qqn:List (Nat×LInv):=[(4,Qw2)]
def Qzk:Q09:=mT 108 [] true [.agg Q00.sig] [] (λa r=>Q6g (Q00.of (aC a 0))) (λX=>.int .u32 X) (λX=>[])
theorem Ql:Q04 pG Qzk:=oT (.cons Qw1 (.cons Qrr (.cons Qlp (.cons Z13 (.cons Qra (.nil)))))) Tryz.func108 Tryz.call108 [] Qqn 3
def Q2s(m:Q00):Tree Int:=
.an (Qcu m) (.lv (Q2p m) λ(x0:Int)=>.lf (iand u32 x0 m.B2.B3.a7))
def Q56 m:=(Q2s m).m
abbrev Qag m:=(Q2s m).p
def Qts:Q09:=mT 117 [] true [.agg Q00.sig] [] (λa r=>Q2s (Q00.of (aC a 0))) (λX=>.int .u32 X) (λX=>[])
theorem Qhn:Q04 pG Qts:=oT (.cons Ql (.nil)) Tryz.func117 Tryz.call117 [] [] 2
def Q4p(m:Q00):Tree Bool:=
.br m.A3 (.an (Qag m) (.lv (Q56 m) λ(x0:Int)=>.lf (x0==0))) (.lf false)
def Q45 m:=(Q4p m).m
abbrev Qac m:=(Q4p m).p
def Z16:Q09:=mT 107 [] true [.agg Q00.sig] [] (λa r=>Q4p (Q00.of (aC a 0))) (λX=>.bool X) (λX=>[])
theorem Qm0:Q04 pG Z16:=oT (.cons Qhn (.nil)) Tryz.func107 Tryz.call107 [] [] 2

import Derived.Test.YthjfindbamdacaaGreatDoorAuditComparesBase
open Int renaming tmod->dE,tdiv->eU,toNat->dF
open Nat renaming beq->bT,blt->bJ
open List renaming set->dG,getD->aK,length->dK,append->cQ
open UInt8 renaming toNat->eW
set_option maxRecDepth 100000
set_option linter.all false
namespace Go.Proofs.YthjfindbamdacaaGreatDoor
open Go Go.GD Go.IntKind
noncomputable section
def jy(s:List Int):(List Int):=
s
def mh(s:List Int):Prop:=
s.length<=35184372088832
def Zz(s:List Int):List D:=[.sl 1 (.ints .u32 s) false]
def UC(s:List Int):List Row:=[]
def Mc(X:List Int):D:=.all 0
def Md(X:List Int):List Row:=[⟨false,23,1,.ints .u32 X⟩]
def Qck:List oG:=[.row 23 1 (.ints .u32)]
def Q6q:List PT:=[.one (.ints .u32)]
def Q6j:List RT:=[]
def Qeb(args:List D)(rows:List Row):(List Int):=jy (du .u32 args 0)
def Qdq(args:List D)(rows:List Row):Prop:=mh (du .u32 args 0)
def Qfn:ba:=mo 59 [] true Q6q Q6j Qdq Qeb Mc Md
def ZA(s:List Int)(CZ:(List Int)->Prop):Prop:=
(s=[]->CZ [])/\cg (decide ((4:Nat)*((0:Nat)+s.length)<=(140737488355328:Nat))) (CZ s)
set_option maxRecDepth 100000 in
theorem Qek(s:List Int)(Q:D->List Row->Prop):(na kC [] (LL kC [] Tryz.f59.ntmps 0 [] 2) Tryz.f59 (Zz s) (UC s) λd R=>rG (UC s).length Qck d R Q)=ZA s (λX=>Q (Mc X) (Md X)):=by kernel_rfl
theorem Qd7(s:List Int)(CZ:(List Int)->Prop)(hw:mh s)(h:CZ (jy s)):
ZA s CZ:=by
 delta ZA
 refine⟨λe=>by rw[e]at h;exact h,?_⟩
 rw[c7]
 refine⟨dY ?_,h⟩
 have:s.length<=35184372088832:=hw
 omega
set_option maxRecDepth 100000 in
theorem Qcc(s:List Int)(hw:mh s):jZ pG 59 (Zz s) (UC s) (Mc (jy s)) (Md (jy s)):=
 have hG:jO pG []:=.nil
 uE.calls drawn mM hG Tryz.func59 (rf:=none) (λ_ _=>trivial) (uX drawn mM hG (.inl rfl) 2 (gn:=[])) (uE.of (Qek s _) (Qd7 s (λX=>Mc X=Mc (jy s)/\Md X=Md (jy s)) hw ⟨rfl,rfl⟩))
set_option maxRecDepth 100000 in
theorem Qd8(args:List D)(rows:List Row):lL Q6q args 0=Zz (du .u32 args 0):=by kernel_rfl
set_option maxRecDepth 100000 in
theorem Qcd(args:List D)(rows:List Row):kU Q6j rows 0=UC (du .u32 args 0):=by kernel_rfl
set_option maxRecDepth 100000 in
theorem Qeo(X:List Int):(uJ (Mc X)&&jE (Md X))=true:=by kernel_rfl
theorem DQ:bj pG Qfn:=L9 Tryz.call59 (λargs rows hp=>by rw[Qd8 args rows,Qcd args rows];exact Qcc (du .u32 args 0) hp) (λ_ X=>Qeo X)
def Kr(m:List Int):Tree Int:=
.br (dE (m.length:Int) (32:Int) !=(0:Int)) (.lf 0) (.br (decide ((m.length:Int)>(1024:Int))) (.lf 0) (.lf (wrap i64 (eU (m.length:Int) 32))))
def lC m:=(Kr m).m
def Z5p:ba:=mS 14 [] true [.one (.ints .u32)] [] (λa r=>Kr (du .u32 a 0)) (λX=>.int .i64 X) (λX=>[])
theorem Hr:bj pG Z5p:=oS (.nil) Tryz.func14 Tryz.call14 [] [] 2
def IA(m:List Int)(addr size:Int):Tree Bool:=
let T1:Tree (Bool):=.cn (decide (wrap u32 size≠0)) (.br (dE addr (wrap u32 size) !=0) (.lf false) (.lv (lC m) λ(x0:Int)=>.lf (decide (wrap u64 (wrap u64 addr+wrap u64 size)<=wrap u64 (wrap u64 x0*128)))));.br (size !=1) (.br (size !=4) (.lf false) T1) T1
def WC m addr size:=(IA m addr size).m
abbrev Qd1 m addr size:=(IA m addr size).p
def Z1z:ba:=mT 247 [] true [.one (.ints .u32),.one (.int .u32),.one (.int .i64)] [] (λa r=>IA (du .u32 a 0) (ar a 1) (ar a 2)) (λX=>.bool X) (λX=>[])
theorem Qm4:bj pG Z1z:=oT (.cons Hr (.nil)) Tryz.func247 Tryz.call247 [] [] 2
def P1(n:Int):Tree Int:=
.br (decide (n>=32)) (.lf 4294967295) (.cn (decide (0<=wrap u64 n)) (.lf (wrap u32 (ea u32 1 (wrap u64 n)-1))))
def Z1w n:=(P1 n).m
abbrev Qlc n:=(P1 n).p
def Zj8:ba:=mT 248 [] true [.one (.int .i64)] [] (λa r=>P1 (ar a 0)) (λX=>.int .u32 X) (λX=>[])
theorem Qx9:bj pG Zj8:=oT (.nil) Tryz.func248 Tryz.call248 [] [] 2
def P2(w low n:Int):Tree Int:=
.br (decide (low<0)) (.lf 0) (.br (decide (low>31)) (.lf 0) (.br (decide (n<1)) (.lf 0) (.cn (decide (0<=wrap u64 low)) (.an (Qlc n) (.lv (Z1w n) λ(x0:Int)=>.lf (bb u32 (bf u32 w (wrap u64 low)) x0))))))
def tf w low n:=(P2 w low n).m
abbrev Me w low n:=(P2 w low n).p
def Zfl:ba:=mT 179 [] true [.one (.int .u32),.one (.int .i64),.one (.int .i64)] [] (λa r=>P2 (ar a 0) (ar a 1) (ar a 2)) (λX=>.int .u32 X) (λX=>[])
theorem ZB:bj pG Zfl:=oT (.cons Qx9 (.nil)) Tryz.func179 Tryz.call179 [] [] 2
def P3(w low n v:Int):Tree Int:=
.br (decide (low<0)) (.lf w) (.br (decide (low>31)) (.lf w) (.br (decide (n<1)) (.lf w) (.an (Qlc n) (.lv (Z1w n) λ(x0:Int)=>.cn (decide (0<=wrap u64 low)) (.cn (decide (0<=wrap u64 low)) (.lf (ie u32 (nC u32 w (ea u32 x0 (wrap u64 low))) (ea u32 (bb u32 v x0) (wrap u64 low)))))))))
def KQ w low n v:=(P3 w low n v).m
abbrev Qk3 w low n v:=(P3 w low n v).p
def Z2m:ba:=mT 250 [] true [.one (.int .u32),.one (.int .i64),.one (.int .i64),.one (.int .u32)] [] (λa r=>P3 (ar a 0) (ar a 1) (ar a 2) (ar a 3)) (λX=>.int .u32 X) (λX=>[])
theorem Qy2:bj pG Z2m:=oT (.cons Qx9 (.nil)) Tryz.func250 Tryz.call250 [] [] 2
def KT(m:List Int)(addr size v:Int):Tree ((List Int)×Bool):=
.an (mh m) (.lv (jy m) λ(x0:List Int)=>.an (Qd1 m addr size) (.lv (WC m addr size) λ(x1:Bool)=>.br (!x1) (.lf (x0,false)) (let E1:=bT 1 1&&bJ 0 1&&decide (0<=wrap u32 (eU addr 4)/\wrap u32 (eU addr 4)<(x0.length:Int));let E2:=dF (wrap u32 (eU addr 4));.br (size==1) (.cn E1 (let E3:=wrap i64 (wrap i64 (dE addr 4)*8);.an (Qk3 (x0.getD E2 0) E3 8 v) (.lv (KQ (x0.getD E2 0) E3 8 v) λ(x2:Int)=>.cn E1 (.lf (dG x0 E2 x2,true))))) (.cn E1 (.lf (dG x0 E2 v,true))))))
def KS m addr size v:=(KT m addr size v).m
abbrev ZC m addr size v:=(KT m addr size v).p
def Z53:ba:=mT 186 [] true [.one (.ints .u32),.one (.int .u32),.one (.int .i64),.one (.int .u32)] [] (λa r=>KT (du .u32 a 0) (ar a 1) (ar a 2) (ar a 3)) (λX=>.dt [.all 0,.bool (X.2)]) (λX=>[⟨false,23,1,.ints .u32 (X.1)⟩])
theorem Qoc:bj pG Z53:=oT (.cons DQ (.cons Qm4 (.cons Qy2 (.nil)))) Tryz.func186 Tryz.call186 [.row 23 1 (.ints .u32)] [] 2
def Zf4(op:Int):Tree (wS×Bool):=
.br (op==1) (.lf ({a:=true,b:=true,c:=true,low:=0,D3:=0},true)) (.br (op==2) (.lf ({a:=true,b:=true,c:=true,low:=0,D3:=0},true)) (.br (op==3) (.lf ({a:=true,b:=true,c:=true,low:=0,D3:=0},true)) (.br (op==4) (.lf ({a:=true,b:=true,c:=true,low:=0,D3:=0},true)) (.br (op==5) (.lf ({a:=true,b:=true,c:=true,low:=0,D3:=0},true)) (.br (op==6) (.lf ({a:=true,b:=true,c:=true,low:=0,D3:=0},true)) (.br (op==7) (.lf ({a:=true,b:=true,c:=true,low:=0,D3:=0},true)) (.br (op==8) (.lf ({a:=true,b:=true,c:=true,low:=0,D3:=0},true)) (.br (op==9) (.lf ({a:=true,b:=true,c:=true,low:=0,D3:=0},true)) (.br (op==10) (.lf ({a:=true,b:=true,c:=true,low:=0,D3:=0},true)) (.br (op==11) (.lf ({a:=true,b:=true,c:=true,low:=0,D3:=0},true)) (.br (op==12) (.lf ({a:=true,b:=true,c:=true,low:=0,D3:=0},true)) (.br (op==13) (.lf ({a:=true,b:=true,c:=true,low:=0,D3:=0},true)) (.br (op==16) (.lf ({a:=true,b:=true,c:=false,low:=(-32768),D3:=32767},true)) (.br (op==23) (.lf ({a:=true,b:=true,c:=false,low:=(-32768),D3:=32767},true)) (.br (op==32) (.lf ({a:=true,b:=true,c:=false,low:=(-32768),D3:=32767},true)) (.br (op==33) (.lf ({a:=true,b:=true,c:=false,low:=(-32768),D3:=32767},true)) (.br (op==34) (.lf ({a:=true,b:=true,c:=false,low:=(-32768),D3:=32767},true)) (.br (op==35) (.lf ({a:=true,b:=true,c:=false,low:=(-32768),D3:=32767},true)) (.br (op==36) (.lf ({a:=true,b:=true,c:=false,low:=(-32768),D3:=32767},true)) (.br (op==40) (.lf ({a:=true,b:=true,c:=false,low:=(-32768),D3:=32767},true)) (.br (op==41) (.lf ({a:=true,b:=true,c:=false,low:=(-32768),D3:=32767},true)) (.br (op==42) (.lf ({a:=true,b:=true,c:=false,low:=(-32768),D3:=32767},true)) (.br (op==43) (.lf ({a:=true,b:=true,c:=false,low:=(-32768),D3:=32767},true)) (.br (op==44) (.lf ({a:=true,b:=true,c:=false,low:=(-32768),D3:=32767},true)) (.br (op==45) (.lf ({a:=true,b:=true,c:=false,low:=(-32768),D3:=32767},true)) (.br (op==49) (.lf ({a:=true,b:=true,c:=false,low:=(-32768),D3:=32767},true)) (.br (op==17) (.lf ({a:=true,b:=true,c:=false,low:=0,D3:=65535},true)) (.br (op==18) (.lf ({a:=true,b:=true,c:=false,low:=0,D3:=65535},true)) (.br (op==19) (.lf ({a:=true,b:=true,c:=false,low:=0,D3:=65535},true)) (.br (op==20) (.lf ({a:=true,b:=true,c:=false,low:=0,D3:=31},true)) (.br (op==21) (.lf ({a:=true,b:=true,c:=false,low:=0,D3:=31},true)) (.br (op==22) (.lf ({a:=true,b:=true,c:=false,low:=0,D3:=31},true)) (.br (op==24) (.lf ({a:=true,b:=false,c:=false,low:=0,D3:=65535},true)) (.br (op==48) (.lf ({a:=true,b:=false,c:=false,low:=(-32768),D3:=32767},true)) (.br (op==58) (.lf ({a:=true,b:=false,c:=false,low:=0,D3:=7},true)) (.br (op==59) (.lf ({a:=true,b:=false,c:=false,low:=0,D3:=7},true)) (.br (op==60) (.lf ({a:=true,b:=false,c:=false,low:=0,D3:=11},true)) (.br (op==61) (.lf ({a:=true,b:=false,c:=false,low:=0,D3:=11},true)) (.br (op==56) (.lf ({a:=false,b:=false,c:=false,low:=0,D3:=0},true)) (.br (op==57) (.lf ({a:=false,b:=false,c:=false,low:=0,D3:=0},true)) (.br (op==62) (.lf ({a:=false,b:=false,c:=false,low:=0,D3:=0},true)) (.br (op==63) (.lf ({a:=false,b:=false,c:=false,low:=0,D3:=0},true)) (.br (op==64) (.lf ({a:=false,b:=false,c:=false,low:=0,D3:=0},true)) (.lf ({a:=false,b:=false,c:=false,low:=0,D3:=0},false)))))))))))))))))))))))))))))))))))))))))))))
def Sv op:=(Zf4 op).m
def yA:ba:=mS 180 [] true [.one (.int .i64)] [] (λa r=>Zf4 (ar a 0)) (λX=>.dt [.agg (wS.cells (X.1)),.bool (X.2)]) (λX=>[])
theorem Z7l:bj pG yA:=oS (.nil) Tryz.func180 Tryz.call180 [] [] 2
def P4(x n:Int):Tree Int:=
.br (decide (n<1)) (.lf 0) (.br (decide (n>=32)) (.lf x) (let E1:=decide (0<=wrap u64 (wrap i64 (32-n)));.cn E1 (.cn E1 (.lf (wrap u32 (bf i32 (wrap i32 (ea u32 x (wrap u64 (wrap i64 (32-n))))) (wrap u64 (wrap i64 (32-n)))))))))
def Dv x n:=(P4 x n).m
abbrev Qaw x n:=(P4 x n).p
def Qv1:ba:=mT 181 [] true [.one (.int .u32),.one (.int .i64)] [] (λa r=>P4 (ar a 0) (ar a 1)) (λX=>.int .u32 X) (λX=>[])
theorem Qif:bj pG Qv1:=oT (.nil) Tryz.func181 Tryz.call181 [] [] 2
def Sw(r:Int)(used:Bool):Tree Bool:=
.br used (.br (decide (r>=0)) (.lf (decide (r<=15))) (.lf false)) (.lf (r==0))
def KL r used:=(Sw r used).m
def Z55:ba:=mS 249 [] true [.one (.int .i64),.one (.bool)] [] (λa r=>Sw (ar a 0) (uB a 1)) (λX=>.bool X) (λX=>[])
theorem Z0m:bj pG Z55:=oS (.nil) Tryz.func249 Tryz.call249 [] [] 2
def NG(i:gj):Tree Bool:=
.lv (Sv i.Op) λ(x0:wS×Bool)=>.br x0.2 (.lv (KL i.A x0.1.a) λ(x1:Bool)=>.br x1 (.lv (KL i.B x0.1.b) λ(x2:Bool)=>.br x2 (.lv (KL i.C x0.1.c) λ(x3:Bool)=>.br x3 (.br (decide (i.bh>=x0.1.low)) (.lf (decide (i.bh<=x0.1.D3))) (.lf false)) (.lf false)) (.lf false)) (.lf false)) (.lf false)
def Ix i:=(NG i).m
def Zj4:ba:=mS 182 [] true [.agg gj.sig] [] (λa r=>NG (gj.of (aC a 0))) (λX=>.bool X) (λX=>[])
theorem Zc4:bj pG Zj4:=oS (.cons Z7l (.cons Z0m (.nil))) Tryz.func182 Tryz.call182 [] [] 2
def KN(w:Int):Tree (gj×Bool):=
.an (Me w 24 8) (.lv (tf w 24 8) λ(x0:Int)=>.an (Me w 20 4) (.lv (tf w 20 4) λ(x1:Int)=>.an (Me w 16 4) (.lv (tf w 16 4) λ(x2:Int)=>.lv (Sv (wrap i64 x0)) λ(x3:wS×Bool)=>let E1:=({Op:=0,A:=0,B:=0,C:=0,bh:=0}:gj);.br (!x3.2) (.lf (E1,false)) (.an (Me w 0 16) (.lv (tf w 0 16) λ(x4:Int)=>.br x3.1.c (let E2:=({Op:=wrap i64 x0,A:=wrap i64 x1,B:=wrap i64 x2,C:=wrap i64 x4,bh:=0}:gj);.lv (Ix E2) λ(x5:Bool)=>.br (!x5) (.lf (E1,false)) (.lf (E2,true))) (.br (decide (x3.1.low<0)) (.an (Qaw x4 16) (.lv (Dv x4 16) λ(x6:Int)=>let E3:=({Op:=wrap i64 x0,A:=wrap i64 x1,B:=wrap i64 x2,C:=0,bh:=wrap i32 x6}:gj);.lv (Ix E3) λ(x7:Bool)=>.br (!x7) (.lf (E1,false)) (.lf (E3,true)))) (let E4:=({Op:=wrap i64 x0,A:=wrap i64 x1,B:=wrap i64 x2,C:=0,bh:=wrap i32 x4}:gj);.lv (Ix E4) λ(x8:Bool)=>.br (!x8) (.lf (E1,false)) (.lf (E4,true)))))))))
def NI w:=(KN w).m
abbrev Qqi w:=(KN w).p
def Zft:ba:=mT 112 [] true [.one (.int .u32)] [] (λa r=>KN (ar a 0)) (λX=>.dt [.agg (gj.cells (X.1)),.bool (X.2)]) (λX=>[])
theorem Zbe:bj pG Zft:=oT (.cons ZB (.cons Z7l (.cons Qif (.cons Zc4 (.nil))))) Tryz.func112 Tryz.call112 [] [] 2
def K0(a b:Int):Tree (Int×Int):=
.br (b==0) (.lf (4294967295,a)) (let T1:Tree ((Int×Int)):=.cn (decide (wrap i32 b≠0)) (.cn (decide (wrap i32 b≠0)) (.lf (wrap u32 (wrap i32 (eU (wrap i32 a) (wrap i32 b))),wrap u32 (dE (wrap i32 a) (wrap i32 b)))));.br (a==2147483648) (.br (b==4294967295) (.lf (a,0)) T1) T1)
def KY a b:=(K0 a b).m
abbrev Qhx a b:=(K0 a b).p
def Zac:ba:=mT 251 [] true [.one (.int .u32),.one (.int .u32)] [] (λa r=>K0 (ar a 0) (ar a 1)) (λX=>.dt [.int .u32 (X.1),.int .u32 (X.2)]) (λX=>[])
theorem Z5j:bj pG Zac:=oT (.nil) Tryz.func251 Tryz.call251 [] [] 2
def Z3t(b:Bool):Tree Int:=
.br b (.lf 1) (.lf 0)
def Uo b:=(Z3t b).m
def Zhq:ba:=mS 252 [] true [.one (.bool)] [] (λa r=>Z3t (uB a 0)) (λX=>.int .u32 X) (λX=>[])
theorem Zc3:bj pG Zhq:=oS (.nil) Tryz.func252 Tryz.call252 [] [] 2
def P7(op a b:Int):Tree (Int×Bool):=
.br (op==2) (.lf (wrap u32 (a+wrap u32 (0-b)),true)) (.br (op==1) (.lf (wrap u32 (a+b),true)) (.br (op==16) (.lf (wrap u32 (a+b),true)) (.br (op==3) (.lf (bb u32 a b,true)) (.br (op==17) (.lf (bb u32 a b,true)) (.br (op==4) (.lf (ie u32 a b,true)) (.br (op==18) (.lf (ie u32 a b,true)) (.br (op==5) (.lf (mK u32 a b,true)) (.br (op==19) (.lf (mK u32 a b,true)) (.br (op==6) (.lf (ea u32 a (bb u32 b 31),true)) (.br (op==20) (.lf (ea u32 a (bb u32 b 31),true)) (.br (op==7) (.lf (bf u32 a (bb u32 b 31),true)) (.br (op==21) (.lf (bf u32 a (bb u32 b 31),true)) (let E1:=(wrap u32 (bf i32 (wrap i32 a) (bb u32 b 31)),true);.br (op==8) (.lf E1) (.br (op==22) (.lf E1) (.br (op==9) (.lf (wrap u32 (a*b),true)) (.br (op==10) (.an (Qhx a b) (.lv (KY a b) λ(x0:Int×Int)=>.lf (x0.1,true))) (.br (op==11) (.an (Qhx a b) (.lv (KY a b) λ(x1:Int×Int)=>.lf (x1.2,true))) (.br (op==12) (.lv (Uo (decide (wrap i32 a<wrap i32 b))) λ(x2:Int)=>.lf (x2,true)) (.br (op==23) (.lv (Uo (decide (wrap i32 a<wrap i32 b))) λ(x3:Int)=>.lf (x3,true)) (.br (op==13) (.lv (Uo (decide (a<b))) λ(x4:Int)=>.lf (x4,true)) (.lf (0,false))))))))))))))))))))))
def nn op a b:=(P7 op a b).m
abbrev Qrd op a b:=(P7 op a b).p
def vA:ba:=mT 190 [] true [.one (.int .i64),.one (.int .u32),.one (.int .u32)] [] (λa r=>P7 (ar a 0) (ar a 1) (ar a 2)) (λX=>.dt [.int .u32 (X.1),.bool (X.2)]) (λX=>[])
theorem Zms:bj pG vA:=oT (.cons Z5j (.cons Zc3 (.nil))) Tryz.func190 Tryz.call190 [] [] 2
end
noncomputable section
def Un(status Da to:Int):Tree Int:=
.br (bb u32 status Da !=0) (.lf (ie u32 status to)) (.lf (nC u32 status to))
def Af status Da to:=(Un status Da to).m
def Zng:ba:=mS 175 [] true [.one (.int .u32),.one (.int .u32),.one (.int .u32)] [] (λa r=>Un (ar a 0) (ar a 1) (ar a 2)) (λX=>.int .u32 X) (λX=>[])
theorem Z09:bj pG Zng:=oS (.nil) Tryz.func175 Tryz.call175 [] [] 2
def NN(c:bg)(ov bad:Int):Tree bg:=
.lv (Af c.B2.a0 1 8) λ(x0:Int)=>.lv (Af x0 2 16) λ(x1:Int)=>.lf ({X:=c.X,Pc:=c.B2.a1,B2:={a0:=nC u32 (ie u32 x1 1) 2,a1:=c.B2.a1,a2:=c.Pc,a3:=wrap u32 ov,a4:=bad,a5:=c.B2.a5,a6:=c.B2.a6,a7:=c.B2.a7}})
def pO c ov bad:=(NN c ov bad).m
def Zm0:ba:=mS 109 [] true [.agg bg.sig,.one (.int .i64),.one (.int .u32)] [] (λa r=>NN (bg.of (aC a 0)) (ar a 1) (ar a 2)) (λX=>.agg (bg.cells X)) (λX=>[])
theorem QX:bj pG Zm0:=oS (.cons Z09 (.nil)) Tryz.func109 Tryz.call109 [] [] 2
def Qsq(access:Int):Tree (Int×Bool):=
.br (access==1) (.lf (4,true)) (.br (access==2) (.lf (5,true)) (.br (access==3) (.lf (6,true)) (.lf (5,false))))
def Qqq access:=(Qsq access).m
def Z99:ba:=mS 245 [] true [.one (.int .i64)] [] (λa r=>Qsq (ar a 0)) (λX=>.dt [.int .i64 (X.1),.bool (X.2)]) (λX=>[])
theorem Z4p:bj pG Z99:=oS (.nil) Tryz.func245 Tryz.call245 [] [] 2
def Qwz(c:bg):Tree Bool:=
.lf (bb u32 c.B2.a0 (1:Int) !=(0:Int))
def Gm c:=(Qwz c).m
def Zdd:ba:=mS 118 [] true [.agg bg.sig] [] (λa r=>Qwz (bg.of (aC a 0))) (λX=>.bool X) (λX=>[])
theorem Qs1:bj pG Zdd:=oS (.nil) Tryz.func118 Tryz.call118 [] [] 2
def Qls(access:Int):Tree (Int×Bool):=
.br (access==1) (.lf (4,true)) (.br (access==2) (.lf (5,true)) (.br (access==3) (.lf (6,true)) (.lf (5,false))))
def Qiz access:=(Qls access).m
def Qz9:ba:=mS 241 [] true [.one (.int .i64)] [] (λa r=>Qls (ar a 0)) (λX=>.dt [.int .i64 (X.1),.bool (X.2)]) (λX=>[])
theorem Qv2:bj pG Qz9:=oS (.nil) Tryz.func241 Tryz.call241 [] [] 2
def Y0(m:List Int)(frame:Int):Tree Bool:=
.lv (lC m) λ(x0:Int)=>.lf (decide (wrap u64 frame<wrap u64 x0))
def NL m frame:=(Y0 m frame).m
def Z3c:ba:=mS 242 [] true [.one (.ints .u32),.one (.int .u32)] [] (λa r=>Y0 (du .u32 a 0) (ar a 1)) (λX=>.bool X) (λX=>[])
theorem Qyb:bj pG Z3c:=oS (.cons Hr (.nil)) Tryz.func242 Tryz.call242 [] [] 2
def KR(m:List Int)(addr size:Int):Tree (Int×Bool):=
.an (Qd1 m addr size) (.lv (WC m addr size) λ(x0:Bool)=>.br (!x0) (.lf (0,false)) (.cn (bT 1 1&&bJ 0 1&&decide (0<=wrap u32 (eU addr 4)/\wrap u32 (eU addr 4)<(m.length:Int))) (let E1:=dF (wrap u32 (eU addr 4));.br (size==1) (let E2:=wrap i64 (wrap i64 (dE addr 4)*8);.an (Me (m.getD E1 0) E2 8) (.lv (tf (m.getD E1 0) E2 8) λ(x1:Int)=>.lf (x1,true))) (.lf (m.getD E1 0,true)))))
def BS m addr size:=(KR m addr size).m
abbrev Jv m addr size:=(KR m addr size).p
def Z8y:ba:=mT 178 [] true [.one (.ints .u32),.one (.int .u32),.one (.int .i64)] [] (λa r=>KR (du .u32 a 0) (ar a 1) (ar a 2)) (λX=>.dt [.int .u32 (X.1),.bool (X.2)]) (λX=>[])
theorem QY:bj pG Z8y:=oT (.cons Qm4 (.cons ZB (.nil))) Tryz.func178 Tryz.call178 [] [] 2
def Qll(Bb access:Int):Tree Bool:=
.br (bb u32 Bb (1:Int)==(0:Int)) (.lf false) (.br (access==3) (.lf (bb u32 Bb (2:Int) !=(0:Int))) (.br (access==1) (.lf (bb u32 Bb (4:Int) !=(0:Int))) (.lf true)))
def SD Bb access:=(Qll Bb access).m
def Qz:ba:=mS 243 [] true [.one (.int .u32),.one (.int .i64)] [] (λa r=>Qll (ar a 0) (ar a 1)) (λX=>.bool X) (λX=>[])
theorem Qva:bj pG Qz:=oS (.nil) Tryz.func243 Tryz.call243 [] [] 2
def P5(Bb:Int):Tree Int:=
.an (Me Bb 8 8) (.lv (tf Bb 8 8) λ(x0:Int)=>.lf x0)
def WI Bb:=(P5 Bb).m
abbrev Qbv Bb:=(P5 Bb).p
def Qyy:ba:=mT 244 [] true [.one (.int .u32)] [] (λa r=>P5 (ar a 0)) (λX=>.int .u32 X) (λX=>[])
theorem Qvy:bj pG Qyy:=oT (.cons ZB (.nil)) Tryz.func244 Tryz.call244 [] [] 2
def KV(m:List Int)(root va access:Int):Tree re:=
.lv (Qiz access) λ(x0:Int×Bool)=>let E1:=({Addr:=0,E0:=0,D9:=x0.1}:re);.br (!x0.2) (.lf (E1)) (.br (decide (va>=4096)) (.lf (E1)) (.lv (NL m root) λ(x1:Bool)=>.br (!x1) (.lf (E1)) (let E2:=wrap u32 (root*128)+wrap u32 (4*wrap u32 (eU va 128));.an (Jv m (wrap u32 E2) 4) (.lv (BS m (wrap u32 E2) 4) λ(x2:Int×Bool)=>.br (!x2.2) (.lf (E1)) (.lv (SD x2.1 access) λ(x3:Bool)=>.br (!x3) (.lf (E1)) (.an (Qbv x2.1) (.lv (WI x2.1) λ(x4:Int)=>.lv (NL m x4) λ(x5:Bool)=>.br (!x5) (.lf (E1)) (.an (Qbv x2.1) (.lv (WI x2.1) λ(x6:Int)=>.lf ({Addr:=wrap u32 (wrap u32 (x6*128)+dE va 128),E0:=wrap u32 E2,D9:=0}))))))))))
def SC m root va access:=(KV m root va access).m
abbrev Qhe m root va access:=(KV m root va access).p
def Za:ba:=mT 176 [] true [.one (.ints .u32),.one (.int .u32),.one (.int .u32),.one (.int .i64)] [] (λa r=>KV (du .u32 a 0) (ar a 1) (ar a 2) (ar a 3)) (λX=>.agg (re.cells X)) (λX=>[])
theorem Z4l:bj pG Za:=oT (.cons Qv2 (.cons Qyb (.cons QY (.cons Qva (.cons Qvy (.nil)))))) Tryz.func176 Tryz.call176 [] [] 2
def KW(m:List Int)(entry access:Int):Tree (List Int):=
.an (Jv m entry 4) (.lv (BS m entry 4) λ(x0:Int×Bool)=>.br (!x0.2) (.an (mh m) (.lv (jy m) λ(x1:List Int)=>.lf x1)) (.br (access==3) (.an (ZC m entry 4 (ie u32 (ie u32 x0.1 8) 16)) (.lv (KS m entry 4 (ie u32 (ie u32 x0.1 8) 16)) λ(x2:List Int×Bool)=>.lf x2.1)) (.an (ZC m entry 4 (ie u32 x0.1 8)) (.lv (KS m entry 4 (ie u32 x0.1 8)) λ(x3:List Int×Bool)=>.lf x3.1))))
def Qb m entry access:=(KW m entry access).m
abbrev Qex m entry access:=(KW m entry access).p
def Z5t:ba:=mT 246 [] true [.one (.ints .u32),.one (.int .u32),.one (.int .i64)] [] (λa r=>KW (du .u32 a 0) (ar a 1) (ar a 2)) (λX=>.all 0) (λX=>[⟨false,23,1,.ints .u32 X⟩])
theorem Z1e:bj pG Z5t:=oT (.cons QY (.cons DQ (.cons Qoc (.nil)))) Tryz.func246 Tryz.call246 [.row 23 1 (.ints .u32)] [] 2
def K3(c:bg)(m:List Int)(va size access:Int):Tree (Int×(List Int)×Int):=
.lv (Qqq access) λ(x0:Int×Bool)=>let T3:Tree ((Int×(List Int)×Int)):=.an (mh m) (.lv (jy m) λ(x1:List Int)=>.lf (0,x1,5));.br (!x0.2) T3 (let T1:Tree ((Int×(List Int)×Int)):=.cn (decide (wrap u32 size≠0)) (.br (dE va (wrap u32 size) !=0) (.an (mh m) (.lv (jy m) λ(x3:List Int)=>.lf (0,x3,3))) (.lv (Gm c) λ(x4:Bool)=>let T2:Tree ((Int×(List Int)×Int)):=.an (Jv m va size) (.lv (BS m va size) λ(x8:Int×Bool)=>.br (!x8.2) (.an (mh m) (.lv (jy m) λ(x9:List Int)=>.lf (0,x9,x0.1))) (.an (mh m) (.lv (jy m) λ(kZ:List Int)=>.lf (va,kZ,0))));.br (!x4) (.br (bb u32 c.B2.a0 (4:Int) !=(0:Int)) (.an (Qhe m c.B2.a6 va access) (.lv (SC m c.B2.a6 va access) λ(x5:re)=>.br (x5.D9 !=0) (.an (mh m) (.lv (jy m) λ(x6:List Int)=>.lf (0,x6,x5.D9))) (.an (Qex m x5.E0 access) (.lv (Qb m x5.E0 access) λ(x7:List Int)=>.lf (x5.Addr,x7,0))))) T2) T2));.br (size !=1) (.br (size !=4) T3 T1) T1)
def rr c m va size access:=(K3 c m va size access).m
abbrev ZD c m va size access:=(K3 c m va size access).p
def Zbl:ba:=mT 177 [] true [.agg bg.sig,.one (.ints .u32),.one (.int .u32),.one (.int .i64),.one (.int .i64)] [] (λa r=>K3 (bg.of (aC a 0)) (du .u32 a 1) (ar a 2) (ar a 3) (ar a 4)) (λX=>.dt [.int .u32 (X.1),.all 0,.int .i64 (X.2.2)]) (λX=>[⟨false,23,1,.ints .u32 (X.2.1)⟩])
theorem ZE:bj pG Zbl:=oT (.cons Z4p (.cons DQ (.cons Qs1 (.cons Z4l (.cons Z1e (.cons QY (.nil))))))) Tryz.func177 Tryz.call177 [.row 23 1 (.ints .u32)] [] 2
def P6(c:bg)(m:List Int):Tree (Int×(List Int)×Int):=
.an (ZD c m c.Pc 4 1) (.lv (rr c m c.Pc 4 1) λ(x0:Int×List Int×Int)=>.br (x0.2.2 !=0) (.lf (0,x0.2.1,x0.2.2)) (.an (Jv x0.2.1 x0.1 4) (.lv (BS x0.2.1 x0.1 4) λ(x1:Int×Bool)=>.lf (x1.1,x0.2.1,0))))
def SM c m:=(P6 c m).m
abbrev Qt0 c m:=(P6 c m).p
def Zh1:ba:=mT 111 [] true [.agg bg.sig,.one (.ints .u32)] [] (λa r=>P6 (bg.of (aC a 0)) (du .u32 a 1)) (λX=>.dt [.int .u32 (X.1),.all 0,.int .i64 (X.2.2)]) (λX=>[⟨false,23,1,.ints .u32 (X.2.1)⟩])
theorem Zfg:bj pG Zh1:=oT (.cons ZE (.cons QY (.nil))) Tryz.func111 Tryz.call111 [.row 23 1 (.ints .u32)] [] 2
def Qlq(op:Int):Tree Bool:=
.br (op==57) (.lf true) (.br (op==58) (.lf true) (.br (op==59) (.lf true) (.br (op==60) (.lf true) (.br (op==61) (.lf true) (.br (op==62) (.lf true) (.br (op==63) (.lf true) (.br (op==64) (.lf true) (.lf false))))))))
def NF op:=(Qlq op).m
def Qy6:ba:=mS 114 [] true [.one (.int .i64)] [] (λa r=>Qlq (ar a 0)) (λX=>.bool X) (λX=>[])
theorem Qwn:bj pG Qy6:=oS (.nil) Tryz.func114 Tryz.call114 [] [] 2
def Y1(op:Int):Tree Int:=
.br (op==32) (.lf 4) (.br (op==35) (.lf 4) (.lf 1))
def Jw op:=(Y1 op).m
def Zgm:ba:=mS 184 [] true [.one (.int .i64)] [] (λa r=>Y1 (ar a 0)) (λX=>.int .i64 X) (λX=>[])
theorem Qxd:bj pG Zgm:=oS (.nil) Tryz.func184 Tryz.call184 [] [] 2
def Ey(c:bg)(register v:Int):Tree bg:=
.br (register !=0) (.cn (bJ 0 1&&decide (0<=register/\register<(↑16:Int))) (.lf ({X:=fv.of 0 (dG (fv.l c.X) register.toNat v),Pc:=c.Pc,B2:=c.B2}))) (.lf c)
def tZ c register v:=(Ey c register v).m
abbrev Hs c register v:=(Ey c register v).p
def qB:ba:=mT 185 [] true [.agg bg.sig,.one (.int .i64),.one (.int .u32)] [] (λa r=>Ey (bg.of (aC a 0)) (ar a 1) (ar a 2)) (λX=>.agg (bg.cells X)) (λX=>[])
theorem Z7q:bj pG qB:=oT (.nil) Tryz.func185 Tryz.call185 [] [] 2
def Ir(c:bg)(m:List Int)(i:gj):Tree (bg×(List Int)):=
.cn (bJ 0 1&&decide (0<=i.B/\i.B<(↑16:Int))) (.lv (Jw i.Op) λ(x0:Int)=>let E1:=wrap u32 (aK (fv.l c.X) i.B.toNat 0+wrap u32 i.bh);.an (ZD c m E1 x0 2) (.lv (rr c m E1 x0 2) λ(x1:Int×List Int×Int)=>.br (x1.2.2 !=0) (.lv (pO c x1.2.2 E1) λ(x2:bg)=>.lf (x2,x1.2.1)) (.lv (Jw i.Op) λ(x3:Int)=>.an (Jv x1.2.1 x1.1 x3) (.lv (BS x1.2.1 x1.1 x3) λ(x4:Int×Bool)=>.br (i.Op==33) (.an (Qaw x4.1 8) (.lv (Dv x4.1 8) λ(x5:Int)=>.an (Hs c i.A x5) (.lv (tZ c i.A x5) λ(x6:bg)=>.lf ({X:=x6.X,Pc:=wrap u32 (x6.Pc+4),B2:=x6.B2},x1.2.1)))) (.an (Hs c i.A x4.1) (.lv (tZ c i.A x4.1) λ(x7:bg)=>.lf ({X:=x7.X,Pc:=wrap u32 (x7.Pc+4),B2:=x7.B2},x1.2.1)))))))
def th c m i:=(Ir c m i).m
abbrev Qxl c m i:=(Ir c m i).p
def Zo2:ba:=mT 119 [] true [.agg bg.sig,.one (.ints .u32),.agg gj.sig] [] (λa r=>Ir (bg.of (aC a 0)) (du .u32 a 1) (gj.of (aC a 2))) (λX=>.dt [.agg (bg.cells (X.1)),.all 0]) (λX=>[⟨false,23,1,.ints .u32 (X.2)⟩])
theorem Zh6:bj pG Zo2:=oT (.cons ZE (.cons Qxd (.cons QX (.cons QY (.cons Qif (.cons Z7q (.nil))))))) Tryz.func119 Tryz.call119 [.row 23 1 (.ints .u32)] [] 2
def It(c:bg)(m:List Int)(i:gj):Tree (bg×(List Int)):=
.cn (bJ 0 1&&decide (0<=i.B/\i.B<(↑16:Int))) (.lv (Jw i.Op) λ(x0:Int)=>let E1:=wrap u32 (aK (fv.l c.X) i.B.toNat 0+wrap u32 i.bh);.an (ZD c m E1 x0 3) (.lv (rr c m E1 x0 3) λ(x1:Int×List Int×Int)=>.br (x1.2.2 !=0) (.lv (pO c x1.2.2 E1) λ(x2:bg)=>.lf (x2,x1.2.1)) (.lv (Jw i.Op) λ(x3:Int)=>.cn (bJ 0 1&&decide (0<=i.A/\i.A<(↑16:Int))) (let E2:=aK (fv.l c.X) i.A.toNat 0;.an (ZC x1.2.1 x1.1 x3 E2) (.lv (KS x1.2.1 x1.1 x3 E2) λ(x4:List Int×Bool)=>.lf ({X:=c.X,Pc:=wrap u32 (c.Pc+4),B2:=c.B2},x4.1))))))
def BU c m i:=(It c m i).m
abbrev Qud c m i:=(It c m i).p
def Zh2:ba:=mT 120 [] true [.agg bg.sig,.one (.ints .u32),.agg gj.sig] [] (λa r=>It (bg.of (aC a 0)) (du .u32 a 1) (gj.of (aC a 2))) (λX=>.dt [.agg (bg.cells (X.1)),.all 0]) (λX=>[⟨false,23,1,.ints .u32 (X.2)⟩])
theorem Zf:bj pG Zh2:=oT (.cons ZE (.cons Qxd (.cons QX (.cons Qoc (.nil))))) Tryz.func120 Tryz.call120 [.row 23 1 (.ints .u32)] [] 2
def Z1x(op a b:Int):Tree Bool:=
.br (op==40) (.lf (a==b)) (.br (op==41) (.lf (a !=b)) (.br (op==42) (.lf (decide (wrap i32 a<wrap i32 b))) (.br (op==43) (.lf (decide (wrap i32 a>=wrap i32 b))) (.br (op==44) (.lf (decide (a<b))) (.lf (decide (a>=b)))))))
def Zf7 op a b:=(Z1x op a b).m
def Zib:ba:=mS 187 [] true [.one (.int .i64),.one (.int .u32),.one (.int .u32)] [] (λa r=>Z1x (ar a 0) (ar a 1) (ar a 2)) (λX=>.bool X) (λX=>[])
theorem Zdm:bj pG Zib:=oS (.nil) Tryz.func187 Tryz.call187 [] [] 2
def NP(c:bg):Tree bg:=
.lv (Af c.B2.a0 8 1) λ(x0:Int)=>.lv (Af x0 16 2) λ(x1:Int)=>.lf ({X:=c.X,Pc:=c.B2.a2,B2:={a0:=x1,a1:=c.B2.a1,a2:=c.B2.a2,a3:=c.B2.a3,a4:=c.B2.a4,a5:=c.B2.a5,a6:=c.B2.a6,a7:=c.B2.a7}})
def KG c:=(NP c).m
def Zgb:ba:=mS 188 [] true [.agg bg.sig] [] (λa r=>NP (bg.of (aC a 0))) (λX=>.agg (bg.cells X)) (λX=>[])
theorem Z8k:bj pG Zgb:=oS (.cons Z09 (.nil)) Tryz.func188 Tryz.call188 [] [] 2
def Iq(c:bg)(jj v:Int):Tree bg:=
let E4:=bJ 0 1&&decide (0<=jj/\jj<(↑8:Int));let T2:Tree (bg):=.cn E4 (.lf ({X:=c.X,Pc:=c.Pc,B2:=A8.of 0 (dG (A8.l c.B2) jj.toNat (bb u32 v 31))}));.br (jj==0) T2 (.br (jj==7) T2 (.br (jj==6) (.cn E4 (.lf ({X:=c.X,Pc:=c.Pc,B2:=A8.of 0 (dG (A8.l c.B2) jj.toNat (bb u32 v 255))}))) (let T3:Tree (bg):=.cn E4 (.lf ({X:=c.X,Pc:=c.Pc,B2:=A8.of 0 (dG (A8.l c.B2) jj.toNat (nC u32 v 3))}));.br (jj==1) T3 (.br (jj==2) T3 (let T1:Tree (bg):=.cn E4 (.lf ({X:=c.X,Pc:=c.Pc,B2:=A8.of 0 (dG (A8.l c.B2) jj.toNat v)}));.br (jj==3) T1 (.br (jj==4) T1 (.br (jj==5) T1 (.lf c))))))))
def Zf1 c jj v:=(Iq c jj v).m
abbrev Qs8 c jj v:=(Iq c jj v).p
def Zih:ba:=mT 189 [] true [.agg bg.sig,.one (.int .i64),.one (.int .u32)] [] (λa r=>Iq (bg.of (aC a 0)) (ar a 1) (ar a 2)) (λX=>.agg (bg.cells X)) (λX=>[])
theorem Zc7:bj pG Zih:=oT (.nil) Tryz.func189 Tryz.call189 [] [] 2
def Ez(c:bg)(i:gj):Tree (bg×kD):=
.cn (bJ 0 1&&decide (0<=i.A/\i.A<(↑16:Int))) (.cn (bJ 0 1&&decide (0<=i.B/\i.B<(↑16:Int))) (.br (i.Op==24) (.an (Hs c i.A (ea u32 (wrap u32 i.bh) 16)) (.lv (tZ c i.A (ea u32 (wrap u32 i.bh) 16)) λ(x0:bg)=>.lf ({X:=x0.X,Pc:=wrap u32 (c.Pc+4),B2:=x0.B2},{C4:=0,C6:=0,D7:=0,Value:=0}))) (let E2:=({X:=c.X,Pc:=wrap u32 (c.Pc+4),B2:=c.B2}:bg);let E3:=aK (fv.l c.X) i.B.toNat 0;let E4:=aK (fv.l c.X) i.A.toNat 0;let T1:Tree ((bg×kD)):=.lv (Zf7 i.Op E4 E3) λ(x1:Bool)=>.br x1 (.lf ({X:=c.X,Pc:=wrap u32 (c.Pc+wrap u32 (4*wrap u32 i.bh)),B2:=c.B2},{C4:=0,C6:=0,D7:=0,Value:=0})) (.lf (E2,{C4:=0,C6:=0,D7:=0,Value:=0}));.br (i.Op==40) T1 (.br (i.Op==41) T1 (.br (i.Op==42) T1 (.br (i.Op==43) T1 (.br (i.Op==44) T1 (.br (i.Op==45) T1 (.br (i.Op==48) (.an (Hs c i.A (wrap u32 (c.Pc+4))) (.lv (tZ c i.A (wrap u32 (c.Pc+4))) λ(x7:bg)=>.lf ({X:=x7.X,Pc:=wrap u32 (x7.Pc+wrap u32 (4*wrap u32 i.bh)),B2:=x7.B2},{C4:=0,C6:=0,D7:=0,Value:=0}))) (.br (i.Op==49) (.an (Hs c i.A (wrap u32 (c.Pc+4))) (.lv (tZ c i.A (wrap u32 (c.Pc+4))) λ(x8:bg)=>.lf ({X:=x8.X,Pc:=wrap u32 (aK (fv.l c.X) i.B.toNat 0+wrap u32 i.bh),B2:=x8.B2},{C4:=0,C6:=0,D7:=0,Value:=0}))) (.br (i.Op==56) (.lv (pO c 7 0) λ(x9:bg)=>.lf (x9,{C4:=0,C6:=0,D7:=0,Value:=0})) (.br (i.Op==57) (.lv (KG c) λ(kZ:bg)=>.lf (kZ,{C4:=0,C6:=0,D7:=0,Value:=0})) (.br (i.Op==58) (.cn (bJ 0 1&&decide (0<=i.bh/\i.bh<(↑8:Int))) (let E5:=aK (A8.l c.B2) i.bh.toNat 0;.an (Hs c i.A E5) (.lv (tZ c i.A E5) λ(nq:bg)=>.lf ({X:=nq.X,Pc:=wrap u32 (c.Pc+4),B2:=nq.B2},{C4:=0,C6:=0,D7:=0,Value:=0})))) (.br (i.Op==59) (.an (Qs8 c (wrap i64 i.bh) E4) (.lv (Zf1 c (wrap i64 i.bh) E4) λ(pz:bg)=>.lf ({X:=pz.X,Pc:=wrap u32 (c.Pc+4),B2:=pz.B2},{C4:=0,C6:=0,D7:=0,Value:=0}))) (.br (i.Op==60) (.lf (E2,{C4:=1,C6:=wrap i64 i.bh,D7:=i.A,Value:=0})) (.br (i.Op==61) (.lf (E2,{C4:=2,C6:=wrap i64 i.bh,D7:=0,Value:=aK (fv.l c.X) i.A.toNat 0})) (.br (i.Op==62) (.lf (E2,{C4:=3,C6:=0,D7:=0,Value:=0})) (.br (i.Op==63) (.lf (E2,{C4:=5,C6:=0,D7:=0,Value:=0})) (.br (i.Op==64) (.lf (E2,{C4:=4,C6:=0,D7:=0,Value:=0})) (.cn (bJ 0 1&&decide (0<=i.C/\i.C<(↑16:Int))) (.br (decide (i.Op>=16)) (.an (Qrd i.Op E3 (wrap u32 i.bh)) (.lv (nn i.Op E3 (wrap u32 i.bh)) λ(ry:Int×Bool)=>.an (Hs c i.A ry.1) (.lv (tZ c i.A ry.1) λ(uf:bg)=>.lf ({X:=uf.X,Pc:=wrap u32 (c.Pc+4),B2:=uf.B2},{C4:=0,C6:=0,D7:=0,Value:=0})))) (let E6:=aK (fv.l c.X) i.C.toNat 0;.an (Qrd i.Op E3 E6) (.lv (nn i.Op E3 E6) λ(IK:Int×Bool)=>.an (Hs c i.A IK.1) (.lv (tZ c i.A IK.1) λ(ug:bg)=>.lf ({X:=ug.X,Pc:=wrap u32 (c.Pc+4),B2:=ug.B2},{C4:=0,C6:=0,D7:=0,Value:=0})))))))))))))))))))))))))
def WL c i:=(Ez c i).m
abbrev Qni c i:=(Ez c i).p
def Z8p:ba:=mT 121 [] true [.agg bg.sig,.agg gj.sig] [] (λa r=>Ez (bg.of (aC a 0)) (gj.of (aC a 1))) (λX=>.dt [.agg (bg.cells (X.1)),.agg (kD.cells (X.2))]) (λX=>[])
theorem Z51:bj pG Z8p:=oT (.cons Z7q (.cons Zdm (.cons QX (.cons Z8k (.cons Zc7 (.cons Zms (.nil))))))) Tryz.func121 Tryz.call121 [] [] 2
def EA(c:bg)(m:List Int):Tree (bg×(List Int)×kD):=
.an (Qt0 c m) (.lv (SM c m) λ(x0:Int×List Int×Int)=>.br (x0.2.2 !=0) (.lv (pO c x0.2.2 c.Pc) λ(x1:bg)=>.lf (x1,x0.2.1,{C4:=0,C6:=0,D7:=0,Value:=0})) (.an (Qqi x0.1) (.lv (NI x0.1) λ(x2:gj×Bool)=>.br (!x2.2) (.lv (pO c 1 x0.1) λ(x3:bg)=>.lf (x3,x0.2.1,{C4:=0,C6:=0,D7:=0,Value:=0})) (.lv (NF x2.1.Op) λ(x4:Bool)=>let T1:Tree ((bg×(List Int)×kD)):=let T2:Tree ((bg×(List Int)×kD)):=.an (Qxl c x0.2.1 x2.1) (.lv (th c x0.2.1 x2.1) λ(x7:bg×List Int)=>.lf (x7.1,x7.2,{C4:=0,C6:=0,D7:=0,Value:=0}));.br (x2.1.Op==32) T2 (.br (x2.1.Op==33) T2 (.br (x2.1.Op==34) T2 (let T3:Tree ((bg×(List Int)×kD)):=.an (Qud c x0.2.1 x2.1) (.lv (BU c x0.2.1 x2.1) λ(kZ:bg×List Int)=>.lf (kZ.1,kZ.2,{C4:=0,C6:=0,D7:=0,Value:=0}));.br (x2.1.Op==35) T3 (.br (x2.1.Op==36) T3 (.an (Qni c x2.1) (.lv (WL c x2.1) λ(pz:bg×kD)=>.lf (pz.1,x0.2.1,pz.2)))))));.br x4 (.lv (Gm c) λ(x5:Bool)=>.br (!x5) (.lv (pO c 2 x0.1) λ(x6:bg)=>.lf (x6,x0.2.1,{C4:=0,C6:=0,D7:=0,Value:=0})) T1) T1))))
def Q7 c m:=(EA c m).m
abbrev Qmt c m:=(EA c m).p
def Zlo:ba:=mT 63 [] true [.agg bg.sig,.one (.ints .u32)] [] (λa r=>EA (bg.of (aC a 0)) (du .u32 a 1)) (λX=>.dt [.agg (bg.cells (X.1)),.all 0,.agg (kD.cells (X.2.2))]) (λX=>[⟨false,23,1,.ints .u32 (X.2.1)⟩])
theorem Z10:bj pG Zlo:=oT (.cons Zfg (.cons QX (.cons Zbe (.cons Qwn (.cons Qs1 (.cons Zh6 (.cons Zf (.cons Z51 (.nil))))))))) Tryz.func63 Tryz.call63 [.row 23 1 (.ints .u32)] [] 2
end
noncomputable section
def JJ:List UInt8:=[(0:UInt8),1,2,2,3,3,3,3,4,4,4,4,4,4,4,4,5,5,5,5,5,5,5,5,5,5,5,5,5,5,5,5,6,6,6,6,6,6,6,6,6,6,6,6,6,6,6,6,6,6,6,6,6,6,6,6,6,6,6,6,6,6,6,6]
def QZ:List UInt8:=[(7:UInt8),7,7,7,7,7,7,7,7,7,7,7,7,7,7,7,7,7,7,7,7,7,7,7,7,7,7,7,7,7,7,7,7,7,7,7,7,7,7,7,7,7,7,7,7,7,7,7,7,7,7,7,7,7,7,7,7,7,7,7,7,7,7,7]
def DR:List UInt8:=[(8:UInt8),8,8,8,8,8,8,8,8,8,8,8,8,8,8,8,8,8,8,8,8,8,8,8,8,8,8,8,8,8,8,8,8,8,8,8,8,8,8,8,8,8,8,8,8,8,8,8,8,8,8,8,8,8,8,8,8,8,8,8,8,8,8,8]
def UD:List UInt8:=[(1:UInt8),2,2,3,3,3,3,4,4,4,4,4,4,4,4,5,5,5,5,5,5,5,5,5,5,5,5,5,5,5,5,6,6,6,6,6,6,6,6,6,6,6,6,6,6,6,6,6,6,6,6,6,6,6,6,6,6,6,6,6,6,6,6]
def JK:List UInt8:=[(0:UInt8),1,1,2,1,2,2,3,1,2,2,3,2,3,3,4,1,2,2,3,2,3,3,4,2,3,3,4,3,4,4,5,1,2,2,3,2,3,3,4,2,3,3,4,3,4,4,5,2,3,3,4,3,4,4,5,3,4,4,5,4,5,5,6]
def DS:List UInt8:=[(1:UInt8),2,2,3,2,3,3,4,2,3,3,4,3,4,4,5,2,3,3,4,3,4,4,5,3,4,4,5,4,5,5,6,2,3,3,4,3,4,4,5,3,4,4,5,4,5,5,6,3,4,4,5,4,5,5,6,4,5,5,6,5,6,6,7]
def Ra:List UInt8:=[(2:UInt8),3,3,4,3,4,4,5,3,4,4,5,4,5,5,6,3,4,4,5,4,5,5,6,4,5,5,6,5,6,6,7,3,4,4,5,4,5,5,6,4,5,5,6,5,6,6,7,4,5,5,6,5,6,6,7,5,6,6,7,6,7,7,8]
def UE:List UInt8:=[(1:UInt8),1,2,1,2,2,3,1,2,2,3,2,3,3,4,1,2,2,3,2,3,3,4,2,3,3,4,3,4,4,5,1,2,2,3,2,3,3,4,2,3,3,4,3,4,4,5,2,3,3,4,3,4,4,5,3,4,4,5,4,5,5,6]
def Qst(c:iO):Tree Bool:=
.lf (decide ((c.C5.length:Int)<=(16:Int)))
def ta c:=(Qst c).m
def Z9d:ba:=mS 195 [] true [.agg iO.sig] [] (λa r=>Qst (iO.of (aC a 0))) (λX=>.bool X) (λX=>[])
theorem Z50:bj pG Z9d:=oS (.nil) Tryz.func195 Tryz.call195 [] [] 2
def So(t:iS):Tree Bool:=
.br t.C9 (.br (!t.C8) (.lf (t.B8 !=0)) (.lf false)) (.br t.C8 (.lf true) (.lf (t.B8==0)))
def te t:=(So t).m
def Zik:ba:=mS 196 [] true [.agg iS.sig] [] (λa r=>So (iS.of (aC a 0))) (λX=>.bool X) (λX=>[])
theorem Zdk:bj pG Zik:=oS (.nil) Tryz.func196 Tryz.call196 [] [] 2
def Il(d0:fe):Tree Bool:=
.br (d0.D1==1) (.lf (decide (d0.B6=[]))) (.br (d0.D1==2) (.lf ((d0.B6.length:Int)==(128:Int))) (.lf false))
def Nu d0:=(Il d0).m
def Qul:ba:=mS 260 [] true [.agg fe.sig] [] (λa r=>Il (fe.of (aC a 0))) (λX=>.bool X) (λX=>[])
theorem Qsw:bj pG Qul:=oS (.nil) Tryz.func260 Tryz.call260 [] [] 2
def u9(d0:fe)(cw:Int):Tree Bool:=
.br (decide (d0.ab>64)) (.lf false) (let T1:Tree (Bool):=.br (d0.D1==0) (.br (d0.B4==0) (.br (d0.B0==0) (.lf (decide (d0.B6=[]))) (.lf false)) (.lf false)) (.lf false);.br (d0.B5==0) T1 (.br (d0.B5==2) T1 (.br (d0.B5==3) T1 (.br (d0.B5==1) (.lv (Nu d0) λ(x0:Bool)=>.br x0 (.br (decide (d0.B4<d0.ab)) (.lf (decide (wrap i64 d0.B0<cw))) (.lf false)) (.lf false)) (.lf false)))))
def j5 d0 cw:=(u9 d0 cw).m
def Zmu:ba:=mS 197 [] true [.agg fe.sig,.one (.int .i64)] [] (λa r=>u9 (fe.of (aC a 0)) (ar a 1)) (λX=>.bool X) (λX=>[])
theorem Zgl:bj pG Zmu:=oS (.cons Qsw (.nil)) Tryz.func197 Tryz.call197 [] [] 2
def Ku(n:gq)(cw:Int):Tree Bool:=
let T1:Tree (Bool):=let T2:Tree (Bool):=.br n.B3 (.br (decide (n.D8>=1)) (.lf (decide (n.D8<=128))) (.lf false)) (.lf (n.D8==0));.br n.C2 (.br (decide (wrap i64 n.B7>=cw)) (.lf false) T2) (.br (n.B7 !=0) (.lf false) T2);.br n.C2 (.br n.B3 (.lf false) T1) T1
def oU n cw:=(Ku n cw).m
def xB:ba:=mS 198 [] true [.agg gq.sig,.one (.int .i64)] [] (λa r=>Ku (gq.of (aC a 0)) (ar a 1)) (λX=>.bool X) (λX=>[])
theorem Zn:bj pG xB:=oS (.nil) Tryz.func198 Tryz.call198 [] [] 2
def Dq(x:Int):Tree Int:=
let E1:=(↑(dK (cQ (cQ JJ QZ) (cQ DR DR))):Int);.br (decide (x>=65536)) (.br (decide (bf u32 x (16:Int)>=(256:Int))) (.cn (decide (0<=wrap u8 (bf u32 (bf u32 x 16) 8)/\wrap u8 (bf u32 (bf u32 x 16) 8)<E1)) (.lf (wrap i64 (wrap i64 ((16:Int)+(8:Int))+wrap i64 (↑(eW (aK ((0:UInt8)::(UD++QZ++(DR++DR))) (dF (wrap u8 (bf u32 (bf u32 x 16) 8))) (0:UInt8))):Int))))) (.cn (decide (0<=wrap u8 (bf u32 x 16)/\wrap u8 (bf u32 x 16)<E1)) (.lf (wrap i64 (16+wrap i64 (↑(eW (aK ((0:UInt8)::(UD++QZ++(DR++DR))) (dF (wrap u8 (bf u32 x 16))) (0:UInt8))):Int)))))) (.br (decide (x>=256)) (.cn (decide (0<=wrap u8 (bf u32 x 8)/\wrap u8 (bf u32 x 8)<E1)) (.lf (wrap i64 (wrap i64 ((0:Int)+(8:Int))+wrap i64 (↑(eW (aK ((0:UInt8)::(UD++QZ++(DR++DR))) (dF (wrap u8 (bf u32 x 8))) (0:UInt8))):Int))))) (.cn (decide (0<=wrap u8 x/\wrap u8 x<E1)) (.lf (wrap i64 (0+wrap i64 (↑(eW (aK ((0:UInt8)::(UD++QZ++(DR++DR))) (dF (wrap u8 x)) (0:UInt8))):Int))))))
def wa x:=(Dq x).m
abbrev Qgc x:=(Dq x).p
def Qv6:ba:=mT 261 [] true [.one (.int .u32)] [] (λa r=>Dq (ar a 0)) (λX=>.int .i64 X) (λX=>[])
theorem Qtd:bj pG Qv6:=oT (.nil) Tryz.func261 Tryz.call261 [] [] 2
def F5(b:gh)(cw:Int):Tree Bool:=
.an (Qgc b.C0) (.lv (wa b.C0) λ(x0:Int)=>.lf (decide (x0<=if 0>cw then 0 else cw)))
def tV b cw:=(F5 b cw).m
abbrev Qhq b cw:=(F5 b cw).p
def Zav:ba:=mT 199 [] true [.agg gh.sig,.one (.int .i64)] [] (λa r=>F5 (gh.of (aC a 0)) (ar a 1)) (λX=>.bool X) (λX=>[])
theorem Z41:bj pG Zav:=oT (.cons Qtd (.nil)) Tryz.func199 Tryz.call199 [] [] 2
def Dn(m:au):Tree Bool:=
.lv (lC m.Mem) λ(x0:Int)=>.lv (ta m.A2) λ(x1:Bool)=>.br x1 (.lv (te m.A7) λ(x2:Bool)=>.br x2 (.lv (j5 m.A6 x0) λ(x3:Bool)=>.br x3 (.lv (oU m.C1 x0) λ(x4:Bool)=>.br x4 (.an (Qhq m.A1 x0) (.lv (tV m.A1 x0) λ(x5:Bool)=>.lf x5)) (.lf false)) (.lf false)) (.lf false)) (.lf false)
def se m:=(Dn m).m
abbrev Uz m:=(Dn m).p
def Qpm:ba:=mT 131 [] true [.agg au.sig] [] (λa r=>Dn (au.of (aC a 0))) (λX=>.bool X) (λX=>[])
theorem Qoa:bj pG Qpm:=oT (.cons Hr (.cons Z50 (.cons Zdk (.cons Zgl (.cons Zn (.cons Z41 (.nil))))))) Tryz.func131 Tryz.call131 [] [] 2
def Jx(m:au):Tree Bool:=
.lv (lC m.Mem) λ(x0:Int)=>.br (x0==0) (.lf false) (.br (m.A9.X.a0 !=0) (.lf false) (.br (decide (m.A9.B2.a0>31)) (.lf false) (.br (decide (m.A9.B2.a7>31)) (.lf false) (.br (decide (m.A9.B2.a6>255)) (.lf false) (.br (dE m.A9.B2.a1 (4:Int) !=(0:Int)) (.lf false) (.br (decide (m.A0>1152921504606846976)) (.lf false) (.br m.A3 (.br m.A4 (.lf false) (.an (Uz m) (.lv (se m) λ(x1:Bool)=>.lf x1))) (.an (Uz m) (.lv (se m) λ(x2:Bool)=>.lf x2)))))))))
def mF m:=(Jx m).m
abbrev QR m:=(Jx m).p
def Zae:ba:=mT 68 [] true [.agg au.sig] [] (λa r=>Jx (au.of (aC a 0))) (λX=>.bool X) (λX=>[])
theorem ZF:bj pG Zae:=oT (.cons Hr (.cons Qoa (.nil))) Tryz.func68 Tryz.call68 [] [] 2
def Qn5(t:iS):Tree Bool:=
.lf t.C8
def Xb t:=(Qn5 t).m
def Z2:ba:=mS 170 [] true [.agg iS.sig] [] (λa r=>Qn5 (iS.of (aC a 0))) (λX=>.bool X) (λX=>[])
theorem Qy8:bj pG Z2:=oS (.nil) Tryz.func170 Tryz.call170 [] [] 2
def Qjm(c:iO):Tree Bool:=
.lf (!decide (c.C5=[]))
def SR c:=(Qjm c).m
def Qw0:ba:=mS 171 [] true [.agg iO.sig] [] (λa r=>Qjm (iO.of (aC a 0))) (λX=>.bool X) (λX=>[])
theorem Qsl:bj pG Qw0:=oS (.nil) Tryz.func171 Tryz.call171 [] [] 2
def Qj(d0:fe):Tree Bool:=
.br (d0.B5==2) (.lf true) (.lf (d0.B5==3))
def Kx d0:=(Qj d0).m
def Z4e:ba:=mS 172 [] true [.agg fe.sig] [] (λa r=>Qj (fe.of (aC a 0))) (λX=>.bool X) (λX=>[])
theorem Qo4:bj pG Z4e:=oS (.nil) Tryz.func172 Tryz.call172 [] [] 2
def Qs5(n:gq):Tree Bool:=
.lf n.B3
def Xc n:=(Qs5 n).m
def Z8u:ba:=mS 173 [] true [.agg gq.sig] [] (λa r=>Qs5 (gq.of (aC a 0))) (λX=>.bool X) (λX=>[])
theorem Z4z:bj pG Z8u:=oS (.nil) Tryz.func173 Tryz.call173 [] [] 2
def P8(x:Int):Tree Int:=
let E1:=(↑(dK (cQ (cQ JK DS) (cQ DS Ra))):Int);.cn (decide (0<=bf u32 x 24/\bf u32 x 24<E1)) (.cn (decide (0<=bb u32 (bf u32 x 16) 255/\bb u32 (bf u32 x 16) 255<E1)) (.cn (decide (0<=bb u32 (bf u32 x 8) 255/\bb u32 (bf u32 x 8) 255<E1)) (.cn (decide (0<=bb u32 x 255/\bb u32 x 255<E1)) (.lf (wrap i64 (wrap u8 (wrap u8 (wrap u8 ((↑(eW (aK ((0:UInt8)::(UE++DS++(DS++Ra))) (dF (bf u32 x 24)) (0:UInt8))):Int)+(↑(eW (aK ((0:UInt8)::(UE++DS++(DS++Ra))) (dF (bb u32 (bf u32 x 16) 255)) (0:UInt8))):Int))+(↑(eW (aK ((0:UInt8)::(UE++DS++(DS++Ra))) (dF (bb u32 (bf u32 x 8) 255)) (0:UInt8))):Int))+(↑(eW (aK ((0:UInt8)::(UE++DS++(DS++Ra))) (dF (bb u32 x 255)) (0:UInt8))):Int))))))))
def W4 x:=(P8 x).m
abbrev Q9x x:=(P8 x).p
def Qkz:ba:=mT 253 [] true [.one (.int .u32)] [] (λa r=>P8 (ar a 0)) (λX=>.int .i64 X) (λX=>[])
theorem Qje:bj pG Qkz:=oT (.nil) Tryz.func253 Tryz.call253 [] [] 2
def P9(b:gh):Tree Int:=
.an (Q9x b.C0) (.lv (W4 b.C0) λ(x0:Int)=>.lf x0)
def SW b:=(P9 b).m
abbrev Qdb b:=(P9 b).p
def Z0y:ba:=mT 191 [] true [.agg gh.sig] [] (λa r=>P9 (gh.of (aC a 0))) (λX=>.int .i64 X) (λX=>[])
theorem Qm2:bj pG Z0y:=oT (.cons Qje (.nil)) Tryz.func191 Tryz.call191 [] [] 2
def Lc(b:gh):Tree Bool:=
.an (Qdb b) (.lv (SW b) λ(x0:Int)=>.lf (wrap u32 x0 !=b.C3))
def N3 b:=(Lc b).m
abbrev Qg4 b:=(Lc b).p
def Qwh:ba:=mT 174 [] true [.agg gh.sig] [] (λa r=>Lc (gh.of (aC a 0))) (λX=>.bool X) (λX=>[])
theorem Qsp:bj pG Qwh:=oT (.cons Qm2 (.nil)) Tryz.func174 Tryz.call174 [] [] 2
def Qhr(m:au)(z:(Int)×(Int)):Nat:=(5-z.2).toNat
def Lh(m:au):Tree Int:=
.lv (Xb m.A7) λ(x0:Bool)=>.lv (SR m.A2) λ(x1:Bool)=>.lv (Kx m.A6) λ(x2:Bool)=>.lv (Xc m.C1) λ(x3:Bool)=>.an (Qg4 m.A1) (.lv (N3 m.A1) λ(x4:Bool)=>.lp inferInstance (Qhr m (0,0)+1) ((rE (0:Int)/\(rE (x0:Bool)/\rE (x1:Bool)/\rE (x2:Bool)/\rE (x3:Bool)/\rE (x4:Bool)/\True)/\rE (0:Int)/\True)/\True) (0,0) λ(v0:Int×Int)=>.br (decide (v0.2<5)) (.cn (bT 1 1&&(bT 5 5&&decide (0<=v0.2/\v0.2<(↑5:Int)))) (.br (aK [x0,x1,x2,x3,x4] v0.2.toNat false) (.cn (decide (0<=v0.2)) (.nx ((rE ((ie u32 v0.1 (ea u32 1 v0.2)):Int)/\(rE (x0:Bool)/\rE (x1:Bool)/\rE (x2:Bool)/\rE (x3:Bool)/\rE (x4:Bool)/\True)/\rE ((wrap i64 (v0.2+1)):Int)/\True)/\True) (Sum.inl (ie u32 v0.1 (ea u32 1 v0.2),wrap i64 (v0.2+1))))) (.nx ((rE v0.1/\(rE (x0:Bool)/\rE (x1:Bool)/\rE (x2:Bool)/\rE (x3:Bool)/\rE (x4:Bool)/\True)/\rE ((wrap i64 (v0.2+1)):Int)/\True)/\True) (Sum.inl (v0.1,wrap i64 (v0.2+1)))))) (.lf (Sum.inr v0.1)))
def S0 m:=(Lh m).m
abbrev Qjz m:=(Lh m).p
def Qyj:bw:={
 α:=(Int)×(Int)
 F:=λst a=>([(4,.int u32 a.1),(23,(lk st 23)),(24,.int i64 a.2)],[])
 a0:=λst=>((lk st 4).toInt,(lk st 24).toInt)
 ji:=λst=>[]++[]}
def Qu1:List (Nat×bw):=[(4,Qyj)]
def Z0p:ba:=mT 108 [] true [.agg au.sig] [] (λa r=>Lh (au.of (aC a 0))) (λX=>.int .u32 X) (λX=>[])
theorem Qye:bj pG Z0p:=oT (.cons Qy8 (.cons Qsl (.cons Qo4 (.cons Z4z (.cons Qsp (.nil)))))) Tryz.func108 Tryz.call108 [] Qu1 3
def Gw(m:au):Tree Int:=
.an (Qjz m) (.lv (S0 m) λ(x0:Int)=>.lf (bb u32 x0 m.A9.B2.a7))
def Li m:=(Gw m).m
abbrev Qas m:=(Gw m).p
def Qv3:ba:=mT 117 [] true [.agg au.sig] [] (λa r=>Gw (au.of (aC a 0))) (λX=>.int .u32 X) (λX=>[])
theorem Qii:bj pG Qv3:=oT (.cons Qye (.nil)) Tryz.func117 Tryz.call117 [] [] 2
def Gx(m:au):Tree Bool:=
.br m.A3 (.an (Qas m) (.lv (Li m) λ(x0:Int)=>.lf (x0==0))) (.lf false)
def KJ m:=(Gx m).m
abbrev Xp m:=(Gx m).p
def Z5k:ba:=mT 107 [] true [.agg au.sig] [] (λa r=>Gx (au.of (aC a 0))) (λX=>.bool X) (λX=>[])
theorem Qo7:bj pG Z5k:=oT (.cons Qii (.nil)) Tryz.func107 Tryz.call107 [] [] 2

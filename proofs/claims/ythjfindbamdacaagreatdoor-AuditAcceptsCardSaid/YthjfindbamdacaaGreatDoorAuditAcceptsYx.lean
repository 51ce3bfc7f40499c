import Derived.Test.YthjfindbamdacaaGreatDoorAuditAcceptsBase
open Int renaming tmod->dE,tdiv->eU,toNat->dF
open Nat renaming beq->bT,blt->bJ
open List renaming set->dG,getD->aK,length->dK,append->cR
open UInt8 renaming toNat->eW
set_option maxRecDepth 100000
set_option linter.all false
namespace Go.Proofs.YthjfindbamdacaaGreatDoor
open Go Go.GD Go.IntKind
noncomputable section
def jH(s:List Int):(List Int):=
s
def mY(s:List Int):Prop:=
s.length<=35184372088832
def Q3m(s:List Int):List D:=[.sl 1 (.ints .u32 s) false]
def VY(s:List Int):List Row:=[]
def Ng(X:List Int):D:=.all 0
def Nh(X:List Int):List Row:=[⟨false,23,1,.ints .u32 X⟩]
def Qe3:List pS:=[.row 23 1 (.ints .u32)]
def Q7a:List PT:=[.one (.ints .u32)]
def Q6x:List RT:=[]
def Qev(args:List D)(rows:List Row):(List Int):=jH (eg .u32 args 0)
def Qfo(args:List D)(rows:List Row):Prop:=mY (eg .u32 args 0)
def Qh1:bf:=mP 59 [] true Q7a Q6x Qfo Qev Ng Nh
def Q4r(s:List Int)(DU:(List Int)->Prop):Prop:=
(s=[]->DU [])/\cv (decide ((4:Nat)*((0:Nat)+s.length)<=(140737488355328:Nat))) (DU s)
set_option maxRecDepth 100000 in
theorem Qg8(s:List Int)(Q:D->List Row->Prop):(nD kY [] (LL kY [] Tryz.f59.ntmps 0 [] 2) Tryz.f59 (Q3m s) (VY s) λd R=>sC (VY s).length Qe3 d R Q)=Q4r s (λX=>Q (Ng X) (Nh X)):=by kernel_rfl
theorem Qdo(s:List Int)(DU:(List Int)->Prop)(hw:mY s)(h:DU (jH s)):
Q4r s DU:=by
 delta Q4r
 refine⟨λe=>by rw[e]at h;exact h,?_⟩
 rw[db]
 refine⟨dY ?_,h⟩
 have:s.length<=35184372088832:=hw
 omega
set_option maxRecDepth 100000 in
theorem Qdl(s:List Int)(hw:mY s):kr pG 59 (Q3m s) (VY s) (Ng (jH s)) (Nh (jH s)):=
 have hG:j5 pG []:=.nil
 wq.calls drawn mQ hG Tryz.func59 (rf:=none) (λ_ _=>trivial) (wO drawn mQ hG (.inl rfl) 2 (ia:=[])) (wq.of (Qg8 s _) (Qdo s (λX=>Ng X=Ng (jH s)/\Nh X=Nh (jH s)) hw ⟨rfl,rfl⟩))
set_option maxRecDepth 100000 in
theorem Qed(args:List D)(rows:List Row):mw Q7a args 0=Q3m (eg .u32 args 0):=by kernel_rfl
set_option maxRecDepth 100000 in
theorem Qdk(args:List D)(rows:List Row):lH Q6x rows 0=VY (eg .u32 args 0):=by kernel_rfl
set_option maxRecDepth 100000 in
theorem Qga(X:List Int):(wA (Ng X)&&jO (Nh X))=true:=by kernel_rfl
theorem ET:bj pG Qh1:=Nc Tryz.call59 (λargs rows hp=>by rw[Qed args rows,Qdk args rows];exact Qdl (eg .u32 args 0) hp) (λ_ X=>Qga X)
def Ls(m:List Int):Tree Int:=
.br (dE (m.length:Int) (32:Int) !=(0:Int)) (.lf 0) (.br (decide ((m.length:Int)>(1024:Int))) (.lf 0) (.lf (wrap i64 (eU (m.length:Int) 32))))
def me m:=(Ls m).m
def Z8y:bf:=mS 14 [] true [.one (.ints .u32)] [] (λa r=>Ls (eg .u32 a 0)) (λX=>.int .i64 X) (λX=>[])
theorem Ij:bj pG Z8y:=oS (.nil) Tryz.func14 Tryz.call14 [] [] 2
def Jr(m:List Int)(addr size:Int):Tree Bool:=
let T1:Tree (Bool):=.cn (decide (wrap u32 size≠0)) (.br (dE addr (wrap u32 size) !=0) (.lf false) (.lv (me m) λ(x0:Int)=>.lf (decide (wrap u64 (wrap u64 addr+wrap u64 size)<=wrap u64 (wrap u64 x0*128)))));.br (size !=1) (.br (size !=4) (.lf false) T1) T1
def X6 m addr size:=(Jr m addr size).m
abbrev Qdw m addr size:=(Jr m addr size).p
def Z6a:bf:=mT 247 [] true [.one (.ints .u32),.one (.int .u32),.one (.int .i64)] [] (λa r=>Jr (eg .u32 a 0) (ar a 1) (ar a 2)) (λX=>.bool X) (λX=>[])
theorem Qo1:bj pG Z6a:=oT (.cons Ij (.nil)) Tryz.func247 Tryz.call247 [] [] 2
def RM(n:Int):Tree Int:=
.br (decide (n>=32)) (.lf 4294967295) (.cn (decide (0<=wrap u64 n)) (.lf (wrap u32 (ek u32 1 (wrap u64 n)-1))))
def Z6z n:=(RM n).m
abbrev Qna n:=(RM n).p
def Zl7:bf:=mT 248 [] true [.one (.int .i64)] [] (λa r=>RM (ar a 0)) (λX=>.int .u32 X) (λX=>[])
theorem Z0f:bj pG Zl7:=oT (.nil) Tryz.func248 Tryz.call248 [] [] 2
def RN(w low n:Int):Tree Int:=
.br (decide (low<0)) (.lf 0) (.br (decide (low>31)) (.lf 0) (.br (decide (n<1)) (.lf 0) (.cn (decide (0<=wrap u64 low)) (.an (Qna n) (.lv (Z6z n) λ(x0:Int)=>.lf (bd u32 (bg u32 w (wrap u64 low)) x0))))))
def tT w low n:=(RN w low n).m
abbrev Ni w low n:=(RN w low n).p
def Zky:bf:=mT 179 [] true [.one (.int .u32),.one (.int .i64),.one (.int .i64)] [] (λa r=>RN (ar a 0) (ar a 1) (ar a 2)) (λX=>.int .u32 X) (λX=>[])
theorem Qni:bj pG Zky:=oT (.cons Z0f (.nil)) Tryz.func179 Tryz.call179 [] [] 2
def RO(w low n v:Int):Tree Int:=
.br (decide (low<0)) (.lf w) (.br (decide (low>31)) (.lf w) (.br (decide (n<1)) (.lf w) (.an (Qna n) (.lv (Z6z n) λ(x0:Int)=>.cn (decide (0<=wrap u64 low)) (.cn (decide (0<=wrap u64 low)) (.lf (ij u32 (oa u32 w (ek u32 x0 (wrap u64 low))) (ek u32 (bd u32 v x0) (wrap u64 low)))))))))
def LS w low n v:=(RO w low n v).m
abbrev Qls w low n v:=(RO w low n v).p
def Z63:bf:=mT 250 [] true [.one (.int .u32),.one (.int .i64),.one (.int .i64),.one (.int .u32)] [] (λa r=>RO (ar a 0) (ar a 1) (ar a 2) (ar a 3)) (λX=>.int .u32 X) (λX=>[])
theorem Z1u:bj pG Z63:=oT (.cons Z0f (.nil)) Tryz.func250 Tryz.call250 [] [] 2
def LW(m:List Int)(addr size v:Int):Tree ((List Int)×Bool):=
.an (mY m) (.lv (jH m) λ(x0:List Int)=>.an (Qdw m addr size) (.lv (X6 m addr size) λ(x1:Bool)=>.br (!x1) (.lf (x0,false)) (let E1:=bT 1 1&&bJ 0 1&&decide (0<=wrap u32 (eU addr 4)/\wrap u32 (eU addr 4)<(x0.length:Int));let E2:=dF (wrap u32 (eU addr 4));.br (size==1) (.cn E1 (let E3:=wrap i64 (wrap i64 (dE addr 4)*8);.an (Qls (x0.getD E2 0) E3 8 v) (.lv (LS (x0.getD E2 0) E3 8 v) λ(x2:Int)=>.cn E1 (.lf (dG x0 E2 x2,true))))) (.cn E1 (.lf (dG x0 E2 v,true))))))
def LV m addr size v:=(LW m addr size v).m
abbrev Qb5 m addr size v:=(LW m addr size v).p
def Z8e:bf:=mT 186 [] true [.one (.ints .u32),.one (.int .u32),.one (.int .i64),.one (.int .u32)] [] (λa r=>LW (eg .u32 a 0) (ar a 1) (ar a 2) (ar a 3)) (λX=>.dt [.all 0,.bool (X.2)]) (λX=>[⟨false,23,1,.ints .u32 (X.1)⟩])
theorem Qqv:bj pG Z8e:=oT (.cons ET (.cons Qo1 (.cons Z1u (.nil)))) Tryz.func186 Tryz.call186 [.row 23 1 (.ints .u32)] [] 2
def Zir(op:Int):Tree (Az×Bool):=
.br (op==1) (.lf ({a:=true,b:=true,c:=true,low:=0,D6:=0},true)) (.br (op==2) (.lf ({a:=true,b:=true,c:=true,low:=0,D6:=0},true)) (.br (op==3) (.lf ({a:=true,b:=true,c:=true,low:=0,D6:=0},true)) (.br (op==4) (.lf ({a:=true,b:=true,c:=true,low:=0,D6:=0},true)) (.br (op==5) (.lf ({a:=true,b:=true,c:=true,low:=0,D6:=0},true)) (.br (op==6) (.lf ({a:=true,b:=true,c:=true,low:=0,D6:=0},true)) (.br (op==7) (.lf ({a:=true,b:=true,c:=true,low:=0,D6:=0},true)) (.br (op==8) (.lf ({a:=true,b:=true,c:=true,low:=0,D6:=0},true)) (.br (op==9) (.lf ({a:=true,b:=true,c:=true,low:=0,D6:=0},true)) (.br (op==10) (.lf ({a:=true,b:=true,c:=true,low:=0,D6:=0},true)) (.br (op==11) (.lf ({a:=true,b:=true,c:=true,low:=0,D6:=0},true)) (.br (op==12) (.lf ({a:=true,b:=true,c:=true,low:=0,D6:=0},true)) (.br (op==13) (.lf ({a:=true,b:=true,c:=true,low:=0,D6:=0},true)) (.br (op==16) (.lf ({a:=true,b:=true,c:=false,low:=(-32768),D6:=32767},true)) (.br (op==23) (.lf ({a:=true,b:=true,c:=false,low:=(-32768),D6:=32767},true)) (.br (op==32) (.lf ({a:=true,b:=true,c:=false,low:=(-32768),D6:=32767},true)) (.br (op==33) (.lf ({a:=true,b:=true,c:=false,low:=(-32768),D6:=32767},true)) (.br (op==34) (.lf ({a:=true,b:=true,c:=false,low:=(-32768),D6:=32767},true)) (.br (op==35) (.lf ({a:=true,b:=true,c:=false,low:=(-32768),D6:=32767},true)) (.br (op==36) (.lf ({a:=true,b:=true,c:=false,low:=(-32768),D6:=32767},true)) (.br (op==40) (.lf ({a:=true,b:=true,c:=false,low:=(-32768),D6:=32767},true)) (.br (op==41) (.lf ({a:=true,b:=true,c:=false,low:=(-32768),D6:=32767},true)) (.br (op==42) (.lf ({a:=true,b:=true,c:=false,low:=(-32768),D6:=32767},true)) (.br (op==43) (.lf ({a:=true,b:=true,c:=false,low:=(-32768),D6:=32767},true)) (.br (op==44) (.lf ({a:=true,b:=true,c:=false,low:=(-32768),D6:=32767},true)) (.br (op==45) (.lf ({a:=true,b:=true,c:=false,low:=(-32768),D6:=32767},true)) (.br (op==49) (.lf ({a:=true,b:=true,c:=false,low:=(-32768),D6:=32767},true)) (.br (op==17) (.lf ({a:=true,b:=true,c:=false,low:=0,D6:=65535},true)) (.br (op==18) (.lf ({a:=true,b:=true,c:=false,low:=0,D6:=65535},true)) (.br (op==19) (.lf ({a:=true,b:=true,c:=false,low:=0,D6:=65535},true)) (.br (op==20) (.lf ({a:=true,b:=true,c:=false,low:=0,D6:=31},true)) (.br (op==21) (.lf ({a:=true,b:=true,c:=false,low:=0,D6:=31},true)) (.br (op==22) (.lf ({a:=true,b:=true,c:=false,low:=0,D6:=31},true)) (.br (op==24) (.lf ({a:=true,b:=false,c:=false,low:=0,D6:=65535},true)) (.br (op==48) (.lf ({a:=true,b:=false,c:=false,low:=(-32768),D6:=32767},true)) (.br (op==58) (.lf ({a:=true,b:=false,c:=false,low:=0,D6:=7},true)) (.br (op==59) (.lf ({a:=true,b:=false,c:=false,low:=0,D6:=7},true)) (.br (op==60) (.lf ({a:=true,b:=false,c:=false,low:=0,D6:=11},true)) (.br (op==61) (.lf ({a:=true,b:=false,c:=false,low:=0,D6:=11},true)) (.br (op==56) (.lf ({a:=false,b:=false,c:=false,low:=0,D6:=0},true)) (.br (op==57) (.lf ({a:=false,b:=false,c:=false,low:=0,D6:=0},true)) (.br (op==62) (.lf ({a:=false,b:=false,c:=false,low:=0,D6:=0},true)) (.br (op==63) (.lf ({a:=false,b:=false,c:=false,low:=0,D6:=0},true)) (.br (op==64) (.lf ({a:=false,b:=false,c:=false,low:=0,D6:=0},true)) (.lf ({a:=false,b:=false,c:=false,low:=0,D6:=0},false)))))))))))))))))))))))))))))))))))))))))))))
def TW op:=(Zir op).m
def qE:bf:=mS 180 [] true [.one (.int .i64)] [] (λa r=>Zir (ar a 0)) (λX=>.dt [.agg (Az.cells (X.1)),.bool (X.2)]) (λX=>[])
theorem Zb8:bj pG qE:=oS (.nil) Tryz.func180 Tryz.call180 [] [] 2
def RP(x n:Int):Tree Int:=
.br (decide (n<1)) (.lf 0) (.br (decide (n>=32)) (.lf x) (let E1:=decide (0<=wrap u64 (wrap i64 (32-n)));.cn E1 (.cn E1 (.lf (wrap u32 (bg i32 (wrap i32 (ek u32 x (wrap u64 (wrap i64 (32-n))))) (wrap u64 (wrap i64 (32-n)))))))))
def Es x n:=(RP x n).m
abbrev Qbr x n:=(RP x n).p
def Qzp:bf:=mT 181 [] true [.one (.int .u32),.one (.int .i64)] [] (λa r=>RP (ar a 0) (ar a 1)) (λX=>.int .u32 X) (λX=>[])
theorem Qk2:bj pG Qzp:=oT (.nil) Tryz.func181 Tryz.call181 [] [] 2
def TX(r:Int)(used:Bool):Tree Bool:=
.br used (.br (decide (r>=0)) (.lf (decide (r<=15))) (.lf false)) (.lf (r==0))
def LN r used:=(TX r used).m
def Z7q:bf:=mS 249 [] true [.one (.int .i64),.one (.bool)] [] (λa r=>TX (ar a 0) (tG a 1)) (λX=>.bool X) (λX=>[])
theorem Z74:bj pG Z7q:=oS (.nil) Tryz.func249 Tryz.call249 [] [] 2
def OH(i:gw):Tree Bool:=
.lv (TW i.Op) λ(x0:Az×Bool)=>.br x0.2 (.lv (LN i.A x0.1.a) λ(x1:Bool)=>.br x1 (.lv (LN i.B x0.1.b) λ(x2:Bool)=>.br x2 (.lv (LN i.C x0.1.c) λ(x3:Bool)=>.br x3 (.br (decide (i.bo>=x0.1.low)) (.lf (decide (i.bo<=x0.1.D6))) (.lf false)) (.lf false)) (.lf false)) (.lf false)) (.lf false)
def Jn i:=(OH i).m
def Zly:bf:=mS 182 [] true [.agg gw.sig] [] (λa r=>OH (gw.of (aC a 0))) (λX=>.bool X) (λX=>[])
theorem Zkq:bj pG Zly:=oS (.cons Zb8 (.cons Z74 (.nil))) Tryz.func182 Tryz.call182 [] [] 2
def LP(w:Int):Tree (gw×Bool):=
.an (Ni w 24 8) (.lv (tT w 24 8) λ(x0:Int)=>.an (Ni w 20 4) (.lv (tT w 20 4) λ(x1:Int)=>.an (Ni w 16 4) (.lv (tT w 16 4) λ(x2:Int)=>.lv (TW (wrap i64 x0)) λ(x3:Az×Bool)=>let E1:=({Op:=0,A:=0,B:=0,C:=0,bo:=0}:gw);.br (!x3.2) (.lf (E1,false)) (.an (Ni w 0 16) (.lv (tT w 0 16) λ(x4:Int)=>.br x3.1.c (let E2:=({Op:=wrap i64 x0,A:=wrap i64 x1,B:=wrap i64 x2,C:=wrap i64 x4,bo:=0}:gw);.lv (Jn E2) λ(x5:Bool)=>.br (!x5) (.lf (E1,false)) (.lf (E2,true))) (.br (decide (x3.1.low<0)) (.an (Qbr x4 16) (.lv (Es x4 16) λ(x6:Int)=>let E3:=({Op:=wrap i64 x0,A:=wrap i64 x1,B:=wrap i64 x2,C:=0,bo:=wrap i32 x6}:gw);.lv (Jn E3) λ(x7:Bool)=>.br (!x7) (.lf (E1,false)) (.lf (E3,true)))) (let E4:=({Op:=wrap i64 x0,A:=wrap i64 x1,B:=wrap i64 x2,C:=0,bo:=wrap i32 x4}:gw);.lv (Jn E4) λ(x8:Bool)=>.br (!x8) (.lf (E1,false)) (.lf (E4,true)))))))))
def OJ w:=(LP w).m
abbrev Qt6 w:=(LP w).p
def Zkv:bf:=mT 112 [] true [.one (.int .u32)] [] (λa r=>LP (ar a 0)) (λX=>.dt [.agg (gw.cells (X.1)),.bool (X.2)]) (λX=>[])
theorem Zcq:bj pG Zkv:=oT (.cons Qni (.cons Zb8 (.cons Qk2 (.cons Zkq (.nil))))) Tryz.func112 Tryz.call112 [] [] 2
def L3(a b:Int):Tree (Int×Int):=
.br (b==0) (.lf (4294967295,a)) (let T1:Tree ((Int×Int)):=.cn (decide (wrap i32 b≠0)) (.cn (decide (wrap i32 b≠0)) (.lf (wrap u32 (wrap i32 (eU (wrap i32 a) (wrap i32 b))),wrap u32 (dE (wrap i32 a) (wrap i32 b)))));.br (a==2147483648) (.br (b==4294967295) (.lf (a,0)) T1) T1)
def L1 a b:=(L3 a b).m
abbrev Qix a b:=(L3 a b).p
def Zdu:bf:=mT 251 [] true [.one (.int .u32),.one (.int .u32)] [] (λa r=>L3 (ar a 0) (ar a 1)) (λX=>.dt [.int .u32 (X.1),.int .u32 (X.2)]) (λX=>[])
theorem Z7t:bj pG Zdu:=oT (.nil) Tryz.func251 Tryz.call251 [] [] 2
def Z43(b:Bool):Tree Int:=
.br b (.lf 1) (.lf 0)
def VK b:=(Z43 b).m
def Zo1:bf:=mS 252 [] true [.one (.bool)] [] (λa r=>Z43 (tG a 0)) (λX=>.int .u32 X) (λX=>[])
theorem Zic:bj pG Zo1:=oS (.nil) Tryz.func252 Tryz.call252 [] [] 2
def RR(op a b:Int):Tree (Int×Bool):=
.br (op==2) (.lf (wrap u32 (a+wrap u32 (0-b)),true)) (.br (op==1) (.lf (wrap u32 (a+b),true)) (.br (op==16) (.lf (wrap u32 (a+b),true)) (.br (op==3) (.lf (bd u32 a b,true)) (.br (op==17) (.lf (bd u32 a b,true)) (.br (op==4) (.lf (ij u32 a b,true)) (.br (op==18) (.lf (ij u32 a b,true)) (.br (op==5) (.lf (nu u32 a b,true)) (.br (op==19) (.lf (nu u32 a b,true)) (.br (op==6) (.lf (ek u32 a (bd u32 b 31),true)) (.br (op==20) (.lf (ek u32 a (bd u32 b 31),true)) (.br (op==7) (.lf (bg u32 a (bd u32 b 31),true)) (.br (op==21) (.lf (bg u32 a (bd u32 b 31),true)) (let E1:=(wrap u32 (bg i32 (wrap i32 a) (bd u32 b 31)),true);.br (op==8) (.lf E1) (.br (op==22) (.lf E1) (.br (op==9) (.lf (wrap u32 (a*b),true)) (.br (op==10) (.an (Qix a b) (.lv (L1 a b) λ(x0:Int×Int)=>.lf (x0.1,true))) (.br (op==11) (.an (Qix a b) (.lv (L1 a b) λ(x1:Int×Int)=>.lf (x1.2,true))) (.br (op==12) (.lv (VK (decide (wrap i32 a<wrap i32 b))) λ(x2:Int)=>.lf (x2,true)) (.br (op==23) (.lv (VK (decide (wrap i32 a<wrap i32 b))) λ(x3:Int)=>.lf (x3,true)) (.br (op==13) (.lv (VK (decide (a<b))) λ(x4:Int)=>.lf (x4,true)) (.lf (0,false))))))))))))))))))))))
def nQ op a b:=(RR op a b).m
abbrev Qtx op a b:=(RR op a b).p
def xE:bf:=mT 190 [] true [.one (.int .i64),.one (.int .u32),.one (.int .u32)] [] (λa r=>RR (ar a 0) (ar a 1) (ar a 2)) (λX=>.dt [.int .u32 (X.1),.bool (X.2)]) (λX=>[])
theorem Zr8:bj pG xE:=oT (.cons Z7t (.cons Zic (.nil))) Tryz.func190 Tryz.call190 [] [] 2
end
noncomputable section
def VJ(status DV to:Int):Tree Int:=
.br (bd u32 status DV !=0) (.lf (ij u32 status to)) (.lf (oa u32 status to))
def AS status DV to:=(VJ status DV to).m
def Zsx:bf:=mS 175 [] true [.one (.int .u32),.one (.int .u32),.one (.int .u32)] [] (λa r=>VJ (ar a 0) (ar a 1) (ar a 2)) (λX=>.int .u32 X) (λX=>[])
theorem Z4a:bj pG Zsx:=oS (.nil) Tryz.func175 Tryz.call175 [] [] 2
def Ql(c:bm)(oU bad:Int):Tree bm:=
.lv (AS c.B3.a0 1 8) λ(x0:Int)=>.lv (AS x0 2 16) λ(x1:Int)=>.lf ({X:=c.X,Pc:=c.B3.a1,B3:={a0:=oa u32 (ij u32 x1 1) 2,a1:=c.B3.a1,a2:=c.Pc,a3:=wrap u32 oU,a4:=bad,a5:=c.B3.a5,a6:=c.B3.a6,a7:=c.B3.a7}})
def rH c oU bad:=(Ql c oU bad).m
def Zsc:bf:=mS 109 [] true [.agg bm.sig,.one (.int .i64),.one (.int .u32)] [] (λa r=>Ql (bm.of (aC a 0)) (ar a 1) (ar a 2)) (λX=>.agg (bm.cells X)) (λX=>[])
theorem So:bj pG Zsc:=oS (.cons Z4a (.nil)) Tryz.func109 Tryz.call109 [] [] 2
def Qx1(access:Int):Tree (Int×Bool):=
.br (access==1) (.lf (4,true)) (.br (access==2) (.lf (5,true)) (.br (access==3) (.lf (6,true)) (.lf (5,false))))
def Qu1 access:=(Qx1 access).m
def Zcn:bf:=mS 245 [] true [.one (.int .i64)] [] (λa r=>Qx1 (ar a 0)) (λX=>.dt [.int .i64 (X.1),.bool (X.2)]) (λX=>[])
theorem Z88:bj pG Zcn:=oS (.nil) Tryz.func245 Tryz.call245 [] [] 2
def Z01(c:bm):Tree Bool:=
.lf (bd u32 c.B3.a0 (1:Int) !=(0:Int))
def Hj c:=(Z01 c).m
def Zil:bf:=mS 118 [] true [.agg bm.sig] [] (λa r=>Z01 (bm.of (aC a 0))) (λX=>.bool X) (λX=>[])
theorem Qwq:bj pG Zil:=oS (.nil) Tryz.func118 Tryz.call118 [] [] 2
def Qo3(access:Int):Tree (Int×Bool):=
.br (access==1) (.lf (4,true)) (.br (access==2) (.lf (5,true)) (.br (access==3) (.lf (6,true)) (.lf (5,false))))
def Qky access:=(Qo3 access).m
def Z1m:bf:=mS 241 [] true [.one (.int .i64)] [] (λa r=>Qo3 (ar a 0)) (λX=>.dt [.int .i64 (X.1),.bool (X.2)]) (λX=>[])
theorem Qz1:bj pG Z1m:=oS (.nil) Tryz.func241 Tryz.call241 [] [] 2
def Qi4(m:List Int)(frame:Int):Tree Bool:=
.lv (me m) λ(x0:Int)=>.lf (decide (wrap u64 frame<wrap u64 x0))
def OM m frame:=(Qi4 m frame).m
def Z7f:bf:=mS 242 [] true [.one (.ints .u32),.one (.int .u32)] [] (λa r=>Qi4 (eg .u32 a 0) (ar a 1)) (λX=>.bool X) (λX=>[])
theorem Z21:bj pG Z7f:=oS (.cons Ij (.nil)) Tryz.func242 Tryz.call242 [] [] 2
def LU(m:List Int)(addr size:Int):Tree (Int×Bool):=
.an (Qdw m addr size) (.lv (X6 m addr size) λ(x0:Bool)=>.br (!x0) (.lf (0,false)) (.cn (bT 1 1&&bJ 0 1&&decide (0<=wrap u32 (eU addr 4)/\wrap u32 (eU addr 4)<(m.length:Int))) (let E1:=dF (wrap u32 (eU addr 4));.br (size==1) (let E2:=wrap i64 (wrap i64 (dE addr 4)*8);.an (Ni (m.getD E1 0) E2 8) (.lv (tT (m.getD E1 0) E2 8) λ(x1:Int)=>.lf (x1,true))) (.lf (m.getD E1 0,true)))))
def CG m addr size:=(LU m addr size).m
abbrev Kt m addr size:=(LU m addr size).p
def Zdk:bf:=mT 178 [] true [.one (.ints .u32),.one (.int .u32),.one (.int .i64)] [] (λa r=>LU (eg .u32 a 0) (ar a 1) (ar a 2)) (λX=>.dt [.int .u32 (X.1),.bool (X.2)]) (λX=>[])
theorem Sp:bj pG Zdk:=oT (.cons Qo1 (.cons Qni (.nil))) Tryz.func178 Tryz.call178 [] [] 2
def Qnv(BP access:Int):Tree Bool:=
.br (bd u32 BP (1:Int)==(0:Int)) (.lf false) (.br (access==3) (.lf (bd u32 BP (2:Int) !=(0:Int))) (.br (access==1) (.lf (bd u32 BP (4:Int) !=(0:Int))) (.lf true)))
def Ub BP access:=(Qnv BP access).m
def Z1v:bf:=mS 243 [] true [.one (.int .u32),.one (.int .i64)] [] (λa r=>Qnv (ar a 0) (ar a 1)) (λX=>.bool X) (λX=>[])
theorem Qxr:bj pG Z1v:=oS (.nil) Tryz.func243 Tryz.call243 [] [] 2
def Q8(BP:Int):Tree Int:=
.an (Ni BP 8 8) (.lv (tT BP 8 8) λ(x0:Int)=>.lf x0)
def Yb BP:=(Q8 BP).m
abbrev Qcv BP:=(Q8 BP).p
def Z1k:bf:=mT 244 [] true [.one (.int .u32)] [] (λa r=>Q8 (ar a 0)) (λX=>.int .u32 X) (λX=>[])
theorem Qzv:bj pG Z1k:=oT (.cons Qni (.nil)) Tryz.func244 Tryz.call244 [] [] 2
def LY(m:List Int)(root va access:Int):Tree rY:=
.lv (Qky access) λ(x0:Int×Bool)=>let E1:=({Addr:=0,F3:=0,F1:=x0.1}:rY);.br (!x0.2) (.lf (E1)) (.br (decide (va>=4096)) (.lf (E1)) (.lv (OM m root) λ(x1:Bool)=>.br (!x1) (.lf (E1)) (let E2:=wrap u32 (root*128)+wrap u32 (4*wrap u32 (eU va 128));.an (Kt m (wrap u32 E2) 4) (.lv (CG m (wrap u32 E2) 4) λ(x2:Int×Bool)=>.br (!x2.2) (.lf (E1)) (.lv (Ub x2.1 access) λ(x3:Bool)=>.br (!x3) (.lf (E1)) (.an (Qcv x2.1) (.lv (Yb x2.1) λ(x4:Int)=>.lv (OM m x4) λ(x5:Bool)=>.br (!x5) (.lf (E1)) (.an (Qcv x2.1) (.lv (Yb x2.1) λ(x6:Int)=>.lf ({Addr:=wrap u32 (wrap u32 (x6*128)+dE va 128),F3:=wrap u32 E2,F1:=0}))))))))))
def Ua m root va access:=(LY m root va access).m
abbrev Qje m root va access:=(LY m root va access).p
def Zge:bf:=mT 176 [] true [.one (.ints .u32),.one (.int .u32),.one (.int .u32),.one (.int .i64)] [] (λa r=>LY (eg .u32 a 0) (ar a 1) (ar a 2) (ar a 3)) (λX=>.agg (rY.cells X)) (λX=>[])
theorem Z9p:bj pG Zge:=oT (.cons Qz1 (.cons Z21 (.cons Sp (.cons Qxr (.cons Qzv (.nil)))))) Tryz.func176 Tryz.call176 [] [] 2
def LZ(m:List Int)(entry access:Int):Tree (List Int):=
.an (Kt m entry 4) (.lv (CG m entry 4) λ(x0:Int×Bool)=>.br (!x0.2) (.an (mY m) (.lv (jH m) λ(x1:List Int)=>.lf x1)) (.br (access==3) (.an (Qb5 m entry 4 (ij u32 (ij u32 x0.1 8) 16)) (.lv (LV m entry 4 (ij u32 (ij u32 x0.1 8) 16)) λ(x2:List Int×Bool)=>.lf x2.1)) (.an (Qb5 m entry 4 (ij u32 x0.1 8)) (.lv (LV m entry 4 (ij u32 x0.1 8)) λ(x3:List Int×Bool)=>.lf x3.1))))
def ON m entry access:=(LZ m entry access).m
abbrev Qg3 m entry access:=(LZ m entry access).p
def Z80:bf:=mT 246 [] true [.one (.ints .u32),.one (.int .u32),.one (.int .i64)] [] (λa r=>LZ (eg .u32 a 0) (ar a 1) (ar a 2)) (λX=>.all 0) (λX=>[⟨false,23,1,.ints .u32 X⟩])
theorem Z41:bj pG Z80:=oT (.cons Sp (.cons ET (.cons Qqv (.nil)))) Tryz.func246 Tryz.call246 [.row 23 1 (.ints .u32)] [] 2
def L5(c:bm)(m:List Int)(va size access:Int):Tree (Int×(List Int)×Int):=
.lv (Qu1 access) λ(x0:Int×Bool)=>let T3:Tree ((Int×(List Int)×Int)):=.an (mY m) (.lv (jH m) λ(x1:List Int)=>.lf (0,x1,5));.br (!x0.2) T3 (let T1:Tree ((Int×(List Int)×Int)):=.cn (decide (wrap u32 size≠0)) (.br (dE va (wrap u32 size) !=0) (.an (mY m) (.lv (jH m) λ(x3:List Int)=>.lf (0,x3,3))) (.lv (Hj c) λ(x4:Bool)=>let T2:Tree ((Int×(List Int)×Int)):=.an (Kt m va size) (.lv (CG m va size) λ(x8:Int×Bool)=>.br (!x8.2) (.an (mY m) (.lv (jH m) λ(x9:List Int)=>.lf (0,x9,x0.1))) (.an (mY m) (.lv (jH m) λ(jc:List Int)=>.lf (va,jc,0))));.br (!x4) (.br (bd u32 c.B3.a0 (4:Int) !=(0:Int)) (.an (Qje m c.B3.a6 va access) (.lv (Ua m c.B3.a6 va access) λ(x5:rY)=>.br (x5.F1 !=0) (.an (mY m) (.lv (jH m) λ(x6:List Int)=>.lf (0,x6,x5.F1))) (.an (Qg3 m x5.F3 access) (.lv (ON m x5.F3 access) λ(x7:List Int)=>.lf (x5.Addr,x7,0))))) T2) T2));.br (size !=1) (.br (size !=4) T3 T1) T1)
def Q2 c m va size access:=(L5 c m va size access).m
abbrev Qck c m va size access:=(L5 c m va size access).p
def Zes:bf:=mT 177 [] true [.agg bm.sig,.one (.ints .u32),.one (.int .u32),.one (.int .i64),.one (.int .i64)] [] (λa r=>L5 (bm.of (aC a 0)) (eg .u32 a 1) (ar a 2) (ar a 3) (ar a 4)) (λX=>.dt [.int .u32 (X.1),.all 0,.int .i64 (X.2.2)]) (λX=>[⟨false,23,1,.ints .u32 (X.2.1)⟩])
theorem Qkz:bj pG Zes:=oT (.cons Z88 (.cons ET (.cons Qwq (.cons Z9p (.cons Z41 (.cons Sp (.nil))))))) Tryz.func177 Tryz.call177 [.row 23 1 (.ints .u32)] [] 2
def RQ(c:bm)(m:List Int):Tree (Int×(List Int)×Int):=
.an (Qck c m c.Pc 4 1) (.lv (Q2 c m c.Pc 4 1) λ(x0:Int×List Int×Int)=>.br (x0.2.2 !=0) (.lf (0,x0.2.1,x0.2.2)) (.an (Kt x0.2.1 x0.1 4) (.lv (CG x0.2.1 x0.1 4) λ(x1:Int×Bool)=>.lf (x1.1,x0.2.1,0))))
def Uk c m:=(RQ c m).m
abbrev Qxi c m:=(RQ c m).p
def Zlx:bf:=mT 111 [] true [.agg bm.sig,.one (.ints .u32)] [] (λa r=>RQ (bm.of (aC a 0)) (eg .u32 a 1)) (λX=>.dt [.int .u32 (X.1),.all 0,.int .i64 (X.2.2)]) (λX=>[⟨false,23,1,.ints .u32 (X.2.1)⟩])
theorem Zgx:bj pG Zlx:=oT (.cons Qkz (.cons Sp (.nil))) Tryz.func111 Tryz.call111 [.row 23 1 (.ints .u32)] [] 2
def Qo(op:Int):Tree Bool:=
.br (op==57) (.lf true) (.br (op==58) (.lf true) (.br (op==59) (.lf true) (.br (op==60) (.lf true) (.br (op==61) (.lf true) (.br (op==62) (.lf true) (.br (op==63) (.lf true) (.br (op==64) (.lf true) (.lf false))))))))
def OG op:=(Qo op).m
def Z28:bf:=mS 114 [] true [.one (.int .i64)] [] (λa r=>Qo (ar a 0)) (λX=>.bool X) (λX=>[])
theorem Qz3:bj pG Z28:=oS (.nil) Tryz.func114 Tryz.call114 [] [] 2
def Qud(op:Int):Tree Int:=
.br (op==32) (.lf 4) (.br (op==35) (.lf 4) (.lf 1))
def Ku op:=(Qud op).m
def Znf:bf:=mS 184 [] true [.one (.int .i64)] [] (λa r=>Qud (ar a 0)) (λX=>.int .i64 X) (λX=>[])
theorem Z17:bj pG Znf:=oS (.nil) Tryz.func184 Tryz.call184 [] [] 2
def FI(c:bm)(register v:Int):Tree bm:=
.br (register !=0) (.cn (bJ 0 1&&decide (0<=register/\register<(↑16:Int))) (.lf ({X:=gn.of 0 (dG (gn.l c.X) register.toNat v),Pc:=c.Pc,B3:=c.B3}))) (.lf c)
def uR c register v:=(FI c register v).m
abbrev Ik c register v:=(FI c register v).p
def zE:bf:=mT 185 [] true [.agg bm.sig,.one (.int .i64),.one (.int .u32)] [] (λa r=>FI (bm.of (aC a 0)) (ar a 1) (ar a 2)) (λX=>.agg (bm.cells X)) (λX=>[])
theorem Zbb:bj pG zE:=oT (.nil) Tryz.func185 Tryz.call185 [] [] 2
def Jh(c:bm)(m:List Int)(i:gw):Tree (bm×(List Int)):=
.cn (bJ 0 1&&decide (0<=i.B/\i.B<(↑16:Int))) (.lv (Ku i.Op) λ(x0:Int)=>let E1:=wrap u32 (aK (gn.l c.X) i.B.toNat 0+wrap u32 i.bo);.an (Qck c m E1 x0 2) (.lv (Q2 c m E1 x0 2) λ(x1:Int×List Int×Int)=>.br (x1.2.2 !=0) (.lv (rH c x1.2.2 E1) λ(x2:bm)=>.lf (x2,x1.2.1)) (.lv (Ku i.Op) λ(x3:Int)=>.an (Kt x1.2.1 x1.1 x3) (.lv (CG x1.2.1 x1.1 x3) λ(x4:Int×Bool)=>.br (i.Op==33) (.an (Qbr x4.1 8) (.lv (Es x4.1 8) λ(x5:Int)=>.an (Ik c i.A x5) (.lv (uR c i.A x5) λ(x6:bm)=>.lf ({X:=x6.X,Pc:=wrap u32 (x6.Pc+4),B3:=x6.B3},x1.2.1)))) (.an (Ik c i.A x4.1) (.lv (uR c i.A x4.1) λ(x7:bm)=>.lf ({X:=x7.X,Pc:=wrap u32 (x7.Pc+4),B3:=x7.B3},x1.2.1)))))))
def tV c m i:=(Jh c m i).m
abbrev Z07 c m i:=(Jh c m i).p
def Zst:bf:=mT 119 [] true [.agg bm.sig,.one (.ints .u32),.agg gw.sig] [] (λa r=>Jh (bm.of (aC a 0)) (eg .u32 a 1) (gw.of (aC a 2))) (λX=>.dt [.agg (bm.cells (X.1)),.all 0]) (λX=>[⟨false,23,1,.ints .u32 (X.2)⟩])
theorem Zlt:bj pG Zst:=oT (.cons Qkz (.cons Z17 (.cons So (.cons Sp (.cons Qk2 (.cons Zbb (.nil))))))) Tryz.func119 Tryz.call119 [.row 23 1 (.ints .u32)] [] 2
def Jj(c:bm)(m:List Int)(i:gw):Tree (bm×(List Int)):=
.cn (bJ 0 1&&decide (0<=i.B/\i.B<(↑16:Int))) (.lv (Ku i.Op) λ(x0:Int)=>let E1:=wrap u32 (aK (gn.l c.X) i.B.toNat 0+wrap u32 i.bo);.an (Qck c m E1 x0 3) (.lv (Q2 c m E1 x0 3) λ(x1:Int×List Int×Int)=>.br (x1.2.2 !=0) (.lv (rH c x1.2.2 E1) λ(x2:bm)=>.lf (x2,x1.2.1)) (.lv (Ku i.Op) λ(x3:Int)=>.cn (bJ 0 1&&decide (0<=i.A/\i.A<(↑16:Int))) (let E2:=aK (gn.l c.X) i.A.toNat 0;.an (Qb5 x1.2.1 x1.1 x3 E2) (.lv (LV x1.2.1 x1.1 x3 E2) λ(x4:List Int×Bool)=>.lf ({X:=c.X,Pc:=wrap u32 (c.Pc+4),B3:=c.B3},x4.1))))))
def CI c m i:=(Jj c m i).m
abbrev Qv4 c m i:=(Jj c m i).p
def Znu:bf:=mT 120 [] true [.agg bm.sig,.one (.ints .u32),.agg gw.sig] [] (λa r=>Jj (bm.of (aC a 0)) (eg .u32 a 1) (gw.of (aC a 2))) (λX=>.dt [.agg (bm.cells (X.1)),.all 0]) (λX=>[⟨false,23,1,.ints .u32 (X.2)⟩])
theorem Zl4:bj pG Znu:=oT (.cons Qkz (.cons Z17 (.cons So (.cons Qqv (.nil))))) Tryz.func120 Tryz.call120 [.row 23 1 (.ints .u32)] [] 2
def Z5(op a b:Int):Tree Bool:=
.br (op==40) (.lf (a==b)) (.br (op==41) (.lf (a !=b)) (.br (op==42) (.lf (decide (wrap i32 a<wrap i32 b))) (.br (op==43) (.lf (decide (wrap i32 a>=wrap i32 b))) (.br (op==44) (.lf (decide (a<b))) (.lf (decide (a>=b)))))))
def Zkc op a b:=(Z5 op a b).m
def Znt:bf:=mS 187 [] true [.one (.int .i64),.one (.int .u32),.one (.int .u32)] [] (λa r=>Z5 (ar a 0) (ar a 1) (ar a 2)) (λX=>.bool X) (λX=>[])
theorem Zkg:bj pG Znt:=oS (.nil) Tryz.func187 Tryz.call187 [] [] 2
def OQ(c:bm):Tree bm:=
.lv (AS c.B3.a0 8 1) λ(x0:Int)=>.lv (AS x0 16 2) λ(x1:Int)=>.lf ({X:=c.X,Pc:=c.B3.a2,B3:={a0:=x1,a1:=c.B3.a1,a2:=c.B3.a2,a3:=c.B3.a3,a4:=c.B3.a4,a5:=c.B3.a5,a6:=c.B3.a6,a7:=c.B3.a7}})
def LI c:=(OQ c).m
def Zk9:bf:=mS 188 [] true [.agg bm.sig] [] (λa r=>OQ (bm.of (aC a 0))) (λX=>.agg (bm.cells X)) (λX=>[])
theorem Ze6:bj pG Zk9:=oS (.cons Z4a (.nil)) Tryz.func188 Tryz.call188 [] [] 2
def Jg(c:bm)(jt v:Int):Tree bm:=
let E4:=bJ 0 1&&decide (0<=jt/\jt<(↑8:Int));let T2:Tree (bm):=.cn E4 (.lf ({X:=c.X,Pc:=c.Pc,B3:=A8.of 0 (dG (A8.l c.B3) jt.toNat (bd u32 v 31))}));.br (jt==0) T2 (.br (jt==7) T2 (.br (jt==6) (.cn E4 (.lf ({X:=c.X,Pc:=c.Pc,B3:=A8.of 0 (dG (A8.l c.B3) jt.toNat (bd u32 v 255))}))) (let T3:Tree (bm):=.cn E4 (.lf ({X:=c.X,Pc:=c.Pc,B3:=A8.of 0 (dG (A8.l c.B3) jt.toNat (oa u32 v 3))}));.br (jt==1) T3 (.br (jt==2) T3 (let T1:Tree (bm):=.cn E4 (.lf ({X:=c.X,Pc:=c.Pc,B3:=A8.of 0 (dG (A8.l c.B3) jt.toNat v)}));.br (jt==3) T1 (.br (jt==4) T1 (.br (jt==5) T1 (.lf c))))))))
def Zhk c jt v:=(Jg c jt v).m
abbrev Qvw c jt v:=(Jg c jt v).p
def Znh:bf:=mT 189 [] true [.agg bm.sig,.one (.int .i64),.one (.int .u32)] [] (λa r=>Jg (bm.of (aC a 0)) (ar a 1) (ar a 2)) (λX=>.agg (bm.cells X)) (λX=>[])
theorem Zii:bj pG Znh:=oT (.nil) Tryz.func189 Tryz.call189 [] [] 2
def FJ(c:bm)(i:gw):Tree (bm×kT):=
.cn (bJ 0 1&&decide (0<=i.A/\i.A<(↑16:Int))) (.cn (bJ 0 1&&decide (0<=i.B/\i.B<(↑16:Int))) (.br (i.Op==24) (.an (Ik c i.A (ek u32 (wrap u32 i.bo) 16)) (.lv (uR c i.A (ek u32 (wrap u32 i.bo) 16)) λ(x0:bm)=>.lf ({X:=x0.X,Pc:=wrap u32 (c.Pc+4),B3:=x0.B3},{C0:=0,D1:=0,E0:=0,Value:=0}))) (let E2:=({X:=c.X,Pc:=wrap u32 (c.Pc+4),B3:=c.B3}:bm);let E3:=aK (gn.l c.X) i.B.toNat 0;let E4:=aK (gn.l c.X) i.A.toNat 0;let T1:Tree ((bm×kT)):=.lv (Zkc i.Op E4 E3) λ(x1:Bool)=>.br x1 (.lf ({X:=c.X,Pc:=wrap u32 (c.Pc+wrap u32 (4*wrap u32 i.bo)),B3:=c.B3},{C0:=0,D1:=0,E0:=0,Value:=0})) (.lf (E2,{C0:=0,D1:=0,E0:=0,Value:=0}));.br (i.Op==40) T1 (.br (i.Op==41) T1 (.br (i.Op==42) T1 (.br (i.Op==43) T1 (.br (i.Op==44) T1 (.br (i.Op==45) T1 (.br (i.Op==48) (.an (Ik c i.A (wrap u32 (c.Pc+4))) (.lv (uR c i.A (wrap u32 (c.Pc+4))) λ(x7:bm)=>.lf ({X:=x7.X,Pc:=wrap u32 (x7.Pc+wrap u32 (4*wrap u32 i.bo)),B3:=x7.B3},{C0:=0,D1:=0,E0:=0,Value:=0}))) (.br (i.Op==49) (.an (Ik c i.A (wrap u32 (c.Pc+4))) (.lv (uR c i.A (wrap u32 (c.Pc+4))) λ(x8:bm)=>.lf ({X:=x8.X,Pc:=wrap u32 (aK (gn.l c.X) i.B.toNat 0+wrap u32 i.bo),B3:=x8.B3},{C0:=0,D1:=0,E0:=0,Value:=0}))) (.br (i.Op==56) (.lv (rH c 7 0) λ(x9:bm)=>.lf (x9,{C0:=0,D1:=0,E0:=0,Value:=0})) (.br (i.Op==57) (.lv (LI c) λ(jc:bm)=>.lf (jc,{C0:=0,D1:=0,E0:=0,Value:=0})) (.br (i.Op==58) (.cn (bJ 0 1&&decide (0<=i.bo/\i.bo<(↑8:Int))) (let E5:=aK (A8.l c.B3) i.bo.toNat 0;.an (Ik c i.A E5) (.lv (uR c i.A E5) λ(jM:bm)=>.lf ({X:=jM.X,Pc:=wrap u32 (c.Pc+4),B3:=jM.B3},{C0:=0,D1:=0,E0:=0,Value:=0})))) (.br (i.Op==59) (.an (Qvw c (wrap i64 i.bo) E4) (.lv (Zhk c (wrap i64 i.bo) E4) λ(jz:bm)=>.lf ({X:=jz.X,Pc:=wrap u32 (c.Pc+4),B3:=jz.B3},{C0:=0,D1:=0,E0:=0,Value:=0}))) (.br (i.Op==60) (.lf (E2,{C0:=1,D1:=wrap i64 i.bo,E0:=i.A,Value:=0})) (.br (i.Op==61) (.lf (E2,{C0:=2,D1:=wrap i64 i.bo,E0:=0,Value:=aK (gn.l c.X) i.A.toNat 0})) (.br (i.Op==62) (.lf (E2,{C0:=3,D1:=0,E0:=0,Value:=0})) (.br (i.Op==63) (.lf (E2,{C0:=5,D1:=0,E0:=0,Value:=0})) (.br (i.Op==64) (.lf (E2,{C0:=4,D1:=0,E0:=0,Value:=0})) (.cn (bJ 0 1&&decide (0<=i.C/\i.C<(↑16:Int))) (.br (decide (i.Op>=16)) (.an (Qtx i.Op E3 (wrap u32 i.bo)) (.lv (nQ i.Op E3 (wrap u32 i.bo)) λ(jN:Int×Bool)=>.an (Ik c i.A jN.1) (.lv (uR c i.A jN.1) λ(mg:bm)=>.lf ({X:=mg.X,Pc:=wrap u32 (c.Pc+4),B3:=mg.B3},{C0:=0,D1:=0,E0:=0,Value:=0})))) (let E6:=aK (gn.l c.X) i.C.toNat 0;.an (Qtx i.Op E3 E6) (.lv (nQ i.Op E3 E6) λ(oI:Int×Bool)=>.an (Ik c i.A oI.1) (.lv (uR c i.A oI.1) λ(mK:bm)=>.lf ({X:=mK.X,Pc:=wrap u32 (c.Pc+4),B3:=mK.B3},{C0:=0,D1:=0,E0:=0,Value:=0})))))))))))))))))))))))))
def Ye c i:=(FJ c i).m
abbrev Qp7 c i:=(FJ c i).p
def Zdl:bf:=mT 121 [] true [.agg bm.sig,.agg gw.sig] [] (λa r=>FJ (bm.of (aC a 0)) (gw.of (aC a 1))) (λX=>.dt [.agg (bm.cells (X.1)),.agg (kT.cells (X.2))]) (λX=>[])
theorem Z7w:bj pG Zdl:=oT (.cons Zbb (.cons Zkg (.cons So (.cons Ze6 (.cons Zii (.cons Zr8 (.nil))))))) Tryz.func121 Tryz.call121 [] [] 2
def FK(c:bm)(m:List Int):Tree (bm×(List Int)×kT):=
.an (Qxi c m) (.lv (Uk c m) λ(x0:Int×List Int×Int)=>.br (x0.2.2 !=0) (.lv (rH c x0.2.2 c.Pc) λ(x1:bm)=>.lf (x1,x0.2.1,{C0:=0,D1:=0,E0:=0,Value:=0})) (.an (Qt6 x0.1) (.lv (OJ x0.1) λ(x2:gw×Bool)=>.br (!x2.2) (.lv (rH c 1 x0.1) λ(x3:bm)=>.lf (x3,x0.2.1,{C0:=0,D1:=0,E0:=0,Value:=0})) (.lv (OG x2.1.Op) λ(x4:Bool)=>let T1:Tree ((bm×(List Int)×kT)):=let T2:Tree ((bm×(List Int)×kT)):=.an (Z07 c x0.2.1 x2.1) (.lv (tV c x0.2.1 x2.1) λ(x7:bm×List Int)=>.lf (x7.1,x7.2,{C0:=0,D1:=0,E0:=0,Value:=0}));.br (x2.1.Op==32) T2 (.br (x2.1.Op==33) T2 (.br (x2.1.Op==34) T2 (let T3:Tree ((bm×(List Int)×kT)):=.an (Qv4 c x0.2.1 x2.1) (.lv (CI c x0.2.1 x2.1) λ(jc:bm×List Int)=>.lf (jc.1,jc.2,{C0:=0,D1:=0,E0:=0,Value:=0}));.br (x2.1.Op==35) T3 (.br (x2.1.Op==36) T3 (.an (Qp7 c x2.1) (.lv (Ye c x2.1) λ(jz:bm×kT)=>.lf (jz.1,x0.2.1,jz.2)))))));.br x4 (.lv (Hj c) λ(x5:Bool)=>.br (!x5) (.lv (rH c 2 x0.1) λ(x6:bm)=>.lf (x6,x0.2.1,{C0:=0,D1:=0,E0:=0,Value:=0})) T1) T1))))
def wY c m:=(FK c m).m
abbrev Qqa c m:=(FK c m).p
def Zro:bf:=mT 63 [] true [.agg bm.sig,.one (.ints .u32)] [] (λa r=>FK (bm.of (aC a 0)) (eg .u32 a 1)) (λX=>.dt [.agg (bm.cells (X.1)),.all 0,.agg (kT.cells (X.2.2))]) (λX=>[⟨false,23,1,.ints .u32 (X.2.1)⟩])
theorem Z49:bj pG Zro:=oT (.cons Zgx (.cons So (.cons Zcq (.cons Qz3 (.cons Qwq (.cons Zlt (.cons Zl4 (.cons Z7w (.nil))))))))) Tryz.func63 Tryz.call63 [.row 23 1 (.ints .u32)] [] 2
end
noncomputable section
def KG:List UInt8:=[(0:UInt8),1,2,2,3,3,3,3,4,4,4,4,4,4,4,4,5,5,5,5,5,5,5,5,5,5,5,5,5,5,5,5,6,6,6,6,6,6,6,6,6,6,6,6,6,6,6,6,6,6,6,6,6,6,6,6,6,6,6,6,6,6,6,6]
def Sq:List UInt8:=[(7:UInt8),7,7,7,7,7,7,7,7,7,7,7,7,7,7,7,7,7,7,7,7,7,7,7,7,7,7,7,7,7,7,7,7,7,7,7,7,7,7,7,7,7,7,7,7,7,7,7,7,7,7,7,7,7,7,7,7,7,7,7,7,7,7,7]
def EU:List UInt8:=[(8:UInt8),8,8,8,8,8,8,8,8,8,8,8,8,8,8,8,8,8,8,8,8,8,8,8,8,8,8,8,8,8,8,8,8,8,8,8,8,8,8,8,8,8,8,8,8,8,8,8,8,8,8,8,8,8,8,8,8,8,8,8,8,8,8,8]
def VZ:List UInt8:=[(1:UInt8),2,2,3,3,3,3,4,4,4,4,4,4,4,4,5,5,5,5,5,5,5,5,5,5,5,5,5,5,5,5,6,6,6,6,6,6,6,6,6,6,6,6,6,6,6,6,6,6,6,6,6,6,6,6,6,6,6,6,6,6,6,6]
def KH:List UInt8:=[(0:UInt8),1,1,2,1,2,2,3,1,2,2,3,2,3,3,4,1,2,2,3,2,3,3,4,2,3,3,4,3,4,4,5,1,2,2,3,2,3,3,4,2,3,3,4,3,4,4,5,2,3,3,4,3,4,4,5,3,4,4,5,4,5,5,6]
def EV:List UInt8:=[(1:UInt8),2,2,3,2,3,3,4,2,3,3,4,3,4,4,5,2,3,3,4,3,4,4,5,3,4,4,5,4,5,5,6,2,3,3,4,3,4,4,5,3,4,4,5,4,5,5,6,3,4,4,5,4,5,5,6,4,5,5,6,5,6,6,7]
def Sr:List UInt8:=[(2:UInt8),3,3,4,3,4,4,5,3,4,4,5,4,5,5,6,3,4,4,5,4,5,5,6,4,5,5,6,5,6,6,7,3,4,4,5,4,5,5,6,4,5,5,6,5,6,6,7,4,5,5,6,5,6,6,7,5,6,6,7,6,7,7,8]
def V0:List UInt8:=[(1:UInt8),1,2,1,2,2,3,1,2,2,3,2,3,3,4,1,2,2,3,2,3,3,4,2,3,3,4,3,4,4,5,1,2,2,3,2,3,3,4,2,3,3,4,3,4,4,5,2,3,3,4,3,4,4,5,3,4,4,5,4,5,5,6]
def Qwt(c:iY):Tree Bool:=
.lf (decide ((c.C9.length:Int)<=(16:Int)))
def tR c:=(Qwt c).m
def Zem:bf:=mS 195 [] true [.agg iY.sig] [] (λa r=>Qwt (iY.of (aC a 0))) (λX=>.bool X) (λX=>[])
theorem Z9f:bj pG Zem:=oS (.nil) Tryz.func195 Tryz.call195 [] [] 2
def TO(t:iZ):Tree Bool:=
.br t.D3 (.br (!t.D2) (.lf (t.C3 !=0)) (.lf false)) (.br t.D2 (.lf true) (.lf (t.C3==0)))
def tS t:=(TO t).m
def Znv:bf:=mS 196 [] true [.agg iZ.sig] [] (λa r=>TO (iZ.of (aC a 0))) (λX=>.bool X) (λX=>[])
theorem Zhp:bj pG Znv:=oS (.nil) Tryz.func196 Tryz.call196 [] [] 2
def Jc(d0:fv):Tree Bool:=
.br (d0.D5==1) (.lf (decide (d0.B7=[]))) (.br (d0.D5==2) (.lf ((d0.B7.length:Int)==(128:Int))) (.lf false))
def Ow d0:=(Jc d0).m
def Qyv:bf:=mS 260 [] true [.agg fv.sig] [] (λa r=>Jc (fv.of (aC a 0))) (λX=>.bool X) (λX=>[])
theorem Qv5:bj pG Qyv:=oS (.nil) Tryz.func260 Tryz.call260 [] [] 2
def wV(d0:fv)(c8:Int):Tree Bool:=
.br (decide (d0.ag>64)) (.lf false) (let T1:Tree (Bool):=.br (d0.D5==0) (.br (d0.B6==0) (.br (d0.B2==0) (.lf (decide (d0.B7=[]))) (.lf false)) (.lf false)) (.lf false);.br (d0.B8==0) T1 (.br (d0.B8==2) T1 (.br (d0.B8==3) T1 (.br (d0.B8==1) (.lv (Ow d0) λ(x0:Bool)=>.br x0 (.br (decide (d0.B6<d0.ag)) (.lf (decide (wrap i64 d0.B2<c8))) (.lf false)) (.lf false)) (.lf false)))))
def kD d0 c8:=(wV d0 c8).m
def Zsn:bf:=mS 197 [] true [.agg fv.sig,.one (.int .i64)] [] (λa r=>wV (fv.of (aC a 0)) (ar a 1)) (λX=>.bool X) (λX=>[])
theorem Zmo:bj pG Zsn:=oS (.cons Qv5 (.nil)) Tryz.func197 Tryz.call197 [] [] 2
def Lv(n:ik)(c8:Int):Tree Bool:=
let T1:Tree (Bool):=let T2:Tree (Bool):=.br n.B5 (.br (decide (n.F0>=1)) (.lf (decide (n.F0<=128))) (.lf false)) (.lf (n.F0==0));.br n.C5 (.br (decide (wrap i64 n.B9>=c8)) (.lf false) T2) (.br (n.B9 !=0) (.lf false) T2);.br n.C5 (.br n.B5 (.lf false) T1) T1
def pC n c8:=(Lv n c8).m
def yE:bf:=mS 198 [] true [.agg ik.sig,.one (.int .i64)] [] (λa r=>Lv (ik.of (aC a 0)) (ar a 1)) (λX=>.bool X) (λX=>[])
theorem Zqm:bj pG yE:=oS (.nil) Tryz.func198 Tryz.call198 [] [] 2
def En(x:Int):Tree Int:=
let E1:=(↑(dK (cR (cR KG Sq) (cR EU EU))):Int);.br (decide (x>=65536)) (.br (decide (bg u32 x (16:Int)>=(256:Int))) (.cn (decide (0<=wrap u8 (bg u32 (bg u32 x 16) 8)/\wrap u8 (bg u32 (bg u32 x 16) 8)<E1)) (.lf (wrap i64 (wrap i64 ((16:Int)+(8:Int))+wrap i64 (↑(eW (aK ((0:UInt8)::(VZ++Sq++(EU++EU))) (dF (wrap u8 (bg u32 (bg u32 x 16) 8))) (0:UInt8))):Int))))) (.cn (decide (0<=wrap u8 (bg u32 x 16)/\wrap u8 (bg u32 x 16)<E1)) (.lf (wrap i64 (16+wrap i64 (↑(eW (aK ((0:UInt8)::(VZ++Sq++(EU++EU))) (dF (wrap u8 (bg u32 x 16))) (0:UInt8))):Int)))))) (.br (decide (x>=256)) (.cn (decide (0<=wrap u8 (bg u32 x 8)/\wrap u8 (bg u32 x 8)<E1)) (.lf (wrap i64 (wrap i64 ((0:Int)+(8:Int))+wrap i64 (↑(eW (aK ((0:UInt8)::(VZ++Sq++(EU++EU))) (dF (wrap u8 (bg u32 x 8))) (0:UInt8))):Int))))) (.cn (decide (0<=wrap u8 x/\wrap u8 x<E1)) (.lf (wrap i64 (0+wrap i64 (↑(eW (aK ((0:UInt8)::(VZ++Sq++(EU++EU))) (dF (wrap u8 x)) (0:UInt8))):Int))))))
def wW x:=(En x).m
abbrev Qiu x:=(En x).p
def Qzr:bf:=mT 261 [] true [.one (.int .u32)] [] (λa r=>En (ar a 0)) (λX=>.int .i64 X) (λX=>[])
theorem Qus:bj pG Qzr:=oT (.nil) Tryz.func261 Tryz.call261 [] [] 2
def G1(b:iu)(c8:Int):Tree Bool:=
.an (Qiu b.C4) (.lv (wW b.C4) λ(x0:Int)=>.lf (decide (x0<=if 0>c8 then 0 else c8)))
def uM b c8:=(G1 b c8).m
abbrev Qig b c8:=(G1 b c8).p
def Zf5:bf:=mT 199 [] true [.agg iu.sig,.one (.int .i64)] [] (λa r=>G1 (iu.of (aC a 0)) (ar a 1)) (λX=>.bool X) (λX=>[])
theorem Z9k:bj pG Zf5:=oT (.cons Qus (.nil)) Tryz.func199 Tryz.call199 [] [] 2
def El(m:av):Tree Bool:=
.lv (me m.Mem) λ(x0:Int)=>.lv (tR m.A3) λ(x1:Bool)=>.br x1 (.lv (tS m.A9) λ(x2:Bool)=>.br x2 (.lv (kD m.A7 x0) λ(x3:Bool)=>.br x3 (.lv (pC m.C1 x0) λ(x4:Bool)=>.br x4 (.an (Qig m.A2 x0) (.lv (uM m.A2 x0) λ(x5:Bool)=>.lf x5)) (.lf false)) (.lf false)) (.lf false)) (.lf false)
def sX m:=(El m).m
abbrev VV m:=(El m).p
def Qsf:bf:=mT 131 [] true [.agg av.sig] [] (λa r=>El (av.of (aC a 0))) (λX=>.bool X) (λX=>[])
theorem Qp1:bj pG Qsf:=oT (.cons Ij (.cons Z9f (.cons Zhp (.cons Zmo (.cons Zqm (.cons Z9k (.nil))))))) Tryz.func131 Tryz.call131 [] [] 2
def Kv(m:av):Tree Bool:=
.lv (me m.Mem) λ(x0:Int)=>.br (x0==0) (.lf false) (.br (m.B0.X.a0 !=0) (.lf false) (.br (decide (m.B0.B3.a0>31)) (.lf false) (.br (decide (m.B0.B3.a7>31)) (.lf false) (.br (decide (m.B0.B3.a6>255)) (.lf false) (.br (dE m.B0.B3.a1 (4:Int) !=(0:Int)) (.lf false) (.br (decide (m.A1>1152921504606846976)) (.lf false) (.br m.A4 (.br m.A6 (.lf false) (.an (VV m) (.lv (sX m) λ(x1:Bool)=>.lf x1))) (.an (VV m) (.lv (sX m) λ(x2:Bool)=>.lf x2)))))))))
def mX m:=(Kv m).m
abbrev Si m:=(Kv m).p
def Zeh:bf:=mT 68 [] true [.agg av.sig] [] (λa r=>Kv (av.of (aC a 0))) (λX=>.bool X) (λX=>[])
theorem Qkj:bj pG Zeh:=oT (.cons Ij (.cons Qp1 (.nil))) Tryz.func68 Tryz.call68 [] [] 2
def Qqb(t:iZ):Tree Bool:=
.lf t.D2
def YA t:=(Qqb t).m
def Z6i:bf:=mS 170 [] true [.agg iZ.sig] [] (λa r=>Qqb (iZ.of (aC a 0))) (λX=>.bool X) (λX=>[])
theorem Z2e:bj pG Z6i:=oS (.nil) Tryz.func170 Tryz.call170 [] [] 2
def Qlr(c:iY):Tree Bool:=
.lf (!decide (c.C9=[]))
def Q9 c:=(Qlr c).m
def Qz4:bf:=mS 171 [] true [.agg iY.sig] [] (λa r=>Qlr (iY.of (aC a 0))) (λX=>.bool X) (λX=>[])
theorem Qwj:bj pG Qz4:=oS (.nil) Tryz.func171 Tryz.call171 [] [] 2
def XE(d0:fv):Tree Bool:=
.br (d0.B8==2) (.lf true) (.lf (d0.B8==3))
def Ly d0:=(XE d0).m
def Z86:bf:=mS 172 [] true [.agg fv.sig] [] (λa r=>XE (fv.of (aC a 0))) (λX=>.bool X) (λX=>[])
theorem Qp0:bj pG Z86:=oS (.nil) Tryz.func172 Tryz.call172 [] [] 2
def Qvr(n:ik):Tree Bool:=
.lf n.B5
def YC n:=(Qvr n).m
def Zea:bf:=mS 173 [] true [.agg ik.sig] [] (λa r=>Qvr (ik.of (aC a 0))) (λX=>.bool X) (λX=>[])
theorem Z8l:bj pG Zea:=oS (.nil) Tryz.func173 Tryz.call173 [] [] 2
def RS(x:Int):Tree Int:=
let E1:=(↑(dK (cR (cR KH EV) (cR EV Sr))):Int);.cn (decide (0<=bg u32 x 24/\bg u32 x 24<E1)) (.cn (decide (0<=bd u32 (bg u32 x 16) 255/\bd u32 (bg u32 x 16) 255<E1)) (.cn (decide (0<=bd u32 (bg u32 x 8) 255/\bd u32 (bg u32 x 8) 255<E1)) (.cn (decide (0<=bd u32 x 255/\bd u32 x 255<E1)) (.lf (wrap i64 (wrap u8 (wrap u8 (wrap u8 ((↑(eW (aK ((0:UInt8)::(V0++EV++(EV++Sr))) (dF (bg u32 x 24)) (0:UInt8))):Int)+(↑(eW (aK ((0:UInt8)::(V0++EV++(EV++Sr))) (dF (bd u32 (bg u32 x 16) 255)) (0:UInt8))):Int))+(↑(eW (aK ((0:UInt8)::(V0++EV++(EV++Sr))) (dF (bd u32 (bg u32 x 8) 255)) (0:UInt8))):Int))+(↑(eW (aK ((0:UInt8)::(V0++EV++(EV++Sr))) (dF (bd u32 x 255)) (0:UInt8))):Int))))))))
def Yt x:=(RS x).m
abbrev Qat x:=(RS x).p
def Qns:bf:=mT 253 [] true [.one (.int .u32)] [] (λa r=>RS (ar a 0)) (λX=>.int .i64 X) (λX=>[])
theorem Qlj:bj pG Qns:=oT (.nil) Tryz.func253 Tryz.call253 [] [] 2
def RU(b:iu):Tree Int:=
.an (Qat b.C4) (.lv (Yt b.C4) λ(x0:Int)=>.lf x0)
def Uq b:=(RU b).m
abbrev Qe2 b:=(RU b).p
def Z5e:bf:=mT 191 [] true [.agg iu.sig] [] (λa r=>RU (iu.of (aC a 0))) (λX=>.int .i64 X) (λX=>[])
theorem Qnx:bj pG Z5e:=oT (.cons Qlj (.nil)) Tryz.func191 Tryz.call191 [] [] 2
def Me(b:iu):Tree Bool:=
.an (Qe2 b) (.lv (Uq b) λ(x0:Int)=>.lf (wrap u32 x0 !=b.C7))
def O6 b:=(Me b).m
abbrev Qi5 b:=(Me b).p
def Qz6:bf:=mT 174 [] true [.agg iu.sig] [] (λa r=>Me (iu.of (aC a 0))) (λX=>.bool X) (λX=>[])
theorem Qvh:bj pG Qz6:=oT (.cons Qnx (.nil)) Tryz.func174 Tryz.call174 [] [] 2
def Qis(m:av)(z:(Int)×(Int)):Nat:=(5-z.2).toNat
def Mh(m:av):Tree Int:=
.lv (YA m.A9) λ(x0:Bool)=>.lv (Q9 m.A3) λ(x1:Bool)=>.lv (Ly m.A7) λ(x2:Bool)=>.lv (YC m.C1) λ(x3:Bool)=>.an (Qi5 m.A2) (.lv (O6 m.A2) λ(x4:Bool)=>.lp inferInstance (Qis m (0,0)+1) ((rE (0:Int)/\(rE (x0:Bool)/\rE (x1:Bool)/\rE (x2:Bool)/\rE (x3:Bool)/\rE (x4:Bool)/\True)/\rE (0:Int)/\True)/\True) (0,0) λ(v0:Int×Int)=>.br (decide (v0.2<5)) (.cn (bT 1 1&&(bT 5 5&&decide (0<=v0.2/\v0.2<(↑5:Int)))) (.br (aK [x0,x1,x2,x3,x4] v0.2.toNat false) (.cn (decide (0<=v0.2)) (.nx ((rE ((ij u32 v0.1 (ek u32 1 v0.2)):Int)/\(rE (x0:Bool)/\rE (x1:Bool)/\rE (x2:Bool)/\rE (x3:Bool)/\rE (x4:Bool)/\True)/\rE ((wrap i64 (v0.2+1)):Int)/\True)/\True) (Sum.inl (ij u32 v0.1 (ek u32 1 v0.2),wrap i64 (v0.2+1))))) (.nx ((rE v0.1/\(rE (x0:Bool)/\rE (x1:Bool)/\rE (x2:Bool)/\rE (x3:Bool)/\rE (x4:Bool)/\True)/\rE ((wrap i64 (v0.2+1)):Int)/\True)/\True) (Sum.inl (v0.1,wrap i64 (v0.2+1)))))) (.lf (Sum.inr v0.1)))
def Uu m:=(Mh m).m
abbrev Qln m:=(Mh m).p
def Z2l:bn:={
 α:=(Int)×(Int)
 F:=λst a=>([(4,.int u32 a.1),(23,(lk st 23)),(24,.int i64 a.2)],[])
 a0:=λst=>((lk st 4).toInt,(lk st 24).toInt)
 iL:=λst=>[]++[]}
def Qv:List (Nat×bn):=[(4,Z2l)]
def Z5y:bf:=mT 108 [] true [.agg av.sig] [] (λa r=>Mh (av.of (aC a 0))) (λX=>.int .u32 X) (λX=>[])
theorem Z2a:bj pG Z5y:=oT (.cons Z2e (.cons Qwj (.cons Qp0 (.cons Z8l (.cons Qvh (.nil)))))) Tryz.func108 Tryz.call108 [] Qv 3
def Hs(m:av):Tree Int:=
.an (Qln m) (.lv (Uu m) λ(x0:Int)=>.lf (bd u32 x0 m.B0.B3.a7))
def Mi m:=(Hs m).m
abbrev Qbn m:=(Hs m).p
def Qyc:bf:=mT 117 [] true [.agg av.sig] [] (λa r=>Hs (av.of (aC a 0))) (λX=>.int .u32 X) (λX=>[])
theorem Qk5:bj pG Qyc:=oT (.cons Z2a (.nil)) Tryz.func117 Tryz.call117 [] [] 2
def Ht(m:av):Tree Bool:=
.br m.A4 (.an (Qbn m) (.lv (Mi m) λ(x0:Int)=>.lf (x0==0))) (.lf false)
def LK m:=(Ht m).m
abbrev YZ m:=(Ht m).p
def Z8w:bf:=mT 107 [] true [.agg av.sig] [] (λa r=>Ht (av.of (aC a 0))) (λX=>.bool X) (λX=>[])
theorem Qp3:bj pG Z8w:=oT (.cons Qk5 (.nil)) Tryz.func107 Tryz.call107 [] [] 2

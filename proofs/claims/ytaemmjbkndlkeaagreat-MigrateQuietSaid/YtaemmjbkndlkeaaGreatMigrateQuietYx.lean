import Derived.Test.YtaemmjbkndlkeaaGreatMigrateQuietBase
open Int renaming tmod->cZ,tdiv->eF,toNat->dA
open Nat renaming beq->bX,blt->bN
open List renaming set->dB,getD->aV,length->dF,append->cP
open UInt8 renaming toNat->hY
set_option maxRecDepth 100000
set_option linter.all false
namespace Go.Proofs.YtaemmjbkndlkeaaGreat
open Go Go.GD Go.IntKind
noncomputable section
def kB(s:List Int):(List Int):=
s
def nP(s:List Int):Prop:=
s.length<=35184372088832
def Q4d(s:List Int):List D:=[.sl 1 (.ints .u32 s) false]
def Va(s:List Int):List Row:=[]
def Mm(X:List Int):D:=.all 0
def Mn(X:List Int):List Row:=[⟨false,25,1,.ints .u32 X⟩]
def Qfo:List mY:=[.row 25 1 (.ints .u32)]
def Q86:List PT:=[.one (.ints .u32)]
def Q7q:List RT:=[]
def Qgu(args:List D)(rows:List Row):(List Int):=kB (dh .u32 args 0)
def Qgk(args:List D)(rows:List Row):Prop:=nP (dh .u32 args 0)
def Qim:ba:=ly 114 [] true Q86 Q7q Qgk Qgu Mm Mn
def Q5k(s:List Int)(jb:(List Int)->Prop):Prop:=
(s=[]->jb [])/\cu (decide ((4:Nat)*((0:Nat)+s.length)<=(140737488355328:Nat))) (jb s)
set_option maxRecDepth 100000 in
theorem Qhh(s:List Int)(Q:D->List Row->Prop):(ka jV [] (LL jV [] Tryz.f114.ntmps 0 [] 2) Tryz.f114 (Q4d s) (Va s) λd R=>nT (Va s).length Qfo d R Q)=Q5k s (λX=>Q (Mm X) (Mn X)):=by kernel_rfl
theorem Qff(s:List Int)(jb:(List Int)->Prop)(hw:nP s)(h:jb (kB s)):
Q5k s jb:=by
 delta Q5k
 refine⟨λe=>by rw[e]at h;exact h,?_⟩
 rw[dd]
 refine⟨dY ?_,h⟩
 have:s.length<=35184372088832:=hw
 omega
set_option maxRecDepth 100000 in
theorem Qek(s:List Int)(hw:nP s):ko pG 114 (Q4d s) (Va s) (Mm (kB s)) (Mn (kB s)):=
 have hG:jz pG []:=.nil
 lQ.calls drawn jA hG Tryz.func114 (rf:=none) (λ_ _=>trivial) (Ge drawn jA hG (.inl rfl) 2 (ft:=[])) (lQ.of (Qhh s _) (Qff s (λX=>Mm X=Mm (kB s)/\Mn X=Mn (kB s)) hw ⟨rfl,rfl⟩))
set_option maxRecDepth 100000 in
theorem Qfr(args:List D)(rows:List Row):kW Q86 args 0=Q4d (dh .u32 args 0):=by kernel_rfl
set_option maxRecDepth 100000 in
theorem Qen(args:List D)(rows:List Row):kp Q7q rows 0=Va (dh .u32 args 0):=by kernel_rfl
set_option maxRecDepth 100000 in
theorem Qhi(X:List Int):(tj (Mm X)&&jx (Mn X))=true:=by kernel_rfl
theorem JO:bj pG Qim:=Fz Tryz.call114 (λargs rows hp=>by rw[Qfr args rows,Qen args rows];exact Qek (dh .u32 args 0) hp) (λ_ X=>Qhi X)
def Gn(m:List Int):Tree Int:=
.br (cZ (m.length:Int) (32:Int) !=(0:Int)) (.lf 0) (.br (decide ((m.length:Int)>(1024:Int))) (.lf 0) (.lf (wrap i64 (eF (m.length:Int) 32))))
def jQ m:=(Gn m).m
def Z90:ba:=mS 70 [] true [.one (.ints .u32)] [] (λa r=>Gn (dh .u32 a 0)) (λX=>.int .i64 X) (λX=>[])
theorem Q2:bj pG Z90:=oS (.nil) Tryz.func70 Tryz.call70 [] [] 2
def IE(m:List Int)(addr size:Int):Tree Bool:=
let T1:Tree (Bool):=.cn (decide (wrap u32 size≠0)) (.br (cZ addr (wrap u32 size) !=0) (.lf false) (.lv (jQ m) λ(x0:Int)=>.lf (decide (wrap u64 (wrap u64 addr+wrap u64 size)<=wrap u64 (wrap u64 x0*128)))));.br (size !=1) (.br (size !=4) (.lf false) T1) T1
def W6 m addr size:=(IE m addr size).m
abbrev Qet m addr size:=(IE m addr size).p
def Z4y:ba:=mT 273 [] true [.one (.ints .u32),.one (.int .u32),.one (.int .i64)] [] (λa r=>IE (dh .u32 a 0) (au a 1) (au a 2)) (λX=>.bool X) (λX=>[])
theorem Qpl:bj pG Z4y:=oT (.cons Q2 (.nil)) Tryz.func273 Tryz.call273 [] [] 2
def QS(n:Int):Tree Int:=
.br (decide (n>=32)) (.lf 4294967295) (.cn (decide (0<=wrap u64 n)) (.lf (wrap u32 (eu u32 1 (wrap u64 n)-1))))
def Z7f n:=(QS n).m
abbrev Qod n:=(QS n).p
def Zmd:ba:=mT 274 [] true [.one (.int .i64)] [] (λa r=>QS (au a 0)) (λX=>.int .u32 X) (λX=>[])
theorem Z21:bj pG Zmd:=oT (.nil) Tryz.func274 Tryz.call274 [] [] 2
def QT(w low n:Int):Tree Int:=
.br (decide (low<0)) (.lf 0) (.br (decide (low>31)) (.lf 0) (.br (decide (n<1)) (.lf 0) (.cn (decide (0<=wrap u64 low)) (.an (Qod n) (.lv (Z7f n) λ(x0:Int)=>.lf (bc u32 (bm u32 w (wrap u64 low)) x0))))))
def tA w low n:=(QT w low n).m
abbrev Mo w low n:=(QT w low n).p
def Zjq:ba:=mT 238 [] true [.one (.int .u32),.one (.int .i64),.one (.int .i64)] [] (λa r=>QT (au a 0) (au a 1) (au a 2)) (λX=>.int .u32 X) (λX=>[])
theorem Qpb:bj pG Zjq:=oT (.cons Z21 (.nil)) Tryz.func238 Tryz.call238 [] [] 2
def QU(w low n v:Int):Tree Int:=
.br (decide (low<0)) (.lf w) (.br (decide (low>31)) (.lf w) (.br (decide (n<1)) (.lf w) (.an (Qod n) (.lv (Z7f n) λ(x0:Int)=>.cn (decide (0<=wrap u64 low)) (.cn (decide (0<=wrap u64 low)) (.lf (iN u32 (oJ u32 w (eu u32 x0 (wrap u64 low))) (eu u32 (bc u32 v x0) (wrap u64 low)))))))))
def KY w low n v:=(QU w low n v).m
abbrev Qns w low n v:=(QU w low n v).p
def Z8n:ba:=mT 276 [] true [.one (.int .u32),.one (.int .i64),.one (.int .i64),.one (.int .u32)] [] (λa r=>QU (au a 0) (au a 1) (au a 2) (au a 3)) (λX=>.int .u32 X) (λX=>[])
theorem Z2h:bj pG Z8n:=oT (.cons Z21 (.nil)) Tryz.func276 Tryz.call276 [] [] 2
def K1(m:List Int)(addr size v:Int):Tree ((List Int)×Bool):=
.an (nP m) (.lv (kB m) λ(x0:List Int)=>.an (Qet m addr size) (.lv (W6 m addr size) λ(x1:Bool)=>.br (!x1) (.lf (x0,false)) (let E1:=bX 1 1&&bN 0 1&&decide (0<=wrap u32 (eF addr 4)/\wrap u32 (eF addr 4)<(x0.length:Int));let E2:=dA (wrap u32 (eF addr 4));.br (size==1) (.cn E1 (let E3:=wrap i64 (wrap i64 (cZ addr 4)*8);.an (Qns (x0.getD E2 0) E3 8 v) (.lv (KY (x0.getD E2 0) E3 8 v) λ(x2:Int)=>.cn E1 (.lf (dB x0 E2 x2,true))))) (.cn E1 (.lf (dB x0 E2 v,true))))))
def K0 m addr size v:=(K1 m addr size v).m
abbrev Qc0 m addr size v:=(K1 m addr size v).p
def Z98:ba:=mT 244 [] true [.one (.ints .u32),.one (.int .u32),.one (.int .i64),.one (.int .u32)] [] (λa r=>K1 (dh .u32 a 0) (au a 1) (au a 2) (au a 3)) (λX=>.dw [.all 0,.bool (X.2)]) (λX=>[⟨false,25,1,.ints .u32 (X.1)⟩])
theorem Qrv:bj pG Z98:=oT (.cons JO (.cons Qpl (.cons Z2h (.nil)))) Tryz.func244 Tryz.call244 [.row 25 1 (.ints .u32)] [] 2
def Zha(op:Int):Tree (w4×Bool):=
.br (op==1) (.lf ({a:=true,b:=true,c:=true,low:=0,F4:=0},true)) (.br (op==2) (.lf ({a:=true,b:=true,c:=true,low:=0,F4:=0},true)) (.br (op==3) (.lf ({a:=true,b:=true,c:=true,low:=0,F4:=0},true)) (.br (op==4) (.lf ({a:=true,b:=true,c:=true,low:=0,F4:=0},true)) (.br (op==5) (.lf ({a:=true,b:=true,c:=true,low:=0,F4:=0},true)) (.br (op==6) (.lf ({a:=true,b:=true,c:=true,low:=0,F4:=0},true)) (.br (op==7) (.lf ({a:=true,b:=true,c:=true,low:=0,F4:=0},true)) (.br (op==8) (.lf ({a:=true,b:=true,c:=true,low:=0,F4:=0},true)) (.br (op==9) (.lf ({a:=true,b:=true,c:=true,low:=0,F4:=0},true)) (.br (op==10) (.lf ({a:=true,b:=true,c:=true,low:=0,F4:=0},true)) (.br (op==11) (.lf ({a:=true,b:=true,c:=true,low:=0,F4:=0},true)) (.br (op==12) (.lf ({a:=true,b:=true,c:=true,low:=0,F4:=0},true)) (.br (op==13) (.lf ({a:=true,b:=true,c:=true,low:=0,F4:=0},true)) (.br (op==16) (.lf ({a:=true,b:=true,c:=false,low:=(-32768),F4:=32767},true)) (.br (op==23) (.lf ({a:=true,b:=true,c:=false,low:=(-32768),F4:=32767},true)) (.br (op==32) (.lf ({a:=true,b:=true,c:=false,low:=(-32768),F4:=32767},true)) (.br (op==33) (.lf ({a:=true,b:=true,c:=false,low:=(-32768),F4:=32767},true)) (.br (op==34) (.lf ({a:=true,b:=true,c:=false,low:=(-32768),F4:=32767},true)) (.br (op==35) (.lf ({a:=true,b:=true,c:=false,low:=(-32768),F4:=32767},true)) (.br (op==36) (.lf ({a:=true,b:=true,c:=false,low:=(-32768),F4:=32767},true)) (.br (op==40) (.lf ({a:=true,b:=true,c:=false,low:=(-32768),F4:=32767},true)) (.br (op==41) (.lf ({a:=true,b:=true,c:=false,low:=(-32768),F4:=32767},true)) (.br (op==42) (.lf ({a:=true,b:=true,c:=false,low:=(-32768),F4:=32767},true)) (.br (op==43) (.lf ({a:=true,b:=true,c:=false,low:=(-32768),F4:=32767},true)) (.br (op==44) (.lf ({a:=true,b:=true,c:=false,low:=(-32768),F4:=32767},true)) (.br (op==45) (.lf ({a:=true,b:=true,c:=false,low:=(-32768),F4:=32767},true)) (.br (op==49) (.lf ({a:=true,b:=true,c:=false,low:=(-32768),F4:=32767},true)) (.br (op==17) (.lf ({a:=true,b:=true,c:=false,low:=0,F4:=65535},true)) (.br (op==18) (.lf ({a:=true,b:=true,c:=false,low:=0,F4:=65535},true)) (.br (op==19) (.lf ({a:=true,b:=true,c:=false,low:=0,F4:=65535},true)) (.br (op==20) (.lf ({a:=true,b:=true,c:=false,low:=0,F4:=31},true)) (.br (op==21) (.lf ({a:=true,b:=true,c:=false,low:=0,F4:=31},true)) (.br (op==22) (.lf ({a:=true,b:=true,c:=false,low:=0,F4:=31},true)) (.br (op==24) (.lf ({a:=true,b:=false,c:=false,low:=0,F4:=65535},true)) (.br (op==48) (.lf ({a:=true,b:=false,c:=false,low:=(-32768),F4:=32767},true)) (.br (op==58) (.lf ({a:=true,b:=false,c:=false,low:=0,F4:=7},true)) (.br (op==59) (.lf ({a:=true,b:=false,c:=false,low:=0,F4:=7},true)) (.br (op==60) (.lf ({a:=true,b:=false,c:=false,low:=0,F4:=11},true)) (.br (op==61) (.lf ({a:=true,b:=false,c:=false,low:=0,F4:=11},true)) (.br (op==56) (.lf ({a:=false,b:=false,c:=false,low:=0,F4:=0},true)) (.br (op==57) (.lf ({a:=false,b:=false,c:=false,low:=0,F4:=0},true)) (.br (op==62) (.lf ({a:=false,b:=false,c:=false,low:=0,F4:=0},true)) (.br (op==63) (.lf ({a:=false,b:=false,c:=false,low:=0,F4:=0},true)) (.br (op==64) (.lf ({a:=false,b:=false,c:=false,low:=0,F4:=0},true)) (.lf ({a:=false,b:=false,c:=false,low:=0,F4:=0},false)))))))))))))))))))))))))))))))))))))))))))))
def SZ op:=(Zha op).m
def vB:ba:=mS 239 [] true [.one (.int .i64)] [] (λa r=>Zha (au a 0)) (λX=>.dw [.agg (w4.cells (X.1)),.bool (X.2)]) (λX=>[])
theorem Zd0:bj pG vB:=oS (.nil) Tryz.func239 Tryz.call239 [] [] 2
def QV(x n:Int):Tree Int:=
.br (decide (n<1)) (.lf 0) (.br (decide (n>=32)) (.lf x) (let E1:=decide (0<=wrap u64 (wrap i64 (32-n)));.cn E1 (.cn E1 (.lf (wrap u32 (bm i32 (wrap i32 (eu u32 x (wrap u64 (wrap i64 (32-n))))) (wrap u64 (wrap i64 (32-n)))))))))
def DF x n:=(QV x n).m
abbrev Qce x n:=(QV x n).p
def Z0t:ba:=mT 240 [] true [.one (.int .u32),.one (.int .i64)] [] (λa r=>QV (au a 0) (au a 1)) (λX=>.int .u32 X) (λX=>[])
theorem Qlm:bj pG Z0t:=oT (.nil) Tryz.func240 Tryz.call240 [] [] 2
def S0(r:Int)(used:Bool):Tree Bool:=
.br used (.br (decide (r>=0)) (.lf (decide (r<=15))) (.lf false)) (.lf (r==0))
def KU r used:=(S0 r used).m
def Za7:ba:=mS 275 [] true [.one (.int .i64),.one (.bool)] [] (λa r=>S0 (au a 0) (kE a 1)) (λX=>.bool X) (λX=>[])
theorem Z8m:bj pG Za7:=oS (.nil) Tryz.func275 Tryz.call275 [] [] 2
def NP(i:ia):Tree Bool:=
.lv (SZ i.Op) λ(x0:w4×Bool)=>.br x0.2 (.lv (KU i.A x0.1.a) λ(x1:Bool)=>.br x1 (.lv (KU i.B x0.1.b) λ(x2:Bool)=>.br x2 (.lv (KU i.C x0.1.c) λ(x3:Bool)=>.br x3 (.br (decide (i.cf>=x0.1.low)) (.lf (decide (i.cf<=x0.1.F4))) (.lf false)) (.lf false)) (.lf false)) (.lf false)) (.lf false)
def IC i:=(NP i).m
def Zmo:ba:=mS 241 [] true [.agg ia.sig] [] (λa r=>NP (ia.of (aC a 0))) (λX=>.bool X) (λX=>[])
theorem Zk0:bj pG Zmo:=oS (.cons Zd0 (.cons Z8m (.nil))) Tryz.func241 Tryz.call241 [] [] 2
def Qd(w:Int):Tree (ia×Bool):=
.an (Mo w 24 8) (.lv (tA w 24 8) λ(x0:Int)=>.an (Mo w 20 4) (.lv (tA w 20 4) λ(x1:Int)=>.an (Mo w 16 4) (.lv (tA w 16 4) λ(x2:Int)=>.lv (SZ (wrap i64 x0)) λ(x3:w4×Bool)=>let E1:=({Op:=0,A:=0,B:=0,C:=0,cf:=0}:ia);.br (!x3.2) (.lf (E1,false)) (.an (Mo w 0 16) (.lv (tA w 0 16) λ(x4:Int)=>.br x3.1.c (let E2:=({Op:=wrap i64 x0,A:=wrap i64 x1,B:=wrap i64 x2,C:=wrap i64 x4,cf:=0}:ia);.lv (IC E2) λ(x5:Bool)=>.br (!x5) (.lf (E1,false)) (.lf (E2,true))) (.br (decide (x3.1.low<0)) (.an (Qce x4 16) (.lv (DF x4 16) λ(x6:Int)=>let E3:=({Op:=wrap i64 x0,A:=wrap i64 x1,B:=wrap i64 x2,C:=0,cf:=wrap i32 x6}:ia);.lv (IC E3) λ(x7:Bool)=>.br (!x7) (.lf (E1,false)) (.lf (E3,true)))) (let E4:=({Op:=wrap i64 x0,A:=wrap i64 x1,B:=wrap i64 x2,C:=0,cf:=wrap i32 x4}:ia);.lv (IC E4) λ(x8:Bool)=>.br (!x8) (.lf (E1,false)) (.lf (E4,true)))))))))
def NR w:=(Qd w).m
abbrev Qut w:=(Qd w).p
def Zh3:ba:=mT 189 [] true [.one (.int .u32)] [] (λa r=>Qd (au a 0)) (λX=>.dw [.agg (ia.cells (X.1)),.bool (X.2)]) (λX=>[])
theorem Zf6:bj pG Zh3:=oT (.cons Qpb (.cons Zd0 (.cons Qlm (.cons Zk0 (.nil))))) Tryz.func189 Tryz.call189 [] [] 2
def La(a b:Int):Tree (Int×Int):=
.br (b==0) (.lf (4294967295,a)) (let T1:Tree ((Int×Int)):=.cn (decide (wrap i32 b≠0)) (.cn (decide (wrap i32 b≠0)) (.lf (wrap u32 (wrap i32 (eF (wrap i32 a) (wrap i32 b))),wrap u32 (cZ (wrap i32 a) (wrap i32 b)))));.br (a==2147483648) (.br (b==4294967295) (.lf (a,0)) T1) T1)
def K8 a b:=(La a b).m
abbrev Qjg a b:=(La a b).p
def Zdz:ba:=mT 277 [] true [.one (.int .u32),.one (.int .u32)] [] (λa r=>La (au a 0) (au a 1)) (λX=>.dw [.int .u32 (X.1),.int .u32 (X.2)]) (λX=>[])
theorem Z9b:bj pG Zdz:=oT (.nil) Tryz.func277 Tryz.call277 [] [] 2
def Z70(b:Bool):Tree Int:=
.br b (.lf 1) (.lf 0)
def UT b:=(Z70 b).m
def Zlr:ba:=mS 278 [] true [.one (.bool)] [] (λa r=>Z70 (kE a 0)) (λX=>.int .u32 X) (λX=>[])
theorem Zj:bj pG Zlr:=oS (.nil) Tryz.func278 Tryz.call278 [] [] 2
def QY(op a b:Int):Tree (Int×Bool):=
.br (op==2) (.lf (wrap u32 (a+wrap u32 (0-b)),true)) (.br (op==1) (.lf (wrap u32 (a+b),true)) (.br (op==16) (.lf (wrap u32 (a+b),true)) (.br (op==3) (.lf (bc u32 a b,true)) (.br (op==17) (.lf (bc u32 a b,true)) (.br (op==4) (.lf (iN u32 a b,true)) (.br (op==18) (.lf (iN u32 a b,true)) (.br (op==5) (.lf (rA u32 a b,true)) (.br (op==19) (.lf (rA u32 a b,true)) (.br (op==6) (.lf (eu u32 a (bc u32 b 31),true)) (.br (op==20) (.lf (eu u32 a (bc u32 b 31),true)) (.br (op==7) (.lf (bm u32 a (bc u32 b 31),true)) (.br (op==21) (.lf (bm u32 a (bc u32 b 31),true)) (let E1:=(wrap u32 (bm i32 (wrap i32 a) (bc u32 b 31)),true);.br (op==8) (.lf E1) (.br (op==22) (.lf E1) (.br (op==9) (.lf (wrap u32 (a*b),true)) (.br (op==10) (.an (Qjg a b) (.lv (K8 a b) λ(x0:Int×Int)=>.lf (x0.1,true))) (.br (op==11) (.an (Qjg a b) (.lv (K8 a b) λ(x1:Int×Int)=>.lf (x1.2,true))) (.br (op==12) (.lv (UT (decide (wrap i32 a<wrap i32 b))) λ(x2:Int)=>.lf (x2,true)) (.br (op==23) (.lv (UT (decide (wrap i32 a<wrap i32 b))) λ(x3:Int)=>.lf (x3,true)) (.br (op==13) (.lv (UT (decide (a<b))) λ(x4:Int)=>.lf (x4,true)) (.lf (0,false))))))))))))))))))))))
def nF op a b:=(QY op a b).m
abbrev Qvd op a b:=(QY op a b).p
def qC:ba:=mT 248 [] true [.one (.int .i64),.one (.int .u32),.one (.int .u32)] [] (λa r=>QY (au a 0) (au a 1) (au a 2)) (λX=>.dw [.int .u32 (X.1),.bool (X.2)]) (λX=>[])
theorem Zsv:bj pG qC:=oT (.cons Z9b (.cons Zj (.nil))) Tryz.func248 Tryz.call248 [] [] 2
end
noncomputable section
def US(status Dm to:Int):Tree Int:=
.br (bc u32 status Dm !=0) (.lf (iN u32 status to)) (.lf (oJ u32 status to))
def Aj status Dm to:=(US status Dm to).m
def Zsy:ba:=mS 235 [] true [.one (.int .u32),.one (.int .u32),.one (.int .u32)] [] (λa r=>US (au a 0) (au a 1) (au a 2)) (λX=>.int .u32 X) (λX=>[])
theorem Z81:bj pG Zsy:=oS (.nil) Tryz.func235 Tryz.call235 [] [] 2
def NY(c:bq)(oB bad:Int):Tree bq:=
.lv (Aj c.C2.a0 1 8) λ(x0:Int)=>.lv (Aj x0 2 16) λ(x1:Int)=>.lf ({X:=c.X,Pc:=c.C2.a1,C2:={a0:=oJ u32 (iN u32 x1 1) 2,a1:=c.C2.a1,a2:=c.Pc,a3:=wrap u32 oB,a4:=bad,a5:=c.C2.a5,a6:=c.C2.a6,a7:=c.C2.a7}})
def ra c oB bad:=(NY c oB bad).m
def Zte:ba:=mS 187 [] true [.agg bq.sig,.one (.int .i64),.one (.int .u32)] [] (λa r=>NY (bq.of (aC a 0)) (au a 1) (au a 2)) (λX=>.agg (bq.cells X)) (λX=>[])
theorem Qk:bj pG Zte:=oS (.cons Z81 (.nil)) Tryz.func187 Tryz.call187 [] [] 2
def Qxg(access:Int):Tree (Int×Bool):=
.br (access==1) (.lf (4,true)) (.br (access==2) (.lf (5,true)) (.br (access==3) (.lf (6,true)) (.lf (5,false))))
def Qv2 access:=(Qxg access).m
def Zg8:ba:=mS 270 [] true [.one (.int .i64)] [] (λa r=>Qxg (au a 0)) (λX=>.dw [.int .i64 (X.1),.bool (X.2)]) (λX=>[])
theorem Z99:bj pG Zg8:=oS (.nil) Tryz.func270 Tryz.call270 [] [] 2
def Z1g(c:bq):Tree Bool:=
.lf (bc u32 c.C2.a0 (1:Int) !=(0:Int))
def IG c:=(Z1g c).m
def Zjv:ba:=mS 191 [] true [.agg bq.sig] [] (λa r=>Z1g (bq.of (aC a 0))) (λX=>.bool X) (λX=>[])
theorem Qy2:bj pG Zjv:=oS (.nil) Tryz.func191 Tryz.call191 [] [] 2
def Qq1(access:Int):Tree (Int×Bool):=
.br (access==1) (.lf (4,true)) (.br (access==2) (.lf (5,true)) (.br (access==3) (.lf (6,true)) (.lf (5,false))))
def Qmq access:=(Qq1 access).m
def Z38:ba:=mS 289 [] true [.one (.int .i64)] [] (λa r=>Qq1 (au a 0)) (λX=>.dw [.int .i64 (X.1),.bool (X.2)]) (λX=>[])
theorem Qyz:bj pG Z38:=oS (.nil) Tryz.func289 Tryz.call289 [] [] 2
def Qjf(m:List Int)(frame:Int):Tree Bool:=
.lv (jQ m) λ(x0:Int)=>.lf (decide (wrap u64 frame<wrap u64 x0))
def NU m frame:=(Qjf m frame).m
def Z4a:ba:=mS 290 [] true [.one (.ints .u32),.one (.int .u32)] [] (λa r=>Qjf (dh .u32 a 0) (au a 1)) (λX=>.bool X) (λX=>[])
theorem Z2k:bj pG Z4a:=oS (.cons Q2 (.nil)) Tryz.func290 Tryz.call290 [] [] 2
def KZ(m:List Int)(addr size:Int):Tree (Int×Bool):=
.an (Qet m addr size) (.lv (W6 m addr size) λ(x0:Bool)=>.br (!x0) (.lf (0,false)) (.cn (bX 1 1&&bN 0 1&&decide (0<=wrap u32 (eF addr 4)/\wrap u32 (eF addr 4)<(m.length:Int))) (let E1:=dA (wrap u32 (eF addr 4));.br (size==1) (let E2:=wrap i64 (wrap i64 (cZ addr 4)*8);.an (Mo (m.getD E1 0) E2 8) (.lv (tA (m.getD E1 0) E2 8) λ(x1:Int)=>.lf (x1,true))) (.lf (m.getD E1 0,true)))))
def BZ m addr size:=(KZ m addr size).m
abbrev JA m addr size:=(KZ m addr size).p
def Zep:ba:=mT 237 [] true [.one (.ints .u32),.one (.int .u32),.one (.int .i64)] [] (λa r=>KZ (dh .u32 a 0) (au a 1) (au a 2)) (λX=>.dw [.int .u32 (X.1),.bool (X.2)]) (λX=>[])
theorem Rz:bj pG Zep:=oT (.cons Qpl (.cons Qpb (.nil))) Tryz.func237 Tryz.call237 [] [] 2
def Qq0(Bj access:Int):Tree Bool:=
.br (bc u32 Bj (1:Int)==(0:Int)) (.lf false) (.br (access==3) (.lf (bc u32 Bj (2:Int) !=(0:Int))) (.br (access==1) (.lf (bc u32 Bj (4:Int) !=(0:Int))) (.lf true)))
def S5 Bj access:=(Qq0 Bj access).m
def Z2l:ba:=mS 291 [] true [.one (.int .u32),.one (.int .i64)] [] (λa r=>Qq0 (au a 0) (au a 1)) (λX=>.bool X) (λX=>[])
theorem Z02:bj pG Z2l:=oS (.nil) Tryz.func291 Tryz.call291 [] [] 2
def QW(Bj:Int):Tree Int:=
.an (Mo Bj 8 8) (.lv (tA Bj 8 8) λ(x0:Int)=>.lf x0)
def Xb Bj:=(QW Bj).m
abbrev Qef Bj:=(QW Bj).p
def Z2t:ba:=mT 292 [] true [.one (.int .u32)] [] (λa r=>QW (au a 0)) (λX=>.int .u32 X) (λX=>[])
theorem Qyo:bj pG Z2t:=oT (.cons Qpb (.nil)) Tryz.func292 Tryz.call292 [] [] 2
def K4(m:List Int)(root va access:Int):Tree rB:=
.lv (Qmq access) λ(x0:Int×Bool)=>let E1:=({Addr:=0,G1:=0,G0:=x0.1}:rB);.br (!x0.2) (.lf (E1)) (.br (decide (va>=4096)) (.lf (E1)) (.lv (NU m root) λ(x1:Bool)=>.br (!x1) (.lf (E1)) (let E2:=wrap u32 (root*128)+wrap u32 (4*wrap u32 (eF va 128));.an (JA m (wrap u32 E2) 4) (.lv (BZ m (wrap u32 E2) 4) λ(x2:Int×Bool)=>.br (!x2.2) (.lf (E1)) (.lv (S5 x2.1 access) λ(x3:Bool)=>.br (!x3) (.lf (E1)) (.an (Qef x2.1) (.lv (Xb x2.1) λ(x4:Int)=>.lv (NU m x4) λ(x5:Bool)=>.br (!x5) (.lf (E1)) (.an (Qef x2.1) (.lv (Xb x2.1) λ(x6:Int)=>.lf ({Addr:=wrap u32 (wrap u32 (x6*128)+cZ va 128),G1:=wrap u32 E2,G0:=0}))))))))))
def S4 m root va access:=(K4 m root va access).m
abbrev Qkv m root va access:=(K4 m root va access).p
def Zf5:ba:=mT 271 [] true [.one (.ints .u32),.one (.int .u32),.one (.int .u32),.one (.int .i64)] [] (λa r=>K4 (dh .u32 a 0) (au a 1) (au a 2) (au a 3)) (λX=>.agg (rB.cells X)) (λX=>[])
theorem Z9z:bj pG Zf5:=oT (.cons Qyz (.cons Z2k (.cons Rz (.cons Z02 (.cons Qyo (.nil)))))) Tryz.func271 Tryz.call271 [] [] 2
def K6(m:List Int)(entry access:Int):Tree (List Int):=
.an (JA m entry 4) (.lv (BZ m entry 4) λ(x0:Int×Bool)=>.br (!x0.2) (.an (nP m) (.lv (kB m) λ(x1:List Int)=>.lf x1)) (.br (access==3) (.an (Qc0 m entry 4 (iN u32 (iN u32 x0.1 8) 16)) (.lv (K0 m entry 4 (iN u32 (iN u32 x0.1 8) 16)) λ(x2:List Int×Bool)=>.lf x2.1)) (.an (Qc0 m entry 4 (iN u32 x0.1 8)) (.lv (K0 m entry 4 (iN u32 x0.1 8)) λ(x3:List Int×Bool)=>.lf x3.1))))
def NW m entry access:=(K6 m entry access).m
abbrev Qhf m entry access:=(K6 m entry access).p
def Z8y:ba:=mT 272 [] true [.one (.ints .u32),.one (.int .u32),.one (.int .i64)] [] (λa r=>K6 (dh .u32 a 0) (au a 1) (au a 2)) (λX=>.all 0) (λX=>[⟨false,25,1,.ints .u32 X⟩])
theorem Z7a:bj pG Z8y:=oT (.cons Rz (.cons JO (.cons Qrv (.nil)))) Tryz.func272 Tryz.call272 [.row 25 1 (.ints .u32)] [] 2
def Lc(c:bq)(m:List Int)(va size access:Int):Tree (Int×(List Int)×Int):=
.lv (Qv2 access) λ(x0:Int×Bool)=>let T3:Tree ((Int×(List Int)×Int)):=.an (nP m) (.lv (kB m) λ(x1:List Int)=>.lf (0,x1,5));.br (!x0.2) T3 (let T1:Tree ((Int×(List Int)×Int)):=.cn (decide (wrap u32 size≠0)) (.br (cZ va (wrap u32 size) !=0) (.an (nP m) (.lv (kB m) λ(x3:List Int)=>.lf (0,x3,3))) (.lv (IG c) λ(x4:Bool)=>let T2:Tree ((Int×(List Int)×Int)):=.an (JA m va size) (.lv (BZ m va size) λ(x8:Int×Bool)=>.br (!x8.2) (.an (nP m) (.lv (kB m) λ(x9:List Int)=>.lf (0,x9,x0.1))) (.an (nP m) (.lv (kB m) λ(kR:List Int)=>.lf (va,kR,0))));.br (!x4) (.br (bc u32 c.C2.a0 (4:Int) !=(0:Int)) (.an (Qkv m c.C2.a6 va access) (.lv (S4 m c.C2.a6 va access) λ(x5:rB)=>.br (x5.G0 !=0) (.an (nP m) (.lv (kB m) λ(x6:List Int)=>.lf (0,x6,x5.G0))) (.an (Qhf m x5.G1 access) (.lv (NW m x5.G1 access) λ(x7:List Int)=>.lf (x5.Addr,x7,0))))) T2) T2));.br (size !=1) (.br (size !=4) T3 T1) T1)
def rH c m va size access:=(Lc c m va size access).m
abbrev Qdi c m va size access:=(Lc c m va size access).p
def Zeb:ba:=mT 236 [] true [.agg bq.sig,.one (.ints .u32),.one (.int .u32),.one (.int .i64),.one (.int .i64)] [] (λa r=>Lc (bq.of (aC a 0)) (dh .u32 a 1) (au a 2) (au a 3) (au a 4)) (λX=>.dw [.int .u32 (X.1),.all 0,.int .i64 (X.2.2)]) (λX=>[⟨false,25,1,.ints .u32 (X.2.1)⟩])
theorem Qmi:bj pG Zeb:=oT (.cons Z99 (.cons JO (.cons Qy2 (.cons Z9z (.cons Z7a (.cons Rz (.nil))))))) Tryz.func236 Tryz.call236 [.row 25 1 (.ints .u32)] [] 2
def QX(c:bq)(m:List Int):Tree (Int×(List Int)×Int):=
.an (Qdi c m c.Pc 4 1) (.lv (rH c m c.Pc 4 1) λ(x0:Int×List Int×Int)=>.br (x0.2.2 !=0) (.lf (0,x0.2.1,x0.2.2)) (.an (JA x0.2.1 x0.1 4) (.lv (BZ x0.2.1 x0.1 4) λ(x1:Int×Bool)=>.lf (x1.1,x0.2.1,0))))
def Td c m:=(QX c m).m
abbrev Qx5 c m:=(QX c m).p
def Zmf:ba:=mT 188 [] true [.agg bq.sig,.one (.ints .u32)] [] (λa r=>QX (bq.of (aC a 0)) (dh .u32 a 1)) (λX=>.dw [.int .u32 (X.1),.all 0,.int .i64 (X.2.2)]) (λX=>[⟨false,25,1,.ints .u32 (X.2.1)⟩])
theorem Zi2:bj pG Zmf:=oT (.cons Qmi (.cons Rz (.nil))) Tryz.func188 Tryz.call188 [.row 25 1 (.ints .u32)] [] 2
def Qq3(op:Int):Tree Bool:=
.br (op==57) (.lf true) (.br (op==58) (.lf true) (.br (op==59) (.lf true) (.br (op==60) (.lf true) (.br (op==61) (.lf true) (.br (op==62) (.lf true) (.br (op==63) (.lf true) (.br (op==64) (.lf true) (.lf false))))))))
def NO op:=(Qq3 op).m
def Z35:ba:=mS 190 [] true [.one (.int .i64)] [] (λa r=>Qq3 (au a 0)) (λX=>.bool X) (λX=>[])
theorem Z0r:bj pG Z35:=oS (.nil) Tryz.func190 Tryz.call190 [] [] 2
def Qv4(op:Int):Tree Int:=
.br (op==32) (.lf 4) (.br (op==35) (.lf 4) (.lf 1))
def JB op:=(Qv4 op).m
def Zm3:ba:=mS 242 [] true [.one (.int .i64)] [] (λa r=>Qv4 (au a 0)) (λX=>.int .i64 X) (λX=>[])
theorem Z1o:bj pG Zm3:=oS (.nil) Tryz.func242 Tryz.call242 [] [] 2
def Ew(c:bq)(register v:Int):Tree bq:=
.br (register !=0) (.cn (bN 0 1&&decide (0<=register/\register<(↑16:Int))) (.lf ({X:=iu.of 0 (dB (iu.l c.X) register.toNat v),Pc:=c.Pc,C2:=c.C2}))) (.lf c)
def um c register v:=(Ew c register v).m
abbrev Hy c register v:=(Ew c register v).p
def xC:ba:=mT 243 [] true [.agg bq.sig,.one (.int .i64),.one (.int .u32)] [] (λa r=>Ew (bq.of (aC a 0)) (au a 1) (au a 2)) (λX=>.agg (bq.cells X)) (λX=>[])
theorem Zby:bj pG xC:=oT (.nil) Tryz.func243 Tryz.call243 [] [] 2
def Iv(c:bq)(m:List Int)(i:ia):Tree (bq×(List Int)):=
.cn (bN 0 1&&decide (0<=i.B/\i.B<(↑16:Int))) (.lv (JB i.Op) λ(x0:Int)=>let E1:=wrap u32 (aV (iu.l c.X) i.B.toNat 0+wrap u32 i.cf);.an (Qdi c m E1 x0 2) (.lv (rH c m E1 x0 2) λ(x1:Int×List Int×Int)=>.br (x1.2.2 !=0) (.lv (ra c x1.2.2 E1) λ(x2:bq)=>.lf (x2,x1.2.1)) (.lv (JB i.Op) λ(x3:Int)=>.an (JA x1.2.1 x1.1 x3) (.lv (BZ x1.2.1 x1.1 x3) λ(x4:Int×Bool)=>.br (i.Op==33) (.an (Qce x4.1 8) (.lv (DF x4.1 8) λ(x5:Int)=>.an (Hy c i.A x5) (.lv (um c i.A x5) λ(x6:bq)=>.lf ({X:=x6.X,Pc:=wrap u32 (x6.Pc+4),C2:=x6.C2},x1.2.1)))) (.an (Hy c i.A x4.1) (.lv (um c i.A x4.1) λ(x7:bq)=>.lf ({X:=x7.X,Pc:=wrap u32 (x7.Pc+4),C2:=x7.C2},x1.2.1)))))))
def tB c m i:=(Iv c m i).m
abbrev Z1c c m i:=(Iv c m i).p
def Zsz:ba:=mT 192 [] true [.agg bq.sig,.one (.ints .u32),.agg ia.sig] [] (λa r=>Iv (bq.of (aC a 0)) (dh .u32 a 1) (ia.of (aC a 2))) (λX=>.dw [.agg (bq.cells (X.1)),.all 0]) (λX=>[⟨false,25,1,.ints .u32 (X.2)⟩])
theorem Zmi:bj pG Zsz:=oT (.cons Qmi (.cons Z1o (.cons Qk (.cons Rz (.cons Qlm (.cons Zby (.nil))))))) Tryz.func192 Tryz.call192 [.row 25 1 (.ints .u32)] [] 2
def Ix(c:bq)(m:List Int)(i:ia):Tree (bq×(List Int)):=
.cn (bN 0 1&&decide (0<=i.B/\i.B<(↑16:Int))) (.lv (JB i.Op) λ(x0:Int)=>let E1:=wrap u32 (aV (iu.l c.X) i.B.toNat 0+wrap u32 i.cf);.an (Qdi c m E1 x0 3) (.lv (rH c m E1 x0 3) λ(x1:Int×List Int×Int)=>.br (x1.2.2 !=0) (.lv (ra c x1.2.2 E1) λ(x2:bq)=>.lf (x2,x1.2.1)) (.lv (JB i.Op) λ(x3:Int)=>.cn (bN 0 1&&decide (0<=i.A/\i.A<(↑16:Int))) (let E2:=aV (iu.l c.X) i.A.toNat 0;.an (Qc0 x1.2.1 x1.1 x3 E2) (.lv (K0 x1.2.1 x1.1 x3 E2) λ(x4:List Int×Bool)=>.lf ({X:=c.X,Pc:=wrap u32 (c.Pc+4),C2:=c.C2},x4.1))))))
def Cc c m i:=(Ix c m i).m
abbrev Qxw c m i:=(Ix c m i).p
def Zog:ba:=mT 193 [] true [.agg bq.sig,.one (.ints .u32),.agg ia.sig] [] (λa r=>Ix (bq.of (aC a 0)) (dh .u32 a 1) (ia.of (aC a 2))) (λX=>.dw [.agg (bq.cells (X.1)),.all 0]) (λX=>[⟨false,25,1,.ints .u32 (X.2)⟩])
theorem Zl4:bj pG Zog:=oT (.cons Qmi (.cons Z1o (.cons Qk (.cons Qrv (.nil))))) Tryz.func193 Tryz.call193 [.row 25 1 (.ints .u32)] [] 2
def Z8p(op a b:Int):Tree Bool:=
.br (op==40) (.lf (a==b)) (.br (op==41) (.lf (a !=b)) (.br (op==42) (.lf (decide (wrap i32 a<wrap i32 b))) (.br (op==43) (.lf (decide (wrap i32 a>=wrap i32 b))) (.br (op==44) (.lf (decide (a<b))) (.lf (decide (a>=b)))))))
def Zhk op a b:=(Z8p op a b).m
def Zmc:ba:=mS 245 [] true [.one (.int .i64),.one (.int .u32),.one (.int .u32)] [] (λa r=>Z8p (au a 0) (au a 1) (au a 2)) (λX=>.bool X) (λX=>[])
theorem Zl0:bj pG Zmc:=oS (.nil) Tryz.func245 Tryz.call245 [] [] 2
def N0(c:bq):Tree bq:=
.lv (Aj c.C2.a0 8 1) λ(x0:Int)=>.lv (Aj x0 16 2) λ(x1:Int)=>.lf ({X:=c.X,Pc:=c.C2.a2,C2:={a0:=x1,a1:=c.C2.a1,a2:=c.C2.a2,a3:=c.C2.a3,a4:=c.C2.a4,a5:=c.C2.a5,a6:=c.C2.a6,a7:=c.C2.a7}})
def KO c:=(N0 c).m
def Zi6:ba:=mS 246 [] true [.agg bq.sig] [] (λa r=>N0 (bq.of (aC a 0))) (λX=>.agg (bq.cells X)) (λX=>[])
theorem Zgp:bj pG Zi6:=oS (.cons Z81 (.nil)) Tryz.func246 Tryz.call246 [] [] 2
def Iu(c:bq)(jr v:Int):Tree bq:=
let E4:=bN 0 1&&decide (0<=jr/\jr<(↑8:Int));let T2:Tree (bq):=.cn E4 (.lf ({X:=c.X,Pc:=c.Pc,C2:=A8.of 0 (dB (A8.l c.C2) jr.toNat (bc u32 v 31))}));.br (jr==0) T2 (.br (jr==7) T2 (.br (jr==6) (.cn E4 (.lf ({X:=c.X,Pc:=c.Pc,C2:=A8.of 0 (dB (A8.l c.C2) jr.toNat (bc u32 v 255))}))) (let T3:Tree (bq):=.cn E4 (.lf ({X:=c.X,Pc:=c.Pc,C2:=A8.of 0 (dB (A8.l c.C2) jr.toNat (oJ u32 v 3))}));.br (jr==1) T3 (.br (jr==2) T3 (let T1:Tree (bq):=.cn E4 (.lf ({X:=c.X,Pc:=c.Pc,C2:=A8.of 0 (dB (A8.l c.C2) jr.toNat v)}));.br (jr==3) T1 (.br (jr==4) T1 (.br (jr==5) T1 (.lf c))))))))
def Zht c jr v:=(Iu c jr v).m
abbrev Qxv c jr v:=(Iu c jr v).p
def Zoc:ba:=mT 247 [] true [.agg bq.sig,.one (.int .i64),.one (.int .u32)] [] (λa r=>Iu (bq.of (aC a 0)) (au a 1) (au a 2)) (λX=>.agg (bq.cells X)) (λX=>[])
theorem Zjc:bj pG Zoc:=oT (.nil) Tryz.func247 Tryz.call247 [] [] 2
def Ey(c:bq)(i:ia):Tree (bq×lz):=
.cn (bN 0 1&&decide (0<=i.A/\i.A<(↑16:Int))) (.cn (bN 0 1&&decide (0<=i.B/\i.B<(↑16:Int))) (.br (i.Op==24) (.an (Hy c i.A (eu u32 (wrap u32 i.cf) 16)) (.lv (um c i.A (eu u32 (wrap u32 i.cf) 16)) λ(x0:bq)=>.lf ({X:=x0.X,Pc:=wrap u32 (c.Pc+4),C2:=x0.C2},{C4:=0,E0:=0,F9:=0,Value:=0}))) (let E2:=({X:=c.X,Pc:=wrap u32 (c.Pc+4),C2:=c.C2}:bq);let E3:=aV (iu.l c.X) i.B.toNat 0;let E4:=aV (iu.l c.X) i.A.toNat 0;let T1:Tree ((bq×lz)):=.lv (Zhk i.Op E4 E3) λ(x1:Bool)=>.br x1 (.lf ({X:=c.X,Pc:=wrap u32 (c.Pc+wrap u32 (4*wrap u32 i.cf)),C2:=c.C2},{C4:=0,E0:=0,F9:=0,Value:=0})) (.lf (E2,{C4:=0,E0:=0,F9:=0,Value:=0}));.br (i.Op==40) T1 (.br (i.Op==41) T1 (.br (i.Op==42) T1 (.br (i.Op==43) T1 (.br (i.Op==44) T1 (.br (i.Op==45) T1 (.br (i.Op==48) (.an (Hy c i.A (wrap u32 (c.Pc+4))) (.lv (um c i.A (wrap u32 (c.Pc+4))) λ(x7:bq)=>.lf ({X:=x7.X,Pc:=wrap u32 (x7.Pc+wrap u32 (4*wrap u32 i.cf)),C2:=x7.C2},{C4:=0,E0:=0,F9:=0,Value:=0}))) (.br (i.Op==49) (.an (Hy c i.A (wrap u32 (c.Pc+4))) (.lv (um c i.A (wrap u32 (c.Pc+4))) λ(x8:bq)=>.lf ({X:=x8.X,Pc:=wrap u32 (aV (iu.l c.X) i.B.toNat 0+wrap u32 i.cf),C2:=x8.C2},{C4:=0,E0:=0,F9:=0,Value:=0}))) (.br (i.Op==56) (.lv (ra c 7 0) λ(x9:bq)=>.lf (x9,{C4:=0,E0:=0,F9:=0,Value:=0})) (.br (i.Op==57) (.lv (KO c) λ(kR:bq)=>.lf (kR,{C4:=0,E0:=0,F9:=0,Value:=0})) (.br (i.Op==58) (.cn (bN 0 1&&decide (0<=i.cf/\i.cf<(↑8:Int))) (let E5:=aV (A8.l c.C2) i.cf.toNat 0;.an (Hy c i.A E5) (.lv (um c i.A E5) λ(lW:bq)=>.lf ({X:=lW.X,Pc:=wrap u32 (c.Pc+4),C2:=lW.C2},{C4:=0,E0:=0,F9:=0,Value:=0})))) (.br (i.Op==59) (.an (Qxv c (wrap i64 i.cf) E4) (.lv (Zht c (wrap i64 i.cf) E4) λ(oj:bq)=>.lf ({X:=oj.X,Pc:=wrap u32 (c.Pc+4),C2:=oj.C2},{C4:=0,E0:=0,F9:=0,Value:=0}))) (.br (i.Op==60) (.lf (E2,{C4:=1,E0:=wrap i64 i.cf,F9:=i.A,Value:=0})) (.br (i.Op==61) (.lf (E2,{C4:=2,E0:=wrap i64 i.cf,F9:=0,Value:=aV (iu.l c.X) i.A.toNat 0})) (.br (i.Op==62) (.lf (E2,{C4:=3,E0:=0,F9:=0,Value:=0})) (.br (i.Op==63) (.lf (E2,{C4:=5,E0:=0,F9:=0,Value:=0})) (.br (i.Op==64) (.lf (E2,{C4:=4,E0:=0,F9:=0,Value:=0})) (.cn (bN 0 1&&decide (0<=i.C/\i.C<(↑16:Int))) (.br (decide (i.Op>=16)) (.an (Qvd i.Op E3 (wrap u32 i.cf)) (.lv (nF i.Op E3 (wrap u32 i.cf)) λ(uO:Int×Bool)=>.an (Hy c i.A uO.1) (.lv (um c i.A uO.1) λ(FD:bq)=>.lf ({X:=FD.X,Pc:=wrap u32 (c.Pc+4),C2:=FD.C2},{C4:=0,E0:=0,F9:=0,Value:=0})))) (let E6:=aV (iu.l c.X) i.C.toNat 0;.an (Qvd i.Op E3 E6) (.lv (nF i.Op E3 E6) λ(x15:Int×Bool)=>.an (Hy c i.A x15.1) (.lv (um c i.A x15.1) λ(FE:bq)=>.lf ({X:=FE.X,Pc:=wrap u32 (c.Pc+4),C2:=FE.C2},{C4:=0,E0:=0,F9:=0,Value:=0})))))))))))))))))))))))))
def Xf c i:=(Ey c i).m
abbrev Qra c i:=(Ey c i).p
def Zg2:ba:=mT 194 [] true [.agg bq.sig,.agg ia.sig] [] (λa r=>Ey (bq.of (aC a 0)) (ia.of (aC a 1))) (λX=>.dw [.agg (bq.cells (X.1)),.agg (lz.cells (X.2))]) (λX=>[])
theorem Z8t:bj pG Zg2:=oT (.cons Zby (.cons Zl0 (.cons Qk (.cons Zgp (.cons Zjc (.cons Zsv (.nil))))))) Tryz.func194 Tryz.call194 [] [] 2
def Ez(c:bq)(m:List Int):Tree (bq×(List Int)×lz):=
.an (Qx5 c m) (.lv (Td c m) λ(x0:Int×List Int×Int)=>.br (x0.2.2 !=0) (.lv (ra c x0.2.2 c.Pc) λ(x1:bq)=>.lf (x1,x0.2.1,{C4:=0,E0:=0,F9:=0,Value:=0})) (.an (Qut x0.1) (.lv (NR x0.1) λ(x2:ia×Bool)=>.br (!x2.2) (.lv (ra c 1 x0.1) λ(x3:bq)=>.lf (x3,x0.2.1,{C4:=0,E0:=0,F9:=0,Value:=0})) (.lv (NO x2.1.Op) λ(x4:Bool)=>let T1:Tree ((bq×(List Int)×lz)):=let T2:Tree ((bq×(List Int)×lz)):=.an (Z1c c x0.2.1 x2.1) (.lv (tB c x0.2.1 x2.1) λ(x7:bq×List Int)=>.lf (x7.1,x7.2,{C4:=0,E0:=0,F9:=0,Value:=0}));.br (x2.1.Op==32) T2 (.br (x2.1.Op==33) T2 (.br (x2.1.Op==34) T2 (let T3:Tree ((bq×(List Int)×lz)):=.an (Qxw c x0.2.1 x2.1) (.lv (Cc c x0.2.1 x2.1) λ(kR:bq×List Int)=>.lf (kR.1,kR.2,{C4:=0,E0:=0,F9:=0,Value:=0}));.br (x2.1.Op==35) T3 (.br (x2.1.Op==36) T3 (.an (Qra c x2.1) (.lv (Xf c x2.1) λ(oj:bq×lz)=>.lf (oj.1,x0.2.1,oj.2)))))));.br x4 (.lv (IG c) λ(x5:Bool)=>.br (!x5) (.lv (ra c 2 x0.1) λ(x6:bq)=>.lf (x6,x0.2.1,{C4:=0,E0:=0,F9:=0,Value:=0})) T1) T1))))
def Cd c m:=(Ez c m).m
abbrev Z1a c m:=(Ez c m).p
def Zr6:ba:=mT 137 [] true [.agg bq.sig,.one (.ints .u32)] [] (λa r=>Ez (bq.of (aC a 0)) (dh .u32 a 1)) (λX=>.dw [.agg (bq.cells (X.1)),.all 0,.agg (lz.cells (X.2.2))]) (λX=>[⟨false,25,1,.ints .u32 (X.2.1)⟩])
theorem Zll:bj pG Zr6:=oT (.cons Zi2 (.cons Qk (.cons Zf6 (.cons Z0r (.cons Qy2 (.cons Zmi (.cons Zl4 (.cons Z8t (.nil))))))))) Tryz.func137 Tryz.call137 [.row 25 1 (.ints .u32)] [] 2
end
noncomputable section
def JP:List UInt8:=[(0:UInt8),1,2,2,3,3,3,3,4,4,4,4,4,4,4,4,5,5,5,5,5,5,5,5,5,5,5,5,5,5,5,5,6,6,6,6,6,6,6,6,6,6,6,6,6,6,6,6,6,6,6,6,6,6,6,6,6,6,6,6,6,6,6,6]
def RA:List UInt8:=[(7:UInt8),7,7,7,7,7,7,7,7,7,7,7,7,7,7,7,7,7,7,7,7,7,7,7,7,7,7,7,7,7,7,7,7,7,7,7,7,7,7,7,7,7,7,7,7,7,7,7,7,7,7,7,7,7,7,7,7,7,7,7,7,7,7,7]
def DW:List UInt8:=[(8:UInt8),8,8,8,8,8,8,8,8,8,8,8,8,8,8,8,8,8,8,8,8,8,8,8,8,8,8,8,8,8,8,8,8,8,8,8,8,8,8,8,8,8,8,8,8,8,8,8,8,8,8,8,8,8,8,8,8,8,8,8,8,8,8,8]
def Vb:List UInt8:=[(1:UInt8),2,2,3,3,3,3,4,4,4,4,4,4,4,4,5,5,5,5,5,5,5,5,5,5,5,5,5,5,5,5,6,6,6,6,6,6,6,6,6,6,6,6,6,6,6,6,6,6,6,6,6,6,6,6,6,6,6,6,6,6,6,6]
def JQ:List UInt8:=[(0:UInt8),1,1,2,1,2,2,3,1,2,2,3,2,3,3,4,1,2,2,3,2,3,3,4,2,3,3,4,3,4,4,5,1,2,2,3,2,3,3,4,2,3,3,4,3,4,4,5,2,3,3,4,3,4,4,5,3,4,4,5,4,5,5,6]
def DX:List UInt8:=[(1:UInt8),2,2,3,2,3,3,4,2,3,3,4,3,4,4,5,2,3,3,4,3,4,4,5,3,4,4,5,4,5,5,6,2,3,3,4,3,4,4,5,3,4,4,5,4,5,5,6,3,4,4,5,4,5,5,6,4,5,5,6,5,6,6,7]
def RB:List UInt8:=[(2:UInt8),3,3,4,3,4,4,5,3,4,4,5,4,5,5,6,3,4,4,5,4,5,5,6,4,5,5,6,5,6,6,7,3,4,4,5,4,5,5,6,4,5,5,6,5,6,6,7,4,5,5,6,5,6,6,7,5,6,6,7,6,7,7,8]
def Vc:List UInt8:=[(1:UInt8),1,2,1,2,2,3,1,2,2,3,2,3,3,4,1,2,2,3,2,3,3,4,2,3,3,4,3,4,4,5,1,2,2,3,2,3,3,4,2,3,3,4,3,4,4,5,2,3,3,4,3,4,4,5,3,4,4,5,4,5,5,6]
def Qxl(c:iH):Tree Bool:=
.lf (decide ((c.D9.length:Int)<=(16:Int)))
def AO c:=(Qxl c).m
def Zdq:ba:=mS 151 [] true [.agg iH.sig] [] (λa r=>Qxl (iH.of (aC a 0))) (λX=>.bool X) (λX=>[])
theorem Z9j:bj pG Zdq:=oS (.nil) Tryz.func151 Tryz.call151 [] [] 2
def Qo(t:iW):Tree Bool:=
.br t.F0 (.br (!t.D8) (.lf (t.D2 !=0)) (.lf false)) (.br t.D8 (.lf true) (.lf (t.D2==0)))
def AP t:=(Qo t).m
def Znc:ba:=mS 152 [] true [.agg iW.sig] [] (λa r=>Qo (iW.of (aC a 0))) (λX=>.bool X) (λX=>[])
theorem Zje:bj pG Znc:=oS (.nil) Tryz.func152 Tryz.call152 [] [] 2
def Q8(d0:fw):Tree Bool:=
.br (d0.F5==1) (.lf (decide (d0.C7=[]))) (.br (d0.F5==2) (.lf ((d0.C7.length:Int)==(128:Int))) (.lf false))
def SP d0:=(Q8 d0).m
def Qz4:ba:=mS 208 [] true [.agg fw.sig] [] (λa r=>Q8 (fw.of (aC a 0))) (λX=>.bool X) (λX=>[])
theorem Qxi:bj pG Qz4:=oS (.nil) Tryz.func208 Tryz.call208 [] [] 2
def Eu(d0:fw)(bh:Int):Tree Bool:=
.br (decide (d0.ab>64)) (.lf false) (let T1:Tree (Bool):=.br (d0.F5==0) (.br (d0.C5==0) (.br (d0.C6==0) (.lf (decide (d0.C7=[]))) (.lf false)) (.lf false)) (.lf false);.br (d0.C8==0) T1 (.br (d0.C8==2) T1 (.br (d0.C8==3) T1 (.br (d0.C8==1) (.lv (SP d0) λ(x0:Bool)=>.br x0 (.br (decide (d0.C5<d0.ab)) (.lf (decide (wrap i64 d0.C6<bh))) (.lf false)) (.lf false)) (.lf false)))))
def pZ d0 bh:=(Eu d0 bh).m
def Zrj:ba:=mS 153 [] true [.agg fw.sig,.one (.int .i64)] [] (λa r=>Eu (fw.of (aC a 0)) (au a 1)) (λX=>.bool X) (λX=>[])
theorem Zo8:bj pG Zrj:=oS (.cons Qxi (.nil)) Tryz.func153 Tryz.call153 [] [] 2
def NC(n:gw)(bh:Int):Tree Bool:=
let T1:Tree (Bool):=let T2:Tree (Bool):=.br n.C3 (.br (decide (n.F8>=1)) (.lf (decide (n.F8<=128))) (.lf false)) (.lf (n.F8==0));.br n.D3 (.br (decide (wrap i64 n.D4>=bh)) (.lf false) T2) (.br (n.D4 !=0) (.lf false) T2);.br n.D3 (.br n.C3 (.lf false) T1) T1
def wj n bh:=(NC n bh).m
def zC:ba:=mS 154 [] true [.agg gw.sig,.one (.int .i64)] [] (λa r=>NC (gw.of (aC a 0)) (au a 1)) (λX=>.bool X) (λX=>[])
theorem Zqw:bj pG zC:=oS (.nil) Tryz.func154 Tryz.call154 [] [] 2
def DC(x:Int):Tree Int:=
let E1:=(↑(dF (cP (cP JP RA) (cP DW DW))):Int);.br (decide (x>=65536)) (.br (decide (bm u32 x (16:Int)>=(256:Int))) (.cn (decide (0<=wrap u8 (bm u32 (bm u32 x 16) 8)/\wrap u8 (bm u32 (bm u32 x 16) 8)<E1)) (.lf (wrap i64 (wrap i64 ((16:Int)+(8:Int))+wrap i64 (↑(hY (aV ((0:UInt8)::(Vb++RA++(DW++DW))) (dA (wrap u8 (bm u32 (bm u32 x 16) 8))) (0:UInt8))):Int))))) (.cn (decide (0<=wrap u8 (bm u32 x 16)/\wrap u8 (bm u32 x 16)<E1)) (.lf (wrap i64 (16+wrap i64 (↑(hY (aV ((0:UInt8)::(Vb++RA++(DW++DW))) (dA (wrap u8 (bm u32 x 16))) (0:UInt8))):Int)))))) (.br (decide (x>=256)) (.cn (decide (0<=wrap u8 (bm u32 x 8)/\wrap u8 (bm u32 x 8)<E1)) (.lf (wrap i64 (wrap i64 ((0:Int)+(8:Int))+wrap i64 (↑(hY (aV ((0:UInt8)::(Vb++RA++(DW++DW))) (dA (wrap u8 (bm u32 x 8))) (0:UInt8))):Int))))) (.cn (decide (0<=wrap u8 x/\wrap u8 x<E1)) (.lf (wrap i64 (0+wrap i64 (↑(hY (aV ((0:UInt8)::(Vb++RA++(DW++DW))) (dA (wrap u8 x)) (0:UInt8))):Int))))))
def wm x:=(DC x).m
abbrev Qji x:=(DC x).p
def Qzh:ba:=mT 209 [] true [.one (.int .u32)] [] (λa r=>DC (au a 0)) (λX=>.int .i64 X) (λX=>[])
theorem Qwo:bj pG Qzh:=oT (.nil) Tryz.func209 Tryz.call209 [] [] 2
def Ip(b:gm)(bh:Int):Tree Bool:=
.an (Qji b.D0) (.lv (wm b.D0) λ(x0:Int)=>.lf (decide (x0<=if 0>bh then 0 else bh)))
def AQ b bh:=(Ip b bh).m
abbrev Qk5 b bh:=(Ip b bh).p
def Zda:ba:=mT 155 [] true [.agg gm.sig,.one (.int .i64)] [] (λa r=>Ip (gm.of (aC a 0)) (au a 1)) (λX=>.bool X) (λX=>[])
theorem Zap:bj pG Zda:=oT (.cons Qwo (.nil)) Tryz.func155 Tryz.call155 [] [] 2
def Gq(m:bb):Tree Bool:=
.lv (jQ m.Mem) λ(x0:Int)=>.lv (AO m.B3) λ(x1:Bool)=>.br x1 (.lv (AP m.B8) λ(x2:Bool)=>.br x2 (.lv (pZ m.B5 x0) λ(x3:Bool)=>.br x3 (.lv (wj m.D1 x0) λ(x4:Bool)=>.br x4 (.an (Qk5 m.A6 x0) (.lv (AQ m.A6 x0) λ(x5:Bool)=>.lf x5)) (.lf false)) (.lf false)) (.lf false)) (.lf false)
def wh m:=(Gq m).m
abbrev U6 m:=(Gq m).p
def Qtu:ba:=mT 115 [] true [.agg bb.sig] [] (λa r=>Gq (bb.of (aC a 0))) (λX=>.bool X) (λX=>[])
theorem Qr5:bj pG Qtu:=oT (.cons Q2 (.cons Z9j (.cons Zje (.cons Zo8 (.cons Zqw (.cons Zap (.nil))))))) Tryz.func115 Tryz.call115 [] [] 2
def JC(m:bb):Tree Bool:=
.lv (jQ m.Mem) λ(x0:Int)=>.br (x0==0) (.lf false) (.br (m.B2.X.a0 !=0) (.lf false) (.br (decide (m.B2.C2.a0>31)) (.lf false) (.br (decide (m.B2.C2.a7>31)) (.lf false) (.br (decide (m.B2.C2.a6>255)) (.lf false) (.br (cZ m.B2.C2.a1 (4:Int) !=(0:Int)) (.lf false) (.br (decide (m.B7>1152921504606846976)) (.lf false) (.br m.B4 (.br m.B6 (.lf false) (.an (U6 m) (.lv (wh m) λ(x1:Bool)=>.lf x1))) (.an (U6 m) (.lv (wh m) λ(x2:Bool)=>.lf x2)))))))))
def AR m:=(JC m).m
abbrev U4 m:=(JC m).p
def Zff:ba:=mT 68 [] true [.agg bb.sig] [] (λa r=>JC (bb.of (aC a 0))) (λX=>.bool X) (λX=>[])
theorem Quq:bj pG Zff:=oT (.cons Q2 (.cons Qr5 (.nil))) Tryz.func68 Tryz.call68 [] [] 2
def Qsa(t:iW):Tree Bool:=
.lf t.D8
def XE t:=(Qsa t).m
def Z6z:ba:=mS 266 [] true [.agg iW.sig] [] (λa r=>Qsa (iW.of (aC a 0))) (λX=>.bool X) (λX=>[])
theorem Z2m:bj pG Z6z:=oS (.nil) Tryz.func266 Tryz.call266 [] [] 2
def Qn0(c:iH):Tree Bool:=
.lf (!decide (c.D9=[]))
def Ti c:=(Qn0 c).m
def Z0h:ba:=mS 267 [] true [.agg iH.sig] [] (λa r=>Qn0 (iH.of (aC a 0))) (λX=>.bool X) (λX=>[])
theorem Qyb:bj pG Z0h:=oS (.nil) Tryz.func267 Tryz.call267 [] [] 2
def WI(d0:fw):Tree Bool:=
.br (d0.C8==2) (.lf true) (.lf (d0.C8==3))
def KG d0:=(WI d0).m
def Z8z:ba:=mS 251 [] true [.agg fw.sig] [] (λa r=>WI (fw.of (aC a 0))) (λX=>.bool X) (λX=>[])
theorem Qqu:bj pG Z8z:=oS (.nil) Tryz.func251 Tryz.call251 [] [] 2
def Qyk(n:gw):Tree Bool:=
.lf n.C3
def XF n:=(Qyk n).m
def Zfe:ba:=mS 268 [] true [.agg gw.sig] [] (λa r=>Qyk (gw.of (aC a 0))) (λX=>.bool X) (λX=>[])
theorem Za8:bj pG Zfe:=oS (.nil) Tryz.func268 Tryz.call268 [] [] 2
def QZ(x:Int):Tree Int:=
let E1:=(↑(dF (cP (cP JQ DX) (cP DX RB))):Int);.cn (decide (0<=bm u32 x 24/\bm u32 x 24<E1)) (.cn (decide (0<=bc u32 (bm u32 x 16) 255/\bc u32 (bm u32 x 16) 255<E1)) (.cn (decide (0<=bc u32 (bm u32 x 8) 255/\bc u32 (bm u32 x 8) 255<E1)) (.cn (decide (0<=bc u32 x 255/\bc u32 x 255<E1)) (.lf (wrap i64 (wrap u8 (wrap u8 (wrap u8 ((↑(hY (aV ((0:UInt8)::(Vc++DX++(DX++RB))) (dA (bm u32 x 24)) (0:UInt8))):Int)+(↑(hY (aV ((0:UInt8)::(Vc++DX++(DX++RB))) (dA (bc u32 (bm u32 x 16) 255)) (0:UInt8))):Int))+(↑(hY (aV ((0:UInt8)::(Vc++DX++(DX++RB))) (dA (bc u32 (bm u32 x 8) 255)) (0:UInt8))):Int))+(↑(hY (aV ((0:UInt8)::(Vc++DX++(DX++RB))) (dA (bc u32 x 255)) (0:UInt8))):Int))))))))
def Xx x:=(QZ x).m
abbrev Qbv x:=(QZ x).p
def Qp0:ba:=mT 279 [] true [.one (.int .u32)] [] (λa r=>QZ (au a 0)) (λX=>.int .i64 X) (λX=>[])
theorem Qnk:bj pG Qp0:=oT (.nil) Tryz.func279 Tryz.call279 [] [] 2
def Ra(b:gm):Tree Int:=
.an (Qbv b.D0) (.lv (Xx b.D0) λ(x0:Int)=>.lf x0)
def Tj b:=(Ra b).m
abbrev Qfl b:=(Ra b).p
def Z7h:ba:=mT 249 [] true [.agg gm.sig] [] (λa r=>Ra (gm.of (aC a 0))) (λX=>.int .i64 X) (λX=>[])
theorem Qpo:bj pG Z7h:=oT (.cons Qnk (.nil)) Tryz.func249 Tryz.call249 [] [] 2
def Ll(b:gm):Tree Bool:=
.an (Qfl b) (.lv (Tj b) λ(x0:Int)=>.lf (wrap u32 x0 !=b.A2))
def Od b:=(Ll b).m
abbrev Qk3 b:=(Ll b).p
def Qzy:ba:=mT 269 [] true [.agg gm.sig] [] (λa r=>Ll (gm.of (aC a 0))) (λX=>.bool X) (λX=>[])
theorem Qwn:bj pG Qzy:=oT (.cons Qpo (.nil)) Tryz.func269 Tryz.call269 [] [] 2
def Qj7(m:bb)(z:(Int)×(Int)):Nat:=(5-z.2).toNat
def Lr(m:bb):Tree Int:=
.lv (XE m.B8) λ(x0:Bool)=>.lv (Ti m.B3) λ(x1:Bool)=>.lv (KG m.B5) λ(x2:Bool)=>.lv (XF m.D1) λ(x3:Bool)=>.an (Qk3 m.A6) (.lv (Od m.A6) λ(x4:Bool)=>.lp inferInstance (Qj7 m (0,0)+1) ((rE (0:Int)/\(rE (x0:Bool)/\rE (x1:Bool)/\rE (x2:Bool)/\rE (x3:Bool)/\rE (x4:Bool)/\True)/\rE (0:Int)/\True)/\True) (0,0) λ(v0:Int×Int)=>.br (decide (v0.2<5)) (.cn (bX 1 1&&(bX 5 5&&decide (0<=v0.2/\v0.2<(↑5:Int)))) (.br (aV [x0,x1,x2,x3,x4] v0.2.toNat false) (.cn (decide (0<=v0.2)) (.nx ((rE ((iN u32 v0.1 (eu u32 1 v0.2)):Int)/\(rE (x0:Bool)/\rE (x1:Bool)/\rE (x2:Bool)/\rE (x3:Bool)/\rE (x4:Bool)/\True)/\rE ((wrap i64 (v0.2+1)):Int)/\True)/\True) (Sum.inl (iN u32 v0.1 (eu u32 1 v0.2),wrap i64 (v0.2+1))))) (.nx ((rE v0.1/\(rE (x0:Bool)/\rE (x1:Bool)/\rE (x2:Bool)/\rE (x3:Bool)/\rE (x4:Bool)/\True)/\rE ((wrap i64 (v0.2+1)):Int)/\True)/\True) (Sum.inl (v0.1,wrap i64 (v0.2+1)))))) (.lf (Sum.inr v0.1)))
def To m:=(Lr m).m
abbrev Qnq m:=(Lr m).p
def Z2e:cg:={
 α:=(Int)×(Int)
 F:=λst a=>([(4,.int u32 a.1),(23,(lk st 23)),(24,.int i64 a.2)],[])
 a0:=λst=>((lk st 4).toInt,(lk st 24).toInt)
 jk:=λst=>[]++[]}
def Qxm:List (Nat×cg):=[(4,Z2e)]
def Z5x:ba:=mT 234 [] true [.agg bb.sig] [] (λa r=>Lr (bb.of (aC a 0))) (λX=>.int .u32 X) (λX=>[])
theorem Z36:bj pG Z5x:=oT (.cons Z2m (.cons Qyb (.cons Qqu (.cons Za8 (.cons Qwn (.nil)))))) Tryz.func234 Tryz.call234 [] Qxm 3
def Lt(m:bb):Tree Int:=
.an (Qnq m) (.lv (To m) λ(x0:Int)=>.lf (bc u32 x0 m.B2.C2.a7))
def Ls m:=(Lt m).m
abbrev Qcf m:=(Lt m).p
def Z06:ba:=mT 186 [] true [.agg bb.sig] [] (λa r=>Lt (bb.of (aC a 0))) (λX=>.int .u32 X) (λX=>[])
theorem Qm1:bj pG Z06:=oT (.cons Z36 (.nil)) Tryz.func186 Tryz.call186 [] [] 2
def Lu(m:bb):Tree Bool:=
.br m.B4 (.an (Qcf m) (.lv (Ls m) λ(x0:Int)=>.lf (x0==0))) (.lf false)
def SX m:=(Lu m).m
abbrev Qpp m:=(Lu m).p
def Z9g:ba:=mT 185 [] true [.agg bb.sig] [] (λa r=>Lu (bb.of (aC a 0))) (λX=>.bool X) (λX=>[])
theorem Z7x:bj pG Z9g:=oT (.cons Qm1 (.nil)) Tryz.func185 Tryz.call185 [] [] 2

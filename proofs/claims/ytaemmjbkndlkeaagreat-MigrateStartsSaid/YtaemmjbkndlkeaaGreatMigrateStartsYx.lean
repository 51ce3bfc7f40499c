import Derived.Test.YtaemmjbkndlkeaaGreatMigrateStartsBase
open Int renaming tmod->cZ,tdiv->eF,toNat->dA
open Nat renaming beq->bX,blt->bN
open List renaming set->dB,getD->aV,length->dF,append->cP
open UInt8 renaming toNat->iB
set_option maxRecDepth 100000
set_option linter.all false
namespace Go.Proofs.YtaemmjbkndlkeaaGreat
open Go Go.GD Go.IntKind
noncomputable section
def kD(s:List Int):(List Int):=
s
def nQ(s:List Int):Prop:=
s.length<=35184372088832
def Q4c(s:List Int):List D:=[.sl 1 (.ints .u32 s) false]
def VT(s:List Int):List Row:=[]
def MW(X:List Int):D:=.all 0
def MX(X:List Int):List Row:=[⟨false,25,1,.ints .u32 X⟩]
def Qfi:List nd:=[.row 25 1 (.ints .u32)]
def Q8n:List PT:=[.one (.ints .u32)]
def Q82:List RT:=[]
def Qhs(args:List D)(rows:List Row):(List Int):=kD (de .u32 args 0)
def Qh3(args:List D)(rows:List Row):Prop:=nQ (de .u32 args 0)
def Qj1:bb:=kH 114 [] true Q8n Q82 Qh3 Qhs MW MX
def Q5o(s:List Int)(jb:(List Int)->Prop):Prop:=
(s=[]->jb [])/\cv (decide ((4:Nat)*((0:Nat)+s.length)<=(140737488355328:Nat))) (jb s)
set_option maxRecDepth 100000 in
theorem Qi7(s:List Int)(Q:D->List Row->Prop):(ko jY [] (LL jY [] Tryz.f114.ntmps 0 [] 2) Tryz.f114 (Q4c s) (VT s) λd R=>nU (VT s).length Qfi d R Q)=Q5o s (λX=>Q (MW X) (MX X)):=by kernel_rfl
theorem Qfk(s:List Int)(jb:(List Int)->Prop)(hw:nQ s)(h:jb (kD s)):
Q5o s jb:=by
 delta Q5o
 refine⟨λe=>by rw[e]at h;exact h,?_⟩
 rw[dd]
 refine⟨dY ?_,h⟩
 have:s.length<=35184372088832:=hw
 omega
set_option maxRecDepth 100000 in
theorem Qf7(s:List Int)(hw:nQ s):kr pG 114 (Q4c s) (VT s) (MW (kD s)) (MX (kD s)):=
 have hG:jB pG []:=.nil
 lV.calls drawn jt hG Tryz.func114 (rf:=none) (λ_ _=>trivial) (Gu drawn jt hG (.inl rfl) 2 (fq:=[])) (lV.of (Qi7 s _) (Qfk s (λX=>MW X=MW (kD s)/\MX X=MX (kD s)) hw ⟨rfl,rfl⟩))
set_option maxRecDepth 100000 in
theorem Qgf(args:List D)(rows:List Row):kZ Q8n args 0=Q4c (de .u32 args 0):=by kernel_rfl
set_option maxRecDepth 100000 in
theorem Qf9(args:List D)(rows:List Row):kA Q82 rows 0=VT (de .u32 args 0):=by kernel_rfl
set_option maxRecDepth 100000 in
theorem Qi0(X:List Int):(tv (MW X)&&jz (MX X))=true:=by kernel_rfl
theorem Kk:bj pG Qj1:=FQ Tryz.call114 (λargs rows hp=>by rw[Qgf args rows,Qf9 args rows];exact Qf7 (de .u32 args 0) hp) (λ_ X=>Qi0 X)
def GF(m:List Int):Tree Int:=
.br (cZ (m.length:Int) (32:Int) !=(0:Int)) (.lf 0) (.br (decide ((m.length:Int)>(1024:Int))) (.lf 0) (.lf (wrap i64 (eF (m.length:Int) 32))))
def jP m:=(GF m).m
def Zas:bb:=mS 70 [] true [.one (.ints .u32)] [] (λa r=>GF (de .u32 a 0)) (λX=>.int .i64 X) (λX=>[])
theorem Br:bj pG Zas:=oS (.nil) Tryz.func70 Tryz.call70 [] [] 2
def I6(m:List Int)(addr size:Int):Tree Bool:=
let T1:Tree (Bool):=.cn (decide (wrap u32 size≠0)) (.br (cZ addr (wrap u32 size) !=0) (.lf false) (.lv (jP m) λ(x0:Int)=>.lf (decide (wrap u64 (wrap u64 addr+wrap u64 size)<=wrap u64 (wrap u64 x0*128)))));.br (size !=1) (.br (size !=4) (.lf false) T1) T1
def XL m addr size:=(I6 m addr size).m
abbrev Qfs m addr size:=(I6 m addr size).p
def Z8x:bb:=mT 273 [] true [.one (.ints .u32),.one (.int .u32),.one (.int .i64)] [] (λa r=>I6 (de .u32 a 0) (au a 1) (au a 2)) (λX=>.bool X) (λX=>[])
theorem Qqs:bj pG Z8x:=oT (.cons Br (.nil)) Tryz.func273 Tryz.call273 [] [] 2
def RP(n:Int):Tree Int:=
.br (decide (n>=32)) (.lf 4294967295) (.cn (decide (0<=wrap u64 n)) (.lf (wrap u32 (ep u32 1 (wrap u64 n)-1))))
def Z77 n:=(RP n).m
abbrev Qp4 n:=(RP n).p
def Zne:bb:=mT 274 [] true [.one (.int .i64)] [] (λa r=>RP (au a 0)) (λX=>.int .u32 X) (λX=>[])
theorem Z36:bj pG Zne:=oT (.nil) Tryz.func274 Tryz.call274 [] [] 2
def RQ(w low n:Int):Tree Int:=
.br (decide (low<0)) (.lf 0) (.br (decide (low>31)) (.lf 0) (.br (decide (n<1)) (.lf 0) (.cn (decide (0<=wrap u64 low)) (.an (Qp4 n) (.lv (Z77 n) λ(x0:Int)=>.lf (bh u32 (bm u32 w (wrap u64 low)) x0))))))
def tH w low n:=(RQ w low n).m
abbrev MY w low n:=(RQ w low n).p
def Zj6:bb:=mT 238 [] true [.one (.int .u32),.one (.int .i64),.one (.int .i64)] [] (λa r=>RQ (au a 0) (au a 1) (au a 2)) (λX=>.int .u32 X) (λX=>[])
theorem Qpv:bj pG Zj6:=oT (.cons Z36 (.nil)) Tryz.func238 Tryz.call238 [] [] 2
def RR(w low n v:Int):Tree Int:=
.br (decide (low<0)) (.lf w) (.br (decide (low>31)) (.lf w) (.br (decide (n<1)) (.lf w) (.an (Qp4 n) (.lv (Z77 n) λ(x0:Int)=>.cn (decide (0<=wrap u64 low)) (.cn (decide (0<=wrap u64 low)) (.lf (iN u32 (oM u32 w (ep u32 x0 (wrap u64 low))) (ep u32 (bh u32 v x0) (wrap u64 low)))))))))
def LA w low n v:=(RR w low n v).m
abbrev Qop w low n v:=(RR w low n v).p
def Z8h:bb:=mT 276 [] true [.one (.int .u32),.one (.int .i64),.one (.int .i64),.one (.int .u32)] [] (λa r=>RR (au a 0) (au a 1) (au a 2) (au a 3)) (λX=>.int .u32 X) (λX=>[])
theorem Z40:bj pG Z8h:=oT (.cons Z36 (.nil)) Tryz.func276 Tryz.call276 [] [] 2
def LD(m:List Int)(addr size v:Int):Tree ((List Int)×Bool):=
.an (nQ m) (.lv (kD m) λ(x0:List Int)=>.an (Qfs m addr size) (.lv (XL m addr size) λ(x1:Bool)=>.br (!x1) (.lf (x0,false)) (let E1:=bX 1 1&&bN 0 1&&decide (0<=wrap u32 (eF addr 4)/\wrap u32 (eF addr 4)<(x0.length:Int));let E2:=dA (wrap u32 (eF addr 4));.br (size==1) (.cn E1 (let E3:=wrap i64 (wrap i64 (cZ addr 4)*8);.an (Qop (x0.getD E2 0) E3 8 v) (.lv (LA (x0.getD E2 0) E3 8 v) λ(x2:Int)=>.cn E1 (.lf (dB x0 E2 x2,true))))) (.cn E1 (.lf (dB x0 E2 v,true))))))
def LC m addr size v:=(LD m addr size v).m
abbrev Qcj m addr size v:=(LD m addr size v).p
def Zc6:bb:=mT 244 [] true [.one (.ints .u32),.one (.int .u32),.one (.int .i64),.one (.int .u32)] [] (λa r=>LD (de .u32 a 0) (au a 1) (au a 2) (au a 3)) (λX=>.dw [.all 0,.bool (X.2)]) (λX=>[⟨false,25,1,.ints .u32 (X.1)⟩])
theorem Qsj:bj pG Zc6:=oT (.cons Kk (.cons Qqs (.cons Z40 (.nil)))) Tryz.func244 Tryz.call244 [.row 25 1 (.ints .u32)] [] 2
def Zn5(op:Int):Tree (Ab×Bool):=
.br (op==1) (.lf ({a:=true,b:=true,c:=true,low:=0,F4:=0},true)) (.br (op==2) (.lf ({a:=true,b:=true,c:=true,low:=0,F4:=0},true)) (.br (op==3) (.lf ({a:=true,b:=true,c:=true,low:=0,F4:=0},true)) (.br (op==4) (.lf ({a:=true,b:=true,c:=true,low:=0,F4:=0},true)) (.br (op==5) (.lf ({a:=true,b:=true,c:=true,low:=0,F4:=0},true)) (.br (op==6) (.lf ({a:=true,b:=true,c:=true,low:=0,F4:=0},true)) (.br (op==7) (.lf ({a:=true,b:=true,c:=true,low:=0,F4:=0},true)) (.br (op==8) (.lf ({a:=true,b:=true,c:=true,low:=0,F4:=0},true)) (.br (op==9) (.lf ({a:=true,b:=true,c:=true,low:=0,F4:=0},true)) (.br (op==10) (.lf ({a:=true,b:=true,c:=true,low:=0,F4:=0},true)) (.br (op==11) (.lf ({a:=true,b:=true,c:=true,low:=0,F4:=0},true)) (.br (op==12) (.lf ({a:=true,b:=true,c:=true,low:=0,F4:=0},true)) (.br (op==13) (.lf ({a:=true,b:=true,c:=true,low:=0,F4:=0},true)) (.br (op==16) (.lf ({a:=true,b:=true,c:=false,low:=(-32768),F4:=32767},true)) (.br (op==23) (.lf ({a:=true,b:=true,c:=false,low:=(-32768),F4:=32767},true)) (.br (op==32) (.lf ({a:=true,b:=true,c:=false,low:=(-32768),F4:=32767},true)) (.br (op==33) (.lf ({a:=true,b:=true,c:=false,low:=(-32768),F4:=32767},true)) (.br (op==34) (.lf ({a:=true,b:=true,c:=false,low:=(-32768),F4:=32767},true)) (.br (op==35) (.lf ({a:=true,b:=true,c:=false,low:=(-32768),F4:=32767},true)) (.br (op==36) (.lf ({a:=true,b:=true,c:=false,low:=(-32768),F4:=32767},true)) (.br (op==40) (.lf ({a:=true,b:=true,c:=false,low:=(-32768),F4:=32767},true)) (.br (op==41) (.lf ({a:=true,b:=true,c:=false,low:=(-32768),F4:=32767},true)) (.br (op==42) (.lf ({a:=true,b:=true,c:=false,low:=(-32768),F4:=32767},true)) (.br (op==43) (.lf ({a:=true,b:=true,c:=false,low:=(-32768),F4:=32767},true)) (.br (op==44) (.lf ({a:=true,b:=true,c:=false,low:=(-32768),F4:=32767},true)) (.br (op==45) (.lf ({a:=true,b:=true,c:=false,low:=(-32768),F4:=32767},true)) (.br (op==49) (.lf ({a:=true,b:=true,c:=false,low:=(-32768),F4:=32767},true)) (.br (op==17) (.lf ({a:=true,b:=true,c:=false,low:=0,F4:=65535},true)) (.br (op==18) (.lf ({a:=true,b:=true,c:=false,low:=0,F4:=65535},true)) (.br (op==19) (.lf ({a:=true,b:=true,c:=false,low:=0,F4:=65535},true)) (.br (op==20) (.lf ({a:=true,b:=true,c:=false,low:=0,F4:=31},true)) (.br (op==21) (.lf ({a:=true,b:=true,c:=false,low:=0,F4:=31},true)) (.br (op==22) (.lf ({a:=true,b:=true,c:=false,low:=0,F4:=31},true)) (.br (op==24) (.lf ({a:=true,b:=false,c:=false,low:=0,F4:=65535},true)) (.br (op==48) (.lf ({a:=true,b:=false,c:=false,low:=(-32768),F4:=32767},true)) (.br (op==58) (.lf ({a:=true,b:=false,c:=false,low:=0,F4:=7},true)) (.br (op==59) (.lf ({a:=true,b:=false,c:=false,low:=0,F4:=7},true)) (.br (op==60) (.lf ({a:=true,b:=false,c:=false,low:=0,F4:=11},true)) (.br (op==61) (.lf ({a:=true,b:=false,c:=false,low:=0,F4:=11},true)) (.br (op==56) (.lf ({a:=false,b:=false,c:=false,low:=0,F4:=0},true)) (.br (op==57) (.lf ({a:=false,b:=false,c:=false,low:=0,F4:=0},true)) (.br (op==62) (.lf ({a:=false,b:=false,c:=false,low:=0,F4:=0},true)) (.br (op==63) (.lf ({a:=false,b:=false,c:=false,low:=0,F4:=0},true)) (.br (op==64) (.lf ({a:=false,b:=false,c:=false,low:=0,F4:=0},true)) (.lf ({a:=false,b:=false,c:=false,low:=0,F4:=0},false)))))))))))))))))))))))))))))))))))))))))))))
def TH op:=(Zn5 op).m
def qD:bb:=mS 239 [] true [.one (.int .i64)] [] (λa r=>Zn5 (au a 0)) (λX=>.dw [.agg (Ab.cells (X.1)),.bool (X.2)]) (λX=>[])
theorem Zdj:bj pG qD:=oS (.nil) Tryz.func239 Tryz.call239 [] [] 2
def RS(x n:Int):Tree Int:=
.br (decide (n<1)) (.lf 0) (.br (decide (n>=32)) (.lf x) (let E1:=decide (0<=wrap u64 (wrap i64 (32-n)));.cn E1 (.cn E1 (.lf (wrap u32 (bm i32 (wrap i32 (ep u32 x (wrap u64 (wrap i64 (32-n))))) (wrap u64 (wrap i64 (32-n)))))))))
def DO x n:=(RS x n).m
abbrev Qd6 x n:=(RS x n).p
def Z01:bb:=mT 240 [] true [.one (.int .u32),.one (.int .i64)] [] (λa r=>RS (au a 0) (au a 1)) (λX=>.int .u32 X) (λX=>[])
theorem Qm6:bj pG Z01:=oT (.nil) Tryz.func240 Tryz.call240 [] [] 2
def TJ(r:Int)(used:Bool):Tree Bool:=
.br used (.br (decide (r>=0)) (.lf (decide (r<=15))) (.lf false)) (.lf (r==0))
def Qa r used:=(TJ r used).m
def Zak:bb:=mS 275 [] true [.one (.int .i64),.one (.bool)] [] (λa r=>TJ (au a 0) (kF a 1)) (λX=>.bool X) (λX=>[])
theorem Z9r:bj pG Zak:=oS (.nil) Tryz.func275 Tryz.call275 [] [] 2
def Oq(i:ib):Tree Bool:=
.lv (TH i.Op) λ(x0:Ab×Bool)=>.br x0.2 (.lv (Qa i.A x0.1.a) λ(x1:Bool)=>.br x1 (.lv (Qa i.B x0.1.b) λ(x2:Bool)=>.br x2 (.lv (Qa i.C x0.1.c) λ(x3:Bool)=>.br x3 (.br (decide (i.bz>=x0.1.low)) (.lf (decide (i.bz<=x0.1.F4))) (.lf false)) (.lf false)) (.lf false)) (.lf false)) (.lf false)
def I4 i:=(Oq i).m
def Zow:bb:=mS 241 [] true [.agg ib.sig] [] (λa r=>Oq (ib.of (aC a 0))) (λX=>.bool X) (λX=>[])
theorem Zn2:bj pG Zow:=oS (.cons Zdj (.cons Z9r (.nil))) Tryz.func241 Tryz.call241 [] [] 2
def Lx(w:Int):Tree (ib×Bool):=
.an (MY w 24 8) (.lv (tH w 24 8) λ(x0:Int)=>.an (MY w 20 4) (.lv (tH w 20 4) λ(x1:Int)=>.an (MY w 16 4) (.lv (tH w 16 4) λ(x2:Int)=>.lv (TH (wrap i64 x0)) λ(x3:Ab×Bool)=>let E1:=({Op:=0,A:=0,B:=0,C:=0,bz:=0}:ib);.br (!x3.2) (.lf (E1,false)) (.an (MY w 0 16) (.lv (tH w 0 16) λ(x4:Int)=>.br x3.1.c (let E2:=({Op:=wrap i64 x0,A:=wrap i64 x1,B:=wrap i64 x2,C:=wrap i64 x4,bz:=0}:ib);.lv (I4 E2) λ(x5:Bool)=>.br (!x5) (.lf (E1,false)) (.lf (E2,true))) (.br (decide (x3.1.low<0)) (.an (Qd6 x4 16) (.lv (DO x4 16) λ(x6:Int)=>let E3:=({Op:=wrap i64 x0,A:=wrap i64 x1,B:=wrap i64 x2,C:=0,bz:=wrap i32 x6}:ib);.lv (I4 E3) λ(x7:Bool)=>.br (!x7) (.lf (E1,false)) (.lf (E3,true)))) (let E4:=({Op:=wrap i64 x0,A:=wrap i64 x1,B:=wrap i64 x2,C:=0,bz:=wrap i32 x4}:ib);.lv (I4 E4) λ(x8:Bool)=>.br (!x8) (.lf (E1,false)) (.lf (E4,true)))))))))
def Ou w:=(Lx w).m
abbrev Qw2 w:=(Lx w).p
def Zle:bb:=mT 189 [] true [.one (.int .u32)] [] (λa r=>Lx (au a 0)) (λX=>.dw [.agg (ib.cells (X.1)),.bool (X.2)]) (λX=>[])
theorem Zf9:bj pG Zle:=oT (.cons Qpv (.cons Zdj (.cons Qm6 (.cons Zn2 (.nil))))) Tryz.func189 Tryz.call189 [] [] 2
def LM(a b:Int):Tree (Int×Int):=
.br (b==0) (.lf (4294967295,a)) (let T1:Tree ((Int×Int)):=.cn (decide (wrap i32 b≠0)) (.cn (decide (wrap i32 b≠0)) (.lf (wrap u32 (wrap i32 (eF (wrap i32 a) (wrap i32 b))),wrap u32 (cZ (wrap i32 a) (wrap i32 b)))));.br (a==2147483648) (.br (b==4294967295) (.lf (a,0)) T1) T1)
def LJ a b:=(LM a b).m
abbrev Qlh a b:=(LM a b).p
def Zfq:bb:=mT 277 [] true [.one (.int .u32),.one (.int .u32)] [] (λa r=>LM (au a 0) (au a 1)) (λX=>.dw [.int .u32 (X.1),.int .u32 (X.2)]) (λX=>[])
theorem Zan:bj pG Zfq:=oT (.nil) Tryz.func277 Tryz.call277 [] [] 2
def Z7g(b:Bool):Tree Int:=
.br b (.lf 1) (.lf 0)
def VE b:=(Z7g b).m
def Zo6:bb:=mS 278 [] true [.one (.bool)] [] (λa r=>Z7g (kF a 0)) (λX=>.int .u32 X) (λX=>[])
theorem Zkp:bj pG Zo6:=oS (.nil) Tryz.func278 Tryz.call278 [] [] 2
def RW(op a b:Int):Tree (Int×Bool):=
.br (op==2) (.lf (wrap u32 (a+wrap u32 (0-b)),true)) (.br (op==1) (.lf (wrap u32 (a+b),true)) (.br (op==16) (.lf (wrap u32 (a+b),true)) (.br (op==3) (.lf (bh u32 a b,true)) (.br (op==17) (.lf (bh u32 a b,true)) (.br (op==4) (.lf (iN u32 a b,true)) (.br (op==18) (.lf (iN u32 a b,true)) (.br (op==5) (.lf (rD u32 a b,true)) (.br (op==19) (.lf (rD u32 a b,true)) (.br (op==6) (.lf (ep u32 a (bh u32 b 31),true)) (.br (op==20) (.lf (ep u32 a (bh u32 b 31),true)) (.br (op==7) (.lf (bm u32 a (bh u32 b 31),true)) (.br (op==21) (.lf (bm u32 a (bh u32 b 31),true)) (let E1:=(wrap u32 (bm i32 (wrap i32 a) (bh u32 b 31)),true);.br (op==8) (.lf E1) (.br (op==22) (.lf E1) (.br (op==9) (.lf (wrap u32 (a*b),true)) (.br (op==10) (.an (Qlh a b) (.lv (LJ a b) λ(x0:Int×Int)=>.lf (x0.1,true))) (.br (op==11) (.an (Qlh a b) (.lv (LJ a b) λ(x1:Int×Int)=>.lf (x1.2,true))) (.br (op==12) (.lv (VE (decide (wrap i32 a<wrap i32 b))) λ(x2:Int)=>.lf (x2,true)) (.br (op==23) (.lv (VE (decide (wrap i32 a<wrap i32 b))) λ(x3:Int)=>.lf (x3,true)) (.br (op==13) (.lv (VE (decide (a<b))) λ(x4:Int)=>.lf (x4,true)) (.lf (0,false))))))))))))))))))))))
def nJ op a b:=(RW op a b).m
abbrev Qx0 op a b:=(RW op a b).p
def xD:bb:=mT 248 [] true [.one (.int .i64),.one (.int .u32),.one (.int .u32)] [] (λa r=>RW (au a 0) (au a 1) (au a 2)) (λX=>.dw [.int .u32 (X.1),.bool (X.2)]) (λX=>[])
theorem Ztb:bj pG xD:=oT (.cons Zan (.cons Zkp (.nil))) Tryz.func248 Tryz.call248 [] [] 2
end
noncomputable section
def VD(status Dx to:Int):Tree Int:=
.br (bh u32 status Dx !=0) (.lf (iN u32 status to)) (.lf (oM u32 status to))
def Ap status Dx to:=(VD status Dx to).m
def Zui:bb:=mS 235 [] true [.one (.int .u32),.one (.int .u32),.one (.int .u32)] [] (λa r=>VD (au a 0) (au a 1) (au a 2)) (λX=>.int .u32 X) (λX=>[])
theorem Za7:bj pG Zui:=oS (.nil) Tryz.func235 Tryz.call235 [] [] 2
def OB(c:bq)(oE bad:Int):Tree bq:=
.lv (Ap c.C3.a0 1 8) λ(x0:Int)=>.lv (Ap x0 2 16) λ(x1:Int)=>.lf ({X:=c.X,Pc:=c.C3.a1,C3:={a0:=oM u32 (iN u32 x1 1) 2,a1:=c.C3.a1,a2:=c.Pc,a3:=wrap u32 oE,a4:=bad,a5:=c.C3.a5,a6:=c.C3.a6,a7:=c.C3.a7}})
def rb c oE bad:=(OB c oE bad).m
def Zsi:bb:=mS 187 [] true [.agg bq.sig,.one (.int .i64),.one (.int .u32)] [] (λa r=>OB (bq.of (aC a 0)) (au a 1) (au a 2)) (λX=>.agg (bq.cells X)) (λX=>[])
theorem Sq:bj pG Zsi:=oS (.cons Za7 (.nil)) Tryz.func187 Tryz.call187 [] [] 2
def Qyv(access:Int):Tree (Int×Bool):=
.br (access==1) (.lf (4,true)) (.br (access==2) (.lf (5,true)) (.br (access==3) (.lf (6,true)) (.lf (5,false))))
def Qwr access:=(Qyv access).m
def Zf7:bb:=mS 270 [] true [.one (.int .i64)] [] (λa r=>Qyv (au a 0)) (λX=>.dw [.int .i64 (X.1),.bool (X.2)]) (λX=>[])
theorem Zb2:bj pG Zf7:=oS (.nil) Tryz.func270 Tryz.call270 [] [] 2
def Z3b(c:bq):Tree Bool:=
.lf (bh u32 c.C3.a0 (1:Int) !=(0:Int))
def I8 c:=(Z3b c).m
def Zm3:bb:=mS 191 [] true [.agg bq.sig] [] (λa r=>Z3b (bq.of (aC a 0))) (λX=>.bool X) (λX=>[])
theorem Qxf:bj pG Zm3:=oS (.nil) Tryz.func191 Tryz.call191 [] [] 2
def Qqx(access:Int):Tree (Int×Bool):=
.br (access==1) (.lf (4,true)) (.br (access==2) (.lf (5,true)) (.br (access==3) (.lf (6,true)) (.lf (5,false))))
def Qn8 access:=(Qqx access).m
def Z4j:bb:=mS 289 [] true [.one (.int .i64)] [] (λa r=>Qqx (au a 0)) (λX=>.dw [.int .i64 (X.1),.bool (X.2)]) (λX=>[])
theorem Z1k:bj pG Z4j:=oS (.nil) Tryz.func289 Tryz.call289 [] [] 2
def Qk4(m:List Int)(frame:Int):Tree Bool:=
.lv (jP m) λ(x0:Int)=>.lf (decide (wrap u64 frame<wrap u64 x0))
def Ox m frame:=(Qk4 m frame).m
def Z6n:bb:=mS 290 [] true [.one (.ints .u32),.one (.int .u32)] [] (λa r=>Qk4 (de .u32 a 0) (au a 1)) (λX=>.bool X) (λX=>[])
theorem Z53:bj pG Z6n:=oS (.cons Br (.nil)) Tryz.func290 Tryz.call290 [] [] 2
def LB(m:List Int)(addr size:Int):Tree (Int×Bool):=
.an (Qfs m addr size) (.lv (XL m addr size) λ(x0:Bool)=>.br (!x0) (.lf (0,false)) (.cn (bX 1 1&&bN 0 1&&decide (0<=wrap u32 (eF addr 4)/\wrap u32 (eF addr 4)<(m.length:Int))) (let E1:=dA (wrap u32 (eF addr 4));.br (size==1) (let E2:=wrap i64 (wrap i64 (cZ addr 4)*8);.an (MY (m.getD E1 0) E2 8) (.lv (tH (m.getD E1 0) E2 8) λ(x1:Int)=>.lf (x1,true))) (.lf (m.getD E1 0,true)))))
def Ci m addr size:=(LB m addr size).m
abbrev J6 m addr size:=(LB m addr size).p
def Zi7:bb:=mT 237 [] true [.one (.ints .u32),.one (.int .u32),.one (.int .i64)] [] (λa r=>LB (de .u32 a 0) (au a 1) (au a 2)) (λX=>.dw [.int .u32 (X.1),.bool (X.2)]) (λX=>[])
theorem Qc:bj pG Zi7:=oT (.cons Qqs (.cons Qpv (.nil))) Tryz.func237 Tryz.call237 [] [] 2
def Qqj(Bs access:Int):Tree Bool:=
.br (bh u32 Bs (1:Int)==(0:Int)) (.lf false) (.br (access==3) (.lf (bh u32 Bs (2:Int) !=(0:Int))) (.br (access==1) (.lf (bh u32 Bs (4:Int) !=(0:Int))) (.lf true)))
def TP Bs access:=(Qqj Bs access).m
def Z4c:bb:=mS 291 [] true [.one (.int .u32),.one (.int .i64)] [] (λa r=>Qqj (au a 0) (au a 1)) (λX=>.bool X) (λX=>[])
theorem Z23:bj pG Z4c:=oS (.nil) Tryz.func291 Tryz.call291 [] [] 2
def RU(Bs:Int):Tree Int:=
.an (MY Bs 8 8) (.lv (tH Bs 8 8) λ(x0:Int)=>.lf x0)
def XQ Bs:=(RU Bs).m
abbrev Qec Bs:=(RU Bs).p
def Z41:bb:=mT 292 [] true [.one (.int .u32)] [] (λa r=>RU (au a 0)) (λX=>.int .u32 X) (λX=>[])
theorem Z2b:bj pG Z41:=oT (.cons Qpv (.nil)) Tryz.func292 Tryz.call292 [] [] 2
def LG(m:List Int)(root va access:Int):Tree rG:=
.lv (Qn8 access) λ(x0:Int×Bool)=>let E1:=({Addr:=0,G1:=0,G0:=x0.1}:rG);.br (!x0.2) (.lf (E1)) (.br (decide (va>=4096)) (.lf (E1)) (.lv (Ox m root) λ(x1:Bool)=>.br (!x1) (.lf (E1)) (let E2:=wrap u32 (root*128)+wrap u32 (4*wrap u32 (eF va 128));.an (J6 m (wrap u32 E2) 4) (.lv (Ci m (wrap u32 E2) 4) λ(x2:Int×Bool)=>.br (!x2.2) (.lf (E1)) (.lv (TP x2.1 access) λ(x3:Bool)=>.br (!x3) (.lf (E1)) (.an (Qec x2.1) (.lv (XQ x2.1) λ(x4:Int)=>.lv (Ox m x4) λ(x5:Bool)=>.br (!x5) (.lf (E1)) (.an (Qec x2.1) (.lv (XQ x2.1) λ(x6:Int)=>.lf ({Addr:=wrap u32 (wrap u32 (x6*128)+cZ va 128),G1:=wrap u32 E2,G0:=0}))))))))))
def TO m root va access:=(LG m root va access).m
abbrev Ql5 m root va access:=(LG m root va access).p
def Zi3:bb:=mT 271 [] true [.one (.ints .u32),.one (.int .u32),.one (.int .u32),.one (.int .i64)] [] (λa r=>LG (de .u32 a 0) (au a 1) (au a 2) (au a 3)) (λX=>.agg (rG.cells X)) (λX=>[])
theorem Zce:bj pG Zi3:=oT (.cons Z1k (.cons Z53 (.cons Qc (.cons Z23 (.cons Z2b (.nil)))))) Tryz.func271 Tryz.call271 [] [] 2
def LI(m:List Int)(entry access:Int):Tree (List Int):=
.an (J6 m entry 4) (.lv (Ci m entry 4) λ(x0:Int×Bool)=>.br (!x0.2) (.an (nQ m) (.lv (kD m) λ(x1:List Int)=>.lf x1)) (.br (access==3) (.an (Qcj m entry 4 (iN u32 (iN u32 x0.1 8) 16)) (.lv (LC m entry 4 (iN u32 (iN u32 x0.1 8) 16)) λ(x2:List Int×Bool)=>.lf x2.1)) (.an (Qcj m entry 4 (iN u32 x0.1 8)) (.lv (LC m entry 4 (iN u32 x0.1 8)) λ(x3:List Int×Bool)=>.lf x3.1))))
def Oz m entry access:=(LI m entry access).m
abbrev Qi6 m entry access:=(LI m entry access).p
def Zbk:bb:=mT 272 [] true [.one (.ints .u32),.one (.int .u32),.one (.int .i64)] [] (λa r=>LI (de .u32 a 0) (au a 1) (au a 2)) (λX=>.all 0) (λX=>[⟨false,25,1,.ints .u32 X⟩])
theorem Z71:bj pG Zbk:=oT (.cons Qc (.cons Kk (.cons Qsj (.nil)))) Tryz.func272 Tryz.call272 [.row 25 1 (.ints .u32)] [] 2
def LO(c:bq)(m:List Int)(va size access:Int):Tree (Int×(List Int)×Int):=
.lv (Qwr access) λ(x0:Int×Bool)=>let T3:Tree ((Int×(List Int)×Int)):=.an (nQ m) (.lv (kD m) λ(x1:List Int)=>.lf (0,x1,5));.br (!x0.2) T3 (let T1:Tree ((Int×(List Int)×Int)):=.cn (decide (wrap u32 size≠0)) (.br (cZ va (wrap u32 size) !=0) (.an (nQ m) (.lv (kD m) λ(x3:List Int)=>.lf (0,x3,3))) (.lv (I8 c) λ(x4:Bool)=>let T2:Tree ((Int×(List Int)×Int)):=.an (J6 m va size) (.lv (Ci m va size) λ(x8:Int×Bool)=>.br (!x8.2) (.an (nQ m) (.lv (kD m) λ(x9:List Int)=>.lf (0,x9,x0.1))) (.an (nQ m) (.lv (kD m) λ(lI:List Int)=>.lf (va,lI,0))));.br (!x4) (.br (bh u32 c.C3.a0 (4:Int) !=(0:Int)) (.an (Ql5 m c.C3.a6 va access) (.lv (TO m c.C3.a6 va access) λ(x5:rG)=>.br (x5.G0 !=0) (.an (nQ m) (.lv (kD m) λ(x6:List Int)=>.lf (0,x6,x5.G0))) (.an (Qi6 m x5.G1 access) (.lv (Oz m x5.G1 access) λ(x7:List Int)=>.lf (x5.Addr,x7,0))))) T2) T2));.br (size !=1) (.br (size !=4) T3 T1) T1)
def rM c m va size access:=(LO c m va size access).m
abbrev Qej c m va size access:=(LO c m va size access).p
def Zhy:bb:=mT 236 [] true [.agg bq.sig,.one (.ints .u32),.one (.int .u32),.one (.int .i64),.one (.int .i64)] [] (λa r=>LO (bq.of (aC a 0)) (de .u32 a 1) (au a 2) (au a 3) (au a 4)) (λX=>.dw [.int .u32 (X.1),.all 0,.int .i64 (X.2.2)]) (λX=>[⟨false,25,1,.ints .u32 (X.2.1)⟩])
theorem Qmy:bj pG Zhy:=oT (.cons Zb2 (.cons Kk (.cons Qxf (.cons Zce (.cons Z71 (.cons Qc (.nil))))))) Tryz.func236 Tryz.call236 [.row 25 1 (.ints .u32)] [] 2
def RV(c:bq)(m:List Int):Tree (Int×(List Int)×Int):=
.an (Qej c m c.Pc 4 1) (.lv (rM c m c.Pc 4 1) λ(x0:Int×List Int×Int)=>.br (x0.2.2 !=0) (.lf (0,x0.2.1,x0.2.2)) (.an (J6 x0.2.1 x0.1 4) (.lv (Ci x0.2.1 x0.1 4) λ(x1:Int×Bool)=>.lf (x1.1,x0.2.1,0))))
def TX c m:=(RV c m).m
abbrev Qxw c m:=(RV c m).p
def Zq1:bb:=mT 188 [] true [.agg bq.sig,.one (.ints .u32)] [] (λa r=>RV (bq.of (aC a 0)) (de .u32 a 1)) (λX=>.dw [.int .u32 (X.1),.all 0,.int .i64 (X.2.2)]) (λX=>[⟨false,25,1,.ints .u32 (X.2.1)⟩])
theorem Zm6:bj pG Zq1:=oT (.cons Qmy (.cons Qc (.nil))) Tryz.func188 Tryz.call188 [.row 25 1 (.ints .u32)] [] 2
def Qqv(op:Int):Tree Bool:=
.br (op==57) (.lf true) (.br (op==58) (.lf true) (.br (op==59) (.lf true) (.br (op==60) (.lf true) (.br (op==61) (.lf true) (.br (op==62) (.lf true) (.br (op==63) (.lf true) (.br (op==64) (.lf true) (.lf false))))))))
def Oo op:=(Qqv op).m
def Z56:bb:=mS 190 [] true [.one (.int .i64)] [] (λa r=>Qqv (au a 0)) (λX=>.bool X) (λX=>[])
theorem Z0q:bj pG Z56:=oS (.nil) Tryz.func190 Tryz.call190 [] [] 2
def Qwk(op:Int):Tree Int:=
.br (op==32) (.lf 4) (.br (op==35) (.lf 4) (.lf 1))
def J7 op:=(Qwk op).m
def Znp:bb:=mS 242 [] true [.one (.int .i64)] [] (λa r=>Qwk (au a 0)) (λX=>.int .i64 X) (λX=>[])
theorem Z30:bj pG Znp:=oS (.nil) Tryz.func242 Tryz.call242 [] [] 2
def EH(c:bq)(register v:Int):Tree bq:=
.br (register !=0) (.cn (bN 0 1&&decide (0<=register/\register<(↑16:Int))) (.lf ({X:=iI.of 0 (dB (iI.l c.X) register.toNat v),Pc:=c.Pc,C3:=c.C3}))) (.lf c)
def uy c register v:=(EH c register v).m
abbrev HQ c register v:=(EH c register v).p
def zD:bb:=mT 243 [] true [.agg bq.sig,.one (.int .i64),.one (.int .u32)] [] (λa r=>EH (bq.of (aC a 0)) (au a 1) (au a 2)) (λX=>.agg (bq.cells X)) (λX=>[])
theorem Zeb:bj pG zD:=oT (.nil) Tryz.func243 Tryz.call243 [] [] 2
def IX(c:bq)(m:List Int)(i:ib):Tree (bq×(List Int)):=
.cn (bN 0 1&&decide (0<=i.B/\i.B<(↑16:Int))) (.lv (J7 i.Op) λ(x0:Int)=>let E1:=wrap u32 (aV (iI.l c.X) i.B.toNat 0+wrap u32 i.bz);.an (Qej c m E1 x0 2) (.lv (rM c m E1 x0 2) λ(x1:Int×List Int×Int)=>.br (x1.2.2 !=0) (.lv (rb c x1.2.2 E1) λ(x2:bq)=>.lf (x2,x1.2.1)) (.lv (J7 i.Op) λ(x3:Int)=>.an (J6 x1.2.1 x1.1 x3) (.lv (Ci x1.2.1 x1.1 x3) λ(x4:Int×Bool)=>.br (i.Op==33) (.an (Qd6 x4.1 8) (.lv (DO x4.1 8) λ(x5:Int)=>.an (HQ c i.A x5) (.lv (uy c i.A x5) λ(x6:bq)=>.lf ({X:=x6.X,Pc:=wrap u32 (x6.Pc+4),C3:=x6.C3},x1.2.1)))) (.an (HQ c i.A x4.1) (.lv (uy c i.A x4.1) λ(x7:bq)=>.lf ({X:=x7.X,Pc:=wrap u32 (x7.Pc+4),C3:=x7.C3},x1.2.1)))))))
def tI c m i:=(IX c m i).m
abbrev Z2r c m i:=(IX c m i).p
def Zud:bb:=mT 192 [] true [.agg bq.sig,.one (.ints .u32),.agg ib.sig] [] (λa r=>IX (bq.of (aC a 0)) (de .u32 a 1) (ib.of (aC a 2))) (λX=>.dw [.agg (bq.cells (X.1)),.all 0]) (λX=>[⟨false,25,1,.ints .u32 (X.2)⟩])
theorem Znd:bj pG Zud:=oT (.cons Qmy (.cons Z30 (.cons Sq (.cons Qc (.cons Qm6 (.cons Zeb (.nil))))))) Tryz.func192 Tryz.call192 [.row 25 1 (.ints .u32)] [] 2
def IZ(c:bq)(m:List Int)(i:ib):Tree (bq×(List Int)):=
.cn (bN 0 1&&decide (0<=i.B/\i.B<(↑16:Int))) (.lv (J7 i.Op) λ(x0:Int)=>let E1:=wrap u32 (aV (iI.l c.X) i.B.toNat 0+wrap u32 i.bz);.an (Qej c m E1 x0 3) (.lv (rM c m E1 x0 3) λ(x1:Int×List Int×Int)=>.br (x1.2.2 !=0) (.lv (rb c x1.2.2 E1) λ(x2:bq)=>.lf (x2,x1.2.1)) (.lv (J7 i.Op) λ(x3:Int)=>.cn (bN 0 1&&decide (0<=i.A/\i.A<(↑16:Int))) (let E2:=aV (iI.l c.X) i.A.toNat 0;.an (Qcj x1.2.1 x1.1 x3 E2) (.lv (LC x1.2.1 x1.1 x3 E2) λ(x4:List Int×Bool)=>.lf ({X:=c.X,Pc:=wrap u32 (c.Pc+4),C3:=c.C3},x4.1))))))
def Cm c m i:=(IZ c m i).m
abbrev Qy0 c m i:=(IZ c m i).p
def Zou:bb:=mT 193 [] true [.agg bq.sig,.one (.ints .u32),.agg ib.sig] [] (λa r=>IZ (bq.of (aC a 0)) (de .u32 a 1) (ib.of (aC a 2))) (λX=>.dw [.agg (bq.cells (X.1)),.all 0]) (λX=>[⟨false,25,1,.ints .u32 (X.2)⟩])
theorem Zjo:bj pG Zou:=oT (.cons Qmy (.cons Z30 (.cons Sq (.cons Qsj (.nil))))) Tryz.func193 Tryz.call193 [.row 25 1 (.ints .u32)] [] 2
def Z9x(op a b:Int):Tree Bool:=
.br (op==40) (.lf (a==b)) (.br (op==41) (.lf (a !=b)) (.br (op==42) (.lf (decide (wrap i32 a<wrap i32 b))) (.br (op==43) (.lf (decide (wrap i32 a>=wrap i32 b))) (.br (op==44) (.lf (decide (a<b))) (.lf (decide (a>=b)))))))
def Zmt op a b:=(Z9x op a b).m
def Zq6:bb:=mS 245 [] true [.one (.int .i64),.one (.int .u32),.one (.int .u32)] [] (λa r=>Z9x (au a 0) (au a 1) (au a 2)) (λX=>.bool X) (λX=>[])
theorem Zk8:bj pG Zq6:=oS (.nil) Tryz.func245 Tryz.call245 [] [] 2
def OD(c:bq):Tree bq:=
.lv (Ap c.C3.a0 8 1) λ(x0:Int)=>.lv (Ap x0 16 2) λ(x1:Int)=>.lf ({X:=c.X,Pc:=c.C3.a2,C3:={a0:=x1,a1:=c.C3.a1,a2:=c.C3.a2,a3:=c.C3.a3,a4:=c.C3.a4,a5:=c.C3.a5,a6:=c.C3.a6,a7:=c.C3.a7}})
def Lq c:=(OD c).m
def Zmr:bb:=mS 246 [] true [.agg bq.sig] [] (λa r=>OD (bq.of (aC a 0))) (λX=>.agg (bq.cells X)) (λX=>[])
theorem Zfg:bj pG Zmr:=oS (.cons Za7 (.nil)) Tryz.func246 Tryz.call246 [] [] 2
def IW(c:bq)(jr v:Int):Tree bq:=
let E4:=bN 0 1&&decide (0<=jr/\jr<(↑8:Int));let T2:Tree (bq):=.cn E4 (.lf ({X:=c.X,Pc:=c.Pc,C3:=A8.of 0 (dB (A8.l c.C3) jr.toNat (bh u32 v 31))}));.br (jr==0) T2 (.br (jr==7) T2 (.br (jr==6) (.cn E4 (.lf ({X:=c.X,Pc:=c.Pc,C3:=A8.of 0 (dB (A8.l c.C3) jr.toNat (bh u32 v 255))}))) (let T3:Tree (bq):=.cn E4 (.lf ({X:=c.X,Pc:=c.Pc,C3:=A8.of 0 (dB (A8.l c.C3) jr.toNat (oM u32 v 3))}));.br (jr==1) T3 (.br (jr==2) T3 (let T1:Tree (bq):=.cn E4 (.lf ({X:=c.X,Pc:=c.Pc,C3:=A8.of 0 (dB (A8.l c.C3) jr.toNat v)}));.br (jr==3) T1 (.br (jr==4) T1 (.br (jr==5) T1 (.lf c))))))))
def Zk4 c jr v:=(IW c jr v).m
abbrev Qz c jr v:=(IW c jr v).p
def Zpw:bb:=mT 247 [] true [.agg bq.sig,.one (.int .i64),.one (.int .u32)] [] (λa r=>IW (bq.of (aC a 0)) (au a 1) (au a 2)) (λX=>.agg (bq.cells X)) (λX=>[])
theorem Zjh:bj pG Zpw:=oT (.nil) Tryz.func247 Tryz.call247 [] [] 2
def EI(c:bq)(i:ib):Tree (bq×lD):=
.cn (bN 0 1&&decide (0<=i.A/\i.A<(↑16:Int))) (.cn (bN 0 1&&decide (0<=i.B/\i.B<(↑16:Int))) (.br (i.Op==24) (.an (HQ c i.A (ep u32 (wrap u32 i.bz) 16)) (.lv (uy c i.A (ep u32 (wrap u32 i.bz) 16)) λ(x0:bq)=>.lf ({X:=x0.X,Pc:=wrap u32 (c.Pc+4),C3:=x0.C3},{C2:=0,D8:=0,F7:=0,Value:=0}))) (let E2:=({X:=c.X,Pc:=wrap u32 (c.Pc+4),C3:=c.C3}:bq);let E3:=aV (iI.l c.X) i.B.toNat 0;let E4:=aV (iI.l c.X) i.A.toNat 0;let T1:Tree ((bq×lD)):=.lv (Zmt i.Op E4 E3) λ(x1:Bool)=>.br x1 (.lf ({X:=c.X,Pc:=wrap u32 (c.Pc+wrap u32 (4*wrap u32 i.bz)),C3:=c.C3},{C2:=0,D8:=0,F7:=0,Value:=0})) (.lf (E2,{C2:=0,D8:=0,F7:=0,Value:=0}));.br (i.Op==40) T1 (.br (i.Op==41) T1 (.br (i.Op==42) T1 (.br (i.Op==43) T1 (.br (i.Op==44) T1 (.br (i.Op==45) T1 (.br (i.Op==48) (.an (HQ c i.A (wrap u32 (c.Pc+4))) (.lv (uy c i.A (wrap u32 (c.Pc+4))) λ(x7:bq)=>.lf ({X:=x7.X,Pc:=wrap u32 (x7.Pc+wrap u32 (4*wrap u32 i.bz)),C3:=x7.C3},{C2:=0,D8:=0,F7:=0,Value:=0}))) (.br (i.Op==49) (.an (HQ c i.A (wrap u32 (c.Pc+4))) (.lv (uy c i.A (wrap u32 (c.Pc+4))) λ(x8:bq)=>.lf ({X:=x8.X,Pc:=wrap u32 (aV (iI.l c.X) i.B.toNat 0+wrap u32 i.bz),C3:=x8.C3},{C2:=0,D8:=0,F7:=0,Value:=0}))) (.br (i.Op==56) (.lv (rb c 7 0) λ(x9:bq)=>.lf (x9,{C2:=0,D8:=0,F7:=0,Value:=0})) (.br (i.Op==57) (.lv (Lq c) λ(lI:bq)=>.lf (lI,{C2:=0,D8:=0,F7:=0,Value:=0})) (.br (i.Op==58) (.cn (bN 0 1&&decide (0<=i.bz/\i.bz<(↑8:Int))) (let E5:=aV (A8.l c.C3) i.bz.toNat 0;.an (HQ c i.A E5) (.lv (uy c i.A E5) λ(mu:bq)=>.lf ({X:=mu.X,Pc:=wrap u32 (c.Pc+4),C3:=mu.C3},{C2:=0,D8:=0,F7:=0,Value:=0})))) (.br (i.Op==59) (.an (Qz c (wrap i64 i.bz) E4) (.lv (Zk4 c (wrap i64 i.bz) E4) λ(ot:bq)=>.lf ({X:=ot.X,Pc:=wrap u32 (c.Pc+4),C3:=ot.C3},{C2:=0,D8:=0,F7:=0,Value:=0}))) (.br (i.Op==60) (.lf (E2,{C2:=1,D8:=wrap i64 i.bz,F7:=i.A,Value:=0})) (.br (i.Op==61) (.lf (E2,{C2:=2,D8:=wrap i64 i.bz,F7:=0,Value:=aV (iI.l c.X) i.A.toNat 0})) (.br (i.Op==62) (.lf (E2,{C2:=3,D8:=0,F7:=0,Value:=0})) (.br (i.Op==63) (.lf (E2,{C2:=5,D8:=0,F7:=0,Value:=0})) (.br (i.Op==64) (.lf (E2,{C2:=4,D8:=0,F7:=0,Value:=0})) (.cn (bN 0 1&&decide (0<=i.C/\i.C<(↑16:Int))) (.br (decide (i.Op>=16)) (.an (Qx0 i.Op E3 (wrap u32 i.bz)) (.lv (nJ i.Op E3 (wrap u32 i.bz)) λ(tN:Int×Bool)=>.an (HQ c i.A tN.1) (.lv (uy c i.A tN.1) λ(Bj:bq)=>.lf ({X:=Bj.X,Pc:=wrap u32 (c.Pc+4),C3:=Bj.C3},{C2:=0,D8:=0,F7:=0,Value:=0})))) (let E6:=aV (iI.l c.X) i.C.toNat 0;.an (Qx0 i.Op E3 E6) (.lv (nJ i.Op E3 E6) λ(PX:Int×Bool)=>.an (HQ c i.A PX.1) (.lv (uy c i.A PX.1) λ(CA:bq)=>.lf ({X:=CA.X,Pc:=wrap u32 (c.Pc+4),C3:=CA.C3},{C2:=0,D8:=0,F7:=0,Value:=0})))))))))))))))))))))))))
def XU c i:=(EI c i).m
abbrev Qtp c i:=(EI c i).p
def Zh4:bb:=mT 194 [] true [.agg bq.sig,.agg ib.sig] [] (λa r=>EI (bq.of (aC a 0)) (ib.of (aC a 1))) (λX=>.dw [.agg (bq.cells (X.1)),.agg (lD.cells (X.2))]) (λX=>[])
theorem Zbo:bj pG Zh4:=oT (.cons Zeb (.cons Zk8 (.cons Sq (.cons Zfg (.cons Zjh (.cons Ztb (.nil))))))) Tryz.func194 Tryz.call194 [] [] 2
def EJ(c:bq)(m:List Int):Tree (bq×(List Int)×lD):=
.an (Qxw c m) (.lv (TX c m) λ(x0:Int×List Int×Int)=>.br (x0.2.2 !=0) (.lv (rb c x0.2.2 c.Pc) λ(x1:bq)=>.lf (x1,x0.2.1,{C2:=0,D8:=0,F7:=0,Value:=0})) (.an (Qw2 x0.1) (.lv (Ou x0.1) λ(x2:ib×Bool)=>.br (!x2.2) (.lv (rb c 1 x0.1) λ(x3:bq)=>.lf (x3,x0.2.1,{C2:=0,D8:=0,F7:=0,Value:=0})) (.lv (Oo x2.1.Op) λ(x4:Bool)=>let T1:Tree ((bq×(List Int)×lD)):=let T2:Tree ((bq×(List Int)×lD)):=.an (Z2r c x0.2.1 x2.1) (.lv (tI c x0.2.1 x2.1) λ(x7:bq×List Int)=>.lf (x7.1,x7.2,{C2:=0,D8:=0,F7:=0,Value:=0}));.br (x2.1.Op==32) T2 (.br (x2.1.Op==33) T2 (.br (x2.1.Op==34) T2 (let T3:Tree ((bq×(List Int)×lD)):=.an (Qy0 c x0.2.1 x2.1) (.lv (Cm c x0.2.1 x2.1) λ(lI:bq×List Int)=>.lf (lI.1,lI.2,{C2:=0,D8:=0,F7:=0,Value:=0}));.br (x2.1.Op==35) T3 (.br (x2.1.Op==36) T3 (.an (Qtp c x2.1) (.lv (XU c x2.1) λ(ot:bq×lD)=>.lf (ot.1,x0.2.1,ot.2)))))));.br x4 (.lv (I8 c) λ(x5:Bool)=>.br (!x5) (.lv (rb c 2 x0.1) λ(x6:bq)=>.lf (x6,x0.2.1,{C2:=0,D8:=0,F7:=0,Value:=0})) T1) T1))))
def Cn c m:=(EJ c m).m
abbrev Z2z c m:=(EJ c m).p
def Zsw:bb:=mT 137 [] true [.agg bq.sig,.one (.ints .u32)] [] (λa r=>EJ (bq.of (aC a 0)) (de .u32 a 1)) (λX=>.dw [.agg (bq.cells (X.1)),.all 0,.agg (lD.cells (X.2.2))]) (λX=>[⟨false,25,1,.ints .u32 (X.2.1)⟩])
theorem Zq3:bj pG Zsw:=oT (.cons Zm6 (.cons Sq (.cons Zf9 (.cons Z0q (.cons Qxf (.cons Znd (.cons Zjo (.cons Zbo (.nil))))))))) Tryz.func137 Tryz.call137 [.row 25 1 (.ints .u32)] [] 2
end
noncomputable section
def Kl:List UInt8:=[(0:UInt8),1,2,2,3,3,3,3,4,4,4,4,4,4,4,4,5,5,5,5,5,5,5,5,5,5,5,5,5,5,5,5,6,6,6,6,6,6,6,6,6,6,6,6,6,6,6,6,6,6,6,6,6,6,6,6,6,6,6,6,6,6,6,6]
def Sr:List UInt8:=[(7:UInt8),7,7,7,7,7,7,7,7,7,7,7,7,7,7,7,7,7,7,7,7,7,7,7,7,7,7,7,7,7,7,7,7,7,7,7,7,7,7,7,7,7,7,7,7,7,7,7,7,7,7,7,7,7,7,7,7,7,7,7,7,7,7,7]
def Ej:List UInt8:=[(8:UInt8),8,8,8,8,8,8,8,8,8,8,8,8,8,8,8,8,8,8,8,8,8,8,8,8,8,8,8,8,8,8,8,8,8,8,8,8,8,8,8,8,8,8,8,8,8,8,8,8,8,8,8,8,8,8,8,8,8,8,8,8,8,8,8]
def VU:List UInt8:=[(1:UInt8),2,2,3,3,3,3,4,4,4,4,4,4,4,4,5,5,5,5,5,5,5,5,5,5,5,5,5,5,5,5,6,6,6,6,6,6,6,6,6,6,6,6,6,6,6,6,6,6,6,6,6,6,6,6,6,6,6,6,6,6,6,6]
def Km:List UInt8:=[(0:UInt8),1,1,2,1,2,2,3,1,2,2,3,2,3,3,4,1,2,2,3,2,3,3,4,2,3,3,4,3,4,4,5,1,2,2,3,2,3,3,4,2,3,3,4,3,4,4,5,2,3,3,4,3,4,4,5,3,4,4,5,4,5,5,6]
def Ek:List UInt8:=[(1:UInt8),2,2,3,2,3,3,4,2,3,3,4,3,4,4,5,2,3,3,4,3,4,4,5,3,4,4,5,4,5,5,6,2,3,3,4,3,4,4,5,3,4,4,5,4,5,5,6,3,4,4,5,4,5,5,6,4,5,5,6,5,6,6,7]
def Ss:List UInt8:=[(2:UInt8),3,3,4,3,4,4,5,3,4,4,5,4,5,5,6,3,4,4,5,4,5,5,6,4,5,5,6,5,6,6,7,3,4,4,5,4,5,5,6,4,5,5,6,5,6,6,7,4,5,5,6,5,6,6,7,5,6,6,7,6,7,7,8]
def VV:List UInt8:=[(1:UInt8),1,2,1,2,2,3,1,2,2,3,2,3,3,4,1,2,2,3,2,3,3,4,2,3,3,4,3,4,4,5,1,2,2,3,2,3,3,4,2,3,3,4,3,4,4,5,2,3,3,4,3,4,4,5,3,4,4,5,4,5,5,6]
def Qzc(c:iV):Tree Bool:=
.lf (decide ((c.D9.length:Int)<=(16:Int)))
def AV c:=(Qzc c).m
def Zgn:bb:=mS 151 [] true [.agg iV.sig] [] (λa r=>Qzc (iV.of (aC a 0))) (λX=>.bool X) (λX=>[])
theorem Zca:bj pG Zgn:=oS (.nil) Tryz.func151 Tryz.call151 [] [] 2
def Tz(t:jc):Tree Bool:=
.br t.F1 (.br (!t.E0) (.lf (t.D3 !=0)) (.lf false)) (.br t.E0 (.lf true) (.lf (t.D3==0)))
def AW t:=(Tz t).m
def Zo1:bb:=mS 152 [] true [.agg jc.sig] [] (λa r=>Tz (jc.of (aC a 0))) (λX=>.bool X) (λX=>[])
theorem Zky:bj pG Zo1:=oS (.nil) Tryz.func152 Tryz.call152 [] [] 2
def Oc(d0:gh):Tree Bool:=
.br (d0.F5==1) (.lf (decide (d0.C7=[]))) (.br (d0.F5==2) (.lf ((d0.C7.length:Int)==(128:Int))) (.lf false))
def Tx d0:=(Oc d0).m
def Z17:bb:=mS 208 [] true [.agg gh.sig] [] (λa r=>Oc (gh.of (aC a 0))) (λX=>.bool X) (λX=>[])
theorem Qzk:bj pG Z17:=oS (.nil) Tryz.func208 Tryz.call208 [] [] 2
def EF(d0:gh)(bc:Int):Tree Bool:=
.br (decide (d0.ab>64)) (.lf false) (let T1:Tree (Bool):=.br (d0.F5==0) (.br (d0.C5==0) (.br (d0.C6==0) (.lf (decide (d0.C7=[]))) (.lf false)) (.lf false)) (.lf false);.br (d0.C9==0) T1 (.br (d0.C9==2) T1 (.br (d0.C9==3) T1 (.br (d0.C9==1) (.lv (Tx d0) λ(x0:Bool)=>.br x0 (.br (decide (d0.C5<d0.ab)) (.lf (decide (wrap i64 d0.C6<bc))) (.lf false)) (.lf false)) (.lf false)))))
def ra d0 bc:=(EF d0 bc).m
def Zt4:bb:=mS 153 [] true [.agg gh.sig,.one (.int .i64)] [] (λa r=>EF (gh.of (aC a 0)) (au a 1)) (λX=>.bool X) (λX=>[])
theorem Zos:bj pG Zt4:=oS (.cons Qzk (.nil)) Tryz.func153 Tryz.call153 [] [] 2
def Od(n:ik)(bc:Int):Tree Bool:=
let T1:Tree (Bool):=let T2:Tree (Bool):=.br n.C4 (.br (decide (n.F9>=1)) (.lf (decide (n.F9<=128))) (.lf false)) (.lf (n.F9==0));.br n.D1 (.br (decide (wrap i64 n.D2>=bc)) (.lf false) T2) (.br (n.D2 !=0) (.lf false) T2);.br n.D1 (.br n.C4 (.lf false) T1) T1
def wy n bc:=(Od n bc).m
def yD:bb:=mS 154 [] true [.agg ik.sig,.one (.int .i64)] [] (λa r=>Od (ik.of (aC a 0)) (au a 1)) (λX=>.bool X) (λX=>[])
theorem Zv1:bj pG yD:=oS (.nil) Tryz.func154 Tryz.call154 [] [] 2
def DL(x:Int):Tree Int:=
let E1:=(↑(dF (cP (cP Kl Sr) (cP Ej Ej))):Int);.br (decide (x>=65536)) (.br (decide (bm u32 x (16:Int)>=(256:Int))) (.cn (decide (0<=wrap u8 (bm u32 (bm u32 x 16) 8)/\wrap u8 (bm u32 (bm u32 x 16) 8)<E1)) (.lf (wrap i64 (wrap i64 ((16:Int)+(8:Int))+wrap i64 (↑(iB (aV ((0:UInt8)::(VU++Sr++(Ej++Ej))) (dA (wrap u8 (bm u32 (bm u32 x 16) 8))) (0:UInt8))):Int))))) (.cn (decide (0<=wrap u8 (bm u32 x 16)/\wrap u8 (bm u32 x 16)<E1)) (.lf (wrap i64 (16+wrap i64 (↑(iB (aV ((0:UInt8)::(VU++Sr++(Ej++Ej))) (dA (wrap u8 (bm u32 x 16))) (0:UInt8))):Int)))))) (.br (decide (x>=256)) (.cn (decide (0<=wrap u8 (bm u32 x 8)/\wrap u8 (bm u32 x 8)<E1)) (.lf (wrap i64 (wrap i64 ((0:Int)+(8:Int))+wrap i64 (↑(iB (aV ((0:UInt8)::(VU++Sr++(Ej++Ej))) (dA (wrap u8 (bm u32 x 8))) (0:UInt8))):Int))))) (.cn (decide (0<=wrap u8 x/\wrap u8 x<E1)) (.lf (wrap i64 (0+wrap i64 (↑(iB (aV ((0:UInt8)::(VU++Sr++(Ej++Ej))) (dA (wrap u8 x)) (0:UInt8))):Int))))))
def wz x:=(DL x).m
abbrev Qlp x:=(DL x).p
def Z14:bb:=mT 209 [] true [.one (.int .u32)] [] (λa r=>DL (au a 0)) (λX=>.int .i64 X) (λX=>[])
theorem Qyt:bj pG Z14:=oT (.nil) Tryz.func209 Tryz.call209 [] [] 2
def IQ(b:gx)(bc:Int):Tree Bool:=
.an (Qlp b.D0) (.lv (wz b.D0) λ(x0:Int)=>.lf (decide (x0<=if 0>bc then 0 else bc)))
def AX b bc:=(IQ b bc).m
abbrev Qju b bc:=(IQ b bc).p
def Zfr:bb:=mT 155 [] true [.agg gx.sig,.one (.int .i64)] [] (λa r=>IQ (gx.of (aC a 0)) (au a 1)) (λX=>.bool X) (λX=>[])
theorem Zcn:bj pG Zfr:=oT (.cons Qyt (.nil)) Tryz.func155 Tryz.call155 [] [] 2
def GH(m:bg):Tree Bool:=
.lv (jP m.Mem) λ(x0:Int)=>.lv (AV m.B1) λ(x1:Bool)=>.br x1 (.lv (AW m.B8) λ(x2:Bool)=>.br x2 (.lv (ra m.B7 x0) λ(x3:Bool)=>.br x3 (.lv (wy m.D4 x0) λ(x4:Bool)=>.br x4 (.an (Qju m.A6 x0) (.lv (AX m.A6 x0) λ(x5:Bool)=>.lf x5)) (.lf false)) (.lf false)) (.lf false)) (.lf false)
def wx m:=(GH m).m
abbrev VP m:=(GH m).p
def Qut:bb:=mT 115 [] true [.agg bg.sig] [] (λa r=>GH (bg.of (aC a 0))) (λX=>.bool X) (λX=>[])
theorem Qs3:bj pG Qut:=oT (.cons Br (.cons Zca (.cons Zky (.cons Zos (.cons Zv1 (.cons Zcn (.nil))))))) Tryz.func115 Tryz.call115 [] [] 2
def J8(m:bg):Tree Bool:=
.lv (jP m.Mem) λ(x0:Int)=>.br (x0==0) (.lf false) (.br (m.B4.X.a0 !=0) (.lf false) (.br (decide (m.B4.C3.a0>31)) (.lf false) (.br (decide (m.B4.C3.a7>31)) (.lf false) (.br (decide (m.B4.C3.a6>255)) (.lf false) (.br (cZ m.B4.C3.a1 (4:Int) !=(0:Int)) (.lf false) (.br (decide (m.B6>1152921504606846976)) (.lf false) (.br m.B2 (.br m.B5 (.lf false) (.an (VP m) (.lv (wx m) λ(x1:Bool)=>.lf x1))) (.an (VP m) (.lv (wx m) λ(x2:Bool)=>.lf x2)))))))))
def AY m:=(J8 m).m
abbrev VO m:=(J8 m).p
def Zie:bb:=mT 68 [] true [.agg bg.sig] [] (λa r=>J8 (bg.of (aC a 0))) (λX=>.bool X) (λX=>[])
theorem Qvn:bj pG Zie:=oT (.cons Br (.cons Qs3 (.nil))) Tryz.func68 Tryz.call68 [] [] 2
def Qss(t:jc):Tree Bool:=
.lf t.E0
def Yk t:=(Qss t).m
def Z6:bb:=mS 266 [] true [.agg jc.sig] [] (λa r=>Qss (jc.of (aC a 0))) (λX=>.bool X) (λX=>[])
theorem Z4b:bj pG Z6:=oS (.nil) Tryz.func266 Tryz.call266 [] [] 2
def Qnu(c:iV):Tree Bool:=
.lf (!decide (c.D9=[]))
def T9 c:=(Qnu c).m
def Z1t:bb:=mS 267 [] true [.agg iV.sig] [] (λa r=>Qnu (iV.of (aC a 0))) (λX=>.bool X) (λX=>[])
theorem Qyo:bj pG Z1t:=oS (.nil) Tryz.func267 Tryz.call267 [] [] 2
def Xo(d0:gh):Tree Bool:=
.br (d0.C9==2) (.lf true) (.lf (d0.C9==3))
def Li d0:=(Xo d0).m
def Zaz:bb:=mS 251 [] true [.agg gh.sig] [] (λa r=>Xo (gh.of (aC a 0))) (λX=>.bool X) (λX=>[])
theorem Qrm:bj pG Zaz:=oS (.nil) Tryz.func251 Tryz.call251 [] [] 2
def Qy8(n:ik):Tree Bool:=
.lf n.C4
def Yl n:=(Qy8 n).m
def Zhm:bb:=mS 268 [] true [.agg ik.sig] [] (λa r=>Qy8 (ik.of (aC a 0))) (λX=>.bool X) (λX=>[])
theorem Zax:bj pG Zhm:=oS (.nil) Tryz.func268 Tryz.call268 [] [] 2
def RX(x:Int):Tree Int:=
let E1:=(↑(dF (cP (cP Km Ek) (cP Ek Ss))):Int);.cn (decide (0<=bm u32 x 24/\bm u32 x 24<E1)) (.cn (decide (0<=bh u32 (bm u32 x 16) 255/\bh u32 (bm u32 x 16) 255<E1)) (.cn (decide (0<=bh u32 (bm u32 x 8) 255/\bh u32 (bm u32 x 8) 255<E1)) (.cn (decide (0<=bh u32 x 255/\bh u32 x 255<E1)) (.lf (wrap i64 (wrap u8 (wrap u8 (wrap u8 ((↑(iB (aV ((0:UInt8)::(VV++Ek++(Ek++Ss))) (dA (bm u32 x 24)) (0:UInt8))):Int)+(↑(iB (aV ((0:UInt8)::(VV++Ek++(Ek++Ss))) (dA (bh u32 (bm u32 x 16) 255)) (0:UInt8))):Int))+(↑(iB (aV ((0:UInt8)::(VV++Ek++(Ek++Ss))) (dA (bh u32 (bm u32 x 8) 255)) (0:UInt8))):Int))+(↑(iB (aV ((0:UInt8)::(VV++Ek++(Ek++Ss))) (dA (bh u32 x 255)) (0:UInt8))):Int))))))))
def Yc x:=(RX x).m
abbrev Qcd x:=(RX x).p
def Qov:bb:=mT 279 [] true [.one (.int .u32)] [] (λa r=>RX (au a 0)) (λX=>.int .i64 X) (λX=>[])
theorem Qnq:bj pG Qov:=oT (.nil) Tryz.func279 Tryz.call279 [] [] 2
def RY(b:gx):Tree Int:=
.an (Qcd b.D0) (.lv (Yc b.D0) λ(x0:Int)=>.lf x0)
def Ub b:=(RY b).m
abbrev Qfv b:=(RY b).p
def Z67:bb:=mT 249 [] true [.agg gx.sig] [] (λa r=>RY (gx.of (aC a 0))) (λX=>.int .i64 X) (λX=>[])
theorem Qql:bj pG Z67:=oT (.cons Qnq (.nil)) Tryz.func249 Tryz.call249 [] [] 2
def LX(b:gx):Tree Bool:=
.an (Qfv b) (.lv (Ub b) λ(x0:Int)=>.lf (wrap u32 x0 !=b.A2))
def OQ b:=(LX b).m
abbrev Qln b:=(LX b).p
def Z1p:bb:=mT 269 [] true [.agg gx.sig] [] (λa r=>LX (gx.of (aC a 0))) (λX=>.bool X) (λX=>[])
theorem Qyq:bj pG Z1p:=oT (.cons Qql (.nil)) Tryz.func269 Tryz.call269 [] [] 2
def Qkd(m:bg)(z:(Int)×(Int)):Nat:=(5-z.2).toNat
def L1(m:bg):Tree Int:=
.lv (Yk m.B8) λ(x0:Bool)=>.lv (T9 m.B1) λ(x1:Bool)=>.lv (Li m.B7) λ(x2:Bool)=>.lv (Yl m.D4) λ(x3:Bool)=>.an (Qln m.A6) (.lv (OQ m.A6) λ(x4:Bool)=>.lp inferInstance (Qkd m (0,0)+1) ((rE (0:Int)/\(rE (x0:Bool)/\rE (x1:Bool)/\rE (x2:Bool)/\rE (x3:Bool)/\rE (x4:Bool)/\True)/\rE (0:Int)/\True)/\True) (0,0) λ(v0:Int×Int)=>.br (decide (v0.2<5)) (.cn (bX 1 1&&(bX 5 5&&decide (0<=v0.2/\v0.2<(↑5:Int)))) (.br (aV [x0,x1,x2,x3,x4] v0.2.toNat false) (.cn (decide (0<=v0.2)) (.nx ((rE ((iN u32 v0.1 (ep u32 1 v0.2)):Int)/\(rE (x0:Bool)/\rE (x1:Bool)/\rE (x2:Bool)/\rE (x3:Bool)/\rE (x4:Bool)/\True)/\rE ((wrap i64 (v0.2+1)):Int)/\True)/\True) (Sum.inl (iN u32 v0.1 (ep u32 1 v0.2),wrap i64 (v0.2+1))))) (.nx ((rE v0.1/\(rE (x0:Bool)/\rE (x1:Bool)/\rE (x2:Bool)/\rE (x3:Bool)/\rE (x4:Bool)/\True)/\rE ((wrap i64 (v0.2+1)):Int)/\True)/\True) (Sum.inl (v0.1,wrap i64 (v0.2+1)))))) (.lf (Sum.inr v0.1)))
def Ug m:=(L1 m).m
abbrev Qoo m:=(L1 m).p
def Z58:bu:={
 α:=(Int)×(Int)
 F:=λst a=>([(4,.int u32 a.1),(23,(lk st 23)),(24,.int i64 a.2)],[])
 a0:=λst=>((lk st 4).toInt,(lk st 24).toInt)
 iZ:=λst=>[]++[]}
def Qxp:List (Nat×bu):=[(4,Z58)]
def Z9o:bb:=mT 234 [] true [.agg bg.sig] [] (λa r=>L1 (bg.of (aC a 0))) (λX=>.int .u32 X) (λX=>[])
theorem Z4k:bj pG Z9o:=oT (.cons Z4b (.cons Qyo (.cons Qrm (.cons Zax (.cons Qyq (.nil)))))) Tryz.func234 Tryz.call234 [] Qxp 3
def L3(m:bg):Tree Int:=
.an (Qoo m) (.lv (Ug m) λ(x0:Int)=>.lf (bh u32 x0 m.B4.C3.a7))
def L2 m:=(L3 m).m
abbrev Qd8 m:=(L3 m).p
def Z1u:bb:=mT 186 [] true [.agg bg.sig] [] (λa r=>L3 (bg.of (aC a 0))) (λX=>.int .u32 X) (λX=>[])
theorem Qmj:bj pG Z1u:=oT (.cons Z4k (.nil)) Tryz.func186 Tryz.call186 [] [] 2
def L5(m:bg):Tree Bool:=
.br m.B2 (.an (Qd8 m) (.lv (L2 m) λ(x0:Int)=>.lf (x0==0))) (.lf false)
def TG m:=(L5 m).m
abbrev Qqw m:=(L5 m).p
def Zcm:bb:=mT 185 [] true [.agg bg.sig] [] (λa r=>L5 (bg.of (aC a 0))) (λX=>.bool X) (λX=>[])
theorem Z72:bj pG Zcm:=oT (.cons Qmj (.nil)) Tryz.func185 Tryz.call185 [] [] 2

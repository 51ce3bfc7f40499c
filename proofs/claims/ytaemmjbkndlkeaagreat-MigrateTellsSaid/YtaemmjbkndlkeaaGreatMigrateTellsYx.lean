import Derived.Test.YtaemmjbkndlkeaaGreatMigrateTellsBase
open Int renaming tmod->cZ,tdiv->eN,toNat->dA
open Nat renaming beq->bX,blt->bN
open List renaming set->dB,getD->aV,length->dF,append->cP
open UInt8 renaming toNat->eQ
set_option maxRecDepth 100000
set_option linter.all false
namespace Go.Proofs.YtaemmjbkndlkeaaGreat
open Go Go.GD Go.IntKind
noncomputable section
def kU(s:List Int):(List Int):=
s
def oB(s:List Int):Prop:=
s.length<=35184372088832
def Q4t(s:List Int):List D:=[.sl 1 (.ints .u32 s) false]
def XC(s:List Int):List Row:=[]
def N0(X:List Int):D:=.all 0
def N1(X:List Int):List Row:=[⟨false,25,1,.ints .u32 X⟩]
def Qhp:List nh:=[.row 25 1 (.ints .u32)]
def Q8w:List PT:=[.one (.ints .u32)]
def Q8l:List RT:=[]
def Qir(args:List D)(rows:List Row):(List Int):=kU (c9 .u32 args 0)
def Qiy(args:List D)(rows:List Row):Prop:=oB (c9 .u32 args 0)
def Qkr:bd:=lj 114 [] true Q8w Q8l Qiy Qir N0 N1
def Q5y(s:List Int)(jt:(List Int)->Prop):Prop:=
(s=[]->jt [])/\cy (decide ((4:Nat)*((0:Nat)+s.length)<=(140737488355328:Nat))) (jt s)
set_option maxRecDepth 100000 in
theorem Qk5(s:List Int)(Q:D->List Row->Prop):(ky kb [] (LL kb [] Tryz.f114.ntmps 0 [] 2) Tryz.f114 (Q4t s) (XC s) λd R=>ow (XC s).length Qhp d R Q)=Q5y s (λX=>Q (N0 X) (N1 X)):=by kernel_rfl
theorem Qh6(s:List Int)(jt:(List Int)->Prop)(hw:oB s)(h:jt (kU s)):
Q5y s jt:=by
 delta Q5y
 refine⟨λe=>by rw[e]at h;exact h,?_⟩
 rw[de]
 refine⟨dY ?_,h⟩
 have:s.length<=35184372088832:=hw
 omega
set_option maxRecDepth 100000 in
theorem Qgp(s:List Int)(hw:oB s):kM pG 114 (Q4t s) (XC s) (N0 (kU s)) (N1 (kU s)):=
 have hG:jU pG []:=.nil
 mF.calls drawn jL hG Tryz.func114 (rf:=none) (λ_ _=>trivial) (Ho drawn jL hG (.inl rfl) 2 (fx:=[])) (mF.of (Qk5 s _) (Qh6 s (λX=>N0 X=N0 (kU s)/\N1 X=N1 (kU s)) hw ⟨rfl,rfl⟩))
set_option maxRecDepth 100000 in
theorem Qhn(args:List D)(rows:List Row):lN Q8w args 0=Q4t (c9 .u32 args 0):=by kernel_rfl
set_option maxRecDepth 100000 in
theorem Qgn(args:List D)(rows:List Row):kR Q8l rows 0=XC (c9 .u32 args 0):=by kernel_rfl
set_option maxRecDepth 100000 in
theorem Qk6(X:List Int):(ue (N0 X)&&jP (N1 X))=true:=by kernel_rfl
theorem Li:bu pG Qkr:=GR Tryz.call114 (λargs rows hp=>by rw[Qhn args rows,Qgn args rows];exact Qgp (c9 .u32 args 0) hp) (λ_ X=>Qk6 X)
def Hx(m:List Int):Tree Int:=
.br (cZ (m.length:Int) (32:Int) !=(0:Int)) (.lf 0) (.br (decide ((m.length:Int)>(1024:Int))) (.lf 0) (.lf (wrap i64 (eN (m.length:Int) 32))))
def jX m:=(Hx m).m
def Zg7:bd:=mS 70 [] true [.one (.ints .u32)] [] (λa r=>Hx (c9 .u32 a 0)) (λX=>.int .i64 X) (λX=>[])
theorem Cg:bu pG Zg7:=oS (.nil) Tryz.func70 Tryz.call70 [] [] 2
def JY(m:List Int)(addr size:Int):Tree Bool:=
let T1:Tree (Bool):=.cn (decide (wrap u32 size≠0)) (.br (cZ addr (wrap u32 size) !=0) (.lf false) (.lv (jX m) λ(x0:Int)=>.lf (decide (wrap u64 (wrap u64 addr+wrap u64 size)<=wrap u64 (wrap u64 x0*128)))));.br (size !=1) (.br (size !=4) (.lf false) T1) T1
def Qkp m addr size:=(JY m addr size).m
abbrev Qhd m addr size:=(JY m addr size).p
def Zay:bd:=mT 273 [] true [.one (.ints .u32),.one (.int .u32),.one (.int .i64)] [] (λa r=>JY (c9 .u32 a 0) (au a 1) (au a 2)) (λX=>.bool X) (λX=>[])
theorem Qt1:bu pG Zay:=oT (.cons Cg (.nil)) Tryz.func273 Tryz.call273 [] [] 2
def Tf(n:Int):Tree Int:=
.br (decide (n>=32)) (.lf 4294967295) (.cn (decide (0<=wrap u64 n)) (.lf (wrap u32 (ei u32 1 (wrap u64 n)-1))))
def Zcr n:=(Tf n).m
abbrev Qs n:=(Tf n).p
def Ztr:bd:=mT 274 [] true [.one (.int .i64)] [] (λa r=>Tf (au a 0)) (λX=>.int .u32 X) (λX=>[])
theorem Z6j:bu pG Ztr:=oT (.nil) Tryz.func274 Tryz.call274 [] [] 2
def Tg(w low n:Int):Tree Int:=
.br (decide (low<0)) (.lf 0) (.br (decide (low>31)) (.lf 0) (.br (decide (n<1)) (.lf 0) (.cn (decide (0<=wrap u64 low)) (.an (Qs n) (.lv (Zcr n) λ(x0:Int)=>.lf (bm u32 (bn u32 w (wrap u64 low)) x0))))))
def uw w low n:=(Tg w low n).m
abbrev N2 w low n:=(Tg w low n).p
def Zoj:bd:=mT 238 [] true [.one (.int .u32),.one (.int .i64),.one (.int .i64)] [] (λa r=>Tg (au a 0) (au a 1) (au a 2)) (λX=>.int .u32 X) (λX=>[])
theorem Qrd:bu pG Zoj:=oT (.cons Z6j (.nil)) Tryz.func238 Tryz.call238 [] [] 2
def Th(w low n v:Int):Tree Int:=
.br (decide (low<0)) (.lf w) (.br (decide (low>31)) (.lf w) (.br (decide (n<1)) (.lf w) (.an (Qs n) (.lv (Zcr n) λ(x0:Int)=>.cn (decide (0<=wrap u64 low)) (.cn (decide (0<=wrap u64 low)) (.lf (ja u32 (oA u32 w (ei u32 x0 (wrap u64 low))) (ei u32 (bm u32 v x0) (wrap u64 low)))))))))
def MA w low n v:=(Th w low n v).m
abbrev Qq7 w low n v:=(Th w low n v).p
def Zb1:bd:=mT 276 [] true [.one (.int .u32),.one (.int .i64),.one (.int .i64),.one (.int .u32)] [] (λa r=>Th (au a 0) (au a 1) (au a 2) (au a 3)) (λX=>.int .u32 X) (λX=>[])
theorem Z77:bu pG Zb1:=oT (.cons Z6j (.nil)) Tryz.func276 Tryz.call276 [] [] 2
def MD(m:List Int)(addr size v:Int):Tree ((List Int)×Bool):=
.an (oB m) (.lv (kU m) λ(x0:List Int)=>.an (Qhd m addr size) (.lv (Qkp m addr size) λ(x1:Bool)=>.br (!x1) (.lf (x0,false)) (let E1:=bX 1 1&&bN 0 1&&decide (0<=wrap u32 (eN addr 4)/\wrap u32 (eN addr 4)<(x0.length:Int));let E2:=dA (wrap u32 (eN addr 4));.br (size==1) (.cn E1 (let E3:=wrap i64 (wrap i64 (cZ addr 4)*8);.an (Qq7 (x0.getD E2 0) E3 8 v) (.lv (MA (x0.getD E2 0) E3 8 v) λ(x2:Int)=>.cn E1 (.lf (dB x0 E2 x2,true))))) (.cn E1 (.lf (dB x0 E2 v,true))))))
def MC m addr size v:=(MD m addr size v).m
abbrev Qdy m addr size v:=(MD m addr size v).p
def Zfb:bd:=mT 244 [] true [.one (.ints .u32),.one (.int .u32),.one (.int .i64),.one (.int .u32)] [] (λa r=>MD (c9 .u32 a 0) (au a 1) (au a 2) (au a 3)) (λX=>.dw [.all 0,.bool (X.2)]) (λX=>[⟨false,25,1,.ints .u32 (X.1)⟩])
theorem Qvv:bu pG Zfb:=oT (.cons Li (.cons Qt1 (.cons Z77 (.nil)))) Tryz.func244 Tryz.call244 [.row 25 1 (.ints .u32)] [] 2
def Zot(op:Int):Tree (AQ×Bool):=
.br (op==1) (.lf ({a:=true,b:=true,c:=true,low:=0,F6:=0},true)) (.br (op==2) (.lf ({a:=true,b:=true,c:=true,low:=0,F6:=0},true)) (.br (op==3) (.lf ({a:=true,b:=true,c:=true,low:=0,F6:=0},true)) (.br (op==4) (.lf ({a:=true,b:=true,c:=true,low:=0,F6:=0},true)) (.br (op==5) (.lf ({a:=true,b:=true,c:=true,low:=0,F6:=0},true)) (.br (op==6) (.lf ({a:=true,b:=true,c:=true,low:=0,F6:=0},true)) (.br (op==7) (.lf ({a:=true,b:=true,c:=true,low:=0,F6:=0},true)) (.br (op==8) (.lf ({a:=true,b:=true,c:=true,low:=0,F6:=0},true)) (.br (op==9) (.lf ({a:=true,b:=true,c:=true,low:=0,F6:=0},true)) (.br (op==10) (.lf ({a:=true,b:=true,c:=true,low:=0,F6:=0},true)) (.br (op==11) (.lf ({a:=true,b:=true,c:=true,low:=0,F6:=0},true)) (.br (op==12) (.lf ({a:=true,b:=true,c:=true,low:=0,F6:=0},true)) (.br (op==13) (.lf ({a:=true,b:=true,c:=true,low:=0,F6:=0},true)) (.br (op==16) (.lf ({a:=true,b:=true,c:=false,low:=(-32768),F6:=32767},true)) (.br (op==23) (.lf ({a:=true,b:=true,c:=false,low:=(-32768),F6:=32767},true)) (.br (op==32) (.lf ({a:=true,b:=true,c:=false,low:=(-32768),F6:=32767},true)) (.br (op==33) (.lf ({a:=true,b:=true,c:=false,low:=(-32768),F6:=32767},true)) (.br (op==34) (.lf ({a:=true,b:=true,c:=false,low:=(-32768),F6:=32767},true)) (.br (op==35) (.lf ({a:=true,b:=true,c:=false,low:=(-32768),F6:=32767},true)) (.br (op==36) (.lf ({a:=true,b:=true,c:=false,low:=(-32768),F6:=32767},true)) (.br (op==40) (.lf ({a:=true,b:=true,c:=false,low:=(-32768),F6:=32767},true)) (.br (op==41) (.lf ({a:=true,b:=true,c:=false,low:=(-32768),F6:=32767},true)) (.br (op==42) (.lf ({a:=true,b:=true,c:=false,low:=(-32768),F6:=32767},true)) (.br (op==43) (.lf ({a:=true,b:=true,c:=false,low:=(-32768),F6:=32767},true)) (.br (op==44) (.lf ({a:=true,b:=true,c:=false,low:=(-32768),F6:=32767},true)) (.br (op==45) (.lf ({a:=true,b:=true,c:=false,low:=(-32768),F6:=32767},true)) (.br (op==49) (.lf ({a:=true,b:=true,c:=false,low:=(-32768),F6:=32767},true)) (.br (op==17) (.lf ({a:=true,b:=true,c:=false,low:=0,F6:=65535},true)) (.br (op==18) (.lf ({a:=true,b:=true,c:=false,low:=0,F6:=65535},true)) (.br (op==19) (.lf ({a:=true,b:=true,c:=false,low:=0,F6:=65535},true)) (.br (op==20) (.lf ({a:=true,b:=true,c:=false,low:=0,F6:=31},true)) (.br (op==21) (.lf ({a:=true,b:=true,c:=false,low:=0,F6:=31},true)) (.br (op==22) (.lf ({a:=true,b:=true,c:=false,low:=0,F6:=31},true)) (.br (op==24) (.lf ({a:=true,b:=false,c:=false,low:=0,F6:=65535},true)) (.br (op==48) (.lf ({a:=true,b:=false,c:=false,low:=(-32768),F6:=32767},true)) (.br (op==58) (.lf ({a:=true,b:=false,c:=false,low:=0,F6:=7},true)) (.br (op==59) (.lf ({a:=true,b:=false,c:=false,low:=0,F6:=7},true)) (.br (op==60) (.lf ({a:=true,b:=false,c:=false,low:=0,F6:=11},true)) (.br (op==61) (.lf ({a:=true,b:=false,c:=false,low:=0,F6:=11},true)) (.br (op==56) (.lf ({a:=false,b:=false,c:=false,low:=0,F6:=0},true)) (.br (op==57) (.lf ({a:=false,b:=false,c:=false,low:=0,F6:=0},true)) (.br (op==62) (.lf ({a:=false,b:=false,c:=false,low:=0,F6:=0},true)) (.br (op==63) (.lf ({a:=false,b:=false,c:=false,low:=0,F6:=0},true)) (.br (op==64) (.lf ({a:=false,b:=false,c:=false,low:=0,F6:=0},true)) (.lf ({a:=false,b:=false,c:=false,low:=0,F6:=0},false)))))))))))))))))))))))))))))))))))))))))))))
def Vk op:=(Zot op).m
def yD:bd:=mS 239 [] true [.one (.int .i64)] [] (λa r=>Zot (au a 0)) (λX=>.dw [.agg (AQ.cells (X.1)),.bool (X.2)]) (λX=>[])
theorem Zio:bu pG yD:=oS (.nil) Tryz.func239 Tryz.call239 [] [] 2
def Ti(x n:Int):Tree Int:=
.br (decide (n<1)) (.lf 0) (.br (decide (n>=32)) (.lf x) (let E1:=decide (0<=wrap u64 (wrap i64 (32-n)));.cn E1 (.cn E1 (.lf (wrap u32 (bn i32 (wrap i32 (ei u32 x (wrap u64 (wrap i64 (32-n))))) (wrap u64 (wrap i64 (32-n)))))))))
def EL x n:=(Ti x n).m
abbrev Qe5 x n:=(Ti x n).p
def Z4u:bd:=mT 240 [] true [.one (.int .u32),.one (.int .i64)] [] (λa r=>Ti (au a 0) (au a 1)) (λX=>.int .u32 X) (λX=>[])
theorem Qoa:bu pG Z4u:=oT (.nil) Tryz.func240 Tryz.call240 [] [] 2
def Vl(r:Int)(used:Bool):Tree Bool:=
.br used (.br (decide (r>=0)) (.lf (decide (r<=15))) (.lf false)) (.lf (r==0))
def Mw r used:=(Vl r used).m
def Zfq:bd:=mS 275 [] true [.one (.int .i64),.one (.bool)] [] (λa r=>Vl (au a 0) (kZ a 1)) (λX=>.bool X) (λX=>[])
theorem Zcc:bu pG Zfq:=oS (.nil) Tryz.func275 Tryz.call275 [] [] 2
def Px(i:ig):Tree Bool:=
.lv (Vk i.Op) λ(x0:AQ×Bool)=>.br x0.2 (.lv (Mw i.A x0.1.a) λ(x1:Bool)=>.br x1 (.lv (Mw i.B x0.1.b) λ(x2:Bool)=>.br x2 (.lv (Mw i.C x0.1.c) λ(x3:Bool)=>.br x3 (.br (decide (i.cv>=x0.1.low)) (.lf (decide (i.cv<=x0.1.F6))) (.lf false)) (.lf false)) (.lf false)) (.lf false)) (.lf false)
def JU i:=(Px i).m
def Zt9:bd:=mS 241 [] true [.agg ig.sig] [] (λa r=>Px (ig.of (aC a 0))) (λX=>.bool X) (λX=>[])
theorem Zqn:bu pG Zt9:=oS (.cons Zio (.cons Zcc (.nil))) Tryz.func241 Tryz.call241 [] [] 2
def My(w:Int):Tree (ig×Bool):=
.an (N2 w 24 8) (.lv (uw w 24 8) λ(x0:Int)=>.an (N2 w 20 4) (.lv (uw w 20 4) λ(x1:Int)=>.an (N2 w 16 4) (.lv (uw w 16 4) λ(x2:Int)=>.lv (Vk (wrap i64 x0)) λ(x3:AQ×Bool)=>let E1:=({Op:=0,A:=0,B:=0,C:=0,cv:=0}:ig);.br (!x3.2) (.lf (E1,false)) (.an (N2 w 0 16) (.lv (uw w 0 16) λ(x4:Int)=>.br x3.1.c (let E2:=({Op:=wrap i64 x0,A:=wrap i64 x1,B:=wrap i64 x2,C:=wrap i64 x4,cv:=0}:ig);.lv (JU E2) λ(x5:Bool)=>.br (!x5) (.lf (E1,false)) (.lf (E2,true))) (.br (decide (x3.1.low<0)) (.an (Qe5 x4 16) (.lv (EL x4 16) λ(x6:Int)=>let E3:=({Op:=wrap i64 x0,A:=wrap i64 x1,B:=wrap i64 x2,C:=0,cv:=wrap i32 x6}:ig);.lv (JU E3) λ(x7:Bool)=>.br (!x7) (.lf (E1,false)) (.lf (E3,true)))) (let E4:=({Op:=wrap i64 x0,A:=wrap i64 x1,B:=wrap i64 x2,C:=0,cv:=wrap i32 x4}:ig);.lv (JU E4) λ(x8:Bool)=>.br (!x8) (.lf (E1,false)) (.lf (E4,true)))))))))
def Pz w:=(My w).m
abbrev Qyp w:=(My w).p
def Zqf:bd:=mT 189 [] true [.one (.int .u32)] [] (λa r=>My (au a 0)) (λX=>.dw [.agg (ig.cells (X.1)),.bool (X.2)]) (λX=>[])
theorem Zmm:bu pG Zqf:=oT (.cons Qrd (.cons Zio (.cons Qoa (.cons Zqn (.nil))))) Tryz.func189 Tryz.call189 [] [] 2
def MJ(a b:Int):Tree (Int×Int):=
.br (b==0) (.lf (4294967295,a)) (let T1:Tree ((Int×Int)):=.cn (decide (wrap i32 b≠0)) (.cn (decide (wrap i32 b≠0)) (.lf (wrap u32 (wrap i32 (eN (wrap i32 a) (wrap i32 b))),wrap u32 (cZ (wrap i32 a) (wrap i32 b)))));.br (a==2147483648) (.br (b==4294967295) (.lf (a,0)) T1) T1)
def MH a b:=(MJ a b).m
abbrev Qmn a b:=(MJ a b).p
def Zky:bd:=mT 277 [] true [.one (.int .u32),.one (.int .u32)] [] (λa r=>MJ (au a 0) (au a 1)) (λX=>.dw [.int .u32 (X.1),.int .u32 (X.2)]) (λX=>[])
theorem Zf9:bu pG Zky:=oT (.nil) Tryz.func277 Tryz.call277 [] [] 2
def Zbg(b:Bool):Tree Int:=
.br b (.lf 1) (.lf 0)
def Xo b:=(Zbg b).m
def Zt7:bd:=mS 278 [] true [.one (.bool)] [] (λa r=>Zbg (kZ a 0)) (λX=>.int .u32 X) (λX=>[])
theorem Zn3:bu pG Zt7:=oS (.nil) Tryz.func278 Tryz.call278 [] [] 2
def Tl(op a b:Int):Tree (Int×Bool):=
.br (op==2) (.lf (wrap u32 (a+wrap u32 (0-b)),true)) (.br (op==1) (.lf (wrap u32 (a+b),true)) (.br (op==16) (.lf (wrap u32 (a+b),true)) (.br (op==3) (.lf (bm u32 a b,true)) (.br (op==17) (.lf (bm u32 a b,true)) (.br (op==4) (.lf (ja u32 a b,true)) (.br (op==18) (.lf (ja u32 a b,true)) (.br (op==5) (.lf (sn u32 a b,true)) (.br (op==19) (.lf (sn u32 a b,true)) (.br (op==6) (.lf (ei u32 a (bm u32 b 31),true)) (.br (op==20) (.lf (ei u32 a (bm u32 b 31),true)) (.br (op==7) (.lf (bn u32 a (bm u32 b 31),true)) (.br (op==21) (.lf (bn u32 a (bm u32 b 31),true)) (let E1:=(wrap u32 (bn i32 (wrap i32 a) (bm u32 b 31)),true);.br (op==8) (.lf E1) (.br (op==22) (.lf E1) (.br (op==9) (.lf (wrap u32 (a*b),true)) (.br (op==10) (.an (Qmn a b) (.lv (MH a b) λ(x0:Int×Int)=>.lf (x0.1,true))) (.br (op==11) (.an (Qmn a b) (.lv (MH a b) λ(x1:Int×Int)=>.lf (x1.2,true))) (.br (op==12) (.lv (Xo (decide (wrap i32 a<wrap i32 b))) λ(x2:Int)=>.lf (x2,true)) (.br (op==23) (.lv (Xo (decide (wrap i32 a<wrap i32 b))) λ(x3:Int)=>.lf (x3,true)) (.br (op==13) (.lv (Xo (decide (a<b))) λ(x4:Int)=>.lf (x4,true)) (.lf (0,false))))))))))))))))))))))
def om op a b:=(Tl op a b).m
abbrev Qzv op a b:=(Tl op a b).p
def vD:bd:=mT 248 [] true [.one (.int .i64),.one (.int .u32),.one (.int .u32)] [] (λa r=>Tl (au a 0) (au a 1) (au a 2)) (λX=>.dw [.int .u32 (X.1),.bool (X.2)]) (λX=>[])
theorem Zyh:bu pG vD:=oT (.cons Zf9 (.cons Zn3 (.nil))) Tryz.func248 Tryz.call248 [] [] 2
end
noncomputable section
def Xn(status Et to:Int):Tree Int:=
.br (bm u32 status Et !=0) (.lf (ja u32 status to)) (.lf (oA u32 status to))
def Be status Et to:=(Xn status Et to).m
def Zyk:bd:=mS 235 [] true [.one (.int .u32),.one (.int .u32),.one (.int .u32)] [] (λa r=>Xn (au a 0) (au a 1) (au a 2)) (λX=>.int .u32 X) (λX=>[])
theorem Zc0:bu pG Zyk:=oS (.nil) Tryz.func235 Tryz.call235 [] [] 2
def PH(c:cq)(pk bad:Int):Tree cq:=
.lv (Be c.C4.a0 1 8) λ(x0:Int)=>.lv (Be x0 2 16) λ(x1:Int)=>.lf ({X:=c.X,Pc:=c.C4.a1,C4:={a0:=oA u32 (ja u32 x1 1) 2,a1:=c.C4.a1,a2:=c.Pc,a3:=wrap u32 pk,a4:=bad,a5:=c.C4.a5,a6:=c.C4.a6,a7:=c.C4.a7}})
def r4 c pk bad:=(PH c pk bad).m
def Zy9:bd:=mS 187 [] true [.agg cq.sig,.one (.int .i64),.one (.int .u32)] [] (λa r=>PH (cq.of (aC a 0)) (au a 1) (au a 2)) (λX=>.agg (cq.cells X)) (λX=>[])
theorem TR:bu pG Zy9:=oS (.cons Zc0 (.nil)) Tryz.func187 Tryz.call187 [] [] 2
def Z21(access:Int):Tree (Int×Bool):=
.br (access==1) (.lf (4,true)) (.br (access==2) (.lf (5,true)) (.br (access==3) (.lf (6,true)) (.lf (5,false))))
def Qzz access:=(Z21 access).m
def Zlx:bd:=mS 270 [] true [.one (.int .i64)] [] (λa r=>Z21 (au a 0)) (λX=>.dw [.int .i64 (X.1),.bool (X.2)]) (λX=>[])
theorem Zeq:bu pG Zlx:=oS (.nil) Tryz.func270 Tryz.call270 [] [] 2
def Z5t(c:cq):Tree Bool:=
.lf (bm u32 c.C4.a0 (1:Int) !=(0:Int))
def JZ c:=(Z5t c).m
def Zpg:bd:=mS 191 [] true [.agg cq.sig] [] (λa r=>Z5t (cq.of (aC a 0))) (λX=>.bool X) (λX=>[])
theorem Z09:bu pG Zpg:=oS (.nil) Tryz.func191 Tryz.call191 [] [] 2
def Qte(access:Int):Tree (Int×Bool):=
.br (access==1) (.lf (4,true)) (.br (access==2) (.lf (5,true)) (.br (access==3) (.lf (6,true)) (.lf (5,false))))
def Qpb access:=(Qte access).m
def Z81:bd:=mS 289 [] true [.one (.int .i64)] [] (λa r=>Qte (au a 0)) (λX=>.dw [.int .i64 (X.1),.bool (X.2)]) (λX=>[])
theorem Z3e:bu pG Z81:=oS (.nil) Tryz.func289 Tryz.call289 [] [] 2
def Qmv(m:List Int)(frame:Int):Tree Bool:=
.lv (jX m) λ(x0:Int)=>.lf (decide (wrap u64 frame<wrap u64 x0))
def PE m frame:=(Qmv m frame).m
def Zdu:bd:=mS 290 [] true [.one (.ints .u32),.one (.int .u32)] [] (λa r=>Qmv (c9 .u32 a 0) (au a 1)) (λX=>.bool X) (λX=>[])
theorem Z7e:bu pG Zdu:=oS (.cons Cg (.nil)) Tryz.func290 Tryz.call290 [] [] 2
def MB(m:List Int)(addr size:Int):Tree (Int×Bool):=
.an (Qhd m addr size) (.lv (Qkp m addr size) λ(x0:Bool)=>.br (!x0) (.lf (0,false)) (.cn (bX 1 1&&bN 0 1&&decide (0<=wrap u32 (eN addr 4)/\wrap u32 (eN addr 4)<(m.length:Int))) (let E1:=dA (wrap u32 (eN addr 4));.br (size==1) (let E2:=wrap i64 (wrap i64 (cZ addr 4)*8);.an (N2 (m.getD E1 0) E2 8) (.lv (uw (m.getD E1 0) E2 8) λ(x1:Int)=>.lf (x1,true))) (.lf (m.getD E1 0,true)))))
def Db m addr size:=(MB m addr size).m
abbrev K1 m addr size:=(MB m addr size).p
def Zjq:bd:=mT 237 [] true [.one (.ints .u32),.one (.int .u32),.one (.int .i64)] [] (λa r=>MB (c9 .u32 a 0) (au a 1) (au a 2)) (λX=>.dw [.int .u32 (X.1),.bool (X.2)]) (λX=>[])
theorem TS:bu pG Zjq:=oT (.cons Qt1 (.cons Qrd (.nil))) Tryz.func237 Tryz.call237 [] [] 2
def Qt0(Ch access:Int):Tree Bool:=
.br (bm u32 Ch (1:Int)==(0:Int)) (.lf false) (.br (access==3) (.lf (bm u32 Ch (2:Int) !=(0:Int))) (.br (access==1) (.lf (bm u32 Ch (4:Int) !=(0:Int))) (.lf true)))
def Vs Ch access:=(Qt0 Ch access).m
def Z7t:bd:=mS 291 [] true [.one (.int .u32),.one (.int .i64)] [] (λa r=>Qt0 (au a 0) (au a 1)) (λX=>.bool X) (λX=>[])
theorem Z3n:bu pG Z7t:=oS (.nil) Tryz.func291 Tryz.call291 [] [] 2
def Tj(Ch:Int):Tree Int:=
.an (N2 Ch 8 8) (.lv (uw Ch 8 8) λ(x0:Int)=>.lf x0)
def Qi6 Ch:=(Tj Ch).m
abbrev Qfx Ch:=(Tj Ch).p
def Z7b:bd:=mT 292 [] true [.one (.int .u32)] [] (λa r=>Tj (au a 0)) (λX=>.int .u32 X) (λX=>[])
theorem Z53:bu pG Z7b:=oT (.cons Qrd (.nil)) Tryz.func292 Tryz.call292 [] [] 2
def ME(m:List Int)(root va access:Int):Tree sq:=
.lv (Qpb access) λ(x0:Int×Bool)=>let E1:=({Addr:=0,G1:=0,G0:=x0.1}:sq);.br (!x0.2) (.lf (E1)) (.br (decide (va>=4096)) (.lf (E1)) (.lv (PE m root) λ(x1:Bool)=>.br (!x1) (.lf (E1)) (let E2:=wrap u32 (root*128)+wrap u32 (4*wrap u32 (eN va 128));.an (K1 m (wrap u32 E2) 4) (.lv (Db m (wrap u32 E2) 4) λ(x2:Int×Bool)=>.br (!x2.2) (.lf (E1)) (.lv (Vs x2.1 access) λ(x3:Bool)=>.br (!x3) (.lf (E1)) (.an (Qfx x2.1) (.lv (Qi6 x2.1) λ(x4:Int)=>.lv (PE m x4) λ(x5:Bool)=>.br (!x5) (.lf (E1)) (.an (Qfx x2.1) (.lv (Qi6 x2.1) λ(x6:Int)=>.lf ({Addr:=wrap u32 (wrap u32 (x6*128)+cZ va 128),G1:=wrap u32 E2,G0:=0}))))))))))
def Qm m root va access:=(ME m root va access).m
abbrev Qn1 m root va access:=(ME m root va access).p
def Zjx:bd:=mT 271 [] true [.one (.ints .u32),.one (.int .u32),.one (.int .u32),.one (.int .i64)] [] (λa r=>ME (c9 .u32 a 0) (au a 1) (au a 2) (au a 3)) (λX=>.agg (sq.cells X)) (λX=>[])
theorem Zeu:bu pG Zjx:=oT (.cons Z3e (.cons Z7e (.cons TS (.cons Z3n (.cons Z53 (.nil)))))) Tryz.func271 Tryz.call271 [] [] 2
def MF(m:List Int)(entry access:Int):Tree (List Int):=
.an (K1 m entry 4) (.lv (Db m entry 4) λ(x0:Int×Bool)=>.br (!x0.2) (.an (oB m) (.lv (kU m) λ(x1:List Int)=>.lf x1)) (.br (access==3) (.an (Qdy m entry 4 (ja u32 (ja u32 x0.1 8) 16)) (.lv (MC m entry 4 (ja u32 (ja u32 x0.1 8) 16)) λ(x2:List Int×Bool)=>.lf x2.1)) (.an (Qdy m entry 4 (ja u32 x0.1 8)) (.lv (MC m entry 4 (ja u32 x0.1 8)) λ(x3:List Int×Bool)=>.lf x3.1))))
def PG m entry access:=(MF m entry access).m
abbrev Qjp m entry access:=(MF m entry access).p
def Zem:bd:=mT 272 [] true [.one (.ints .u32),.one (.int .u32),.one (.int .i64)] [] (λa r=>MF (c9 .u32 a 0) (au a 1) (au a 2)) (λX=>.all 0) (λX=>[⟨false,25,1,.ints .u32 X⟩])
theorem Zdm:bu pG Zem:=oT (.cons TS (.cons Li (.cons Qvv (.nil)))) Tryz.func272 Tryz.call272 [.row 25 1 (.ints .u32)] [] 2
def ML(c:cq)(m:List Int)(va size access:Int):Tree (Int×(List Int)×Int):=
.lv (Qzz access) λ(x0:Int×Bool)=>let T3:Tree ((Int×(List Int)×Int)):=.an (oB m) (.lv (kU m) λ(x1:List Int)=>.lf (0,x1,5));.br (!x0.2) T3 (let T1:Tree ((Int×(List Int)×Int)):=.cn (decide (wrap u32 size≠0)) (.br (cZ va (wrap u32 size) !=0) (.an (oB m) (.lv (kU m) λ(x3:List Int)=>.lf (0,x3,3))) (.lv (JZ c) λ(x4:Bool)=>let T2:Tree ((Int×(List Int)×Int)):=.an (K1 m va size) (.lv (Db m va size) λ(x8:Int×Bool)=>.br (!x8.2) (.an (oB m) (.lv (kU m) λ(x9:List Int)=>.lf (0,x9,x0.1))) (.an (oB m) (.lv (kU m) λ(kF:List Int)=>.lf (va,kF,0))));.br (!x4) (.br (bm u32 c.C4.a0 (4:Int) !=(0:Int)) (.an (Qn1 m c.C4.a6 va access) (.lv (Qm m c.C4.a6 va access) λ(x5:sq)=>.br (x5.G0 !=0) (.an (oB m) (.lv (kU m) λ(x6:List Int)=>.lf (0,x6,x5.G0))) (.an (Qjp m x5.G1 access) (.lv (PG m x5.G1 access) λ(x7:List Int)=>.lf (x5.Addr,x7,0))))) T2) T2));.br (size !=1) (.br (size !=4) T3 T1) T1)
def sx c m va size access:=(ML c m va size access).m
abbrev Qfh c m va size access:=(ML c m va size access).p
def Zkj:bd:=mT 236 [] true [.agg cq.sig,.one (.ints .u32),.one (.int .u32),.one (.int .i64),.one (.int .i64)] [] (λa r=>ML (cq.of (aC a 0)) (c9 .u32 a 1) (au a 2) (au a 3) (au a 4)) (λX=>.dw [.int .u32 (X.1),.all 0,.int .i64 (X.2.2)]) (λX=>[⟨false,25,1,.ints .u32 (X.2.1)⟩])
theorem Qpe:bu pG Zkj:=oT (.cons Zeq (.cons Li (.cons Z09 (.cons Zeu (.cons Zdm (.cons TS (.nil))))))) Tryz.func236 Tryz.call236 [.row 25 1 (.ints .u32)] [] 2
def Tk(c:cq)(m:List Int):Tree (Int×(List Int)×Int):=
.an (Qfh c m c.Pc 4 1) (.lv (sx c m c.Pc 4 1) λ(x0:Int×List Int×Int)=>.br (x0.2.2 !=0) (.lf (0,x0.2.1,x0.2.2)) (.an (K1 x0.2.1 x0.1 4) (.lv (Db x0.2.1 x0.1 4) λ(x1:Int×Bool)=>.lf (x1.1,x0.2.1,0))))
def VA c m:=(Tk c m).m
abbrev Z06 c m:=(Tk c m).p
def Zrt:bd:=mT 188 [] true [.agg cq.sig,.one (.ints .u32)] [] (λa r=>Tk (cq.of (aC a 0)) (c9 .u32 a 1)) (λX=>.dw [.int .u32 (X.1),.all 0,.int .i64 (X.2.2)]) (λX=>[⟨false,25,1,.ints .u32 (X.2.1)⟩])
theorem Zo6:bu pG Zrt:=oT (.cons Qpe (.cons TS (.nil))) Tryz.func188 Tryz.call188 [.row 25 1 (.ints .u32)] [] 2
def Qtm(op:Int):Tree Bool:=
.br (op==57) (.lf true) (.br (op==58) (.lf true) (.br (op==59) (.lf true) (.br (op==60) (.lf true) (.br (op==61) (.lf true) (.br (op==62) (.lf true) (.br (op==63) (.lf true) (.br (op==64) (.lf true) (.lf false))))))))
def Pw op:=(Qtm op).m
def Z7r:bd:=mS 190 [] true [.one (.int .i64)] [] (λa r=>Qtm (au a 0)) (λX=>.bool X) (λX=>[])
theorem Z34:bu pG Z7r:=oS (.nil) Tryz.func190 Tryz.call190 [] [] 2
def Z02(op:Int):Tree Int:=
.br (op==32) (.lf 4) (.br (op==35) (.lf 4) (.lf 1))
def K3 op:=(Z02 op).m
def Zse:bd:=mS 242 [] true [.one (.int .i64)] [] (λa r=>Z02 (au a 0)) (λX=>.int .i64 X) (λX=>[])
theorem Z6m:bu pG Zse:=oS (.nil) Tryz.func242 Tryz.call242 [] [] 2
def FI(c:cq)(register v:Int):Tree cq:=
.br (register !=0) (.cn (bN 0 1&&decide (0<=register/\register<(↑16:Int))) (.lf ({X:=jg.of 0 (dB (jg.l c.X) register.toNat v),Pc:=c.Pc,C4:=c.C4}))) (.lf c)
def wg c register v:=(FI c register v).m
abbrev IW c register v:=(FI c register v).p
def qE:bd:=mT 243 [] true [.agg cq.sig,.one (.int .i64),.one (.int .u32)] [] (λa r=>FI (cq.of (aC a 0)) (au a 1) (au a 2)) (λX=>.agg (cq.cells X)) (λX=>[])
theorem Zgo:bu pG qE:=oT (.nil) Tryz.func243 Tryz.call243 [] [] 2
def JN(c:cq)(m:List Int)(i:ig):Tree (cq×(List Int)):=
.cn (bN 0 1&&decide (0<=i.B/\i.B<(↑16:Int))) (.lv (K3 i.Op) λ(x0:Int)=>let E1:=wrap u32 (aV (jg.l c.X) i.B.toNat 0+wrap u32 i.cv);.an (Qfh c m E1 x0 2) (.lv (sx c m E1 x0 2) λ(x1:Int×List Int×Int)=>.br (x1.2.2 !=0) (.lv (r4 c x1.2.2 E1) λ(x2:cq)=>.lf (x2,x1.2.1)) (.lv (K3 i.Op) λ(x3:Int)=>.an (K1 x1.2.1 x1.1 x3) (.lv (Db x1.2.1 x1.1 x3) λ(x4:Int×Bool)=>.br (i.Op==33) (.an (Qe5 x4.1 8) (.lv (EL x4.1 8) λ(x5:Int)=>.an (IW c i.A x5) (.lv (wg c i.A x5) λ(x6:cq)=>.lf ({X:=x6.X,Pc:=wrap u32 (x6.Pc+4),C4:=x6.C4},x1.2.1)))) (.an (IW c i.A x4.1) (.lv (wg c i.A x4.1) λ(x7:cq)=>.lf ({X:=x7.X,Pc:=wrap u32 (x7.Pc+4),C4:=x7.C4},x1.2.1)))))))
def uy c m i:=(JN c m i).m
abbrev Z7 c m i:=(JN c m i).p
def Zyy:bd:=mT 192 [] true [.agg cq.sig,.one (.ints .u32),.agg ig.sig] [] (λa r=>JN (cq.of (aC a 0)) (c9 .u32 a 1) (ig.of (aC a 2))) (λX=>.dw [.agg (cq.cells (X.1)),.all 0]) (λX=>[⟨false,25,1,.ints .u32 (X.2)⟩])
theorem Zs4:bu pG Zyy:=oT (.cons Qpe (.cons Z6m (.cons TR (.cons TS (.cons Qoa (.cons Zgo (.nil))))))) Tryz.func192 Tryz.call192 [.row 25 1 (.ints .u32)] [] 2
def JP(c:cq)(m:List Int)(i:ig):Tree (cq×(List Int)):=
.cn (bN 0 1&&decide (0<=i.B/\i.B<(↑16:Int))) (.lv (K3 i.Op) λ(x0:Int)=>let E1:=wrap u32 (aV (jg.l c.X) i.B.toNat 0+wrap u32 i.cv);.an (Qfh c m E1 x0 3) (.lv (sx c m E1 x0 3) λ(x1:Int×List Int×Int)=>.br (x1.2.2 !=0) (.lv (r4 c x1.2.2 E1) λ(x2:cq)=>.lf (x2,x1.2.1)) (.lv (K3 i.Op) λ(x3:Int)=>.cn (bN 0 1&&decide (0<=i.A/\i.A<(↑16:Int))) (let E2:=aV (jg.l c.X) i.A.toNat 0;.an (Qdy x1.2.1 x1.1 x3 E2) (.lv (MC x1.2.1 x1.1 x3 E2) λ(x4:List Int×Bool)=>.lf ({X:=c.X,Pc:=wrap u32 (c.Pc+4),C4:=c.C4},x4.1))))))
def Df c m i:=(JP c m i).m
abbrev Z2s c m i:=(JP c m i).p
def Zub:bd:=mT 193 [] true [.agg cq.sig,.one (.ints .u32),.agg ig.sig] [] (λa r=>JP (cq.of (aC a 0)) (c9 .u32 a 1) (ig.of (aC a 2))) (λX=>.dw [.agg (cq.cells (X.1)),.all 0]) (λX=>[⟨false,25,1,.ints .u32 (X.2)⟩])
theorem Zna:bu pG Zub:=oT (.cons Qpe (.cons Z6m (.cons TR (.cons Qvv (.nil))))) Tryz.func193 Tryz.call193 [.row 25 1 (.ints .u32)] [] 2
def Zd9(op a b:Int):Tree Bool:=
.br (op==40) (.lf (a==b)) (.br (op==41) (.lf (a !=b)) (.br (op==42) (.lf (decide (wrap i32 a<wrap i32 b))) (.br (op==43) (.lf (decide (wrap i32 a>=wrap i32 b))) (.br (op==44) (.lf (decide (a<b))) (.lf (decide (a>=b)))))))
def Zqy op a b:=(Zd9 op a b).m
def Zto:bd:=mS 245 [] true [.one (.int .i64),.one (.int .u32),.one (.int .u32)] [] (λa r=>Zd9 (au a 0) (au a 1) (au a 2)) (λX=>.bool X) (λX=>[])
theorem Znk:bu pG Zto:=oS (.nil) Tryz.func245 Tryz.call245 [] [] 2
def PJ(c:cq):Tree cq:=
.lv (Be c.C4.a0 8 1) λ(x0:Int)=>.lv (Be x0 16 2) λ(x1:Int)=>.lf ({X:=c.X,Pc:=c.C4.a2,C4:={a0:=x1,a1:=c.C4.a1,a2:=c.C4.a2,a3:=c.C4.a3,a4:=c.C4.a4,a5:=c.C4.a5,a6:=c.C4.a6,a7:=c.C4.a7}})
def Mp c:=(PJ c).m
def Zp7:bd:=mS 246 [] true [.agg cq.sig] [] (λa r=>PJ (cq.of (aC a 0))) (λX=>.agg (cq.cells X)) (λX=>[])
theorem Zkx:bu pG Zp7:=oS (.cons Zc0 (.nil)) Tryz.func246 Tryz.call246 [] [] 2
def JM(c:cq)(jK v:Int):Tree cq:=
let E4:=bN 0 1&&decide (0<=jK/\jK<(↑8:Int));let T2:Tree (cq):=.cn E4 (.lf ({X:=c.X,Pc:=c.Pc,C4:=A8.of 0 (dB (A8.l c.C4) jK.toNat (bm u32 v 31))}));.br (jK==0) T2 (.br (jK==7) T2 (.br (jK==6) (.cn E4 (.lf ({X:=c.X,Pc:=c.Pc,C4:=A8.of 0 (dB (A8.l c.C4) jK.toNat (bm u32 v 255))}))) (let T3:Tree (cq):=.cn E4 (.lf ({X:=c.X,Pc:=c.Pc,C4:=A8.of 0 (dB (A8.l c.C4) jK.toNat (oA u32 v 3))}));.br (jK==1) T3 (.br (jK==2) T3 (let T1:Tree (cq):=.cn E4 (.lf ({X:=c.X,Pc:=c.Pc,C4:=A8.of 0 (dB (A8.l c.C4) jK.toNat v)}));.br (jK==3) T1 (.br (jK==4) T1 (.br (jK==5) T1 (.lf c))))))))
def Zq8 c jK v:=(JM c jK v).m
abbrev Z1g c jK v:=(JM c jK v).p
def Zsn:bd:=mT 247 [] true [.agg cq.sig,.one (.int .i64),.one (.int .u32)] [] (λa r=>JM (cq.of (aC a 0)) (au a 1) (au a 2)) (λX=>.agg (cq.cells X)) (λX=>[])
theorem Zpl:bu pG Zsn:=oT (.nil) Tryz.func247 Tryz.call247 [] [] 2
def FJ(c:cq)(i:ig):Tree (cq×ma):=
.cn (bN 0 1&&decide (0<=i.A/\i.A<(↑16:Int))) (.cn (bN 0 1&&decide (0<=i.B/\i.B<(↑16:Int))) (.br (i.Op==24) (.an (IW c i.A (ei u32 (wrap u32 i.cv) 16)) (.lv (wg c i.A (ei u32 (wrap u32 i.cv) 16)) λ(x0:cq)=>.lf ({X:=x0.X,Pc:=wrap u32 (c.Pc+4),C4:=x0.C4},{C2:=0,F1:=0,F9:=0,Value:=0}))) (let E2:=({X:=c.X,Pc:=wrap u32 (c.Pc+4),C4:=c.C4}:cq);let E3:=aV (jg.l c.X) i.B.toNat 0;let E4:=aV (jg.l c.X) i.A.toNat 0;let T1:Tree ((cq×ma)):=.lv (Zqy i.Op E4 E3) λ(x1:Bool)=>.br x1 (.lf ({X:=c.X,Pc:=wrap u32 (c.Pc+wrap u32 (4*wrap u32 i.cv)),C4:=c.C4},{C2:=0,F1:=0,F9:=0,Value:=0})) (.lf (E2,{C2:=0,F1:=0,F9:=0,Value:=0}));.br (i.Op==40) T1 (.br (i.Op==41) T1 (.br (i.Op==42) T1 (.br (i.Op==43) T1 (.br (i.Op==44) T1 (.br (i.Op==45) T1 (.br (i.Op==48) (.an (IW c i.A (wrap u32 (c.Pc+4))) (.lv (wg c i.A (wrap u32 (c.Pc+4))) λ(x7:cq)=>.lf ({X:=x7.X,Pc:=wrap u32 (x7.Pc+wrap u32 (4*wrap u32 i.cv)),C4:=x7.C4},{C2:=0,F1:=0,F9:=0,Value:=0}))) (.br (i.Op==49) (.an (IW c i.A (wrap u32 (c.Pc+4))) (.lv (wg c i.A (wrap u32 (c.Pc+4))) λ(x8:cq)=>.lf ({X:=x8.X,Pc:=wrap u32 (aV (jg.l c.X) i.B.toNat 0+wrap u32 i.cv),C4:=x8.C4},{C2:=0,F1:=0,F9:=0,Value:=0}))) (.br (i.Op==56) (.lv (r4 c 7 0) λ(x9:cq)=>.lf (x9,{C2:=0,F1:=0,F9:=0,Value:=0})) (.br (i.Op==57) (.lv (Mp c) λ(kF:cq)=>.lf (kF,{C2:=0,F1:=0,F9:=0,Value:=0})) (.br (i.Op==58) (.cn (bN 0 1&&decide (0<=i.cv/\i.cv<(↑8:Int))) (let E5:=aV (A8.l c.C4) i.cv.toNat 0;.an (IW c i.A E5) (.lv (wg c i.A E5) λ(kX:cq)=>.lf ({X:=kX.X,Pc:=wrap u32 (c.Pc+4),C4:=kX.C4},{C2:=0,F1:=0,F9:=0,Value:=0})))) (.br (i.Op==59) (.an (Z1g c (wrap i64 i.cv) E4) (.lv (Zq8 c (wrap i64 i.cv) E4) λ(nW:cq)=>.lf ({X:=nW.X,Pc:=wrap u32 (c.Pc+4),C4:=nW.C4},{C2:=0,F1:=0,F9:=0,Value:=0}))) (.br (i.Op==60) (.lf (E2,{C2:=1,F1:=wrap i64 i.cv,F9:=i.A,Value:=0})) (.br (i.Op==61) (.lf (E2,{C2:=2,F1:=wrap i64 i.cv,F9:=0,Value:=aV (jg.l c.X) i.A.toNat 0})) (.br (i.Op==62) (.lf (E2,{C2:=3,F1:=0,F9:=0,Value:=0})) (.br (i.Op==63) (.lf (E2,{C2:=5,F1:=0,F9:=0,Value:=0})) (.br (i.Op==64) (.lf (E2,{C2:=4,F1:=0,F9:=0,Value:=0})) (.cn (bN 0 1&&decide (0<=i.C/\i.C<(↑16:Int))) (.br (decide (i.Op>=16)) (.an (Qzv i.Op E3 (wrap u32 i.cv)) (.lv (om i.Op E3 (wrap u32 i.cv)) λ(r8:Int×Bool)=>.an (IW c i.A r8.1) (.lv (wg c i.A r8.1) λ(Am:cq)=>.lf ({X:=Am.X,Pc:=wrap u32 (c.Pc+4),C4:=Am.C4},{C2:=0,F1:=0,F9:=0,Value:=0})))) (let E6:=aV (jg.l c.X) i.C.toNat 0;.an (Qzv i.Op E3 E6) (.lv (om i.Op E3 E6) λ(Ku:Int×Bool)=>.an (IW c i.A Ku.1) (.lv (wg c i.A Ku.1) λ(An:cq)=>.lf ({X:=An.X,Pc:=wrap u32 (c.Pc+4),C4:=An.C4},{C2:=0,F1:=0,F9:=0,Value:=0})))))))))))))))))))))))))
def Qsd c i:=(FJ c i).m
abbrev Qvp c i:=(FJ c i).p
def Zmn:bd:=mT 194 [] true [.agg cq.sig,.agg ig.sig] [] (λa r=>FJ (cq.of (aC a 0)) (ig.of (aC a 1))) (λX=>.dw [.agg (cq.cells (X.1)),.agg (ma.cells (X.2))]) (λX=>[])
theorem Zeo:bu pG Zmn:=oT (.cons Zgo (.cons Znk (.cons TR (.cons Zkx (.cons Zpl (.cons Zyh (.nil))))))) Tryz.func194 Tryz.call194 [] [] 2
def FK(c:cq)(m:List Int):Tree (cq×(List Int)×ma):=
.an (Z06 c m) (.lv (VA c m) λ(x0:Int×List Int×Int)=>.br (x0.2.2 !=0) (.lv (r4 c x0.2.2 c.Pc) λ(x1:cq)=>.lf (x1,x0.2.1,{C2:=0,F1:=0,F9:=0,Value:=0})) (.an (Qyp x0.1) (.lv (Pz x0.1) λ(x2:ig×Bool)=>.br (!x2.2) (.lv (r4 c 1 x0.1) λ(x3:cq)=>.lf (x3,x0.2.1,{C2:=0,F1:=0,F9:=0,Value:=0})) (.lv (Pw x2.1.Op) λ(x4:Bool)=>let T1:Tree ((cq×(List Int)×ma)):=let T2:Tree ((cq×(List Int)×ma)):=.an (Z7 c x0.2.1 x2.1) (.lv (uy c x0.2.1 x2.1) λ(x7:cq×List Int)=>.lf (x7.1,x7.2,{C2:=0,F1:=0,F9:=0,Value:=0}));.br (x2.1.Op==32) T2 (.br (x2.1.Op==33) T2 (.br (x2.1.Op==34) T2 (let T3:Tree ((cq×(List Int)×ma)):=.an (Z2s c x0.2.1 x2.1) (.lv (Df c x0.2.1 x2.1) λ(kF:cq×List Int)=>.lf (kF.1,kF.2,{C2:=0,F1:=0,F9:=0,Value:=0}));.br (x2.1.Op==35) T3 (.br (x2.1.Op==36) T3 (.an (Qvp c x2.1) (.lv (Qsd c x2.1) λ(nW:cq×ma)=>.lf (nW.1,x0.2.1,nW.2)))))));.br x4 (.lv (JZ c) λ(x5:Bool)=>.br (!x5) (.lv (r4 c 2 x0.1) λ(x6:cq)=>.lf (x6,x0.2.1,{C2:=0,F1:=0,F9:=0,Value:=0})) T1) T1))))
def Dg c m:=(FK c m).m
abbrev Z73 c m:=(FK c m).p
def Zzc:bd:=mT 137 [] true [.agg cq.sig,.one (.ints .u32)] [] (λa r=>FK (cq.of (aC a 0)) (c9 .u32 a 1)) (λX=>.dw [.agg (cq.cells (X.1)),.all 0,.agg (ma.cells (X.2.2))]) (λX=>[⟨false,25,1,.ints .u32 (X.2.1)⟩])
theorem Ztv:bu pG Zzc:=oT (.cons Zo6 (.cons TR (.cons Zmm (.cons Z34 (.cons Z09 (.cons Zs4 (.cons Zna (.cons Zeo (.nil))))))))) Tryz.func137 Tryz.call137 [.row 25 1 (.ints .u32)] [] 2
end
noncomputable section
def Lj:List UInt8:=[(0:UInt8),1,2,2,3,3,3,3,4,4,4,4,4,4,4,4,5,5,5,5,5,5,5,5,5,5,5,5,5,5,5,5,6,6,6,6,6,6,6,6,6,6,6,6,6,6,6,6,6,6,6,6,6,6,6,6,6,6,6,6,6,6,6,6]
def TT:List UInt8:=List.replicate 64 7
def Fh:List UInt8:=List.replicate 64 8
def XD:List UInt8:=[(1:UInt8),2,2,3,3,3,3,4,4,4,4,4,4,4,4,5,5,5,5,5,5,5,5,5,5,5,5,5,5,5,5,6,6,6,6,6,6,6,6,6,6,6,6,6,6,6,6,6,6,6,6,6,6,6,6,6,6,6,6,6,6,6,6]
def Lk:List UInt8:=[(0:UInt8),1,1,2,1,2,2,3,1,2,2,3,2,3,3,4,1,2,2,3,2,3,3,4,2,3,3,4,3,4,4,5,1,2,2,3,2,3,3,4,2,3,3,4,3,4,4,5,2,3,3,4,3,4,4,5,3,4,4,5,4,5,5,6]
def Fi:List UInt8:=[(1:UInt8),2,2,3,2,3,3,4,2,3,3,4,3,4,4,5,2,3,3,4,3,4,4,5,3,4,4,5,4,5,5,6,2,3,3,4,3,4,4,5,3,4,4,5,4,5,5,6,3,4,4,5,4,5,5,6,4,5,5,6,5,6,6,7]
def TU:List UInt8:=[(2:UInt8),3,3,4,3,4,4,5,3,4,4,5,4,5,5,6,3,4,4,5,4,5,5,6,4,5,5,6,5,6,6,7,3,4,4,5,4,5,5,6,4,5,5,6,5,6,6,7,4,5,5,6,5,6,6,7,5,6,6,7,6,7,7,8]
def XE:List UInt8:=[(1:UInt8),1,2,1,2,2,3,1,2,2,3,2,3,3,4,1,2,2,3,2,3,3,4,2,3,3,4,3,4,4,5,1,2,2,3,2,3,3,4,2,3,3,4,3,4,4,5,2,3,3,4,3,4,4,5,3,4,4,5,4,5,5,6]
def Z26(c:jn):Tree Bool:=
.lf (decide ((c.D9.length:Int)<=(16:Int)))
def BL c:=(Z26 c).m
def Zku:bd:=mS 151 [] true [.agg jn.sig] [] (λa r=>Z26 (jn.of (aC a 0))) (λX=>.bool X) (λX=>[])
theorem Zfa:bu pG Zku:=oS (.nil) Tryz.func151 Tryz.call151 [] [] 2
def Vd(t:jx):Tree Bool:=
.br t.E0 (.br (!t.D8) (.lf (t.D0 !=0)) (.lf false)) (.br t.D8 (.lf true) (.lf (t.D0==0)))
def BM t:=(Vd t).m
def Zth:bd:=mS 152 [] true [.agg jx.sig] [] (λa r=>Vd (jx.of (aC a 0))) (λX=>.bool X) (λX=>[])
theorem Zrg:bu pG Zth:=oS (.nil) Tryz.func152 Tryz.call152 [] [] 2
def Pk(d0:gk):Tree Bool:=
.br (d0.F5==1) (.lf (decide (d0.C7=[]))) (.br (d0.F5==2) (.lf ((d0.C7.length:Int)==(128:Int))) (.lf false))
def Vb d0:=(Pk d0).m
def Z4q:bd:=mS 208 [] true [.agg gk.sig] [] (λa r=>Pk (gk.of (aC a 0))) (λX=>.bool X) (λX=>[])
theorem Z2y:bu pG Z4q:=oS (.nil) Tryz.func208 Tryz.call208 [] [] 2
def FG(d0:gk)(bq:Int):Tree Bool:=
.br (decide (d0.ab>64)) (.lf false) (let T1:Tree (Bool):=.br (d0.F5==0) (.br (d0.C5==0) (.br (d0.C6==0) (.lf (decide (d0.C7=[]))) (.lf false)) (.lf false)) (.lf false);.br (d0.C9==0) T1 (.br (d0.C9==2) T1 (.br (d0.C9==3) T1 (.br (d0.C9==1) (.lv (Vb d0) λ(x0:Bool)=>.br x0 (.br (decide (d0.C5<d0.ab)) (.lf (decide (wrap i64 d0.C6<bq))) (.lf false)) (.lf false)) (.lf false)))))
def r3 d0 bq:=(FG d0 bq).m
def Zxm:bd:=mS 153 [] true [.agg gk.sig,.one (.int .i64)] [] (λa r=>FG (gk.of (aC a 0)) (au a 1)) (λX=>.bool X) (λX=>[])
theorem Zup:bu pG Zxm:=oS (.cons Z2y (.nil)) Tryz.func153 Tryz.call153 [] [] 2
def Pl(n:iq)(bq:Int):Tree Bool:=
let T1:Tree (Bool):=let T2:Tree (Bool):=.br n.C3 (.br (decide (n.F8>=1)) (.lf (decide (n.F8<=128))) (.lf false)) (.lf (n.F8==0));.br n.D2 (.br (decide (wrap i64 n.D5>=bq)) (.lf false) T2) (.br (n.D5 !=0) (.lf false) T2);.br n.D2 (.br n.C3 (.lf false) T1) T1
def Ac n bq:=(Pl n bq).m
def xE:bd:=mS 154 [] true [.agg iq.sig,.one (.int .i64)] [] (λa r=>Pl (iq.of (aC a 0)) (au a 1)) (λX=>.bool X) (λX=>[])
theorem Zz5:bu pG xE:=oS (.nil) Tryz.func154 Tryz.call154 [] [] 2
def EI(x:Int):Tree Int:=
let E1:=(↑(dF (cP (cP Lj TT) (cP Fh Fh))):Int);.br (decide (x>=65536)) (.br (decide (bn u32 x (16:Int)>=(256:Int))) (.cn (decide (0<=wrap u8 (bn u32 (bn u32 x 16) 8)/\wrap u8 (bn u32 (bn u32 x 16) 8)<E1)) (.lf (wrap i64 (wrap i64 ((16:Int)+(8:Int))+wrap i64 (↑(eQ (aV ((0:UInt8)::(XD++TT++(Fh++Fh))) (dA (wrap u8 (bn u32 (bn u32 x 16) 8))) (0:UInt8))):Int))))) (.cn (decide (0<=wrap u8 (bn u32 x 16)/\wrap u8 (bn u32 x 16)<E1)) (.lf (wrap i64 (16+wrap i64 (↑(eQ (aV ((0:UInt8)::(XD++TT++(Fh++Fh))) (dA (wrap u8 (bn u32 x 16))) (0:UInt8))):Int)))))) (.br (decide (x>=256)) (.cn (decide (0<=wrap u8 (bn u32 x 8)/\wrap u8 (bn u32 x 8)<E1)) (.lf (wrap i64 (wrap i64 ((0:Int)+(8:Int))+wrap i64 (↑(eQ (aV ((0:UInt8)::(XD++TT++(Fh++Fh))) (dA (wrap u8 (bn u32 x 8))) (0:UInt8))):Int))))) (.cn (decide (0<=wrap u8 x/\wrap u8 x<E1)) (.lf (wrap i64 (0+wrap i64 (↑(eQ (aV ((0:UInt8)::(XD++TT++(Fh++Fh))) (dA (wrap u8 x)) (0:UInt8))):Int))))))
def Ad x:=(EI x).m
abbrev Qn7 x:=(EI x).p
def Z55:bd:=mT 209 [] true [.one (.int .u32)] [] (λa r=>EI (au a 0)) (λX=>.int .i64 X) (λX=>[])
theorem Z2e:bu pG Z55:=oT (.nil) Tryz.func209 Tryz.call209 [] [] 2
def JH(b:ie)(bq:Int):Tree Bool:=
.an (Qn7 b.D1) (.lv (Ad b.D1) λ(x0:Int)=>.lf (decide (x0<=if 0>bq then 0 else bq)))
def BN b bq:=(JH b bq).m
abbrev Qms b bq:=(JH b bq).p
def Zj7:bd:=mT 155 [] true [.agg ie.sig,.one (.int .i64)] [] (λa r=>JH (ie.of (aC a 0)) (au a 1)) (λX=>.bool X) (λX=>[])
theorem Zgb:bu pG Zj7:=oT (.cons Z2e (.nil)) Tryz.func155 Tryz.call155 [] [] 2
def Hz(m:bj):Tree Bool:=
.lv (jX m.Mem) λ(x0:Int)=>.lv (BL m.B3) λ(x1:Bool)=>.br x1 (.lv (BM m.C1) λ(x2:Bool)=>.br x2 (.lv (r3 m.B6 x0) λ(x3:Bool)=>.br x3 (.lv (Ac m.D4 x0) λ(x4:Bool)=>.br x4 (.an (Qms m.B0 x0) (.lv (BN m.B0 x0) λ(x5:Bool)=>.lf x5)) (.lf false)) (.lf false)) (.lf false)) (.lf false)
def Ab m:=(Hz m).m
abbrev Xy m:=(Hz m).p
def Qy2:bd:=mT 115 [] true [.agg bj.sig] [] (λa r=>Hz (bj.of (aC a 0))) (λX=>.bool X) (λX=>[])
theorem Quc:bu pG Qy2:=oT (.cons Cg (.cons Zfa (.cons Zrg (.cons Zup (.cons Zz5 (.cons Zgb (.nil))))))) Tryz.func115 Tryz.call115 [] [] 2
def K4(m:bj):Tree Bool:=
.lv (jX m.Mem) λ(x0:Int)=>.br (x0==0) (.lf false) (.br (m.B2.X.a0 !=0) (.lf false) (.br (decide (m.B2.C4.a0>31)) (.lf false) (.br (decide (m.B2.C4.a7>31)) (.lf false) (.br (decide (m.B2.C4.a6>255)) (.lf false) (.br (cZ m.B2.C4.a1 (4:Int) !=(0:Int)) (.lf false) (.br (decide (m.B9>1152921504606846976)) (.lf false) (.br m.B4 (.br m.B8 (.lf false) (.an (Xy m) (.lv (Ab m) λ(x1:Bool)=>.lf x1))) (.an (Xy m) (.lv (Ab m) λ(x2:Bool)=>.lf x2)))))))))
def BO m:=(K4 m).m
abbrev Qb m:=(K4 m).p
def Zj4:bd:=mT 68 [] true [.agg bj.sig] [] (λa r=>K4 (bj.of (aC a 0))) (λX=>.bool X) (λX=>[])
theorem Qym:bu pG Zj4:=oT (.cons Cg (.cons Quc (.nil))) Tryz.func68 Tryz.call68 [] [] 2
def Qwg(t:jx):Tree Bool:=
.lf t.D8
def Qkx t:=(Qwg t).m
def Zcf:bd:=mS 266 [] true [.agg jx.sig] [] (λa r=>Qwg (jx.of (aC a 0))) (λX=>.bool X) (λX=>[])
theorem Z8b:bu pG Zcf:=oS (.nil) Tryz.func266 Tryz.call266 [] [] 2
def Qr(c:jn):Tree Bool:=
.lf (!decide (c.D9=[]))
def VF c:=(Qr c).m
def Z4c:bd:=mS 267 [] true [.agg jn.sig] [] (λa r=>Qr (jn.of (aC a 0))) (λX=>.bool X) (λX=>[])
theorem Z1m:bu pG Z4c:=oS (.nil) Tryz.func267 Tryz.call267 [] [] 2
def ZB(d0:gk):Tree Bool:=
.br (d0.C9==2) (.lf true) (.lf (d0.C9==3))
def Mh d0:=(ZB d0).m
def Zg6:bd:=mS 251 [] true [.agg gk.sig] [] (λa r=>ZB (gk.of (aC a 0))) (λX=>.bool X) (λX=>[])
theorem Qv5:bu pG Zg6:=oS (.nil) Tryz.func251 Tryz.call251 [] [] 2
def Z0l(n:iq):Tree Bool:=
.lf n.C3
def Qs2 n:=(Z0l n).m
def Zk6:bd:=mS 268 [] true [.agg iq.sig] [] (λa r=>Z0l (iq.of (aC a 0))) (λX=>.bool X) (λX=>[])
theorem Zeg:bu pG Zk6:=oS (.nil) Tryz.func268 Tryz.call268 [] [] 2
def Tm(x:Int):Tree Int:=
let E1:=(↑(dF (cP (cP Lk Fi) (cP Fi TU))):Int);.cn (decide (0<=bn u32 x 24/\bn u32 x 24<E1)) (.cn (decide (0<=bm u32 (bn u32 x 16) 255/\bm u32 (bn u32 x 16) 255<E1)) (.cn (decide (0<=bm u32 (bn u32 x 8) 255/\bm u32 (bn u32 x 8) 255<E1)) (.cn (decide (0<=bm u32 x 255/\bm u32 x 255<E1)) (.lf (wrap i64 (wrap u8 (wrap u8 (wrap u8 ((↑(eQ (aV ((0:UInt8)::(XE++Fi++(Fi++TU))) (dA (bn u32 x 24)) (0:UInt8))):Int)+(↑(eQ (aV ((0:UInt8)::(XE++Fi++(Fi++TU))) (dA (bm u32 (bn u32 x 16) 255)) (0:UInt8))):Int))+(↑(eQ (aV ((0:UInt8)::(XE++Fi++(Fi++TU))) (dA (bm u32 (bn u32 x 8) 255)) (0:UInt8))):Int))+(↑(eQ (aV ((0:UInt8)::(XE++Fi++(Fi++TU))) (dA (bm u32 x 255)) (0:UInt8))):Int))))))))
def Q7i x:=(Tm x).m
abbrev Qcy x:=(Tm x).p
def Qse:bd:=mT 279 [] true [.one (.int .u32)] [] (λa r=>Tm (au a 0)) (λX=>.int .i64 X) (λX=>[])
theorem Qps:bu pG Qse:=oT (.nil) Tryz.func279 Tryz.call279 [] [] 2
def Tn(b:ie):Tree Int:=
.an (Qcy b.D1) (.lv (Q7i b.D1) λ(x0:Int)=>.lf x0)
def VH b:=(Tn b).m
abbrev Qhk b:=(Tn b).p
def Z9z:bd:=mT 249 [] true [.agg ie.sig] [] (λa r=>Tn (ie.of (aC a 0))) (λX=>.int .i64 X) (λX=>[])
theorem Qt8:bu pG Z9z:=oT (.cons Qps (.nil)) Tryz.func249 Tryz.call249 [] [] 2
def MS(b:ie):Tree Bool:=
.an (Qhk b) (.lv (VH b) λ(x0:Int)=>.lf (wrap u32 x0 !=b.A2))
def PY b:=(MS b).m
abbrev Qlq b:=(MS b).p
def Z31:bd:=mT 269 [] true [.agg ie.sig] [] (λa r=>MS (ie.of (aC a 0))) (λX=>.bool X) (λX=>[])
theorem Z18:bu pG Z31:=oT (.cons Qt8 (.nil)) Tryz.func269 Tryz.call269 [] [] 2
def Qng(m:bj)(z:(Int)×(Int)):Nat:=(5-z.2).toNat
def MX(m:bj):Tree Int:=
.lv (Qkx m.C1) λ(x0:Bool)=>.lv (VF m.B3) λ(x1:Bool)=>.lv (Mh m.B6) λ(x2:Bool)=>.lv (Qs2 m.D4) λ(x3:Bool)=>.an (Qlq m.B0) (.lv (PY m.B0) λ(x4:Bool)=>.lp inferInstance (Qng m (0,0)+1) ((rE (0:Int)/\(rE (x0:Bool)/\rE (x1:Bool)/\rE (x2:Bool)/\rE (x3:Bool)/\rE (x4:Bool)/\True)/\rE (0:Int)/\True)/\True) (0,0) λ(v0:Int×Int)=>.br (decide (v0.2<5)) (.cn (bX 1 1&&(bX 5 5&&decide (0<=v0.2/\v0.2<(↑5:Int)))) (.br (aV [x0,x1,x2,x3,x4] v0.2.toNat false) (.cn (decide (0<=v0.2)) (.nx ((rE ((ja u32 v0.1 (ei u32 1 v0.2)):Int)/\(rE (x0:Bool)/\rE (x1:Bool)/\rE (x2:Bool)/\rE (x3:Bool)/\rE (x4:Bool)/\True)/\rE ((wrap i64 (v0.2+1)):Int)/\True)/\True) (Sum.inl (ja u32 v0.1 (ei u32 1 v0.2),wrap i64 (v0.2+1))))) (.nx ((rE v0.1/\(rE (x0:Bool)/\rE (x1:Bool)/\rE (x2:Bool)/\rE (x3:Bool)/\rE (x4:Bool)/\True)/\rE ((wrap i64 (v0.2+1)):Int)/\True)/\True) (Sum.inl (v0.1,wrap i64 (v0.2+1)))))) (.lf (Sum.inr v0.1)))
def VN m:=(MX m).m
abbrev Qpz m:=(MX m).p
def Z83:bw:={
 α:=(Int)×(Int)
 F:=λst a=>([(4,.int u32 a.1),(23,(lk st 23)),(24,.int i64 a.2)],[])
 a0:=λst=>((lk st 4).toInt,(lk st 24).toInt)
 iU:=λst=>[]++[]}
def Z2f:List (Nat×bw):=[(4,Z83)]
def Zbs:bd:=mT 234 [] true [.agg bj.sig] [] (λa r=>MX (bj.of (aC a 0))) (λX=>.int .u32 X) (λX=>[])
theorem Z7u:bu pG Zbs:=oT (.cons Z8b (.cons Z1m (.cons Qv5 (.cons Zeg (.cons Z18 (.nil)))))) Tryz.func234 Tryz.call234 [] Z2f 3
def MZ(m:bj):Tree Int:=
.an (Qpz m) (.lv (VN m) λ(x0:Int)=>.lf (bm u32 x0 m.B2.C4.a7))
def MY m:=(MZ m).m
abbrev Qek m:=(MZ m).p
def Z5c:bd:=mT 186 [] true [.agg bj.sig] [] (λa r=>MZ (bj.of (aC a 0))) (λX=>.int .u32 X) (λX=>[])
theorem Qo9:bu pG Z5c:=oT (.cons Z7u (.nil)) Tryz.func186 Tryz.call186 [] [] 2
def M1(m:bj):Tree Bool:=
.br m.B4 (.an (Qek m) (.lv (MY m) λ(x0:Int)=>.lf (x0==0))) (.lf false)
def Vj m:=(M1 m).m
abbrev Qth m:=(M1 m).p
def Zf1:bd:=mT 185 [] true [.agg bj.sig] [] (λa r=>M1 (bj.of (aC a 0))) (λX=>.bool X) (λX=>[])
theorem Za7:bu pG Zf1:=oT (.cons Qo9 (.nil)) Tryz.func185 Tryz.call185 [] [] 2

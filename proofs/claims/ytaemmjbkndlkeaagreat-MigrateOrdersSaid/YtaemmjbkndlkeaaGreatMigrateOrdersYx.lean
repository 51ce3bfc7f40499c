import Derived.Test.YtaemmjbkndlkeaaGreatMigrateOrdersBase
open Int renaming tmod->cZ,tdiv->eF,toNat->dA
open Nat renaming beq->bX,blt->bN
open List renaming set->dB,getD->aV,length->dF,append->cP
open UInt8 renaming toNat->hZ
set_option maxRecDepth 100000
set_option linter.all false
namespace Go.Proofs.YtaemmjbkndlkeaaGreat
open Go Go.GD Go.IntKind
noncomputable section
def kA(s:List Int):(List Int):=
s
def nW(s:List Int):Prop:=
s.length<=35184372088832
def Q49(s:List Int):List D:=[.sl 1 (.ints .u32 s) false]
def VA(s:List Int):List Row:=[]
def MH(X:List Int):D:=.all 0
def MI(X:List Int):List Row:=[⟨false,25,1,.ints .u32 X⟩]
def Qfk:List ng:=[.row 25 1 (.ints .u32)]
def Q88:List PT:=[.one (.ints .u32)]
def Q7z:List RT:=[]
def Qga(args:List D)(rows:List Row):(List Int):=kA (dh .u32 args 0)
def Qgl(args:List D)(rows:List Row):Prop:=nW (dh .u32 args 0)
def Qie:ba:=lJ 114 [] true Q88 Q7z Qgl Qga MH MI
def Q5q(s:List Int)(iZ:(List Int)->Prop):Prop:=
(s=[]->iZ [])/\cu (decide ((4:Nat)*((0:Nat)+s.length)<=(140737488355328:Nat))) (iZ s)
set_option maxRecDepth 100000 in
theorem Qhe(s:List Int)(Q:D->List Row->Prop):(kf jU [] (LL jU [] Tryz.f114.ntmps 0 [] 2) Tryz.f114 (Q49 s) (VA s) λd R=>ob (VA s).length Qfk d R Q)=Q5q s (λX=>Q (MH X) (MI X)):=by kernel_rfl
theorem Qf0(s:List Int)(iZ:(List Int)->Prop)(hw:nW s)(h:iZ (kA s)):
Q5q s iZ:=by
 delta Q5q
 refine⟨λe=>by rw[e]at h;exact h,?_⟩
 rw[dd]
 refine⟨dY ?_,h⟩
 have:s.length<=35184372088832:=hw
 omega
set_option maxRecDepth 100000 in
theorem Qen(s:List Int)(hw:nW s):kq pG 114 (Q49 s) (VA s) (MH (kA s)) (MI (kA s)):=
 have hG:jA pG []:=.nil
 ma.calls drawn jB hG Tryz.func114 (rf:=none) (λ_ _=>trivial) (GH drawn jB hG (.inl rfl) 2 (fm:=[])) (ma.of (Qhe s _) (Qf0 s (λX=>MH X=MH (kA s)/\MI X=MI (kA s)) hw ⟨rfl,rfl⟩))
set_option maxRecDepth 100000 in
theorem Qfq(args:List D)(rows:List Row):lg Q88 args 0=Q49 (dh .u32 args 0):=by kernel_rfl
set_option maxRecDepth 100000 in
theorem Qeo(args:List D)(rows:List Row):ku Q7z rows 0=VA (dh .u32 args 0):=by kernel_rfl
set_option maxRecDepth 100000 in
theorem Qhg(X:List Int):(tw (MH X)&&jv (MI X))=true:=by kernel_rfl
theorem Kb:bm pG Qie:=Ga Tryz.call114 (λargs rows hp=>by rw[Qfq args rows,Qeo args rows];exact Qen (dh .u32 args 0) hp) (λ_ X=>Qhg X)
def GQ(m:List Int):Tree Int:=
.br (cZ (m.length:Int) (32:Int) !=(0:Int)) (.lf 0) (.br (decide ((m.length:Int)>(1024:Int))) (.lf 0) (.lf (wrap i64 (eF (m.length:Int) 32))))
def jQ m:=(GQ m).m
def Za9:ba:=mS 70 [] true [.one (.ints .u32)] [] (λa r=>GQ (dh .u32 a 0)) (λX=>.int .i64 X) (λX=>[])
theorem Bt:bm pG Za9:=oS (.nil) Tryz.func70 Tryz.call70 [] [] 2
def I4(m:List Int)(addr size:Int):Tree Bool:=
let T1:Tree (Bool):=.cn (decide (wrap u32 size≠0)) (.br (cZ addr (wrap u32 size) !=0) (.lf false) (.lv (jQ m) λ(x0:Int)=>.lf (decide (wrap u64 (wrap u64 addr+wrap u64 size)<=wrap u64 (wrap u64 x0*128)))));.br (size !=1) (.br (size !=4) (.lf false) T1) T1
def Xo m addr size:=(I4 m addr size).m
abbrev Qfy m addr size:=(I4 m addr size).p
def Z8k:ba:=mT 273 [] true [.one (.ints .u32),.one (.int .u32),.one (.int .i64)] [] (λa r=>I4 (dh .u32 a 0) (au a 1) (au a 2)) (λX=>.bool X) (λX=>[])
theorem Qpy:bm pG Z8k:=oT (.cons Bt (.nil)) Tryz.func273 Tryz.call273 [] [] 2
def Rm(n:Int):Tree Int:=
.br (decide (n>=32)) (.lf 4294967295) (.cn (decide (0<=wrap u64 n)) (.lf (wrap u32 (ei u32 1 (wrap u64 n)-1))))
def Z4i n:=(Rm n).m
abbrev Qot n:=(Rm n).p
def Zlt:ba:=mT 274 [] true [.one (.int .i64)] [] (λa r=>Rm (au a 0)) (λX=>.int .u32 X) (λX=>[])
theorem Z1k:bm pG Zlt:=oT (.nil) Tryz.func274 Tryz.call274 [] [] 2
def Rn(w low n:Int):Tree Int:=
.br (decide (low<0)) (.lf 0) (.br (decide (low>31)) (.lf 0) (.br (decide (n<1)) (.lf 0) (.cn (decide (0<=wrap u64 low)) (.an (Qot n) (.lv (Z4i n) λ(x0:Int)=>.lf (bb u32 (bj u32 w (wrap u64 low)) x0))))))
def tG w low n:=(Rn w low n).m
abbrev MJ w low n:=(Rn w low n).p
def Zhj:ba:=mT 238 [] true [.one (.int .u32),.one (.int .i64),.one (.int .i64)] [] (λa r=>Rn (au a 0) (au a 1) (au a 2)) (λX=>.int .u32 X) (λX=>[])
theorem Qoa:bm pG Zhj:=oT (.cons Z1k (.nil)) Tryz.func238 Tryz.call238 [] [] 2
def Ro(w low n v:Int):Tree Int:=
.br (decide (low<0)) (.lf w) (.br (decide (low>31)) (.lf w) (.br (decide (n<1)) (.lf w) (.an (Qot n) (.lv (Z4i n) λ(x0:Int)=>.cn (decide (0<=wrap u64 low)) (.cn (decide (0<=wrap u64 low)) (.lf (iJ u32 (oR u32 w (ei u32 x0 (wrap u64 low))) (ei u32 (bb u32 v x0) (wrap u64 low)))))))))
def Ln w low n v:=(Ro w low n v).m
abbrev Qmt w low n v:=(Ro w low n v).p
def Z5q:ba:=mT 276 [] true [.one (.int .u32),.one (.int .i64),.one (.int .i64),.one (.int .u32)] [] (λa r=>Ro (au a 0) (au a 1) (au a 2) (au a 3)) (λX=>.int .u32 X) (λX=>[])
theorem Z29:bm pG Z5q:=oT (.cons Z1k (.nil)) Tryz.func276 Tryz.call276 [] [] 2
def Lq(m:List Int)(addr size v:Int):Tree ((List Int)×Bool):=
.an (nW m) (.lv (kA m) λ(x0:List Int)=>.an (Qfy m addr size) (.lv (Xo m addr size) λ(x1:Bool)=>.br (!x1) (.lf (x0,false)) (let E1:=bX 1 1&&bN 0 1&&decide (0<=wrap u32 (eF addr 4)/\wrap u32 (eF addr 4)<(x0.length:Int));let E2:=dA (wrap u32 (eF addr 4));.br (size==1) (.cn E1 (let E3:=wrap i64 (wrap i64 (cZ addr 4)*8);.an (Qmt (x0.getD E2 0) E3 8 v) (.lv (Ln (x0.getD E2 0) E3 8 v) λ(x2:Int)=>.cn E1 (.lf (dB x0 E2 x2,true))))) (.cn E1 (.lf (dB x0 E2 v,true))))))
def Lp m addr size v:=(Lq m addr size v).m
abbrev Qc7 m addr size v:=(Lq m addr size v).p
def Zah:ba:=mT 244 [] true [.one (.ints .u32),.one (.int .u32),.one (.int .i64),.one (.int .u32)] [] (λa r=>Lq (dh .u32 a 0) (au a 1) (au a 2) (au a 3)) (λX=>.dw [.all 0,.bool (X.2)]) (λX=>[⟨false,25,1,.ints .u32 (X.1)⟩])
theorem Qs6:bm pG Zah:=oT (.cons Kb (.cons Qpy (.cons Z29 (.nil)))) Tryz.func244 Tryz.call244 [.row 25 1 (.ints .u32)] [] 2
def Zk6(op:Int):Tree (Af×Bool):=
.br (op==1) (.lf ({a:=true,b:=true,c:=true,low:=0,F6:=0},true)) (.br (op==2) (.lf ({a:=true,b:=true,c:=true,low:=0,F6:=0},true)) (.br (op==3) (.lf ({a:=true,b:=true,c:=true,low:=0,F6:=0},true)) (.br (op==4) (.lf ({a:=true,b:=true,c:=true,low:=0,F6:=0},true)) (.br (op==5) (.lf ({a:=true,b:=true,c:=true,low:=0,F6:=0},true)) (.br (op==6) (.lf ({a:=true,b:=true,c:=true,low:=0,F6:=0},true)) (.br (op==7) (.lf ({a:=true,b:=true,c:=true,low:=0,F6:=0},true)) (.br (op==8) (.lf ({a:=true,b:=true,c:=true,low:=0,F6:=0},true)) (.br (op==9) (.lf ({a:=true,b:=true,c:=true,low:=0,F6:=0},true)) (.br (op==10) (.lf ({a:=true,b:=true,c:=true,low:=0,F6:=0},true)) (.br (op==11) (.lf ({a:=true,b:=true,c:=true,low:=0,F6:=0},true)) (.br (op==12) (.lf ({a:=true,b:=true,c:=true,low:=0,F6:=0},true)) (.br (op==13) (.lf ({a:=true,b:=true,c:=true,low:=0,F6:=0},true)) (.br (op==16) (.lf ({a:=true,b:=true,c:=false,low:=(-32768),F6:=32767},true)) (.br (op==23) (.lf ({a:=true,b:=true,c:=false,low:=(-32768),F6:=32767},true)) (.br (op==32) (.lf ({a:=true,b:=true,c:=false,low:=(-32768),F6:=32767},true)) (.br (op==33) (.lf ({a:=true,b:=true,c:=false,low:=(-32768),F6:=32767},true)) (.br (op==34) (.lf ({a:=true,b:=true,c:=false,low:=(-32768),F6:=32767},true)) (.br (op==35) (.lf ({a:=true,b:=true,c:=false,low:=(-32768),F6:=32767},true)) (.br (op==36) (.lf ({a:=true,b:=true,c:=false,low:=(-32768),F6:=32767},true)) (.br (op==40) (.lf ({a:=true,b:=true,c:=false,low:=(-32768),F6:=32767},true)) (.br (op==41) (.lf ({a:=true,b:=true,c:=false,low:=(-32768),F6:=32767},true)) (.br (op==42) (.lf ({a:=true,b:=true,c:=false,low:=(-32768),F6:=32767},true)) (.br (op==43) (.lf ({a:=true,b:=true,c:=false,low:=(-32768),F6:=32767},true)) (.br (op==44) (.lf ({a:=true,b:=true,c:=false,low:=(-32768),F6:=32767},true)) (.br (op==45) (.lf ({a:=true,b:=true,c:=false,low:=(-32768),F6:=32767},true)) (.br (op==49) (.lf ({a:=true,b:=true,c:=false,low:=(-32768),F6:=32767},true)) (.br (op==17) (.lf ({a:=true,b:=true,c:=false,low:=0,F6:=65535},true)) (.br (op==18) (.lf ({a:=true,b:=true,c:=false,low:=0,F6:=65535},true)) (.br (op==19) (.lf ({a:=true,b:=true,c:=false,low:=0,F6:=65535},true)) (.br (op==20) (.lf ({a:=true,b:=true,c:=false,low:=0,F6:=31},true)) (.br (op==21) (.lf ({a:=true,b:=true,c:=false,low:=0,F6:=31},true)) (.br (op==22) (.lf ({a:=true,b:=true,c:=false,low:=0,F6:=31},true)) (.br (op==24) (.lf ({a:=true,b:=false,c:=false,low:=0,F6:=65535},true)) (.br (op==48) (.lf ({a:=true,b:=false,c:=false,low:=(-32768),F6:=32767},true)) (.br (op==58) (.lf ({a:=true,b:=false,c:=false,low:=0,F6:=7},true)) (.br (op==59) (.lf ({a:=true,b:=false,c:=false,low:=0,F6:=7},true)) (.br (op==60) (.lf ({a:=true,b:=false,c:=false,low:=0,F6:=11},true)) (.br (op==61) (.lf ({a:=true,b:=false,c:=false,low:=0,F6:=11},true)) (.br (op==56) (.lf ({a:=false,b:=false,c:=false,low:=0,F6:=0},true)) (.br (op==57) (.lf ({a:=false,b:=false,c:=false,low:=0,F6:=0},true)) (.br (op==62) (.lf ({a:=false,b:=false,c:=false,low:=0,F6:=0},true)) (.br (op==63) (.lf ({a:=false,b:=false,c:=false,low:=0,F6:=0},true)) (.br (op==64) (.lf ({a:=false,b:=false,c:=false,low:=0,F6:=0},true)) (.lf ({a:=false,b:=false,c:=false,low:=0,F6:=0},false)))))))))))))))))))))))))))))))))))))))))))))
def To op:=(Zk6 op).m
def xC:ba:=mS 239 [] true [.one (.int .i64)] [] (λa r=>Zk6 (au a 0)) (λX=>.dw [.agg (Af.cells (X.1)),.bool (X.2)]) (λX=>[])
theorem Zcx:bm pG xC:=oS (.nil) Tryz.func239 Tryz.call239 [] [] 2
def Rp(x n:Int):Tree Int:=
.br (decide (n<1)) (.lf 0) (.br (decide (n>=32)) (.lf x) (let E1:=decide (0<=wrap u64 (wrap i64 (32-n)));.cn E1 (.cn E1 (.lf (wrap u32 (bj i32 (wrap i32 (ei u32 x (wrap u64 (wrap i64 (32-n))))) (wrap u64 (wrap i64 (32-n)))))))))
def DU x n:=(Rp x n).m
abbrev Qci x n:=(Rp x n).p
def Z0u:ba:=mT 240 [] true [.one (.int .u32),.one (.int .i64)] [] (λa r=>Rp (au a 0) (au a 1)) (λX=>.int .u32 X) (λX=>[])
theorem Qlx:bm pG Z0u:=oT (.nil) Tryz.func240 Tryz.call240 [] [] 2
def Tp(r:Int)(used:Bool):Tree Bool:=
.br used (.br (decide (r>=0)) (.lf (decide (r<=15))) (.lf false)) (.lf (r==0))
def Li r used:=(Tp r used).m
def Zac:ba:=mS 275 [] true [.one (.int .i64),.one (.bool)] [] (λa r=>Tp (au a 0) (kC a 1)) (λX=>.bool X) (λX=>[])
theorem Z7a:bm pG Zac:=oS (.nil) Tryz.func275 Tryz.call275 [] [] 2
def Oe(i:gw):Tree Bool:=
.lv (To i.Op) λ(x0:Af×Bool)=>.br x0.2 (.lv (Li i.A x0.1.a) λ(x1:Bool)=>.br x1 (.lv (Li i.B x0.1.b) λ(x2:Bool)=>.br x2 (.lv (Li i.C x0.1.c) λ(x3:Bool)=>.br x3 (.br (decide (i.bw>=x0.1.low)) (.lf (decide (i.bw<=x0.1.F6))) (.lf false)) (.lf false)) (.lf false)) (.lf false)) (.lf false)
def I2 i:=(Oe i).m
def Znu:ba:=mS 241 [] true [.agg gw.sig] [] (λa r=>Oe (gw.of (aC a 0))) (λX=>.bool X) (λX=>[])
theorem Zh:bm pG Znu:=oS (.cons Zcx (.cons Z7a (.nil))) Tryz.func241 Tryz.call241 [] [] 2
def Lk(w:Int):Tree (gw×Bool):=
.an (MJ w 24 8) (.lv (tG w 24 8) λ(x0:Int)=>.an (MJ w 20 4) (.lv (tG w 20 4) λ(x1:Int)=>.an (MJ w 16 4) (.lv (tG w 16 4) λ(x2:Int)=>.lv (To (wrap i64 x0)) λ(x3:Af×Bool)=>let E1:=({Op:=0,A:=0,B:=0,C:=0,bw:=0}:gw);.br (!x3.2) (.lf (E1,false)) (.an (MJ w 0 16) (.lv (tG w 0 16) λ(x4:Int)=>.br x3.1.c (let E2:=({Op:=wrap i64 x0,A:=wrap i64 x1,B:=wrap i64 x2,C:=wrap i64 x4,bw:=0}:gw);.lv (I2 E2) λ(x5:Bool)=>.br (!x5) (.lf (E1,false)) (.lf (E2,true))) (.br (decide (x3.1.low<0)) (.an (Qci x4 16) (.lv (DU x4 16) λ(x6:Int)=>let E3:=({Op:=wrap i64 x0,A:=wrap i64 x1,B:=wrap i64 x2,C:=0,bw:=wrap i32 x6}:gw);.lv (I2 E3) λ(x7:Bool)=>.br (!x7) (.lf (E1,false)) (.lf (E3,true)))) (let E4:=({Op:=wrap i64 x0,A:=wrap i64 x1,B:=wrap i64 x2,C:=0,bw:=wrap i32 x4}:gw);.lv (I2 E4) λ(x8:Bool)=>.br (!x8) (.lf (E1,false)) (.lf (E4,true)))))))))
def Og w:=(Lk w).m
abbrev Que w:=(Lk w).p
def Zkx:ba:=mT 189 [] true [.one (.int .u32)] [] (λa r=>Lk (au a 0)) (λX=>.dw [.agg (gw.cells (X.1)),.bool (X.2)]) (λX=>[])
theorem Zfs:bm pG Zkx:=oT (.cons Qoa (.cons Zcx (.cons Qlx (.cons Zh (.nil))))) Tryz.func189 Tryz.call189 [] [] 2
def Lx(a b:Int):Tree (Int×Int):=
.br (b==0) (.lf (4294967295,a)) (let T1:Tree ((Int×Int)):=.cn (decide (wrap i32 b≠0)) (.cn (decide (wrap i32 b≠0)) (.lf (wrap u32 (wrap i32 (eF (wrap i32 a) (wrap i32 b))),wrap u32 (cZ (wrap i32 a) (wrap i32 b)))));.br (a==2147483648) (.br (b==4294967295) (.lf (a,0)) T1) T1)
def Lv a b:=(Lx a b).m
abbrev Qjr a b:=(Lx a b).p
def Zf5:ba:=mT 277 [] true [.one (.int .u32),.one (.int .u32)] [] (λa r=>Lx (au a 0) (au a 1)) (λX=>.dw [.int .u32 (X.1),.int .u32 (X.2)]) (λX=>[])
theorem Za8:bm pG Zf5:=oT (.nil) Tryz.func277 Tryz.call277 [] [] 2
def Z7v(b:Bool):Tree Int:=
.br b (.lf 1) (.lf 0)
def Vl b:=(Z7v b).m
def Zm8:ba:=mS 278 [] true [.one (.bool)] [] (λa r=>Z7v (kC a 0)) (λX=>.int .u32 X) (λX=>[])
theorem Zid:bm pG Zm8:=oS (.nil) Tryz.func278 Tryz.call278 [] [] 2
def Rs(op a b:Int):Tree (Int×Bool):=
.br (op==2) (.lf (wrap u32 (a+wrap u32 (0-b)),true)) (.br (op==1) (.lf (wrap u32 (a+b),true)) (.br (op==16) (.lf (wrap u32 (a+b),true)) (.br (op==3) (.lf (bb u32 a b,true)) (.br (op==17) (.lf (bb u32 a b,true)) (.br (op==4) (.lf (iJ u32 a b,true)) (.br (op==18) (.lf (iJ u32 a b,true)) (.br (op==5) (.lf (rG u32 a b,true)) (.br (op==19) (.lf (rG u32 a b,true)) (.br (op==6) (.lf (ei u32 a (bb u32 b 31),true)) (.br (op==20) (.lf (ei u32 a (bb u32 b 31),true)) (.br (op==7) (.lf (bj u32 a (bb u32 b 31),true)) (.br (op==21) (.lf (bj u32 a (bb u32 b 31),true)) (let E1:=(wrap u32 (bj i32 (wrap i32 a) (bb u32 b 31)),true);.br (op==8) (.lf E1) (.br (op==22) (.lf E1) (.br (op==9) (.lf (wrap u32 (a*b),true)) (.br (op==10) (.an (Qjr a b) (.lv (Lv a b) λ(x0:Int×Int)=>.lf (x0.1,true))) (.br (op==11) (.an (Qjr a b) (.lv (Lv a b) λ(x1:Int×Int)=>.lf (x1.2,true))) (.br (op==12) (.lv (Vl (decide (wrap i32 a<wrap i32 b))) λ(x2:Int)=>.lf (x2,true)) (.br (op==23) (.lv (Vl (decide (wrap i32 a<wrap i32 b))) λ(x3:Int)=>.lf (x3,true)) (.br (op==13) (.lv (Vl (decide (a<b))) λ(x4:Int)=>.lf (x4,true)) (.lf (0,false))))))))))))))))))))))
def nK op a b:=(Rs op a b).m
abbrev Qvo op a b:=(Rs op a b).p
def zC:ba:=mT 248 [] true [.one (.int .i64),.one (.int .u32),.one (.int .u32)] [] (λa r=>Rs (au a 0) (au a 1) (au a 2)) (λX=>.dw [.int .u32 (X.1),.bool (X.2)]) (λX=>[])
theorem Zqv:bm pG zC:=oT (.cons Za8 (.cons Zid (.nil))) Tryz.func248 Tryz.call248 [] [] 2
end
noncomputable section
def Vk(status DD to:Int):Tree Int:=
.br (bb u32 status DD !=0) (.lf (iJ u32 status to)) (.lf (oR u32 status to))
def Av status DD to:=(Vk status DD to).m
def Zra:ba:=mS 235 [] true [.one (.int .u32),.one (.int .u32),.one (.int .u32)] [] (λa r=>Vk (au a 0) (au a 1) (au a 2)) (λX=>.int .u32 X) (λX=>[])
theorem Z54:bm pG Zra:=oS (.nil) Tryz.func235 Tryz.call235 [] [] 2
def Om(c:bq)(oI bad:Int):Tree bq:=
.lv (Av c.C3.a0 1 8) λ(x0:Int)=>.lv (Av x0 2 16) λ(x1:Int)=>.lf ({X:=c.X,Pc:=c.C3.a1,C3:={a0:=oR u32 (iJ u32 x1 1) 2,a1:=c.C3.a1,a2:=c.Pc,a3:=wrap u32 oI,a4:=bad,a5:=c.C3.a5,a6:=c.C3.a6,a7:=c.C3.a7}})
def rh c oI bad:=(Om c oI bad).m
def Zt0:ba:=mS 187 [] true [.agg bq.sig,.one (.int .i64),.one (.int .u32)] [] (λa r=>Om (bq.of (aC a 0)) (au a 1) (au a 2)) (λX=>.agg (bq.cells X)) (λX=>[])
theorem RY:bm pG Zt0:=oS (.cons Z54 (.nil)) Tryz.func187 Tryz.call187 [] [] 2
def Qw8(access:Int):Tree (Int×Bool):=
.br (access==1) (.lf (4,true)) (.br (access==2) (.lf (5,true)) (.br (access==3) (.lf (6,true)) (.lf (5,false))))
def Qvh access:=(Qw8 access).m
def Zew:ba:=mS 270 [] true [.one (.int .i64)] [] (λa r=>Qw8 (au a 0)) (λX=>.dw [.int .i64 (X.1),.bool (X.2)]) (λX=>[])
theorem Zaj:bm pG Zew:=oS (.nil) Tryz.func270 Tryz.call270 [] [] 2
def Z1b(c:bq):Tree Bool:=
.lf (bb u32 c.C3.a0 (1:Int) !=(0:Int))
def I6 c:=(Z1b c).m
def Zia:ba:=mS 191 [] true [.agg bq.sig] [] (λa r=>Z1b (bq.of (aC a 0))) (λX=>.bool X) (λX=>[])
theorem Qwu:bm pG Zia:=oS (.nil) Tryz.func191 Tryz.call191 [] [] 2
def Qpu(access:Int):Tree (Int×Bool):=
.br (access==1) (.lf (4,true)) (.br (access==2) (.lf (5,true)) (.br (access==3) (.lf (6,true)) (.lf (5,false))))
def Qm9 access:=(Qpu access).m
def Z2v:ba:=mS 289 [] true [.one (.int .i64)] [] (λa r=>Qpu (au a 0)) (λX=>.dw [.int .i64 (X.1),.bool (X.2)]) (λX=>[])
theorem Qyn:bm pG Z2v:=oS (.nil) Tryz.func289 Tryz.call289 [] [] 2
def Qj5(m:List Int)(frame:Int):Tree Bool:=
.lv (jQ m) λ(x0:Int)=>.lf (decide (wrap u64 frame<wrap u64 x0))
def Oj m frame:=(Qj5 m frame).m
def Z53:ba:=mS 290 [] true [.one (.ints .u32),.one (.int .u32)] [] (λa r=>Qj5 (dh .u32 a 0) (au a 1)) (λX=>.bool X) (λX=>[])
theorem Z2a:bm pG Z53:=oS (.cons Bt (.nil)) Tryz.func290 Tryz.call290 [] [] 2
def Lo(m:List Int)(addr size:Int):Tree (Int×Bool):=
.an (Qfy m addr size) (.lv (Xo m addr size) λ(x0:Bool)=>.br (!x0) (.lf (0,false)) (.cn (bX 1 1&&bN 0 1&&decide (0<=wrap u32 (eF addr 4)/\wrap u32 (eF addr 4)<(m.length:Int))) (let E1:=dA (wrap u32 (eF addr 4));.br (size==1) (let E2:=wrap i64 (wrap i64 (cZ addr 4)*8);.an (MJ (m.getD E1 0) E2 8) (.lv (tG (m.getD E1 0) E2 8) λ(x1:Int)=>.lf (x1,true))) (.lf (m.getD E1 0,true)))))
def Cm m addr size:=(Lo m addr size).m
abbrev JX m addr size:=(Lo m addr size).p
def Zei:ba:=mT 237 [] true [.one (.ints .u32),.one (.int .u32),.one (.int .i64)] [] (λa r=>Lo (dh .u32 a 0) (au a 1) (au a 2)) (λX=>.dw [.int .u32 (X.1),.bool (X.2)]) (λX=>[])
theorem RZ:bm pG Zei:=oT (.cons Qpy (.cons Qoa (.nil))) Tryz.func237 Tryz.call237 [] [] 2
def Qpo(Bu access:Int):Tree Bool:=
.br (bb u32 Bu (1:Int)==(0:Int)) (.lf false) (.br (access==3) (.lf (bb u32 Bu (2:Int) !=(0:Int))) (.br (access==1) (.lf (bb u32 Bu (4:Int) !=(0:Int))) (.lf true)))
def Tv Bu access:=(Qpo Bu access).m
def Z36:ba:=mS 291 [] true [.one (.int .u32),.one (.int .i64)] [] (λa r=>Qpo (au a 0) (au a 1)) (λX=>.bool X) (λX=>[])
theorem Qzf:bm pG Z36:=oS (.nil) Tryz.func291 Tryz.call291 [] [] 2
def Rq(Bu:Int):Tree Int:=
.an (MJ Bu 8 8) (.lv (tG Bu 8 8) λ(x0:Int)=>.lf x0)
def Xt Bu:=(Rq Bu).m
abbrev Qel Bu:=(Rq Bu).p
def Z34:ba:=mT 292 [] true [.one (.int .u32)] [] (λa r=>Rq (au a 0)) (λX=>.int .u32 X) (λX=>[])
theorem Qyo:bm pG Z34:=oT (.cons Qoa (.nil)) Tryz.func292 Tryz.call292 [] [] 2
def Qb(m:List Int)(root va access:Int):Tree rI:=
.lv (Qm9 access) λ(x0:Int×Bool)=>let E1:=({Addr:=0,G2:=0,G1:=x0.1}:rI);.br (!x0.2) (.lf (E1)) (.br (decide (va>=4096)) (.lf (E1)) (.lv (Oj m root) λ(x1:Bool)=>.br (!x1) (.lf (E1)) (let E2:=wrap u32 (root*128)+wrap u32 (4*wrap u32 (eF va 128));.an (JX m (wrap u32 E2) 4) (.lv (Cm m (wrap u32 E2) 4) λ(x2:Int×Bool)=>.br (!x2.2) (.lf (E1)) (.lv (Tv x2.1 access) λ(x3:Bool)=>.br (!x3) (.lf (E1)) (.an (Qel x2.1) (.lv (Xt x2.1) λ(x4:Int)=>.lv (Oj m x4) λ(x5:Bool)=>.br (!x5) (.lf (E1)) (.an (Qel x2.1) (.lv (Xt x2.1) λ(x6:Int)=>.lf ({Addr:=wrap u32 (wrap u32 (x6*128)+cZ va 128),G2:=wrap u32 E2,G1:=0}))))))))))
def Tu m root va access:=(Qb m root va access).m
abbrev Qj4 m root va access:=(Qb m root va access).p
def Zeq:ba:=mT 271 [] true [.one (.ints .u32),.one (.int .u32),.one (.int .u32),.one (.int .i64)] [] (λa r=>Qb (dh .u32 a 0) (au a 1) (au a 2) (au a 3)) (λX=>.agg (rI.cells X)) (λX=>[])
theorem Z9m:bm pG Zeq:=oT (.cons Qyn (.cons Z2a (.cons RZ (.cons Qzf (.cons Qyo (.nil)))))) Tryz.func271 Tryz.call271 [] [] 2
def Lt(m:List Int)(entry access:Int):Tree (List Int):=
.an (JX m entry 4) (.lv (Cm m entry 4) λ(x0:Int×Bool)=>.br (!x0.2) (.an (nW m) (.lv (kA m) λ(x1:List Int)=>.lf x1)) (.br (access==3) (.an (Qc7 m entry 4 (iJ u32 (iJ u32 x0.1 8) 16)) (.lv (Lp m entry 4 (iJ u32 (iJ u32 x0.1 8) 16)) λ(x2:List Int×Bool)=>.lf x2.1)) (.an (Qc7 m entry 4 (iJ u32 x0.1 8)) (.lv (Lp m entry 4 (iJ u32 x0.1 8)) λ(x3:List Int×Bool)=>.lf x3.1))))
def Ol m entry access:=(Lt m entry access).m
abbrev Qhh m entry access:=(Lt m entry access).p
def Z8u:ba:=mT 272 [] true [.one (.ints .u32),.one (.int .u32),.one (.int .i64)] [] (λa r=>Lt (dh .u32 a 0) (au a 1) (au a 2)) (λX=>.all 0) (λX=>[⟨false,25,1,.ints .u32 X⟩])
theorem Z8a:bm pG Z8u:=oT (.cons RZ (.cons Kb (.cons Qs6 (.nil)))) Tryz.func272 Tryz.call272 [.row 25 1 (.ints .u32)] [] 2
def Lz(c:bq)(m:List Int)(va size access:Int):Tree (Int×(List Int)×Int):=
.lv (Qvh access) λ(x0:Int×Bool)=>let T3:Tree ((Int×(List Int)×Int)):=.an (nW m) (.lv (kA m) λ(x1:List Int)=>.lf (0,x1,5));.br (!x0.2) T3 (let T1:Tree ((Int×(List Int)×Int)):=.cn (decide (wrap u32 size≠0)) (.br (cZ va (wrap u32 size) !=0) (.an (nW m) (.lv (kA m) λ(x3:List Int)=>.lf (0,x3,3))) (.lv (I6 c) λ(x4:Bool)=>let T2:Tree ((Int×(List Int)×Int)):=.an (JX m va size) (.lv (Cm m va size) λ(x8:Int×Bool)=>.br (!x8.2) (.an (nW m) (.lv (kA m) λ(x9:List Int)=>.lf (0,x9,x0.1))) (.an (nW m) (.lv (kA m) λ(jy:List Int)=>.lf (va,jy,0))));.br (!x4) (.br (bb u32 c.C3.a0 (4:Int) !=(0:Int)) (.an (Qj4 m c.C3.a6 va access) (.lv (Tu m c.C3.a6 va access) λ(x5:rI)=>.br (x5.G1 !=0) (.an (nW m) (.lv (kA m) λ(x6:List Int)=>.lf (0,x6,x5.G1))) (.an (Qhh m x5.G2 access) (.lv (Ol m x5.G2 access) λ(x7:List Int)=>.lf (x5.Addr,x7,0))))) T2) T2));.br (size !=1) (.br (size !=4) T3 T1) T1)
def Q2 c m va size access:=(Lz c m va size access).m
abbrev Qdu c m va size access:=(Lz c m va size access).p
def Zfo:ba:=mT 236 [] true [.agg bq.sig,.one (.ints .u32),.one (.int .u32),.one (.int .i64),.one (.int .i64)] [] (λa r=>Lz (bq.of (aC a 0)) (dh .u32 a 1) (au a 2) (au a 3) (au a 4)) (λX=>.dw [.int .u32 (X.1),.all 0,.int .i64 (X.2.2)]) (λX=>[⟨false,25,1,.ints .u32 (X.2.1)⟩])
theorem Qm8:bm pG Zfo:=oT (.cons Zaj (.cons Kb (.cons Qwu (.cons Z9m (.cons Z8a (.cons RZ (.nil))))))) Tryz.func236 Tryz.call236 [.row 25 1 (.ints .u32)] [] 2
def Rr(c:bq)(m:List Int):Tree (Int×(List Int)×Int):=
.an (Qdu c m c.Pc 4 1) (.lv (Q2 c m c.Pc 4 1) λ(x0:Int×List Int×Int)=>.br (x0.2.2 !=0) (.lf (0,x0.2.1,x0.2.2)) (.an (JX x0.2.1 x0.1 4) (.lv (Cm x0.2.1 x0.1 4) λ(x1:Int×Bool)=>.lf (x1.1,x0.2.1,0))))
def TE c m:=(Rr c m).m
abbrev Qxg c m:=(Rr c m).p
def Zny:ba:=mT 188 [] true [.agg bq.sig,.one (.ints .u32)] [] (λa r=>Rr (bq.of (aC a 0)) (dh .u32 a 1)) (λX=>.dw [.int .u32 (X.1),.all 0,.int .i64 (X.2.2)]) (λX=>[⟨false,25,1,.ints .u32 (X.2.1)⟩])
theorem Zkl:bm pG Zny:=oT (.cons Qm8 (.cons RZ (.nil))) Tryz.func188 Tryz.call188 [.row 25 1 (.ints .u32)] [] 2
def Qq(op:Int):Tree Bool:=
.br (op==57) (.lf true) (.br (op==58) (.lf true) (.br (op==59) (.lf true) (.br (op==60) (.lf true) (.br (op==61) (.lf true) (.br (op==62) (.lf true) (.br (op==63) (.lf true) (.br (op==64) (.lf true) (.lf false))))))))
def Od op:=(Qq op).m
def Z2y:ba:=mS 190 [] true [.one (.int .i64)] [] (λa r=>Qq (au a 0)) (λX=>.bool X) (λX=>[])
theorem Z0i:bm pG Z2y:=oS (.nil) Tryz.func190 Tryz.call190 [] [] 2
def Qvq(op:Int):Tree Int:=
.br (op==32) (.lf 4) (.br (op==35) (.lf 4) (.lf 1))
def JY op:=(Qvq op).m
def Zlw:ba:=mS 242 [] true [.one (.int .i64)] [] (λa r=>Qvq (au a 0)) (λX=>.int .i64 X) (λX=>[])
theorem Z1h:bm pG Zlw:=oS (.nil) Tryz.func242 Tryz.call242 [] [] 2
def ES(c:bq)(register v:Int):Tree bq:=
.br (register !=0) (.cn (bN 0 1&&decide (0<=register/\register<(↑16:Int))) (.lf ({X:=iv.of 0 (dB (iv.l c.X) register.toNat v),Pc:=c.Pc,C3:=c.C3}))) (.lf c)
def uz c register v:=(ES c register v).m
abbrev HX c register v:=(ES c register v).p
def yC:ba:=mT 243 [] true [.agg bq.sig,.one (.int .i64),.one (.int .u32)] [] (λa r=>ES (bq.of (aC a 0)) (au a 1) (au a 2)) (λX=>.agg (bq.cells X)) (λX=>[])
theorem Zaz:bm pG yC:=oT (.nil) Tryz.func243 Tryz.call243 [] [] 2
def IV(c:bq)(m:List Int)(i:gw):Tree (bq×(List Int)):=
.cn (bN 0 1&&decide (0<=i.B/\i.B<(↑16:Int))) (.lv (JY i.Op) λ(x0:Int)=>let E1:=wrap u32 (aV (iv.l c.X) i.B.toNat 0+wrap u32 i.bw);.an (Qdu c m E1 x0 2) (.lv (Q2 c m E1 x0 2) λ(x1:Int×List Int×Int)=>.br (x1.2.2 !=0) (.lv (rh c x1.2.2 E1) λ(x2:bq)=>.lf (x2,x1.2.1)) (.lv (JY i.Op) λ(x3:Int)=>.an (JX x1.2.1 x1.1 x3) (.lv (Cm x1.2.1 x1.1 x3) λ(x4:Int×Bool)=>.br (i.Op==33) (.an (Qci x4.1 8) (.lv (DU x4.1 8) λ(x5:Int)=>.an (HX c i.A x5) (.lv (uz c i.A x5) λ(x6:bq)=>.lf ({X:=x6.X,Pc:=wrap u32 (x6.Pc+4),C3:=x6.C3},x1.2.1)))) (.an (HX c i.A x4.1) (.lv (uz c i.A x4.1) λ(x7:bq)=>.lf ({X:=x7.X,Pc:=wrap u32 (x7.Pc+4),C3:=x7.C3},x1.2.1)))))))
def tH c m i:=(IV c m i).m
abbrev Z1z c m i:=(IV c m i).p
def Zs1:ba:=mT 192 [] true [.agg bq.sig,.one (.ints .u32),.agg gw.sig] [] (λa r=>IV (bq.of (aC a 0)) (dh .u32 a 1) (gw.of (aC a 2))) (λX=>.dw [.agg (bq.cells (X.1)),.all 0]) (λX=>[⟨false,25,1,.ints .u32 (X.2)⟩])
theorem Zmp:bm pG Zs1:=oT (.cons Qm8 (.cons Z1h (.cons RY (.cons RZ (.cons Qlx (.cons Zaz (.nil))))))) Tryz.func192 Tryz.call192 [.row 25 1 (.ints .u32)] [] 2
def IX(c:bq)(m:List Int)(i:gw):Tree (bq×(List Int)):=
.cn (bN 0 1&&decide (0<=i.B/\i.B<(↑16:Int))) (.lv (JY i.Op) λ(x0:Int)=>let E1:=wrap u32 (aV (iv.l c.X) i.B.toNat 0+wrap u32 i.bw);.an (Qdu c m E1 x0 3) (.lv (Q2 c m E1 x0 3) λ(x1:Int×List Int×Int)=>.br (x1.2.2 !=0) (.lv (rh c x1.2.2 E1) λ(x2:bq)=>.lf (x2,x1.2.1)) (.lv (JY i.Op) λ(x3:Int)=>.cn (bN 0 1&&decide (0<=i.A/\i.A<(↑16:Int))) (let E2:=aV (iv.l c.X) i.A.toNat 0;.an (Qc7 x1.2.1 x1.1 x3 E2) (.lv (Lp x1.2.1 x1.1 x3 E2) λ(x4:List Int×Bool)=>.lf ({X:=c.X,Pc:=wrap u32 (c.Pc+4),C3:=c.C3},x4.1))))))
def Cp c m i:=(IX c m i).m
abbrev Qy1 c m i:=(IX c m i).p
def Zmd:ba:=mT 193 [] true [.agg bq.sig,.one (.ints .u32),.agg gw.sig] [] (λa r=>IX (bq.of (aC a 0)) (dh .u32 a 1) (gw.of (aC a 2))) (λX=>.dw [.agg (bq.cells (X.1)),.all 0]) (λX=>[⟨false,25,1,.ints .u32 (X.2)⟩])
theorem Zi6:bm pG Zmd:=oT (.cons Qm8 (.cons Z1h (.cons RY (.cons Qs6 (.nil))))) Tryz.func193 Tryz.call193 [.row 25 1 (.ints .u32)] [] 2
def Z4t(op a b:Int):Tree Bool:=
.br (op==40) (.lf (a==b)) (.br (op==41) (.lf (a !=b)) (.br (op==42) (.lf (decide (wrap i32 a<wrap i32 b))) (.br (op==43) (.lf (decide (wrap i32 a>=wrap i32 b))) (.br (op==44) (.lf (decide (a<b))) (.lf (decide (a>=b)))))))
def Zku op a b:=(Z4t op a b).m
def Zly:ba:=mS 245 [] true [.one (.int .i64),.one (.int .u32),.one (.int .u32)] [] (λa r=>Z4t (au a 0) (au a 1) (au a 2)) (λX=>.bool X) (λX=>[])
theorem Ziu:bm pG Zly:=oS (.nil) Tryz.func245 Tryz.call245 [] [] 2
def Oo(c:bq):Tree bq:=
.lv (Av c.C3.a0 8 1) λ(x0:Int)=>.lv (Av x0 16 2) λ(x1:Int)=>.lf ({X:=c.X,Pc:=c.C3.a2,C3:={a0:=x1,a1:=c.C3.a1,a2:=c.C3.a2,a3:=c.C3.a3,a4:=c.C3.a4,a5:=c.C3.a5,a6:=c.C3.a6,a7:=c.C3.a7}})
def Lb c:=(Oo c).m
def Zjx:ba:=mS 246 [] true [.agg bq.sig] [] (λa r=>Oo (bq.of (aC a 0))) (λX=>.agg (bq.cells X)) (λX=>[])
theorem Zef:bm pG Zjx:=oS (.cons Z54 (.nil)) Tryz.func246 Tryz.call246 [] [] 2
def IU(c:bq)(jq v:Int):Tree bq:=
let E4:=bN 0 1&&decide (0<=jq/\jq<(↑8:Int));let T2:Tree (bq):=.cn E4 (.lf ({X:=c.X,Pc:=c.Pc,C3:=A8.of 0 (dB (A8.l c.C3) jq.toNat (bb u32 v 31))}));.br (jq==0) T2 (.br (jq==7) T2 (.br (jq==6) (.cn E4 (.lf ({X:=c.X,Pc:=c.Pc,C3:=A8.of 0 (dB (A8.l c.C3) jq.toNat (bb u32 v 255))}))) (let T3:Tree (bq):=.cn E4 (.lf ({X:=c.X,Pc:=c.Pc,C3:=A8.of 0 (dB (A8.l c.C3) jq.toNat (oR u32 v 3))}));.br (jq==1) T3 (.br (jq==2) T3 (let T1:Tree (bq):=.cn E4 (.lf ({X:=c.X,Pc:=c.Pc,C3:=A8.of 0 (dB (A8.l c.C3) jq.toNat v)}));.br (jq==3) T1 (.br (jq==4) T1 (.br (jq==5) T1 (.lf c))))))))
def Zie c jq v:=(IU c jq v).m
abbrev Qwy c jq v:=(IU c jq v).p
def Zn9:ba:=mT 247 [] true [.agg bq.sig,.one (.int .i64),.one (.int .u32)] [] (λa r=>IU (bq.of (aC a 0)) (au a 1) (au a 2)) (λX=>.agg (bq.cells X)) (λX=>[])
theorem Zji:bm pG Zn9:=oT (.nil) Tryz.func247 Tryz.call247 [] [] 2
def ET(c:bq)(i:gw):Tree (bq×lK):=
.cn (bN 0 1&&decide (0<=i.A/\i.A<(↑16:Int))) (.cn (bN 0 1&&decide (0<=i.B/\i.B<(↑16:Int))) (.br (i.Op==24) (.an (HX c i.A (ei u32 (wrap u32 i.bw) 16)) (.lv (uz c i.A (ei u32 (wrap u32 i.bw) 16)) λ(x0:bq)=>.lf ({X:=x0.X,Pc:=wrap u32 (c.Pc+4),C3:=x0.C3},{C2:=0,D8:=0,F9:=0,Value:=0}))) (let E2:=({X:=c.X,Pc:=wrap u32 (c.Pc+4),C3:=c.C3}:bq);let E3:=aV (iv.l c.X) i.B.toNat 0;let E4:=aV (iv.l c.X) i.A.toNat 0;let T1:Tree ((bq×lK)):=.lv (Zku i.Op E4 E3) λ(x1:Bool)=>.br x1 (.lf ({X:=c.X,Pc:=wrap u32 (c.Pc+wrap u32 (4*wrap u32 i.bw)),C3:=c.C3},{C2:=0,D8:=0,F9:=0,Value:=0})) (.lf (E2,{C2:=0,D8:=0,F9:=0,Value:=0}));.br (i.Op==40) T1 (.br (i.Op==41) T1 (.br (i.Op==42) T1 (.br (i.Op==43) T1 (.br (i.Op==44) T1 (.br (i.Op==45) T1 (.br (i.Op==48) (.an (HX c i.A (wrap u32 (c.Pc+4))) (.lv (uz c i.A (wrap u32 (c.Pc+4))) λ(x7:bq)=>.lf ({X:=x7.X,Pc:=wrap u32 (x7.Pc+wrap u32 (4*wrap u32 i.bw)),C3:=x7.C3},{C2:=0,D8:=0,F9:=0,Value:=0}))) (.br (i.Op==49) (.an (HX c i.A (wrap u32 (c.Pc+4))) (.lv (uz c i.A (wrap u32 (c.Pc+4))) λ(x8:bq)=>.lf ({X:=x8.X,Pc:=wrap u32 (aV (iv.l c.X) i.B.toNat 0+wrap u32 i.bw),C3:=x8.C3},{C2:=0,D8:=0,F9:=0,Value:=0}))) (.br (i.Op==56) (.lv (rh c 7 0) λ(x9:bq)=>.lf (x9,{C2:=0,D8:=0,F9:=0,Value:=0})) (.br (i.Op==57) (.lv (Lb c) λ(jy:bq)=>.lf (jy,{C2:=0,D8:=0,F9:=0,Value:=0})) (.br (i.Op==58) (.cn (bN 0 1&&decide (0<=i.bw/\i.bw<(↑8:Int))) (let E5:=aV (A8.l c.C3) i.bw.toNat 0;.an (HX c i.A E5) (.lv (uz c i.A E5) λ(kI:bq)=>.lf ({X:=kI.X,Pc:=wrap u32 (c.Pc+4),C3:=kI.C3},{C2:=0,D8:=0,F9:=0,Value:=0})))) (.br (i.Op==59) (.an (Qwy c (wrap i64 i.bw) E4) (.lv (Zie c (wrap i64 i.bw) E4) λ(kr:bq)=>.lf ({X:=kr.X,Pc:=wrap u32 (c.Pc+4),C3:=kr.C3},{C2:=0,D8:=0,F9:=0,Value:=0}))) (.br (i.Op==60) (.lf (E2,{C2:=1,D8:=wrap i64 i.bw,F9:=i.A,Value:=0})) (.br (i.Op==61) (.lf (E2,{C2:=2,D8:=wrap i64 i.bw,F9:=0,Value:=aV (iv.l c.X) i.A.toNat 0})) (.br (i.Op==62) (.lf (E2,{C2:=3,D8:=0,F9:=0,Value:=0})) (.br (i.Op==63) (.lf (E2,{C2:=5,D8:=0,F9:=0,Value:=0})) (.br (i.Op==64) (.lf (E2,{C2:=4,D8:=0,F9:=0,Value:=0})) (.cn (bN 0 1&&decide (0<=i.C/\i.C<(↑16:Int))) (.br (decide (i.Op>=16)) (.an (Qvo i.Op E3 (wrap u32 i.bw)) (.lv (nK i.Op E3 (wrap u32 i.bw)) λ(AO:Int×Bool)=>.an (HX c i.A AO.1) (.lv (uz c i.A AO.1) λ(Ge:bq)=>.lf ({X:=Ge.X,Pc:=wrap u32 (c.Pc+4),C3:=Ge.C3},{C2:=0,D8:=0,F9:=0,Value:=0})))) (let E6:=aV (iv.l c.X) i.C.toNat 0;.an (Qvo i.Op E3 E6) (.lv (nK i.Op E3 E6) λ(x15:Int×Bool)=>.an (HX c i.A x15.1) (.lv (uz c i.A x15.1) λ(Gf:bq)=>.lf ({X:=Gf.X,Pc:=wrap u32 (c.Pc+4),C3:=Gf.C3},{C2:=0,D8:=0,F9:=0,Value:=0})))))))))))))))))))))))))
def Xx c i:=(ET c i).m
abbrev Qri c i:=(ET c i).p
def Zdp:ba:=mT 194 [] true [.agg bq.sig,.agg gw.sig] [] (λa r=>ET (bq.of (aC a 0)) (gw.of (aC a 1))) (λX=>.dw [.agg (bq.cells (X.1)),.agg (lK.cells (X.2))]) (λX=>[])
theorem Z9s:bm pG Zdp:=oT (.cons Zaz (.cons Ziu (.cons RY (.cons Zef (.cons Zji (.cons Zqv (.nil))))))) Tryz.func194 Tryz.call194 [] [] 2
def EU(c:bq)(m:List Int):Tree (bq×(List Int)×lK):=
.an (Qxg c m) (.lv (TE c m) λ(x0:Int×List Int×Int)=>.br (x0.2.2 !=0) (.lv (rh c x0.2.2 c.Pc) λ(x1:bq)=>.lf (x1,x0.2.1,{C2:=0,D8:=0,F9:=0,Value:=0})) (.an (Que x0.1) (.lv (Og x0.1) λ(x2:gw×Bool)=>.br (!x2.2) (.lv (rh c 1 x0.1) λ(x3:bq)=>.lf (x3,x0.2.1,{C2:=0,D8:=0,F9:=0,Value:=0})) (.lv (Od x2.1.Op) λ(x4:Bool)=>let T1:Tree ((bq×(List Int)×lK)):=let T2:Tree ((bq×(List Int)×lK)):=.an (Z1z c x0.2.1 x2.1) (.lv (tH c x0.2.1 x2.1) λ(x7:bq×List Int)=>.lf (x7.1,x7.2,{C2:=0,D8:=0,F9:=0,Value:=0}));.br (x2.1.Op==32) T2 (.br (x2.1.Op==33) T2 (.br (x2.1.Op==34) T2 (let T3:Tree ((bq×(List Int)×lK)):=.an (Qy1 c x0.2.1 x2.1) (.lv (Cp c x0.2.1 x2.1) λ(jy:bq×List Int)=>.lf (jy.1,jy.2,{C2:=0,D8:=0,F9:=0,Value:=0}));.br (x2.1.Op==35) T3 (.br (x2.1.Op==36) T3 (.an (Qri c x2.1) (.lv (Xx c x2.1) λ(kr:bq×lK)=>.lf (kr.1,x0.2.1,kr.2)))))));.br x4 (.lv (I6 c) λ(x5:Bool)=>.br (!x5) (.lv (rh c 2 x0.1) λ(x6:bq)=>.lf (x6,x0.2.1,{C2:=0,D8:=0,F9:=0,Value:=0})) T1) T1))))
def Cq c m:=(EU c m).m
abbrev Z1p c m:=(EU c m).p
def Zst:ba:=mT 137 [] true [.agg bq.sig,.one (.ints .u32)] [] (λa r=>EU (bq.of (aC a 0)) (dh .u32 a 1)) (λX=>.dw [.agg (bq.cells (X.1)),.all 0,.agg (lK.cells (X.2.2))]) (λX=>[⟨false,25,1,.ints .u32 (X.2.1)⟩])
theorem Zob:bm pG Zst:=oT (.cons Zkl (.cons RY (.cons Zfs (.cons Z0i (.cons Qwu (.cons Zmp (.cons Zi6 (.cons Z9s (.nil))))))))) Tryz.func137 Tryz.call137 [.row 25 1 (.ints .u32)] [] 2
end
noncomputable section
def Kc:List UInt8:=[(0:UInt8),1,2,2,3,3,3,3,4,4,4,4,4,4,4,4,5,5,5,5,5,5,5,5,5,5,5,5,5,5,5,5,6,6,6,6,6,6,6,6,6,6,6,6,6,6,6,6,6,6,6,6,6,6,6,6,6,6,6,6,6,6,6,6]
def R3:List UInt8:=[(7:UInt8),7,7,7,7,7,7,7,7,7,7,7,7,7,7,7,7,7,7,7,7,7,7,7,7,7,7,7,7,7,7,7,7,7,7,7,7,7,7,7,7,7,7,7,7,7,7,7,7,7,7,7,7,7,7,7,7,7,7,7,7,7,7,7]
def Eo:List UInt8:=[(8:UInt8),8,8,8,8,8,8,8,8,8,8,8,8,8,8,8,8,8,8,8,8,8,8,8,8,8,8,8,8,8,8,8,8,8,8,8,8,8,8,8,8,8,8,8,8,8,8,8,8,8,8,8,8,8,8,8,8,8,8,8,8,8,8,8]
def VB:List UInt8:=[(1:UInt8),2,2,3,3,3,3,4,4,4,4,4,4,4,4,5,5,5,5,5,5,5,5,5,5,5,5,5,5,5,5,6,6,6,6,6,6,6,6,6,6,6,6,6,6,6,6,6,6,6,6,6,6,6,6,6,6,6,6,6,6,6,6]
def Kd:List UInt8:=[(0:UInt8),1,1,2,1,2,2,3,1,2,2,3,2,3,3,4,1,2,2,3,2,3,3,4,2,3,3,4,3,4,4,5,1,2,2,3,2,3,3,4,2,3,3,4,3,4,4,5,2,3,3,4,3,4,4,5,3,4,4,5,4,5,5,6]
def Ep:List UInt8:=[(1:UInt8),2,2,3,2,3,3,4,2,3,3,4,3,4,4,5,2,3,3,4,3,4,4,5,3,4,4,5,4,5,5,6,2,3,3,4,3,4,4,5,3,4,4,5,4,5,5,6,3,4,4,5,4,5,5,6,4,5,5,6,5,6,6,7]
def R4:List UInt8:=[(2:UInt8),3,3,4,3,4,4,5,3,4,4,5,4,5,5,6,3,4,4,5,4,5,5,6,4,5,5,6,5,6,6,7,3,4,4,5,4,5,5,6,4,5,5,6,5,6,6,7,4,5,5,6,5,6,6,7,5,6,6,7,6,7,7,8]
def VC:List UInt8:=[(1:UInt8),1,2,1,2,2,3,1,2,2,3,2,3,3,4,1,2,2,3,2,3,3,4,2,3,3,4,3,4,4,5,1,2,2,3,2,3,3,4,2,3,3,4,3,4,4,5,2,3,3,4,3,4,4,5,3,4,4,5,4,5,5,6]
def Qyg(c:iN):Tree Bool:=
.lf (decide ((c.D9.length:Int)<=(16:Int)))
def AY c:=(Qyg c).m
def Zfd:ba:=mS 151 [] true [.agg iN.sig] [] (λa r=>Qyg (iN.of (aC a 0))) (λX=>.bool X) (λX=>[])
theorem Zaq:bm pG Zfd:=oS (.nil) Tryz.func151 Tryz.call151 [] [] 2
def Tg(t:iV):Tree Bool:=
.br t.F2 (.br (!t.E0) (.lf (t.D4 !=0)) (.lf false)) (.br t.E0 (.lf true) (.lf (t.D4==0)))
def AZ t:=(Tg t).m
def Zms:ba:=mS 152 [] true [.agg iV.sig] [] (λa r=>Tg (iV.of (aC a 0))) (λX=>.bool X) (λX=>[])
theorem Zhp:bm pG Zms:=oS (.nil) Tryz.func152 Tryz.call152 [] [] 2
def N0(d0:fx):Tree Bool:=
.br (d0.F7==1) (.lf (decide (d0.C9=[]))) (.br (d0.F7==2) (.lf ((d0.C9.length:Int)==(128:Int))) (.lf false))
def Te d0:=(N0 d0).m
def Z0t:ba:=mS 208 [] true [.agg fx.sig] [] (λa r=>N0 (fx.of (aC a 0))) (λX=>.bool X) (λX=>[])
theorem Qxo:bm pG Z0t:=oS (.nil) Tryz.func208 Tryz.call208 [] [] 2
def EP(d0:fx)(bh:Int):Tree Bool:=
.br (decide (d0.ae>64)) (.lf false) (let T1:Tree (Bool):=.br (d0.F7==0) (.br (d0.C5==0) (.br (d0.C6==0) (.lf (decide (d0.C9=[]))) (.lf false)) (.lf false)) (.lf false);.br (d0.C7==0) T1 (.br (d0.C7==2) T1 (.br (d0.C7==3) T1 (.br (d0.C7==1) (.lv (Te d0) λ(x0:Bool)=>.br x0 (.br (decide (d0.C5<d0.ae)) (.lf (decide (wrap i64 d0.C6<bh))) (.lf false)) (.lf false)) (.lf false)))))
def re d0 bh:=(EP d0 bh).m
def Zqz:ba:=mS 153 [] true [.agg fx.sig,.one (.int .i64)] [] (λa r=>EP (fx.of (aC a 0)) (au a 1)) (λX=>.bool X) (λX=>[])
theorem Znv:bm pG Zqz:=oS (.cons Qxo (.nil)) Tryz.func153 Tryz.call153 [] [] 2
def N1(n:gx)(bh:Int):Tree Bool:=
let T1:Tree (Bool):=let T2:Tree (Bool):=.br n.C4 (.br (decide (n.G0>=1)) (.lf (decide (n.G0<=128))) (.lf false)) (.lf (n.G0==0));.br n.D1 (.br (decide (wrap i64 n.D3>=bh)) (.lf false) T2) (.br (n.D3 !=0) (.lf false) T2);.br n.D1 (.br n.C4 (.lf false) T1) T1
def wD n bh:=(N1 n bh).m
def vC:ba:=mS 154 [] true [.agg gx.sig,.one (.int .i64)] [] (λa r=>N1 (gx.of (aC a 0)) (au a 1)) (λX=>.bool X) (λX=>[])
theorem Zr5:bm pG vC:=oS (.nil) Tryz.func154 Tryz.call154 [] [] 2
def DR(x:Int):Tree Int:=
let E1:=(↑(dF (cP (cP Kc R3) (cP Eo Eo))):Int);.br (decide (x>=65536)) (.br (decide (bj u32 x (16:Int)>=(256:Int))) (.cn (decide (0<=wrap u8 (bj u32 (bj u32 x 16) 8)/\wrap u8 (bj u32 (bj u32 x 16) 8)<E1)) (.lf (wrap i64 (wrap i64 ((16:Int)+(8:Int))+wrap i64 (↑(hZ (aV ((0:UInt8)::(VB++R3++(Eo++Eo))) (dA (wrap u8 (bj u32 (bj u32 x 16) 8))) (0:UInt8))):Int))))) (.cn (decide (0<=wrap u8 (bj u32 x 16)/\wrap u8 (bj u32 x 16)<E1)) (.lf (wrap i64 (16+wrap i64 (↑(hZ (aV ((0:UInt8)::(VB++R3++(Eo++Eo))) (dA (wrap u8 (bj u32 x 16))) (0:UInt8))):Int)))))) (.br (decide (x>=256)) (.cn (decide (0<=wrap u8 (bj u32 x 8)/\wrap u8 (bj u32 x 8)<E1)) (.lf (wrap i64 (wrap i64 ((0:Int)+(8:Int))+wrap i64 (↑(hZ (aV ((0:UInt8)::(VB++R3++(Eo++Eo))) (dA (wrap u8 (bj u32 x 8))) (0:UInt8))):Int))))) (.cn (decide (0<=wrap u8 x/\wrap u8 x<E1)) (.lf (wrap i64 (0+wrap i64 (↑(hZ (aV ((0:UInt8)::(VB++R3++(Eo++Eo))) (dA (wrap u8 x)) (0:UInt8))):Int))))))
def wE x:=(DR x).m
abbrev Qkh x:=(DR x).p
def Qzw:ba:=mT 209 [] true [.one (.int .u32)] [] (λa r=>DR (au a 0)) (λX=>.int .i64 X) (λX=>[])
theorem Qwv:bm pG Qzw:=oT (.nil) Tryz.func209 Tryz.call209 [] [] 2
def IN(b:gm)(bh:Int):Tree Bool:=
.an (Qkh b.D0) (.lv (wE b.D0) λ(x0:Int)=>.lf (decide (x0<=if 0>bh then 0 else bh)))
def Ba b bh:=(IN b bh).m
abbrev Ql1 b bh:=(IN b bh).p
def Zej:ba:=mT 155 [] true [.agg gm.sig,.one (.int .i64)] [] (λa r=>IN (gm.of (aC a 0)) (au a 1)) (λX=>.bool X) (λX=>[])
theorem Zal:bm pG Zej:=oT (.cons Qwv (.nil)) Tryz.func155 Tryz.call155 [] [] 2
def GS(m:bc):Tree Bool:=
.lv (jQ m.Mem) λ(x0:Int)=>.lv (AY m.B2) λ(x1:Bool)=>.br x1 (.lv (AZ m.B9) λ(x2:Bool)=>.br x2 (.lv (re m.B7 x0) λ(x3:Bool)=>.br x3 (.lv (wD m.D2 x0) λ(x4:Bool)=>.br x4 (.an (Ql1 m.A7 x0) (.lv (Ba m.A7 x0) λ(x5:Bool)=>.lf x5)) (.lf false)) (.lf false)) (.lf false)) (.lf false)
def wC m:=(GS m).m
abbrev Vw m:=(GS m).p
def Qu2:ba:=mT 115 [] true [.agg bc.sig] [] (λa r=>GS (bc.of (aC a 0))) (λX=>.bool X) (λX=>[])
theorem Qsv:bm pG Qu2:=oT (.cons Bt (.cons Zaq (.cons Zhp (.cons Znv (.cons Zr5 (.cons Zal (.nil))))))) Tryz.func115 Tryz.call115 [] [] 2
def JZ(m:bc):Tree Bool:=
.lv (jQ m.Mem) λ(x0:Int)=>.br (x0==0) (.lf false) (.br (m.B4.X.a0 !=0) (.lf false) (.br (decide (m.B4.C3.a0>31)) (.lf false) (.br (decide (m.B4.C3.a7>31)) (.lf false) (.br (decide (m.B4.C3.a6>255)) (.lf false) (.br (cZ m.B4.C3.a1 (4:Int) !=(0:Int)) (.lf false) (.br (decide (m.B6>1152921504606846976)) (.lf false) (.br m.B3 (.br m.B5 (.lf false) (.an (Vw m) (.lv (wC m) λ(x1:Bool)=>.lf x1))) (.an (Vw m) (.lv (wC m) λ(x2:Bool)=>.lf x2)))))))))
def Bb m:=(JZ m).m
abbrev Vv m:=(JZ m).p
def Zgc:ba:=mT 68 [] true [.agg bc.sig] [] (λa r=>JZ (bc.of (aC a 0))) (λX=>.bool X) (λX=>[])
theorem Quo:bm pG Zgc:=oT (.cons Bt (.cons Qsv (.nil))) Tryz.func68 Tryz.call68 [] [] 2
def Qs3(t:iV):Tree Bool:=
.lf t.E0
def XT t:=(Qs3 t).m
def Z7d:ba:=mS 266 [] true [.agg iV.sig] [] (λa r=>Qs3 (iV.of (aC a 0))) (λX=>.bool X) (λX=>[])
theorem Z2i:bm pG Z7d:=oS (.nil) Tryz.func266 Tryz.call266 [] [] 2
def Qnm(c:iN):Tree Bool:=
.lf (!decide (c.D9=[]))
def TL c:=(Qnm c).m
def Z0c:ba:=mS 267 [] true [.agg iN.sig] [] (λa r=>Qnm (iN.of (aC a 0))) (λX=>.bool X) (λX=>[])
theorem Qxc:bm pG Z0c:=oS (.nil) Tryz.func267 Tryz.call267 [] [] 2
def W5(d0:fx):Tree Bool:=
.br (d0.C7==2) (.lf true) (.lf (d0.C7==3))
def K3 d0:=(W5 d0).m
def Z8q:ba:=mS 251 [] true [.agg fx.sig] [] (λa r=>W5 (fx.of (aC a 0))) (λX=>.bool X) (λX=>[])
theorem Qrn:bm pG Z8q:=oS (.nil) Tryz.func251 Tryz.call251 [] [] 2
def Qx6(n:gx):Tree Bool:=
.lf n.C4
def XU n:=(Qx6 n).m
def Zep:ba:=mS 268 [] true [.agg gx.sig] [] (λa r=>Qx6 (gx.of (aC a 0))) (λX=>.bool X) (λX=>[])
theorem Za1:bm pG Zep:=oS (.nil) Tryz.func268 Tryz.call268 [] [] 2
def Rt(x:Int):Tree Int:=
let E1:=(↑(dF (cP (cP Kd Ep) (cP Ep R4))):Int);.cn (decide (0<=bj u32 x 24/\bj u32 x 24<E1)) (.cn (decide (0<=bb u32 (bj u32 x 16) 255/\bb u32 (bj u32 x 16) 255<E1)) (.cn (decide (0<=bb u32 (bj u32 x 8) 255/\bb u32 (bj u32 x 8) 255<E1)) (.cn (decide (0<=bb u32 x 255/\bb u32 x 255<E1)) (.lf (wrap i64 (wrap u8 (wrap u8 (wrap u8 ((↑(hZ (aV ((0:UInt8)::(VC++Ep++(Ep++R4))) (dA (bj u32 x 24)) (0:UInt8))):Int)+(↑(hZ (aV ((0:UInt8)::(VC++Ep++(Ep++R4))) (dA (bb u32 (bj u32 x 16) 255)) (0:UInt8))):Int))+(↑(hZ (aV ((0:UInt8)::(VC++Ep++(Ep++R4))) (dA (bb u32 (bj u32 x 8) 255)) (0:UInt8))):Int))+(↑(hZ (aV ((0:UInt8)::(VC++Ep++(Ep++R4))) (dA (bb u32 x 255)) (0:UInt8))):Int))))))))
def XM x:=(Rt x).m
abbrev Qbg x:=(Rt x).p
def Qp5:ba:=mT 279 [] true [.one (.int .u32)] [] (λa r=>Rt (au a 0)) (λX=>.int .i64 X) (λX=>[])
theorem Qmu:bm pG Qp5:=oT (.nil) Tryz.func279 Tryz.call279 [] [] 2
def Ru(b:gm):Tree Int:=
.an (Qbg b.D0) (.lv (XM b.D0) λ(x0:Int)=>.lf x0)
def TN b:=(Ru b).m
abbrev Qfc b:=(Ru b).p
def Z80:ba:=mT 249 [] true [.agg gm.sig] [] (λa r=>Ru (gm.of (aC a 0))) (λX=>.int .i64 X) (λX=>[])
theorem Qq3:bm pG Z80:=oT (.cons Qmu (.nil)) Tryz.func249 Tryz.call249 [] [] 2
def LI(b:gm):Tree Bool:=
.an (Qfc b) (.lv (TN b) λ(x0:Int)=>.lf (wrap u32 x0 !=b.A2))
def OE b:=(LI b).m
abbrev Qkq b:=(LI b).p
def Qzl:ba:=mT 269 [] true [.agg gm.sig] [] (λa r=>LI (gm.of (aC a 0))) (λX=>.bool X) (λX=>[])
theorem Qy7:bm pG Qzl:=oT (.cons Qq3 (.nil)) Tryz.func269 Tryz.call269 [] [] 2
def Qkv(m:bc)(z:(Int)×(Int)):Nat:=(5-z.2).toNat
def LP(m:bc):Tree Int:=
.lv (XT m.B9) λ(x0:Bool)=>.lv (TL m.B2) λ(x1:Bool)=>.lv (K3 m.B7) λ(x2:Bool)=>.lv (XU m.D2) λ(x3:Bool)=>.an (Qkq m.A7) (.lv (OE m.A7) λ(x4:Bool)=>.lp inferInstance (Qkv m (0,0)+1) ((rE (0:Int)/\(rE (x0:Bool)/\rE (x1:Bool)/\rE (x2:Bool)/\rE (x3:Bool)/\rE (x4:Bool)/\True)/\rE (0:Int)/\True)/\True) (0,0) λ(v0:Int×Int)=>.br (decide (v0.2<5)) (.cn (bX 1 1&&(bX 5 5&&decide (0<=v0.2/\v0.2<(↑5:Int)))) (.br (aV [x0,x1,x2,x3,x4] v0.2.toNat false) (.cn (decide (0<=v0.2)) (.nx ((rE ((iJ u32 v0.1 (ei u32 1 v0.2)):Int)/\(rE (x0:Bool)/\rE (x1:Bool)/\rE (x2:Bool)/\rE (x3:Bool)/\rE (x4:Bool)/\True)/\rE ((wrap i64 (v0.2+1)):Int)/\True)/\True) (Sum.inl (iJ u32 v0.1 (ei u32 1 v0.2),wrap i64 (v0.2+1))))) (.nx ((rE v0.1/\(rE (x0:Bool)/\rE (x1:Bool)/\rE (x2:Bool)/\rE (x3:Bool)/\rE (x4:Bool)/\True)/\rE ((wrap i64 (v0.2+1)):Int)/\True)/\True) (Sum.inl (v0.1,wrap i64 (v0.2+1)))))) (.lf (Sum.inr v0.1)))
def TS m:=(LP m).m
abbrev Qn9 m:=(LP m).p
def Z2u:cg:={
 α:=(Int)×(Int)
 F:=λst a=>([(4,.int u32 a.1),(23,(lk st 23)),(24,.int i64 a.2)],[])
 a0:=λst=>((lk st 4).toInt,(lk st 24).toInt)
 jl:=λst=>[]++[]}
def Qwq:List (Nat×cg):=[(4,Z2u)]
def Z8p:ba:=mT 234 [] true [.agg bc.sig] [] (λa r=>LP (bc.of (aC a 0))) (λX=>.int .u32 X) (λX=>[])
theorem Z2k:bm pG Z8p:=oT (.cons Z2i (.cons Qxc (.cons Qrn (.cons Za1 (.cons Qy7 (.nil)))))) Tryz.func234 Tryz.call234 [] Qwq 3
def LR(m:bc):Tree Int:=
.an (Qn9 m) (.lv (TS m) λ(x0:Int)=>.lf (bb u32 x0 m.B4.C3.a7))
def LQ m:=(LR m).m
abbrev Qcg m:=(LR m).p
def Qzm:ba:=mT 186 [] true [.agg bc.sig] [] (λa r=>LR (bc.of (aC a 0))) (λX=>.int .u32 X) (λX=>[])
theorem Qm0:bm pG Qzm:=oT (.cons Z2k (.nil)) Tryz.func186 Tryz.call186 [] [] 2
def Q9(m:bc):Tree Bool:=
.br m.B3 (.an (Qcg m) (.lv (LQ m) λ(x0:Int)=>.lf (x0==0))) (.lf false)
def Tm m:=(Q9 m).m
abbrev Qpr m:=(Q9 m).p
def Zap:ba:=mT 185 [] true [.agg bc.sig] [] (λa r=>Q9 (bc.of (aC a 0))) (λX=>.bool X) (λX=>[])
theorem Z7s:bm pG Zap:=oT (.cons Qm0 (.nil)) Tryz.func185 Tryz.call185 [] [] 2

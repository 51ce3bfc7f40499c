import Derived.Test.YtaemmjbkndlkeaaGreatMigrateCancelsBase
open Int renaming tmod->cZ,tdiv->eF,toNat->dA
open Nat renaming beq->bX,blt->bN
open List renaming set->dB,getD->aV,length->dF,append->cP
open UInt8 renaming toNat->hY
set_option maxRecDepth 100000
set_option linter.all false
namespace Go.Proofs.YtaemmjbkndlkeaaGreat
open Go Go.GD Go.IntKind
noncomputable section
def kK(s:List Int):(List Int):=
s
def oc(s:List Int):Prop:=
s.length<=35184372088832
def Q4a(s:List Int):List D:=[.sl 1 (.ints .u32 s) false]
def VG(s:List Int):List Row:=[]
def MM(X:List Int):D:=.all 0
def MN(X:List Int):List Row:=[⟨false,25,1,.ints .u32 X⟩]
def Qf:List nk:=[.row 25 1 (.ints .u32)]
def Q89:List PT:=[.one (.ints .u32)]
def Q7p:List RT:=[]
def Qgs(args:List D)(rows:List Row):(List Int):=kK (dq .u32 args 0)
def Qgi(args:List D)(rows:List Row):Prop:=oc (dq .u32 args 0)
def Qip:bc:=lF 114 [] true Q89 Q7p Qgi Qgs MM MN
def Q5l(s:List Int)(jg:(List Int)->Prop):Prop:=
(s=[]->jg [])/\cv (decide ((4:Nat)*((0:Nat)+s.length)<=(140737488355328:Nat))) (jg s)
set_option maxRecDepth 100000 in
theorem Qhk(s:List Int)(Q:D->List Row->Prop):(ko j4 [] (LL j4 [] Tryz.f114.ntmps 0 [] 2) Tryz.f114 (Q4a s) (VG s) λd R=>og (VG s).length Qf d R Q)=Q5l s (λX=>Q (MM X) (MN X)):=by kernel_rfl
theorem Qf7(s:List Int)(jg:(List Int)->Prop)(hw:oc s)(h:jg (kK s)):
Q5l s jg:=by
 delta Q5l
 refine⟨λe=>by rw[e]at h;exact h,?_⟩
 rw[dm]
 refine⟨dY ?_,h⟩
 have:s.length<=35184372088832:=hw
 omega
set_option maxRecDepth 100000 in
theorem Qem(s:List Int)(hw:oc s):kG pG 114 (Q4a s) (VG s) (MM (kK s)) (MN (kK s)):=
 have hG:jF pG []:=.nil
 ma.calls drawn jG hG Tryz.func114 (rf:=none) (λ_ _=>trivial) (Gv drawn jG hG (.inl rfl) 2 (gb:=[])) (ma.of (Qhk s _) (Qf7 s (λX=>MM X=MM (kK s)/\MN X=MN (kK s)) hw ⟨rfl,rfl⟩))
set_option maxRecDepth 100000 in
theorem Qfb(args:List D)(rows:List Row):lg Q89 args 0=Q4a (dq .u32 args 0):=by kernel_rfl
set_option maxRecDepth 100000 in
theorem Qep(args:List D)(rows:List Row):kH Q7p rows 0=VG (dq .u32 args 0):=by kernel_rfl
set_option maxRecDepth 100000 in
theorem Qhi(X:List Int):(tD (MM X)&&jC (MN X))=true:=by kernel_rfl
theorem Kc:bm pG Qip:=FQ Tryz.call114 (λargs rows hp=>by rw[Qfb args rows,Qep args rows];exact Qem (dq .u32 args 0) hp) (λ_ X=>Qhi X)
def GG(m:List Int):Tree Int:=
.br (cZ (m.length:Int) (32:Int) !=(0:Int)) (.lf 0) (.br (decide ((m.length:Int)>(1024:Int))) (.lf 0) (.lf (wrap i64 (eF (m.length:Int) 32))))
def jW m:=(GG m).m
def Z9e:bc:=mS 70 [] true [.one (.ints .u32)] [] (λa r=>GG (dq .u32 a 0)) (λX=>.int .i64 X) (λX=>[])
theorem Bv:bm pG Z9e:=oS (.nil) Tryz.func70 Tryz.call70 [] [] 2
def IU(m:List Int)(addr size:Int):Tree Bool:=
let T1:Tree (Bool):=.cn (decide (wrap u32 size≠0)) (.br (cZ addr (wrap u32 size) !=0) (.lf false) (.lv (jW m) λ(x0:Int)=>.lf (decide (wrap u64 (wrap u64 addr+wrap u64 size)<=wrap u64 (wrap u64 x0*128)))));.br (size !=1) (.br (size !=4) (.lf false) T1) T1
def Xw m addr size:=(IU m addr size).m
abbrev Qfj m addr size:=(IU m addr size).p
def Z7x:bc:=mT 273 [] true [.one (.ints .u32),.one (.int .u32),.one (.int .i64)] [] (λa r=>IU (dq .u32 a 0) (au a 1) (au a 2)) (λX=>.bool X) (λX=>[])
theorem Qq1:bm pG Z7x:=oT (.cons Bv (.nil)) Tryz.func273 Tryz.call273 [] [] 2
def Ro(n:Int):Tree Int:=
.br (decide (n>=32)) (.lf 4294967295) (.cn (decide (0<=wrap u64 n)) (.lf (wrap u32 (fh u32 1 (wrap u64 n)-1))))
def Z6o n:=(Ro n).m
abbrev Qp9 n:=(Ro n).p
def Zo4:bc:=mT 274 [] true [.one (.int .i64)] [] (λa r=>Ro (au a 0)) (λX=>.int .u32 X) (λX=>[])
theorem Z1e:bm pG Zo4:=oT (.nil) Tryz.func274 Tryz.call274 [] [] 2
def Rp(w low n:Int):Tree Int:=
.br (decide (low<0)) (.lf 0) (.br (decide (low>31)) (.lf 0) (.br (decide (n<1)) (.lf 0) (.cn (decide (0<=wrap u64 low)) (.an (Qp9 n) (.lv (Z6o n) λ(x0:Int)=>.lf (ba u32 (bb u32 w (wrap u64 low)) x0))))))
def tM w low n:=(Rp w low n).m
abbrev MO w low n:=(Rp w low n).p
def Zhj:bc:=mT 238 [] true [.one (.int .u32),.one (.int .i64),.one (.int .i64)] [] (λa r=>Rp (au a 0) (au a 1) (au a 2)) (λX=>.int .u32 X) (λX=>[])
theorem Qox:bm pG Zhj:=oT (.cons Z1e (.nil)) Tryz.func238 Tryz.call238 [] [] 2
def Rq(w low n v:Int):Tree Int:=
.br (decide (low<0)) (.lf w) (.br (decide (low>31)) (.lf w) (.br (decide (n<1)) (.lf w) (.an (Qp9 n) (.lv (Z6o n) λ(x0:Int)=>.cn (decide (0<=wrap u64 low)) (.cn (decide (0<=wrap u64 low)) (.lf (iU u32 (o4 u32 w (fh u32 x0 (wrap u64 low))) (fh u32 (ba u32 v x0) (wrap u64 low)))))))))
def Ls w low n v:=(Rq w low n v).m
abbrev Qn6 w low n v:=(Rq w low n v).p
def Z7y:bc:=mT 276 [] true [.one (.int .u32),.one (.int .i64),.one (.int .i64),.one (.int .u32)] [] (λa r=>Rq (au a 0) (au a 1) (au a 2) (au a 3)) (λX=>.int .u32 X) (λX=>[])
theorem Z36:bm pG Z7y:=oT (.cons Z1e (.nil)) Tryz.func276 Tryz.call276 [] [] 2
def Lv(m:List Int)(addr size v:Int):Tree ((List Int)×Bool):=
.an (oc m) (.lv (kK m) λ(x0:List Int)=>.an (Qfj m addr size) (.lv (Xw m addr size) λ(x1:Bool)=>.br (!x1) (.lf (x0,false)) (let E1:=bX 1 1&&bN 0 1&&decide (0<=wrap u32 (eF addr 4)/\wrap u32 (eF addr 4)<(x0.length:Int));let E2:=dA (wrap u32 (eF addr 4));.br (size==1) (.cn E1 (let E3:=wrap i64 (wrap i64 (cZ addr 4)*8);.an (Qn6 (x0.getD E2 0) E3 8 v) (.lv (Ls (x0.getD E2 0) E3 8 v) λ(x2:Int)=>.cn E1 (.lf (dB x0 E2 x2,true))))) (.cn E1 (.lf (dB x0 E2 v,true))))))
def Lu m addr size v:=(Lv m addr size v).m
abbrev Qcb m addr size v:=(Lv m addr size v).p
def Z9v:bc:=mT 244 [] true [.one (.ints .u32),.one (.int .u32),.one (.int .i64),.one (.int .u32)] [] (λa r=>Lv (dq .u32 a 0) (au a 1) (au a 2) (au a 3)) (λX=>.ee [.all 0,.bool (X.2)]) (λX=>[⟨false,25,1,.ints .u32 (X.1)⟩])
theorem Qqv:bm pG Z9v:=oT (.cons Kc (.cons Qq1 (.cons Z36 (.nil)))) Tryz.func244 Tryz.call244 [.row 25 1 (.ints .u32)] [] 2
def Zh3(op:Int):Tree (Ag×Bool):=
.br (op==1) (.lf ({a:=true,b:=true,c:=true,low:=0,F5:=0},true)) (.br (op==2) (.lf ({a:=true,b:=true,c:=true,low:=0,F5:=0},true)) (.br (op==3) (.lf ({a:=true,b:=true,c:=true,low:=0,F5:=0},true)) (.br (op==4) (.lf ({a:=true,b:=true,c:=true,low:=0,F5:=0},true)) (.br (op==5) (.lf ({a:=true,b:=true,c:=true,low:=0,F5:=0},true)) (.br (op==6) (.lf ({a:=true,b:=true,c:=true,low:=0,F5:=0},true)) (.br (op==7) (.lf ({a:=true,b:=true,c:=true,low:=0,F5:=0},true)) (.br (op==8) (.lf ({a:=true,b:=true,c:=true,low:=0,F5:=0},true)) (.br (op==9) (.lf ({a:=true,b:=true,c:=true,low:=0,F5:=0},true)) (.br (op==10) (.lf ({a:=true,b:=true,c:=true,low:=0,F5:=0},true)) (.br (op==11) (.lf ({a:=true,b:=true,c:=true,low:=0,F5:=0},true)) (.br (op==12) (.lf ({a:=true,b:=true,c:=true,low:=0,F5:=0},true)) (.br (op==13) (.lf ({a:=true,b:=true,c:=true,low:=0,F5:=0},true)) (.br (op==16) (.lf ({a:=true,b:=true,c:=false,low:=(-32768),F5:=32767},true)) (.br (op==23) (.lf ({a:=true,b:=true,c:=false,low:=(-32768),F5:=32767},true)) (.br (op==32) (.lf ({a:=true,b:=true,c:=false,low:=(-32768),F5:=32767},true)) (.br (op==33) (.lf ({a:=true,b:=true,c:=false,low:=(-32768),F5:=32767},true)) (.br (op==34) (.lf ({a:=true,b:=true,c:=false,low:=(-32768),F5:=32767},true)) (.br (op==35) (.lf ({a:=true,b:=true,c:=false,low:=(-32768),F5:=32767},true)) (.br (op==36) (.lf ({a:=true,b:=true,c:=false,low:=(-32768),F5:=32767},true)) (.br (op==40) (.lf ({a:=true,b:=true,c:=false,low:=(-32768),F5:=32767},true)) (.br (op==41) (.lf ({a:=true,b:=true,c:=false,low:=(-32768),F5:=32767},true)) (.br (op==42) (.lf ({a:=true,b:=true,c:=false,low:=(-32768),F5:=32767},true)) (.br (op==43) (.lf ({a:=true,b:=true,c:=false,low:=(-32768),F5:=32767},true)) (.br (op==44) (.lf ({a:=true,b:=true,c:=false,low:=(-32768),F5:=32767},true)) (.br (op==45) (.lf ({a:=true,b:=true,c:=false,low:=(-32768),F5:=32767},true)) (.br (op==49) (.lf ({a:=true,b:=true,c:=false,low:=(-32768),F5:=32767},true)) (.br (op==17) (.lf ({a:=true,b:=true,c:=false,low:=0,F5:=65535},true)) (.br (op==18) (.lf ({a:=true,b:=true,c:=false,low:=0,F5:=65535},true)) (.br (op==19) (.lf ({a:=true,b:=true,c:=false,low:=0,F5:=65535},true)) (.br (op==20) (.lf ({a:=true,b:=true,c:=false,low:=0,F5:=31},true)) (.br (op==21) (.lf ({a:=true,b:=true,c:=false,low:=0,F5:=31},true)) (.br (op==22) (.lf ({a:=true,b:=true,c:=false,low:=0,F5:=31},true)) (.br (op==24) (.lf ({a:=true,b:=false,c:=false,low:=0,F5:=65535},true)) (.br (op==48) (.lf ({a:=true,b:=false,c:=false,low:=(-32768),F5:=32767},true)) (.br (op==58) (.lf ({a:=true,b:=false,c:=false,low:=0,F5:=7},true)) (.br (op==59) (.lf ({a:=true,b:=false,c:=false,low:=0,F5:=7},true)) (.br (op==60) (.lf ({a:=true,b:=false,c:=false,low:=0,F5:=11},true)) (.br (op==61) (.lf ({a:=true,b:=false,c:=false,low:=0,F5:=11},true)) (.br (op==56) (.lf ({a:=false,b:=false,c:=false,low:=0,F5:=0},true)) (.br (op==57) (.lf ({a:=false,b:=false,c:=false,low:=0,F5:=0},true)) (.br (op==62) (.lf ({a:=false,b:=false,c:=false,low:=0,F5:=0},true)) (.br (op==63) (.lf ({a:=false,b:=false,c:=false,low:=0,F5:=0},true)) (.br (op==64) (.lf ({a:=false,b:=false,c:=false,low:=0,F5:=0},true)) (.lf ({a:=false,b:=false,c:=false,low:=0,F5:=0},false)))))))))))))))))))))))))))))))))))))))))))))
def Tn op:=(Zh3 op).m
def xC:bc:=mS 239 [] true [.one (.int .i64)] [] (λa r=>Zh3 (au a 0)) (λX=>.ee [.agg (Ag.cells (X.1)),.bool (X.2)]) (λX=>[])
theorem Zcv:bm pG xC:=oS (.nil) Tryz.func239 Tryz.call239 [] [] 2
def Rr(x n:Int):Tree Int:=
.br (decide (n<1)) (.lf 0) (.br (decide (n>=32)) (.lf x) (let E1:=decide (0<=wrap u64 (wrap i64 (32-n)));.cn E1 (.cn E1 (.lf (wrap u32 (bb i32 (wrap i32 (fh u32 x (wrap u64 (wrap i64 (32-n))))) (wrap u64 (wrap i64 (32-n)))))))))
def DS x n:=(Rr x n).m
abbrev Qcl x n:=(Rr x n).p
def Z0w:bc:=mT 240 [] true [.one (.int .u32),.one (.int .i64)] [] (λa r=>Rr (au a 0) (au a 1)) (λX=>.int .u32 X) (λX=>[])
theorem Qlf:bm pG Z0w:=oT (.nil) Tryz.func240 Tryz.call240 [] [] 2
def To(r:Int)(used:Bool):Tree Bool:=
.br used (.br (decide (r>=0)) (.lf (decide (r<=15))) (.lf false)) (.lf (r==0))
def Ln r used:=(To r used).m
def Zaj:bc:=mS 275 [] true [.one (.int .i64),.one (.bool)] [] (λa r=>To (au a 0) (kD a 1)) (λX=>.bool X) (λX=>[])
theorem Z5e:bm pG Zaj:=oS (.nil) Tryz.func275 Tryz.call275 [] [] 2
def Oi(i:ik):Tree Bool:=
.lv (Tn i.Op) λ(x0:Ag×Bool)=>.br x0.2 (.lv (Ln i.A x0.1.a) λ(x1:Bool)=>.br x1 (.lv (Ln i.B x0.1.b) λ(x2:Bool)=>.br x2 (.lv (Ln i.C x0.1.c) λ(x3:Bool)=>.br x3 (.br (decide (i.bz>=x0.1.low)) (.lf (decide (i.bz<=x0.1.F5))) (.lf false)) (.lf false)) (.lf false)) (.lf false)) (.lf false)
def IS i:=(Oi i).m
def Zm7:bc:=mS 241 [] true [.agg ik.sig] [] (λa r=>Oi (ik.of (aC a 0))) (λX=>.bool X) (λX=>[])
theorem Zkw:bm pG Zm7:=oS (.cons Zcv (.cons Z5e (.nil))) Tryz.func241 Tryz.call241 [] [] 2
def Lp(w:Int):Tree (ik×Bool):=
.an (MO w 24 8) (.lv (tM w 24 8) λ(x0:Int)=>.an (MO w 20 4) (.lv (tM w 20 4) λ(x1:Int)=>.an (MO w 16 4) (.lv (tM w 16 4) λ(x2:Int)=>.lv (Tn (wrap i64 x0)) λ(x3:Ag×Bool)=>let E1:=({Op:=0,A:=0,B:=0,C:=0,bz:=0}:ik);.br (!x3.2) (.lf (E1,false)) (.an (MO w 0 16) (.lv (tM w 0 16) λ(x4:Int)=>.br x3.1.c (let E2:=({Op:=wrap i64 x0,A:=wrap i64 x1,B:=wrap i64 x2,C:=wrap i64 x4,bz:=0}:ik);.lv (IS E2) λ(x5:Bool)=>.br (!x5) (.lf (E1,false)) (.lf (E2,true))) (.br (decide (x3.1.low<0)) (.an (Qcl x4 16) (.lv (DS x4 16) λ(x6:Int)=>let E3:=({Op:=wrap i64 x0,A:=wrap i64 x1,B:=wrap i64 x2,C:=0,bz:=wrap i32 x6}:ik);.lv (IS E3) λ(x7:Bool)=>.br (!x7) (.lf (E1,false)) (.lf (E3,true)))) (let E4:=({Op:=wrap i64 x0,A:=wrap i64 x1,B:=wrap i64 x2,C:=0,bz:=wrap i32 x4}:ik);.lv (IS E4) λ(x8:Bool)=>.br (!x8) (.lf (E1,false)) (.lf (E4,true)))))))))
def Qj w:=(Lp w).m
abbrev Quw w:=(Lp w).p
def Zlh:bc:=mT 189 [] true [.one (.int .u32)] [] (λa r=>Lp (au a 0)) (λX=>.ee [.agg (ik.cells (X.1)),.bool (X.2)]) (λX=>[])
theorem Zeq:bm pG Zlh:=oT (.cons Qox (.cons Zcv (.cons Qlf (.cons Zkw (.nil))))) Tryz.func189 Tryz.call189 [] [] 2
def LD(a b:Int):Tree (Int×Int):=
.br (b==0) (.lf (4294967295,a)) (let T1:Tree ((Int×Int)):=.cn (decide (wrap i32 b≠0)) (.cn (decide (wrap i32 b≠0)) (.lf (wrap u32 (wrap i32 (eF (wrap i32 a) (wrap i32 b))),wrap u32 (cZ (wrap i32 a) (wrap i32 b)))));.br (a==2147483648) (.br (b==4294967295) (.lf (a,0)) T1) T1)
def LB a b:=(LD a b).m
abbrev Qk3 a b:=(LD a b).p
def Zev:bc:=mT 277 [] true [.one (.int .u32),.one (.int .u32)] [] (λa r=>LD (au a 0) (au a 1)) (λX=>.ee [.int .u32 (X.1),.int .u32 (X.2)]) (λX=>[])
theorem Za4:bm pG Zev:=oT (.nil) Tryz.func277 Tryz.call277 [] [] 2
def Z8i(b:Bool):Tree Int:=
.br b (.lf 1) (.lf 0)
def Vs b:=(Z8i b).m
def Zol:bc:=mS 278 [] true [.one (.bool)] [] (λa r=>Z8i (kD a 0)) (λX=>.int .u32 X) (λX=>[])
theorem Zlp:bm pG Zol:=oS (.nil) Tryz.func278 Tryz.call278 [] [] 2
def Ru(op a b:Int):Tree (Int×Bool):=
.br (op==2) (.lf (wrap u32 (a+wrap u32 (0-b)),true)) (.br (op==1) (.lf (wrap u32 (a+b),true)) (.br (op==16) (.lf (wrap u32 (a+b),true)) (.br (op==3) (.lf (ba u32 a b,true)) (.br (op==17) (.lf (ba u32 a b,true)) (.br (op==4) (.lf (iU u32 a b,true)) (.br (op==18) (.lf (iU u32 a b,true)) (.br (op==5) (.lf (rP u32 a b,true)) (.br (op==19) (.lf (rP u32 a b,true)) (.br (op==6) (.lf (fh u32 a (ba u32 b 31),true)) (.br (op==20) (.lf (fh u32 a (ba u32 b 31),true)) (.br (op==7) (.lf (bb u32 a (ba u32 b 31),true)) (.br (op==21) (.lf (bb u32 a (ba u32 b 31),true)) (let E1:=(wrap u32 (bb i32 (wrap i32 a) (ba u32 b 31)),true);.br (op==8) (.lf E1) (.br (op==22) (.lf E1) (.br (op==9) (.lf (wrap u32 (a*b),true)) (.br (op==10) (.an (Qk3 a b) (.lv (LB a b) λ(x0:Int×Int)=>.lf (x0.1,true))) (.br (op==11) (.an (Qk3 a b) (.lv (LB a b) λ(x1:Int×Int)=>.lf (x1.2,true))) (.br (op==12) (.lv (Vs (decide (wrap i32 a<wrap i32 b))) λ(x2:Int)=>.lf (x2,true)) (.br (op==23) (.lv (Vs (decide (wrap i32 a<wrap i32 b))) λ(x3:Int)=>.lf (x3,true)) (.br (op==13) (.lv (Vs (decide (a<b))) λ(x4:Int)=>.lf (x4,true)) (.lf (0,false))))))))))))))))))))))
def Q5 op a b:=(Ru op a b).m
abbrev Qvh op a b:=(Ru op a b).p
def zC:bc:=mT 248 [] true [.one (.int .i64),.one (.int .u32),.one (.int .u32)] [] (λa r=>Ru (au a 0) (au a 1) (au a 2)) (λX=>.ee [.int .u32 (X.1),.bool (X.2)]) (λX=>[])
theorem Zrh:bm pG zC:=oT (.cons Za4 (.cons Zlp (.nil))) Tryz.func248 Tryz.call248 [] [] 2
end
noncomputable section
def Vr(status Dz to:Int):Tree Int:=
.br (ba u32 status Dz !=0) (.lf (iU u32 status to)) (.lf (o4 u32 status to))
def Aw status Dz to:=(Vr status Dz to).m
def Zsd:bc:=mS 235 [] true [.one (.int .u32),.one (.int .u32),.one (.int .u32)] [] (λa r=>Vr (au a 0) (au a 1) (au a 2)) (λX=>.int .u32 X) (λX=>[])
theorem Z7b:bm pG Zsd:=oS (.nil) Tryz.func235 Tryz.call235 [] [] 2
def Ot(c:bq)(oO bad:Int):Tree bq:=
.lv (Aw c.C3.a0 1 8) λ(x0:Int)=>.lv (Aw x0 2 16) λ(x1:Int)=>.lf ({X:=c.X,Pc:=c.C3.a1,C3:={a0:=o4 u32 (iU u32 x1 1) 2,a1:=c.C3.a1,a2:=c.Pc,a3:=wrap u32 oO,a4:=bad,a5:=c.C3.a5,a6:=c.C3.a6,a7:=c.C3.a7}})
def rC c oO bad:=(Ot c oO bad).m
def Zsu:bc:=mS 187 [] true [.agg bq.sig,.one (.int .i64),.one (.int .u32)] [] (λa r=>Ot (bq.of (aC a 0)) (au a 1) (au a 2)) (λX=>.agg (bq.cells X)) (λX=>[])
theorem RZ:bm pG Zsu:=oS (.cons Z7b (.nil)) Tryz.func187 Tryz.call187 [] [] 2
def Qy8(access:Int):Tree (Int×Bool):=
.br (access==1) (.lf (4,true)) (.br (access==2) (.lf (5,true)) (.br (access==3) (.lf (6,true)) (.lf (5,false))))
def Qvb access:=(Qy8 access).m
def Zgr:bc:=mS 270 [] true [.one (.int .i64)] [] (λa r=>Qy8 (au a 0)) (λX=>.ee [.int .i64 (X.1),.bool (X.2)]) (λX=>[])
theorem Z9z:bm pG Zgr:=oS (.nil) Tryz.func270 Tryz.call270 [] [] 2
def Z22(c:bq):Tree Bool:=
.lf (ba u32 c.C3.a0 (1:Int) !=(0:Int))
def IW c:=(Z22 c).m
def Zhe:bc:=mS 191 [] true [.agg bq.sig] [] (λa r=>Z22 (bq.of (aC a 0))) (λX=>.bool X) (λX=>[])
theorem Qwg:bm pG Zhe:=oS (.nil) Tryz.func191 Tryz.call191 [] [] 2
def Qpx(access:Int):Tree (Int×Bool):=
.br (access==1) (.lf (4,true)) (.br (access==2) (.lf (5,true)) (.br (access==3) (.lf (6,true)) (.lf (5,false))))
def Qmo access:=(Qpx access).m
def Z3f:bc:=mS 289 [] true [.one (.int .i64)] [] (λa r=>Qpx (au a 0)) (λX=>.ee [.int .i64 (X.1),.bool (X.2)]) (λX=>[])
theorem Qz0:bm pG Z3f:=oS (.nil) Tryz.func289 Tryz.call289 [] [] 2
def Qkq(m:List Int)(frame:Int):Tree Bool:=
.lv (jW m) λ(x0:Int)=>.lf (decide (wrap u64 frame<wrap u64 x0))
def Om m frame:=(Qkq m frame).m
def Z5r:bc:=mS 290 [] true [.one (.ints .u32),.one (.int .u32)] [] (λa r=>Qkq (dq .u32 a 0) (au a 1)) (λX=>.bool X) (λX=>[])
theorem Z3p:bm pG Z5r:=oS (.cons Bv (.nil)) Tryz.func290 Tryz.call290 [] [] 2
def Lt(m:List Int)(addr size:Int):Tree (Int×Bool):=
.an (Qfj m addr size) (.lv (Xw m addr size) λ(x0:Bool)=>.br (!x0) (.lf (0,false)) (.cn (bX 1 1&&bN 0 1&&decide (0<=wrap u32 (eF addr 4)/\wrap u32 (eF addr 4)<(m.length:Int))) (let E1:=dA (wrap u32 (eF addr 4));.br (size==1) (let E2:=wrap i64 (wrap i64 (cZ addr 4)*8);.an (MO (m.getD E1 0) E2 8) (.lv (tM (m.getD E1 0) E2 8) λ(x1:Int)=>.lf (x1,true))) (.lf (m.getD E1 0,true)))))
def Cn m addr size:=(Lt m addr size).m
abbrev JX m addr size:=(Lt m addr size).p
def Zf4:bc:=mT 237 [] true [.one (.ints .u32),.one (.int .u32),.one (.int .i64)] [] (λa r=>Lt (dq .u32 a 0) (au a 1) (au a 2)) (λX=>.ee [.int .u32 (X.1),.bool (X.2)]) (λX=>[])
theorem R3:bm pG Zf4:=oT (.cons Qq1 (.cons Qox (.nil))) Tryz.func237 Tryz.call237 [] [] 2
def Qq(Bw access:Int):Tree Bool:=
.br (ba u32 Bw (1:Int)==(0:Int)) (.lf false) (.br (access==3) (.lf (ba u32 Bw (2:Int) !=(0:Int))) (.br (access==1) (.lf (ba u32 Bw (4:Int) !=(0:Int))) (.lf true)))
def Tu Bw access:=(Qq Bw access).m
def Z3k:bc:=mS 291 [] true [.one (.int .u32),.one (.int .i64)] [] (λa r=>Qq (au a 0) (au a 1)) (λX=>.bool X) (λX=>[])
theorem Z02:bm pG Z3k:=oS (.nil) Tryz.func291 Tryz.call291 [] [] 2
def Rs(Bw:Int):Tree Int:=
.an (MO Bw 8 8) (.lv (tM Bw 8 8) λ(x0:Int)=>.lf x0)
def XB Bw:=(Rs Bw).m
abbrev Qe4 Bw:=(Rs Bw).p
def Z3:bc:=mT 292 [] true [.one (.int .u32)] [] (λa r=>Rs (au a 0)) (λX=>.int .u32 X) (λX=>[])
theorem Z0a:bm pG Z3:=oT (.cons Qox (.nil)) Tryz.func292 Tryz.call292 [] [] 2
def Lx(m:List Int)(root va access:Int):Tree rR:=
.lv (Qmo access) λ(x0:Int×Bool)=>let E1:=({Addr:=0,G1:=0,G0:=x0.1}:rR);.br (!x0.2) (.lf (E1)) (.br (decide (va>=4096)) (.lf (E1)) (.lv (Om m root) λ(x1:Bool)=>.br (!x1) (.lf (E1)) (let E2:=wrap u32 (root*128)+wrap u32 (4*wrap u32 (eF va 128));.an (JX m (wrap u32 E2) 4) (.lv (Cn m (wrap u32 E2) 4) λ(x2:Int×Bool)=>.br (!x2.2) (.lf (E1)) (.lv (Tu x2.1 access) λ(x3:Bool)=>.br (!x3) (.lf (E1)) (.an (Qe4 x2.1) (.lv (XB x2.1) λ(x4:Int)=>.lv (Om m x4) λ(x5:Bool)=>.br (!x5) (.lf (E1)) (.an (Qe4 x2.1) (.lv (XB x2.1) λ(x6:Int)=>.lf ({Addr:=wrap u32 (wrap u32 (x6*128)+cZ va 128),G1:=wrap u32 E2,G0:=0}))))))))))
def Tt m root va access:=(Lx m root va access).m
abbrev Qjs m root va access:=(Lx m root va access).p
def Zdy:bc:=mT 271 [] true [.one (.ints .u32),.one (.int .u32),.one (.int .u32),.one (.int .i64)] [] (λa r=>Lx (dq .u32 a 0) (au a 1) (au a 2) (au a 3)) (λX=>.agg (rR.cells X)) (λX=>[])
theorem Zab:bm pG Zdy:=oT (.cons Qz0 (.cons Z3p (.cons R3 (.cons Z02 (.cons Z0a (.nil)))))) Tryz.func271 Tryz.call271 [] [] 2
def Lz(m:List Int)(entry access:Int):Tree (List Int):=
.an (JX m entry 4) (.lv (Cn m entry 4) λ(x0:Int×Bool)=>.br (!x0.2) (.an (oc m) (.lv (kK m) λ(x1:List Int)=>.lf x1)) (.br (access==3) (.an (Qcb m entry 4 (iU u32 (iU u32 x0.1 8) 16)) (.lv (Lu m entry 4 (iU u32 (iU u32 x0.1 8) 16)) λ(x2:List Int×Bool)=>.lf x2.1)) (.an (Qcb m entry 4 (iU u32 x0.1 8)) (.lv (Lu m entry 4 (iU u32 x0.1 8)) λ(x3:List Int×Bool)=>.lf x3.1))))
def Oo m entry access:=(Lz m entry access).m
abbrev Qhn m entry access:=(Lz m entry access).p
def Z9j:bc:=mT 272 [] true [.one (.ints .u32),.one (.int .u32),.one (.int .i64)] [] (λa r=>Lz (dq .u32 a 0) (au a 1) (au a 2)) (λX=>.all 0) (λX=>[⟨false,25,1,.ints .u32 X⟩])
theorem Z6r:bm pG Z9j:=oT (.cons R3 (.cons Kc (.cons Qqv (.nil)))) Tryz.func272 Tryz.call272 [.row 25 1 (.ints .u32)] [] 2
def LG(c:bq)(m:List Int)(va size access:Int):Tree (Int×(List Int)×Int):=
.lv (Qvb access) λ(x0:Int×Bool)=>let T3:Tree ((Int×(List Int)×Int)):=.an (oc m) (.lv (kK m) λ(x1:List Int)=>.lf (0,x1,5));.br (!x0.2) T3 (let T1:Tree ((Int×(List Int)×Int)):=.cn (decide (wrap u32 size≠0)) (.br (cZ va (wrap u32 size) !=0) (.an (oc m) (.lv (kK m) λ(x3:List Int)=>.lf (0,x3,3))) (.lv (IW c) λ(x4:Bool)=>let T2:Tree ((Int×(List Int)×Int)):=.an (JX m va size) (.lv (Cn m va size) λ(x8:Int×Bool)=>.br (!x8.2) (.an (oc m) (.lv (kK m) λ(x9:List Int)=>.lf (0,x9,x0.1))) (.an (oc m) (.lv (kK m) λ(kj:List Int)=>.lf (va,kj,0))));.br (!x4) (.br (ba u32 c.C3.a0 (4:Int) !=(0:Int)) (.an (Qjs m c.C3.a6 va access) (.lv (Tt m c.C3.a6 va access) λ(x5:rR)=>.br (x5.G0 !=0) (.an (oc m) (.lv (kK m) λ(x6:List Int)=>.lf (0,x6,x5.G0))) (.an (Qhn m x5.G1 access) (.lv (Oo m x5.G1 access) λ(x7:List Int)=>.lf (x5.Addr,x7,0))))) T2) T2));.br (size !=1) (.br (size !=4) T3 T1) T1)
def rW c m va size access:=(LG c m va size access).m
abbrev Qds c m va size access:=(LG c m va size access).p
def Zey:bc:=mT 236 [] true [.agg bq.sig,.one (.ints .u32),.one (.int .u32),.one (.int .i64),.one (.int .i64)] [] (λa r=>LG (bq.of (aC a 0)) (dq .u32 a 1) (au a 2) (au a 3) (au a 4)) (λX=>.ee [.int .u32 (X.1),.all 0,.int .i64 (X.2.2)]) (λX=>[⟨false,25,1,.ints .u32 (X.2.1)⟩])
theorem Qmk:bm pG Zey:=oT (.cons Z9z (.cons Kc (.cons Qwg (.cons Zab (.cons Z6r (.cons R3 (.nil))))))) Tryz.func236 Tryz.call236 [.row 25 1 (.ints .u32)] [] 2
def Rt(c:bq)(m:List Int):Tree (Int×(List Int)×Int):=
.an (Qds c m c.Pc 4 1) (.lv (rW c m c.Pc 4 1) λ(x0:Int×List Int×Int)=>.br (x0.2.2 !=0) (.lf (0,x0.2.1,x0.2.2)) (.an (JX x0.2.1 x0.1 4) (.lv (Cn x0.2.1 x0.1 4) λ(x1:Int×Bool)=>.lf (x1.1,x0.2.1,0))))
def TC c m:=(Rt c m).m
abbrev Qws c m:=(Rt c m).p
def Znz:bc:=mT 188 [] true [.agg bq.sig,.one (.ints .u32)] [] (λa r=>Rt (bq.of (aC a 0)) (dq .u32 a 1)) (λX=>.ee [.int .u32 (X.1),.all 0,.int .i64 (X.2.2)]) (λX=>[⟨false,25,1,.ints .u32 (X.2.1)⟩])
theorem Zhw:bm pG Znz:=oT (.cons Qmk (.cons R3 (.nil))) Tryz.func188 Tryz.call188 [.row 25 1 (.ints .u32)] [] 2
def Qq7(op:Int):Tree Bool:=
.br (op==57) (.lf true) (.br (op==58) (.lf true) (.br (op==59) (.lf true) (.br (op==60) (.lf true) (.br (op==61) (.lf true) (.br (op==62) (.lf true) (.br (op==63) (.lf true) (.br (op==64) (.lf true) (.lf false))))))))
def Oh op:=(Qq7 op).m
def Z3j:bc:=mS 190 [] true [.one (.int .i64)] [] (λa r=>Qq7 (au a 0)) (λX=>.bool X) (λX=>[])
theorem Z09:bm pG Z3j:=oS (.nil) Tryz.func190 Tryz.call190 [] [] 2
def Qvq(op:Int):Tree Int:=
.br (op==32) (.lf 4) (.br (op==35) (.lf 4) (.lf 1))
def JY op:=(Qvq op).m
def Zoh:bc:=mS 242 [] true [.one (.int .i64)] [] (λa r=>Qvq (au a 0)) (λX=>.int .i64 X) (λX=>[])
theorem Z2c:bm pG Zoh:=oS (.nil) Tryz.func242 Tryz.call242 [] [] 2
def EM(c:bq)(register v:Int):Tree bq:=
.br (register !=0) (.cn (bN 0 1&&decide (0<=register/\register<(↑16:Int))) (.lf ({X:=iv.of 0 (dB (iv.l c.X) register.toNat v),Pc:=c.Pc,C3:=c.C3}))) (.lf c)
def uE c register v:=(EM c register v).m
abbrev HK c register v:=(EM c register v).p
def yC:bc:=mT 243 [] true [.agg bq.sig,.one (.int .i64),.one (.int .u32)] [] (λa r=>EM (bq.of (aC a 0)) (au a 1) (au a 2)) (λX=>.agg (bq.cells X)) (λX=>[])
theorem Zcw:bm pG yC:=oT (.nil) Tryz.func243 Tryz.call243 [] [] 2
def IK(c:bq)(m:List Int)(i:ik):Tree (bq×(List Int)):=
.cn (bN 0 1&&decide (0<=i.B/\i.B<(↑16:Int))) (.lv (JY i.Op) λ(x0:Int)=>let E1:=wrap u32 (aV (iv.l c.X) i.B.toNat 0+wrap u32 i.bz);.an (Qds c m E1 x0 2) (.lv (rW c m E1 x0 2) λ(x1:Int×List Int×Int)=>.br (x1.2.2 !=0) (.lv (rC c x1.2.2 E1) λ(x2:bq)=>.lf (x2,x1.2.1)) (.lv (JY i.Op) λ(x3:Int)=>.an (JX x1.2.1 x1.1 x3) (.lv (Cn x1.2.1 x1.1 x3) λ(x4:Int×Bool)=>.br (i.Op==33) (.an (Qcl x4.1 8) (.lv (DS x4.1 8) λ(x5:Int)=>.an (HK c i.A x5) (.lv (uE c i.A x5) λ(x6:bq)=>.lf ({X:=x6.X,Pc:=wrap u32 (x6.Pc+4),C3:=x6.C3},x1.2.1)))) (.an (HK c i.A x4.1) (.lv (uE c i.A x4.1) λ(x7:bq)=>.lf ({X:=x7.X,Pc:=wrap u32 (x7.Pc+4),C3:=x7.C3},x1.2.1)))))))
def tN c m i:=(IK c m i).m
abbrev Z1v c m i:=(IK c m i).p
def Zt8:bc:=mT 192 [] true [.agg bq.sig,.one (.ints .u32),.agg ik.sig] [] (λa r=>IK (bq.of (aC a 0)) (dq .u32 a 1) (ik.of (aC a 2))) (λX=>.ee [.agg (bq.cells (X.1)),.all 0]) (λX=>[⟨false,25,1,.ints .u32 (X.2)⟩])
theorem Zmc:bm pG Zt8:=oT (.cons Qmk (.cons Z2c (.cons RZ (.cons R3 (.cons Qlf (.cons Zcw (.nil))))))) Tryz.func192 Tryz.call192 [.row 25 1 (.ints .u32)] [] 2
def IL(c:bq)(m:List Int)(i:ik):Tree (bq×(List Int)):=
.cn (bN 0 1&&decide (0<=i.B/\i.B<(↑16:Int))) (.lv (JY i.Op) λ(x0:Int)=>let E1:=wrap u32 (aV (iv.l c.X) i.B.toNat 0+wrap u32 i.bz);.an (Qds c m E1 x0 3) (.lv (rW c m E1 x0 3) λ(x1:Int×List Int×Int)=>.br (x1.2.2 !=0) (.lv (rC c x1.2.2 E1) λ(x2:bq)=>.lf (x2,x1.2.1)) (.lv (JY i.Op) λ(x3:Int)=>.cn (bN 0 1&&decide (0<=i.A/\i.A<(↑16:Int))) (let E2:=aV (iv.l c.X) i.A.toNat 0;.an (Qcb x1.2.1 x1.1 x3 E2) (.lv (Lu x1.2.1 x1.1 x3 E2) λ(x4:List Int×Bool)=>.lf ({X:=c.X,Pc:=wrap u32 (c.Pc+4),C3:=c.C3},x4.1))))))
def Cq c m i:=(IL c m i).m
abbrev Qxw c m i:=(IL c m i).p
def Zly:bc:=mT 193 [] true [.agg bq.sig,.one (.ints .u32),.agg ik.sig] [] (λa r=>IL (bq.of (aC a 0)) (dq .u32 a 1) (ik.of (aC a 2))) (λX=>.ee [.agg (bq.cells (X.1)),.all 0]) (λX=>[⟨false,25,1,.ints .u32 (X.2)⟩])
theorem Zi8:bm pG Zly:=oT (.cons Qmk (.cons Z2c (.cons RZ (.cons Qqv (.nil))))) Tryz.func193 Tryz.call193 [.row 25 1 (.ints .u32)] [] 2
def Z7w(op a b:Int):Tree Bool:=
.br (op==40) (.lf (a==b)) (.br (op==41) (.lf (a !=b)) (.br (op==42) (.lf (decide (wrap i32 a<wrap i32 b))) (.br (op==43) (.lf (decide (wrap i32 a>=wrap i32 b))) (.br (op==44) (.lf (decide (a<b))) (.lf (decide (a>=b)))))))
def Zl6 op a b:=(Z7w op a b).m
def Zmu:bc:=mS 245 [] true [.one (.int .i64),.one (.int .u32),.one (.int .u32)] [] (λa r=>Z7w (au a 0) (au a 1) (au a 2)) (λX=>.bool X) (λX=>[])
theorem Zk3:bm pG Zmu:=oS (.nil) Tryz.func245 Tryz.call245 [] [] 2
def Ov(c:bq):Tree bq:=
.lv (Aw c.C3.a0 8 1) λ(x0:Int)=>.lv (Aw x0 16 2) λ(x1:Int)=>.lf ({X:=c.X,Pc:=c.C3.a2,C3:={a0:=x1,a1:=c.C3.a1,a2:=c.C3.a2,a3:=c.C3.a3,a4:=c.C3.a4,a5:=c.C3.a5,a6:=c.C3.a6,a7:=c.C3.a7}})
def Lh c:=(Ov c).m
def Zkx:bc:=mS 246 [] true [.agg bq.sig] [] (λa r=>Ov (bq.of (aC a 0))) (λX=>.agg (bq.cells X)) (λX=>[])
theorem Zdz:bm pG Zkx:=oS (.cons Z7b (.nil)) Tryz.func246 Tryz.call246 [] [] 2
def IJ(c:bq)(jy v:Int):Tree bq:=
let E4:=bN 0 1&&decide (0<=jy/\jy<(↑8:Int));let T2:Tree (bq):=.cn E4 (.lf ({X:=c.X,Pc:=c.Pc,C3:=A8.of 0 (dB (A8.l c.C3) jy.toNat (ba u32 v 31))}));.br (jy==0) T2 (.br (jy==7) T2 (.br (jy==6) (.cn E4 (.lf ({X:=c.X,Pc:=c.Pc,C3:=A8.of 0 (dB (A8.l c.C3) jy.toNat (ba u32 v 255))}))) (let T3:Tree (bq):=.cn E4 (.lf ({X:=c.X,Pc:=c.Pc,C3:=A8.of 0 (dB (A8.l c.C3) jy.toNat (o4 u32 v 3))}));.br (jy==1) T3 (.br (jy==2) T3 (let T1:Tree (bq):=.cn E4 (.lf ({X:=c.X,Pc:=c.Pc,C3:=A8.of 0 (dB (A8.l c.C3) jy.toNat v)}));.br (jy==3) T1 (.br (jy==4) T1 (.br (jy==5) T1 (.lf c))))))))
def Zi1 c jy v:=(IJ c jy v).m
abbrev Qxy c jy v:=(IJ c jy v).p
def Zo9:bc:=mT 247 [] true [.agg bq.sig,.one (.int .i64),.one (.int .u32)] [] (λa r=>IJ (bq.of (aC a 0)) (au a 1) (au a 2)) (λX=>.agg (bq.cells X)) (λX=>[])
theorem Zho:bm pG Zo9:=oT (.nil) Tryz.func247 Tryz.call247 [] [] 2
def EN(c:bq)(i:ik):Tree (bq×lG):=
.cn (bN 0 1&&decide (0<=i.A/\i.A<(↑16:Int))) (.cn (bN 0 1&&decide (0<=i.B/\i.B<(↑16:Int))) (.br (i.Op==24) (.an (HK c i.A (fh u32 (wrap u32 i.bz) 16)) (.lv (uE c i.A (fh u32 (wrap u32 i.bz) 16)) λ(x0:bq)=>.lf ({X:=x0.X,Pc:=wrap u32 (c.Pc+4),C3:=x0.C3},{C2:=0,E0:=0,F9:=0,Value:=0}))) (let E2:=({X:=c.X,Pc:=wrap u32 (c.Pc+4),C3:=c.C3}:bq);let E3:=aV (iv.l c.X) i.B.toNat 0;let E4:=aV (iv.l c.X) i.A.toNat 0;let T1:Tree ((bq×lG)):=.lv (Zl6 i.Op E4 E3) λ(x1:Bool)=>.br x1 (.lf ({X:=c.X,Pc:=wrap u32 (c.Pc+wrap u32 (4*wrap u32 i.bz)),C3:=c.C3},{C2:=0,E0:=0,F9:=0,Value:=0})) (.lf (E2,{C2:=0,E0:=0,F9:=0,Value:=0}));.br (i.Op==40) T1 (.br (i.Op==41) T1 (.br (i.Op==42) T1 (.br (i.Op==43) T1 (.br (i.Op==44) T1 (.br (i.Op==45) T1 (.br (i.Op==48) (.an (HK c i.A (wrap u32 (c.Pc+4))) (.lv (uE c i.A (wrap u32 (c.Pc+4))) λ(x7:bq)=>.lf ({X:=x7.X,Pc:=wrap u32 (x7.Pc+wrap u32 (4*wrap u32 i.bz)),C3:=x7.C3},{C2:=0,E0:=0,F9:=0,Value:=0}))) (.br (i.Op==49) (.an (HK c i.A (wrap u32 (c.Pc+4))) (.lv (uE c i.A (wrap u32 (c.Pc+4))) λ(x8:bq)=>.lf ({X:=x8.X,Pc:=wrap u32 (aV (iv.l c.X) i.B.toNat 0+wrap u32 i.bz),C3:=x8.C3},{C2:=0,E0:=0,F9:=0,Value:=0}))) (.br (i.Op==56) (.lv (rC c 7 0) λ(x9:bq)=>.lf (x9,{C2:=0,E0:=0,F9:=0,Value:=0})) (.br (i.Op==57) (.lv (Lh c) λ(kj:bq)=>.lf (kj,{C2:=0,E0:=0,F9:=0,Value:=0})) (.br (i.Op==58) (.cn (bN 0 1&&decide (0<=i.bz/\i.bz<(↑8:Int))) (let E5:=aV (A8.l c.C3) i.bz.toNat 0;.an (HK c i.A E5) (.lv (uE c i.A E5) λ(lY:bq)=>.lf ({X:=lY.X,Pc:=wrap u32 (c.Pc+4),C3:=lY.C3},{C2:=0,E0:=0,F9:=0,Value:=0})))) (.br (i.Op==59) (.an (Qxy c (wrap i64 i.bz) E4) (.lv (Zi1 c (wrap i64 i.bz) E4) λ(pj:bq)=>.lf ({X:=pj.X,Pc:=wrap u32 (c.Pc+4),C3:=pj.C3},{C2:=0,E0:=0,F9:=0,Value:=0}))) (.br (i.Op==60) (.lf (E2,{C2:=1,E0:=wrap i64 i.bz,F9:=i.A,Value:=0})) (.br (i.Op==61) (.lf (E2,{C2:=2,E0:=wrap i64 i.bz,F9:=0,Value:=aV (iv.l c.X) i.A.toNat 0})) (.br (i.Op==62) (.lf (E2,{C2:=3,E0:=0,F9:=0,Value:=0})) (.br (i.Op==63) (.lf (E2,{C2:=5,E0:=0,F9:=0,Value:=0})) (.br (i.Op==64) (.lf (E2,{C2:=4,E0:=0,F9:=0,Value:=0})) (.cn (bN 0 1&&decide (0<=i.C/\i.C<(↑16:Int))) (.br (decide (i.Op>=16)) (.an (Qvh i.Op E3 (wrap u32 i.bz)) (.lv (Q5 i.Op E3 (wrap u32 i.bz)) λ(oD:Int×Bool)=>.an (HK c i.A oD.1) (.lv (uE c i.A oD.1) λ(nE:bq)=>.lf ({X:=nE.X,Pc:=wrap u32 (c.Pc+4),C3:=nE.C3},{C2:=0,E0:=0,F9:=0,Value:=0})))) (let E6:=aV (iv.l c.X) i.C.toNat 0;.an (Qvh i.Op E3 E6) (.lv (Q5 i.Op E3 E6) λ(wK:Int×Bool)=>.an (HK c i.A wK.1) (.lv (uE c i.A wK.1) λ(pI:bq)=>.lf ({X:=pI.X,Pc:=wrap u32 (c.Pc+4),C3:=pI.C3},{C2:=0,E0:=0,F9:=0,Value:=0})))))))))))))))))))))))))
def XF c i:=(EN c i).m
abbrev Qsf c i:=(EN c i).p
def Zdf:bc:=mT 194 [] true [.agg bq.sig,.agg ik.sig] [] (λa r=>EN (bq.of (aC a 0)) (ik.of (aC a 1))) (λX=>.ee [.agg (bq.cells (X.1)),.agg (lG.cells (X.2))]) (λX=>[])
theorem Z9s:bm pG Zdf:=oT (.cons Zcw (.cons Zk3 (.cons RZ (.cons Zdz (.cons Zho (.cons Zrh (.nil))))))) Tryz.func194 Tryz.call194 [] [] 2
def EO(c:bq)(m:List Int):Tree (bq×(List Int)×lG):=
.an (Qws c m) (.lv (TC c m) λ(x0:Int×List Int×Int)=>.br (x0.2.2 !=0) (.lv (rC c x0.2.2 c.Pc) λ(x1:bq)=>.lf (x1,x0.2.1,{C2:=0,E0:=0,F9:=0,Value:=0})) (.an (Quw x0.1) (.lv (Qj x0.1) λ(x2:ik×Bool)=>.br (!x2.2) (.lv (rC c 1 x0.1) λ(x3:bq)=>.lf (x3,x0.2.1,{C2:=0,E0:=0,F9:=0,Value:=0})) (.lv (Oh x2.1.Op) λ(x4:Bool)=>let T1:Tree ((bq×(List Int)×lG)):=let T2:Tree ((bq×(List Int)×lG)):=.an (Z1v c x0.2.1 x2.1) (.lv (tN c x0.2.1 x2.1) λ(x7:bq×List Int)=>.lf (x7.1,x7.2,{C2:=0,E0:=0,F9:=0,Value:=0}));.br (x2.1.Op==32) T2 (.br (x2.1.Op==33) T2 (.br (x2.1.Op==34) T2 (let T3:Tree ((bq×(List Int)×lG)):=.an (Qxw c x0.2.1 x2.1) (.lv (Cq c x0.2.1 x2.1) λ(kj:bq×List Int)=>.lf (kj.1,kj.2,{C2:=0,E0:=0,F9:=0,Value:=0}));.br (x2.1.Op==35) T3 (.br (x2.1.Op==36) T3 (.an (Qsf c x2.1) (.lv (XF c x2.1) λ(pj:bq×lG)=>.lf (pj.1,x0.2.1,pj.2)))))));.br x4 (.lv (IW c) λ(x5:Bool)=>.br (!x5) (.lv (rC c 2 x0.1) λ(x6:bq)=>.lf (x6,x0.2.1,{C2:=0,E0:=0,F9:=0,Value:=0})) T1) T1))))
def Cr c m:=(EO c m).m
abbrev Z28 c m:=(EO c m).p
def Zsf:bc:=mT 137 [] true [.agg bq.sig,.one (.ints .u32)] [] (λa r=>EO (bq.of (aC a 0)) (dq .u32 a 1)) (λX=>.ee [.agg (bq.cells (X.1)),.all 0,.agg (lG.cells (X.2.2))]) (λX=>[⟨false,25,1,.ints .u32 (X.2.1)⟩])
theorem Znk:bm pG Zsf:=oT (.cons Zhw (.cons RZ (.cons Zeq (.cons Z09 (.cons Qwg (.cons Zmc (.cons Zi8 (.cons Z9s (.nil))))))))) Tryz.func137 Tryz.call137 [.row 25 1 (.ints .u32)] [] 2
end
noncomputable section
def Kd:List UInt8:=[(0:UInt8),1,2,2,3,3,3,3,4,4,4,4,4,4,4,4,5,5,5,5,5,5,5,5,5,5,5,5,5,5,5,5,6,6,6,6,6,6,6,6,6,6,6,6,6,6,6,6,6,6,6,6,6,6,6,6,6,6,6,6,6,6,6,6]
def R4:List UInt8:=[(7:UInt8),7,7,7,7,7,7,7,7,7,7,7,7,7,7,7,7,7,7,7,7,7,7,7,7,7,7,7,7,7,7,7,7,7,7,7,7,7,7,7,7,7,7,7,7,7,7,7,7,7,7,7,7,7,7,7,7,7,7,7,7,7,7,7]
def El:List UInt8:=[(8:UInt8),8,8,8,8,8,8,8,8,8,8,8,8,8,8,8,8,8,8,8,8,8,8,8,8,8,8,8,8,8,8,8,8,8,8,8,8,8,8,8,8,8,8,8,8,8,8,8,8,8,8,8,8,8,8,8,8,8,8,8,8,8,8,8]
def VH:List UInt8:=[(1:UInt8),2,2,3,3,3,3,4,4,4,4,4,4,4,4,5,5,5,5,5,5,5,5,5,5,5,5,5,5,5,5,6,6,6,6,6,6,6,6,6,6,6,6,6,6,6,6,6,6,6,6,6,6,6,6,6,6,6,6,6,6,6,6]
def Ke:List UInt8:=[(0:UInt8),1,1,2,1,2,2,3,1,2,2,3,2,3,3,4,1,2,2,3,2,3,3,4,2,3,3,4,3,4,4,5,1,2,2,3,2,3,3,4,2,3,3,4,3,4,4,5,2,3,3,4,3,4,4,5,3,4,4,5,4,5,5,6]
def Em:List UInt8:=[(1:UInt8),2,2,3,2,3,3,4,2,3,3,4,3,4,4,5,2,3,3,4,3,4,4,5,3,4,4,5,4,5,5,6,2,3,3,4,3,4,4,5,3,4,4,5,4,5,5,6,3,4,4,5,4,5,5,6,4,5,5,6,5,6,6,7]
def R5:List UInt8:=[(2:UInt8),3,3,4,3,4,4,5,3,4,4,5,4,5,5,6,3,4,4,5,4,5,5,6,4,5,5,6,5,6,6,7,3,4,4,5,4,5,5,6,4,5,5,6,5,6,6,7,4,5,5,6,5,6,6,7,5,6,6,7,6,7,7,8]
def VI:List UInt8:=[(1:UInt8),1,2,1,2,2,3,1,2,2,3,2,3,3,4,1,2,2,3,2,3,3,4,2,3,3,4,3,4,4,5,1,2,2,3,2,3,3,4,2,3,3,4,3,4,4,5,2,3,3,4,3,4,4,5,3,4,4,5,4,5,5,6]
def Qye(c:iH):Tree Bool:=
.lf (decide ((c.D9.length:Int)<=(16:Int)))
def Ba c:=(Qye c).m
def Zdv:bc:=mS 151 [] true [.agg iH.sig] [] (λa r=>Qye (iH.of (aC a 0))) (λX=>.bool X) (λX=>[])
theorem Za3:bm pG Zdv:=oS (.nil) Tryz.func151 Tryz.call151 [] [] 2
def Tf(t:iW):Tree Bool:=
.br t.F0 (.br (!t.D8) (.lf (t.D3 !=0)) (.lf false)) (.br t.D8 (.lf true) (.lf (t.D3==0)))
def Q8 t:=(Tf t).m
def Zns:bc:=mS 152 [] true [.agg iW.sig] [] (λa r=>Tf (iW.of (aC a 0))) (λX=>.bool X) (λX=>[])
theorem Zhi:bm pG Zns:=oS (.nil) Tryz.func152 Tryz.call152 [] [] 2
def N6(d0:gg):Tree Bool:=
.br (d0.F6==1) (.lf (decide (d0.C7=[]))) (.br (d0.F6==2) (.lf ((d0.C7.length:Int)==(128:Int))) (.lf false))
def Td d0:=(N6 d0).m
def Qzy:bc:=mS 208 [] true [.agg gg.sig] [] (λa r=>N6 (gg.of (aC a 0))) (λX=>.bool X) (λX=>[])
theorem Qxz:bm pG Qzy:=oS (.nil) Tryz.func208 Tryz.call208 [] [] 2
def EK(d0:gg)(bj:Int):Tree Bool:=
.br (decide (d0.ab>64)) (.lf false) (let T1:Tree (Bool):=.br (d0.F6==0) (.br (d0.C5==0) (.br (d0.C6==0) (.lf (decide (d0.C7=[]))) (.lf false)) (.lf false)) (.lf false);.br (d0.C8==0) T1 (.br (d0.C8==2) T1 (.br (d0.C8==3) T1 (.br (d0.C8==1) (.lv (Td d0) λ(x0:Bool)=>.br x0 (.br (decide (d0.C5<d0.ab)) (.lf (decide (wrap i64 d0.C6<bj))) (.lf false)) (.lf false)) (.lf false)))))
def rB d0 bj:=(EK d0 bj).m
def Zs4:bc:=mS 153 [] true [.agg gg.sig,.one (.int .i64)] [] (λa r=>EK (gg.of (aC a 0)) (au a 1)) (λX=>.bool X) (λX=>[])
theorem Zm8:bm pG Zs4:=oS (.cons Qxz (.nil)) Tryz.func153 Tryz.call153 [] [] 2
def N7(n:ic)(bj:Int):Tree Bool:=
let T1:Tree (Bool):=let T2:Tree (Bool):=.br n.C4 (.br (decide (n.F8>=1)) (.lf (decide (n.F8<=128))) (.lf false)) (.lf (n.F8==0));.br n.D2 (.br (decide (wrap i64 n.D4>=bj)) (.lf false) T2) (.br (n.D4 !=0) (.lf false) T2);.br n.D2 (.br n.C4 (.lf false) T1) T1
def wC n bj:=(N7 n bj).m
def vC:bc:=mS 154 [] true [.agg ic.sig,.one (.int .i64)] [] (λa r=>N7 (ic.of (aC a 0)) (au a 1)) (λX=>.bool X) (λX=>[])
theorem Zra:bm pG vC:=oS (.nil) Tryz.func154 Tryz.call154 [] [] 2
def DP(x:Int):Tree Int:=
let E1:=(↑(dF (cP (cP Kd R4) (cP El El))):Int);.br (decide (x>=65536)) (.br (decide (bb u32 x (16:Int)>=(256:Int))) (.cn (decide (0<=wrap u8 (bb u32 (bb u32 x 16) 8)/\wrap u8 (bb u32 (bb u32 x 16) 8)<E1)) (.lf (wrap i64 (wrap i64 ((16:Int)+(8:Int))+wrap i64 (↑(hY (aV ((0:UInt8)::(VH++R4++(El++El))) (dA (wrap u8 (bb u32 (bb u32 x 16) 8))) (0:UInt8))):Int))))) (.cn (decide (0<=wrap u8 (bb u32 x 16)/\wrap u8 (bb u32 x 16)<E1)) (.lf (wrap i64 (16+wrap i64 (↑(hY (aV ((0:UInt8)::(VH++R4++(El++El))) (dA (wrap u8 (bb u32 x 16))) (0:UInt8))):Int)))))) (.br (decide (x>=256)) (.cn (decide (0<=wrap u8 (bb u32 x 8)/\wrap u8 (bb u32 x 8)<E1)) (.lf (wrap i64 (wrap i64 ((0:Int)+(8:Int))+wrap i64 (↑(hY (aV ((0:UInt8)::(VH++R4++(El++El))) (dA (wrap u8 (bb u32 x 8))) (0:UInt8))):Int))))) (.cn (decide (0<=wrap u8 x/\wrap u8 x<E1)) (.lf (wrap i64 (0+wrap i64 (↑(hY (aV ((0:UInt8)::(VH++R4++(El++El))) (dA (wrap u8 x)) (0:UInt8))):Int))))))
def wD x:=(DP x).m
abbrev Qjg x:=(DP x).p
def Qzf:bc:=mT 209 [] true [.one (.int .u32)] [] (λa r=>DP (au a 0)) (λX=>.int .i64 X) (λX=>[])
theorem Qy:bm pG Qzf:=oT (.nil) Tryz.func209 Tryz.call209 [] [] 2
def IE(b:gw)(bj:Int):Tree Bool:=
.an (Qjg b.D0) (.lv (wD b.D0) λ(x0:Int)=>.lf (decide (x0<=if 0>bj then 0 else bj)))
def Bb b bj:=(IE b bj).m
abbrev Qk9 b bj:=(IE b bj).p
def Zfr:bc:=mT 155 [] true [.agg gw.sig,.one (.int .i64)] [] (λa r=>IE (gw.of (aC a 0)) (au a 1)) (λX=>.bool X) (λX=>[])
theorem Zau:bm pG Zfr:=oT (.cons Qy (.nil)) Tryz.func155 Tryz.call155 [] [] 2
def GI(m:bd):Tree Bool:=
.lv (jW m.Mem) λ(x0:Int)=>.lv (Ba m.B3) λ(x1:Bool)=>.br x1 (.lv (Q8 m.B8) λ(x2:Bool)=>.br x2 (.lv (rB m.B5 x0) λ(x3:Bool)=>.br x3 (.lv (wC m.D1 x0) λ(x4:Bool)=>.br x4 (.an (Qk9 m.A7 x0) (.lv (Bb m.A7 x0) λ(x5:Bool)=>.lf x5)) (.lf false)) (.lf false)) (.lf false)) (.lf false)
def wA m:=(GI m).m
abbrev VC m:=(GI m).p
def Qtz:bc:=mT 115 [] true [.agg bd.sig] [] (λa r=>GI (bd.of (aC a 0))) (λX=>.bool X) (λX=>[])
theorem Qre:bm pG Qtz:=oT (.cons Bv (.cons Za3 (.cons Zhi (.cons Zm8 (.cons Zra (.cons Zau (.nil))))))) Tryz.func115 Tryz.call115 [] [] 2
def JZ(m:bd):Tree Bool:=
.lv (jW m.Mem) λ(x0:Int)=>.br (x0==0) (.lf false) (.br (m.B2.X.a0 !=0) (.lf false) (.br (decide (m.B2.C3.a0>31)) (.lf false) (.br (decide (m.B2.C3.a7>31)) (.lf false) (.br (decide (m.B2.C3.a6>255)) (.lf false) (.br (cZ m.B2.C3.a1 (4:Int) !=(0:Int)) (.lf false) (.br (decide (m.B7>1152921504606846976)) (.lf false) (.br m.B4 (.br m.B6 (.lf false) (.an (VC m) (.lv (wA m) λ(x1:Bool)=>.lf x1))) (.an (VC m) (.lv (wA m) λ(x2:Bool)=>.lf x2)))))))))
def Bc m:=(JZ m).m
abbrev VB m:=(JZ m).p
def Zg2:bc:=mT 68 [] true [.agg bd.sig] [] (λa r=>JZ (bd.of (aC a 0))) (λX=>.bool X) (λX=>[])
theorem Quj:bm pG Zg2:=oT (.cons Bv (.cons Qre (.nil))) Tryz.func68 Tryz.call68 [] [] 2
def Qs7(t:iW):Tree Bool:=
.lf t.D8
def X3 t:=(Qs7 t).m
def Z6c:bc:=mS 266 [] true [.agg iW.sig] [] (λa r=>Qs7 (iW.of (aC a 0))) (λX=>.bool X) (λX=>[])
theorem Z2y:bm pG Z6c:=oS (.nil) Tryz.func266 Tryz.call266 [] [] 2
def Qni(c:iH):Tree Bool:=
.lf (!decide (c.D9=[]))
def TJ c:=(Qni c).m
def Qz9:bc:=mS 267 [] true [.agg iH.sig] [] (λa r=>Qni (iH.of (aC a 0))) (λX=>.bool X) (λX=>[])
theorem Qx4:bm pG Qz9:=oS (.nil) Tryz.func267 Tryz.call267 [] [] 2
def Xb(d0:gg):Tree Bool:=
.br (d0.C8==2) (.lf true) (.lf (d0.C8==3))
def K8 d0:=(Xb d0).m
def Za2:bc:=mS 251 [] true [.agg gg.sig] [] (λa r=>Xb (gg.of (aC a 0))) (λX=>.bool X) (λX=>[])
theorem Qr3:bm pG Za2:=oS (.nil) Tryz.func251 Tryz.call251 [] [] 2
def Qwy(n:ic):Tree Bool:=
.lf n.C4
def Qp n:=(Qwy n).m
def Zer:bc:=mS 268 [] true [.agg ic.sig] [] (λa r=>Qwy (ic.of (aC a 0))) (λX=>.bool X) (λX=>[])
theorem Zb0:bm pG Zer:=oS (.nil) Tryz.func268 Tryz.call268 [] [] 2
def Rv(x:Int):Tree Int:=
let E1:=(↑(dF (cP (cP Ke Em) (cP Em R5))):Int);.cn (decide (0<=bb u32 x 24/\bb u32 x 24<E1)) (.cn (decide (0<=ba u32 (bb u32 x 16) 255/\ba u32 (bb u32 x 16) 255<E1)) (.cn (decide (0<=ba u32 (bb u32 x 8) 255/\ba u32 (bb u32 x 8) 255<E1)) (.cn (decide (0<=ba u32 x 255/\ba u32 x 255<E1)) (.lf (wrap i64 (wrap u8 (wrap u8 (wrap u8 ((↑(hY (aV ((0:UInt8)::(VI++Em++(Em++R5))) (dA (bb u32 x 24)) (0:UInt8))):Int)+(↑(hY (aV ((0:UInt8)::(VI++Em++(Em++R5))) (dA (ba u32 (bb u32 x 16) 255)) (0:UInt8))):Int))+(↑(hY (aV ((0:UInt8)::(VI++Em++(Em++R5))) (dA (ba u32 (bb u32 x 8) 255)) (0:UInt8))):Int))+(↑(hY (aV ((0:UInt8)::(VI++Em++(Em++R5))) (dA (ba u32 x 255)) (0:UInt8))):Int))))))))
def XW x:=(Rv x).m
abbrev Qbs x:=(Rv x).p
def Qoi:bc:=mT 279 [] true [.one (.int .u32)] [] (λa r=>Rv (au a 0)) (λX=>.int .i64 X) (λX=>[])
theorem Qna:bm pG Qoi:=oT (.nil) Tryz.func279 Tryz.call279 [] [] 2
def Rw(b:gw):Tree Int:=
.an (Qbs b.D0) (.lv (XW b.D0) λ(x0:Int)=>.lf x0)
def Qe b:=(Rw b).m
abbrev Qfs b:=(Rw b).p
def Z8j:bc:=mT 249 [] true [.agg gw.sig] [] (λa r=>Rw (gw.of (aC a 0))) (λX=>.int .i64 X) (λX=>[])
theorem Qpy:bm pG Z8j:=oT (.cons Qna (.nil)) Tryz.func249 Tryz.call249 [] [] 2
def LP(b:gw):Tree Bool:=
.an (Qfs b) (.lv (Qe b) λ(x0:Int)=>.lf (wrap u32 x0 !=b.A2))
def OH b:=(LP b).m
abbrev Qk6 b:=(LP b).p
def Qzb:bc:=mT 269 [] true [.agg gw.sig] [] (λa r=>LP (gw.of (aC a 0))) (λX=>.bool X) (λX=>[])
theorem Qya:bm pG Qzb:=oT (.cons Qpy (.nil)) Tryz.func269 Tryz.call269 [] [] 2
def Qje(m:bd)(z:(Int)×(Int)):Nat:=(5-z.2).toNat
def LW(m:bd):Tree Int:=
.lv (X3 m.B8) λ(x0:Bool)=>.lv (TJ m.B3) λ(x1:Bool)=>.lv (K8 m.B5) λ(x2:Bool)=>.lv (Qp m.D1) λ(x3:Bool)=>.an (Qk6 m.A7) (.lv (OH m.A7) λ(x4:Bool)=>.lp inferInstance (Qje m (0,0)+1) ((rE (0:Int)/\(rE (x0:Bool)/\rE (x1:Bool)/\rE (x2:Bool)/\rE (x3:Bool)/\rE (x4:Bool)/\True)/\rE (0:Int)/\True)/\True) (0,0) λ(v0:Int×Int)=>.br (decide (v0.2<5)) (.cn (bX 1 1&&(bX 5 5&&decide (0<=v0.2/\v0.2<(↑5:Int)))) (.br (aV [x0,x1,x2,x3,x4] v0.2.toNat false) (.cn (decide (0<=v0.2)) (.nx ((rE ((iU u32 v0.1 (fh u32 1 v0.2)):Int)/\(rE (x0:Bool)/\rE (x1:Bool)/\rE (x2:Bool)/\rE (x3:Bool)/\rE (x4:Bool)/\True)/\rE ((wrap i64 (v0.2+1)):Int)/\True)/\True) (Sum.inl (iU u32 v0.1 (fh u32 1 v0.2),wrap i64 (v0.2+1))))) (.nx ((rE v0.1/\(rE (x0:Bool)/\rE (x1:Bool)/\rE (x2:Bool)/\rE (x3:Bool)/\rE (x4:Bool)/\True)/\rE ((wrap i64 (v0.2+1)):Int)/\True)/\True) (Sum.inl (v0.1,wrap i64 (v0.2+1)))))) (.lf (Sum.inr v0.1)))
def TQ m:=(LW m).m
abbrev Qn7 m:=(LW m).p
def Z2n:cg:={
 α:=(Int)×(Int)
 F:=λst a=>([(4,.int u32 a.1),(23,(lk st 23)),(24,.int i64 a.2)],[])
 a0:=λst=>((lk st 4).toInt,(lk st 24).toInt)
 jo:=λst=>[]++[]}
def Qxr:List (Nat×cg):=[(4,Z2n)]
def Z7n:bc:=mT 234 [] true [.agg bd.sig] [] (λa r=>LW (bd.of (aC a 0))) (λX=>.int .u32 X) (λX=>[])
theorem Z3r:bm pG Z7n:=oT (.cons Z2y (.cons Qx4 (.cons Qr3 (.cons Zb0 (.cons Qya (.nil)))))) Tryz.func234 Tryz.call234 [] Qxr 3
def LY(m:bd):Tree Int:=
.an (Qn7 m) (.lv (TQ m) λ(x0:Int)=>.lf (ba u32 x0 m.B2.C3.a7))
def LX m:=(LY m).m
abbrev Qcs m:=(LY m).p
def Qzv:bc:=mT 186 [] true [.agg bd.sig] [] (λa r=>LY (bd.of (aC a 0))) (λX=>.int .u32 X) (λX=>[])
theorem Qlx:bm pG Qzv:=oT (.cons Z3r (.nil)) Tryz.func186 Tryz.call186 [] [] 2
def L0(m:bd):Tree Bool:=
.br m.B4 (.an (Qcs m) (.lv (LX m) λ(x0:Int)=>.lf (x0==0))) (.lf false)
def Tl m:=(L0 m).m
abbrev Qpv m:=(L0 m).p
def Zat:bc:=mT 185 [] true [.agg bd.sig] [] (λa r=>L0 (bd.of (aC a 0))) (λX=>.bool X) (λX=>[])
theorem Z68:bm pG Zat:=oT (.cons Qlx (.nil)) Tryz.func185 Tryz.call185 [] [] 2

import Derived.Test.YtaemmjbkndlkeaaGreatMigrateContinuesBase
open Int renaming tmod->cZ,tdiv->eF,toNat->dA
open Nat renaming beq->bX,blt->bN
open List renaming set->dB,getD->aV,length->dF,append->cP
open UInt8 renaming toNat->hY
set_option maxRecDepth 100000
set_option linter.all false
namespace Go.Proofs.YtaemmjbkndlkeaaGreat
open Go Go.GD Go.IntKind
noncomputable section
def ko(s:List Int):(List Int):=
s
def nH(s:List Int):Prop:=
s.length<=35184372088832
def Q45(s:List Int):List D:=[.sl 1 (.ints .u32 s) false]
def U6(s:List Int):List Row:=[]
def Ma(X:List Int):D:=.all 0
def Mb(X:List Int):List Row:=[⟨false,25,1,.ints .u32 X⟩]
def Qf6:List mP:=[.row 25 1 (.ints .u32)]
def Q85:List PT:=[.one (.ints .u32)]
def Q7z:List RT:=[]
def Qgz(args:List D)(rows:List Row):(List Int):=ko (dh .u32 args 0)
def Qgy(args:List D)(rows:List Row):Prop:=nH (dh .u32 args 0)
def Qij:bc:=lh 114 [] true Q85 Q7z Qgy Qgz Ma Mb
def Q5f(s:List Int)(iW:(List Int)->Prop):Prop:=
(s=[]->iW [])/\cu (decide ((4:Nat)*((0:Nat)+s.length)<=(140737488355328:Nat))) (iW s)
set_option maxRecDepth 100000 in
theorem Qhm(s:List Int)(Q:D->List Row->Prop):(j6 jQ [] (LL jQ [] Tryz.f114.ntmps 0 [] 2) Tryz.f114 (Q45 s) (U6 s) λd R=>nK (U6 s).length Qf6 d R Q)=Q5f s (λX=>Q (Ma X) (Mb X)):=by kernel_rfl
theorem Qf1(s:List Int)(iW:(List Int)->Prop)(hw:nH s)(h:iW (ko s)):
Q5f s iW:=by
 delta Q5f
 refine⟨λe=>by rw[e]at h;exact h,?_⟩
 rw[dd]
 refine⟨dY ?_,h⟩
 have:s.length<=35184372088832:=hw
 omega
set_option maxRecDepth 100000 in
theorem Qem(s:List Int)(hw:nH s):kg pG 114 (Q45 s) (U6 s) (Ma (ko s)) (Mb (ko s)):=
 have hG:jr pG []:=.nil
 lK.calls drawn jt hG Tryz.func114 (rf:=none) (λ_ _=>trivial) (FW drawn jt hG (.inl rfl) 2 (fm:=[])) (lK.of (Qhm s _) (Qf1 s (λX=>Ma X=Ma (ko s)/\Mb X=Mb (ko s)) hw ⟨rfl,rfl⟩))
set_option maxRecDepth 100000 in
theorem Qet(args:List D)(rows:List Row):kN Q85 args 0=Q45 (dh .u32 args 0):=by kernel_rfl
set_option maxRecDepth 100000 in
theorem Qel(args:List D)(rows:List Row):kh Q7z rows 0=U6 (dh .u32 args 0):=by kernel_rfl
set_option maxRecDepth 100000 in
theorem Qhf(X:List Int):(sV (Ma X)&&jo (Mb X))=true:=by kernel_rfl
theorem JD:bm pG Qij:=Fo Tryz.call114 (λargs rows hp=>by rw[Qet args rows,Qel args rows];exact Qem (dh .u32 args 0) hp) (λ_ X=>Qhf X)
def Gf(m:List Int):Tree Int:=
.br (cZ (m.length:Int) (32:Int) !=(0:Int)) (.lf 0) (.br (decide ((m.length:Int)>(1024:Int))) (.lf 0) (.lf (wrap i64 (eF (m.length:Int) 32))))
def jL m:=(Gf m).m
def Za2:bc:=mS 70 [] true [.one (.ints .u32)] [] (λa r=>Gf (dh .u32 a 0)) (λX=>.int .i64 X) (λX=>[])
theorem Q2:bm pG Za2:=oS (.nil) Tryz.func70 Tryz.call70 [] [] 2
def Is(m:List Int)(addr size:Int):Tree Bool:=
let T1:Tree (Bool):=.cn (decide (wrap u32 size≠0)) (.br (cZ addr (wrap u32 size) !=0) (.lf false) (.lv (jL m) λ(x0:Int)=>.lf (decide (wrap u64 (wrap u64 addr+wrap u64 size)<=wrap u64 (wrap u64 x0*128)))));.br (size !=1) (.br (size !=4) (.lf false) T1) T1
def WZ m addr size:=(Is m addr size).m
abbrev Qew m addr size:=(Is m addr size).p
def Z5f:bc:=mT 273 [] true [.one (.ints .u32),.one (.int .u32),.one (.int .i64)] [] (λa r=>Is (dh .u32 a 0) (ar a 1) (ar a 2)) (λX=>.bool X) (λX=>[])
theorem Qq:bm pG Z5f:=oT (.cons Q2 (.nil)) Tryz.func273 Tryz.call273 [] [] 2
def QI(n:Int):Tree Int:=
.br (decide (n>=32)) (.lf 4294967295) (.cn (decide (0<=wrap u64 n)) (.lf (wrap u32 (ep u32 1 (wrap u64 n)-1))))
def Z8m n:=(QI n).m
abbrev Qop n:=(QI n).p
def Zo1:bc:=mT 274 [] true [.one (.int .i64)] [] (λa r=>QI (ar a 0)) (λX=>.int .u32 X) (λX=>[])
theorem Z14:bm pG Zo1:=oT (.nil) Tryz.func274 Tryz.call274 [] [] 2
def QJ(w low n:Int):Tree Int:=
.br (decide (low<0)) (.lf 0) (.br (decide (low>31)) (.lf 0) (.br (decide (n<1)) (.lf 0) (.cn (decide (0<=wrap u64 low)) (.an (Qop n) (.lv (Z8m n) λ(x0:Int)=>.lf (ba u32 (bb u32 w (wrap u64 low)) x0))))))
def tj w low n:=(QJ w low n).m
abbrev Mc w low n:=(QJ w low n).p
def Zh5:bc:=mT 238 [] true [.one (.int .u32),.one (.int .i64),.one (.int .i64)] [] (λa r=>QJ (ar a 0) (ar a 1) (ar a 2)) (λX=>.int .u32 X) (λX=>[])
theorem Qoh:bm pG Zh5:=oT (.cons Z14 (.nil)) Tryz.func238 Tryz.call238 [] [] 2
def QK(w low n v:Int):Tree Int:=
.br (decide (low<0)) (.lf w) (.br (decide (low>31)) (.lf w) (.br (decide (n<1)) (.lf w) (.an (Qop n) (.lv (Z8m n) λ(x0:Int)=>.cn (decide (0<=wrap u64 low)) (.cn (decide (0<=wrap u64 low)) (.lf (iH u32 (oD u32 w (ep u32 x0 (wrap u64 low))) (ep u32 (ba u32 v x0) (wrap u64 low)))))))))
def KO w low n v:=(QK w low n v).m
abbrev Qno w low n v:=(QK w low n v).p
def Z4e:bc:=mT 276 [] true [.one (.int .u32),.one (.int .i64),.one (.int .i64),.one (.int .u32)] [] (λa r=>QK (ar a 0) (ar a 1) (ar a 2) (ar a 3)) (λX=>.int .u32 X) (λX=>[])
theorem Z3a:bm pG Z4e:=oT (.cons Z14 (.nil)) Tryz.func276 Tryz.call276 [] [] 2
def KR(m:List Int)(addr size v:Int):Tree ((List Int)×Bool):=
.an (nH m) (.lv (ko m) λ(x0:List Int)=>.an (Qew m addr size) (.lv (WZ m addr size) λ(x1:Bool)=>.br (!x1) (.lf (x0,false)) (let E1:=bX 1 1&&bN 0 1&&decide (0<=wrap u32 (eF addr 4)/\wrap u32 (eF addr 4)<(x0.length:Int));let E2:=dA (wrap u32 (eF addr 4));.br (size==1) (.cn E1 (let E3:=wrap i64 (wrap i64 (cZ addr 4)*8);.an (Qno (x0.getD E2 0) E3 8 v) (.lv (KO (x0.getD E2 0) E3 8 v) λ(x2:Int)=>.cn E1 (.lf (dB x0 E2 x2,true))))) (.cn E1 (.lf (dB x0 E2 v,true))))))
def KQ m addr size v:=(KR m addr size v).m
abbrev Qc4 m addr size v:=(KR m addr size v).p
def Zag:bc:=mT 244 [] true [.one (.ints .u32),.one (.int .u32),.one (.int .i64),.one (.int .u32)] [] (λa r=>KR (dh .u32 a 0) (ar a 1) (ar a 2) (ar a 3)) (λX=>.dv [.all 0,.bool (X.2)]) (λX=>[⟨false,25,1,.ints .u32 (X.1)⟩])
theorem Qs5:bm pG Zag:=oT (.cons JD (.cons Qq (.cons Z3a (.nil)))) Tryz.func244 Tryz.call244 [.row 25 1 (.ints .u32)] [] 2
def Zk(op:Int):Tree (wP×Bool):=
.br (op==1) (.lf ({a:=true,b:=true,c:=true,low:=0,F5:=0},true)) (.br (op==2) (.lf ({a:=true,b:=true,c:=true,low:=0,F5:=0},true)) (.br (op==3) (.lf ({a:=true,b:=true,c:=true,low:=0,F5:=0},true)) (.br (op==4) (.lf ({a:=true,b:=true,c:=true,low:=0,F5:=0},true)) (.br (op==5) (.lf ({a:=true,b:=true,c:=true,low:=0,F5:=0},true)) (.br (op==6) (.lf ({a:=true,b:=true,c:=true,low:=0,F5:=0},true)) (.br (op==7) (.lf ({a:=true,b:=true,c:=true,low:=0,F5:=0},true)) (.br (op==8) (.lf ({a:=true,b:=true,c:=true,low:=0,F5:=0},true)) (.br (op==9) (.lf ({a:=true,b:=true,c:=true,low:=0,F5:=0},true)) (.br (op==10) (.lf ({a:=true,b:=true,c:=true,low:=0,F5:=0},true)) (.br (op==11) (.lf ({a:=true,b:=true,c:=true,low:=0,F5:=0},true)) (.br (op==12) (.lf ({a:=true,b:=true,c:=true,low:=0,F5:=0},true)) (.br (op==13) (.lf ({a:=true,b:=true,c:=true,low:=0,F5:=0},true)) (.br (op==16) (.lf ({a:=true,b:=true,c:=false,low:=(-32768),F5:=32767},true)) (.br (op==23) (.lf ({a:=true,b:=true,c:=false,low:=(-32768),F5:=32767},true)) (.br (op==32) (.lf ({a:=true,b:=true,c:=false,low:=(-32768),F5:=32767},true)) (.br (op==33) (.lf ({a:=true,b:=true,c:=false,low:=(-32768),F5:=32767},true)) (.br (op==34) (.lf ({a:=true,b:=true,c:=false,low:=(-32768),F5:=32767},true)) (.br (op==35) (.lf ({a:=true,b:=true,c:=false,low:=(-32768),F5:=32767},true)) (.br (op==36) (.lf ({a:=true,b:=true,c:=false,low:=(-32768),F5:=32767},true)) (.br (op==40) (.lf ({a:=true,b:=true,c:=false,low:=(-32768),F5:=32767},true)) (.br (op==41) (.lf ({a:=true,b:=true,c:=false,low:=(-32768),F5:=32767},true)) (.br (op==42) (.lf ({a:=true,b:=true,c:=false,low:=(-32768),F5:=32767},true)) (.br (op==43) (.lf ({a:=true,b:=true,c:=false,low:=(-32768),F5:=32767},true)) (.br (op==44) (.lf ({a:=true,b:=true,c:=false,low:=(-32768),F5:=32767},true)) (.br (op==45) (.lf ({a:=true,b:=true,c:=false,low:=(-32768),F5:=32767},true)) (.br (op==49) (.lf ({a:=true,b:=true,c:=false,low:=(-32768),F5:=32767},true)) (.br (op==17) (.lf ({a:=true,b:=true,c:=false,low:=0,F5:=65535},true)) (.br (op==18) (.lf ({a:=true,b:=true,c:=false,low:=0,F5:=65535},true)) (.br (op==19) (.lf ({a:=true,b:=true,c:=false,low:=0,F5:=65535},true)) (.br (op==20) (.lf ({a:=true,b:=true,c:=false,low:=0,F5:=31},true)) (.br (op==21) (.lf ({a:=true,b:=true,c:=false,low:=0,F5:=31},true)) (.br (op==22) (.lf ({a:=true,b:=true,c:=false,low:=0,F5:=31},true)) (.br (op==24) (.lf ({a:=true,b:=false,c:=false,low:=0,F5:=65535},true)) (.br (op==48) (.lf ({a:=true,b:=false,c:=false,low:=(-32768),F5:=32767},true)) (.br (op==58) (.lf ({a:=true,b:=false,c:=false,low:=0,F5:=7},true)) (.br (op==59) (.lf ({a:=true,b:=false,c:=false,low:=0,F5:=7},true)) (.br (op==60) (.lf ({a:=true,b:=false,c:=false,low:=0,F5:=11},true)) (.br (op==61) (.lf ({a:=true,b:=false,c:=false,low:=0,F5:=11},true)) (.br (op==56) (.lf ({a:=false,b:=false,c:=false,low:=0,F5:=0},true)) (.br (op==57) (.lf ({a:=false,b:=false,c:=false,low:=0,F5:=0},true)) (.br (op==62) (.lf ({a:=false,b:=false,c:=false,low:=0,F5:=0},true)) (.br (op==63) (.lf ({a:=false,b:=false,c:=false,low:=0,F5:=0},true)) (.br (op==64) (.lf ({a:=false,b:=false,c:=false,low:=0,F5:=0},true)) (.lf ({a:=false,b:=false,c:=false,low:=0,F5:=0},false)))))))))))))))))))))))))))))))))))))))))))))
def SN op:=(Zk op).m
def xC:bc:=mS 239 [] true [.one (.int .i64)] [] (λa r=>Zk (ar a 0)) (λX=>.dv [.agg (wP.cells (X.1)),.bool (X.2)]) (λX=>[])
theorem Zcf:bm pG xC:=oS (.nil) Tryz.func239 Tryz.call239 [] [] 2
def QL(x n:Int):Tree Int:=
.br (decide (n<1)) (.lf 0) (.br (decide (n>=32)) (.lf x) (let E1:=decide (0<=wrap u64 (wrap i64 (32-n)));.cn E1 (.cn E1 (.lf (wrap u32 (bb i32 (wrap i32 (ep u32 x (wrap u64 (wrap i64 (32-n))))) (wrap u64 (wrap i64 (32-n)))))))))
def Dr x n:=(QL x n).m
abbrev Qcm x n:=(QL x n).p
def Qz1:bc:=mT 240 [] true [.one (.int .u32),.one (.int .i64)] [] (λa r=>QL (ar a 0) (ar a 1)) (λX=>.int .u32 X) (λX=>[])
theorem Qm4:bm pG Qz1:=oT (.nil) Tryz.func240 Tryz.call240 [] [] 2
def SO(r:Int)(used:Bool):Tree Bool:=
.br used (.br (decide (r>=0)) (.lf (decide (r<=15))) (.lf false)) (.lf (r==0))
def KJ r used:=(SO r used).m
def Z9a:bc:=mS 275 [] true [.one (.int .i64),.one (.bool)] [] (λa r=>SO (ar a 0) (kq a 1)) (λX=>.bool X) (λX=>[])
theorem Z4x:bm pG Z9a:=oS (.nil) Tryz.func275 Tryz.call275 [] [] 2
def NC(i:gv):Tree Bool:=
.lv (SN i.Op) λ(x0:wP×Bool)=>.br x0.2 (.lv (KJ i.A x0.1.a) λ(x1:Bool)=>.br x1 (.lv (KJ i.B x0.1.b) λ(x2:Bool)=>.br x2 (.lv (KJ i.C x0.1.c) λ(x3:Bool)=>.br x3 (.br (decide (i.bz>=x0.1.low)) (.lf (decide (i.bz<=x0.1.F5))) (.lf false)) (.lf false)) (.lf false)) (.lf false)) (.lf false)
def Iq i:=(NC i).m
def Zm:bc:=mS 241 [] true [.agg gv.sig] [] (λa r=>NC (gv.of (aC a 0))) (λX=>.bool X) (λX=>[])
theorem Zgv:bm pG Zm:=oS (.cons Zcf (.cons Z4x (.nil))) Tryz.func241 Tryz.call241 [] [] 2
def KL(w:Int):Tree (gv×Bool):=
.an (Mc w 24 8) (.lv (tj w 24 8) λ(x0:Int)=>.an (Mc w 20 4) (.lv (tj w 20 4) λ(x1:Int)=>.an (Mc w 16 4) (.lv (tj w 16 4) λ(x2:Int)=>.lv (SN (wrap i64 x0)) λ(x3:wP×Bool)=>let E1:=({Op:=0,A:=0,B:=0,C:=0,bz:=0}:gv);.br (!x3.2) (.lf (E1,false)) (.an (Mc w 0 16) (.lv (tj w 0 16) λ(x4:Int)=>.br x3.1.c (let E2:=({Op:=wrap i64 x0,A:=wrap i64 x1,B:=wrap i64 x2,C:=wrap i64 x4,bz:=0}:gv);.lv (Iq E2) λ(x5:Bool)=>.br (!x5) (.lf (E1,false)) (.lf (E2,true))) (.br (decide (x3.1.low<0)) (.an (Qcm x4 16) (.lv (Dr x4 16) λ(x6:Int)=>let E3:=({Op:=wrap i64 x0,A:=wrap i64 x1,B:=wrap i64 x2,C:=0,bz:=wrap i32 x6}:gv);.lv (Iq E3) λ(x7:Bool)=>.br (!x7) (.lf (E1,false)) (.lf (E3,true)))) (let E4:=({Op:=wrap i64 x0,A:=wrap i64 x1,B:=wrap i64 x2,C:=0,bz:=wrap i32 x4}:gv);.lv (Iq E4) λ(x8:Bool)=>.br (!x8) (.lf (E1,false)) (.lf (E4,true)))))))))
def NF w:=(KL w).m
abbrev Que w:=(KL w).p
def Zk8:bc:=mT 189 [] true [.one (.int .u32)] [] (λa r=>KL (ar a 0)) (λX=>.dv [.agg (gv.cells (X.1)),.bool (X.2)]) (λX=>[])
theorem Zed:bm pG Zk8:=oT (.cons Qoh (.cons Zcf (.cons Qm4 (.cons Zgv (.nil))))) Tryz.func189 Tryz.call189 [] [] 2
def KZ(a b:Int):Tree (Int×Int):=
.br (b==0) (.lf (4294967295,a)) (let T1:Tree ((Int×Int)):=.cn (decide (wrap i32 b≠0)) (.cn (decide (wrap i32 b≠0)) (.lf (wrap u32 (wrap i32 (eF (wrap i32 a) (wrap i32 b))),wrap u32 (cZ (wrap i32 a) (wrap i32 b)))));.br (a==2147483648) (.br (b==4294967295) (.lf (a,0)) T1) T1)
def KX a b:=(KZ a b).m
abbrev Qjx a b:=(KZ a b).p
def Zeg:bc:=mT 277 [] true [.one (.int .u32),.one (.int .u32)] [] (λa r=>KZ (ar a 0) (ar a 1)) (λX=>.dv [.int .u32 (X.1),.int .u32 (X.2)]) (λX=>[])
theorem Zaj:bm pG Zeg:=oT (.nil) Tryz.func277 Tryz.call277 [] [] 2
def Z84(b:Bool):Tree Int:=
.br b (.lf 1) (.lf 0)
def UQ b:=(Z84 b).m
def Zmc:bc:=mS 278 [] true [.one (.bool)] [] (λa r=>Z84 (kq a 0)) (λX=>.int .u32 X) (λX=>[])
theorem Zjq:bm pG Zmc:=oS (.nil) Tryz.func278 Tryz.call278 [] [] 2
def QO(op a b:Int):Tree (Int×Bool):=
.br (op==2) (.lf (wrap u32 (a+wrap u32 (0-b)),true)) (.br (op==1) (.lf (wrap u32 (a+b),true)) (.br (op==16) (.lf (wrap u32 (a+b),true)) (.br (op==3) (.lf (ba u32 a b,true)) (.br (op==17) (.lf (ba u32 a b,true)) (.br (op==4) (.lf (iH u32 a b,true)) (.br (op==18) (.lf (iH u32 a b,true)) (.br (op==5) (.lf (ri u32 a b,true)) (.br (op==19) (.lf (ri u32 a b,true)) (.br (op==6) (.lf (ep u32 a (ba u32 b 31),true)) (.br (op==20) (.lf (ep u32 a (ba u32 b 31),true)) (.br (op==7) (.lf (bb u32 a (ba u32 b 31),true)) (.br (op==21) (.lf (bb u32 a (ba u32 b 31),true)) (let E1:=(wrap u32 (bb i32 (wrap i32 a) (ba u32 b 31)),true);.br (op==8) (.lf E1) (.br (op==22) (.lf E1) (.br (op==9) (.lf (wrap u32 (a*b),true)) (.br (op==10) (.an (Qjx a b) (.lv (KX a b) λ(x0:Int×Int)=>.lf (x0.1,true))) (.br (op==11) (.an (Qjx a b) (.lv (KX a b) λ(x1:Int×Int)=>.lf (x1.2,true))) (.br (op==12) (.lv (UQ (decide (wrap i32 a<wrap i32 b))) λ(x2:Int)=>.lf (x2,true)) (.br (op==23) (.lv (UQ (decide (wrap i32 a<wrap i32 b))) λ(x3:Int)=>.lf (x3,true)) (.br (op==13) (.lv (UQ (decide (a<b))) λ(x4:Int)=>.lf (x4,true)) (.lf (0,false))))))))))))))))))))))
def ny op a b:=(QO op a b).m
abbrev Qvt op a b:=(QO op a b).p
def zC:bc:=mT 248 [] true [.one (.int .i64),.one (.int .u32),.one (.int .u32)] [] (λa r=>QO (ar a 0) (ar a 1) (ar a 2)) (λX=>.dv [.int .u32 (X.1),.bool (X.2)]) (λX=>[])
theorem Zrl:bm pG zC:=oT (.cons Zaj (.cons Zjq (.nil))) Tryz.func248 Tryz.call248 [] [] 2
end
noncomputable section
def UP(status CZ to:Int):Tree Int:=
.br (ba u32 status CZ !=0) (.lf (iH u32 status to)) (.lf (oD u32 status to))
def w6 status CZ to:=(UP status CZ to).m
def Zs1:bc:=mS 235 [] true [.one (.int .u32),.one (.int .u32),.one (.int .u32)] [] (λa r=>UP (ar a 0) (ar a 1) (ar a 2)) (λX=>.int .u32 X) (λX=>[])
theorem Z71:bm pG Zs1:=oS (.nil) Tryz.func235 Tryz.call235 [] [] 2
def NM(c:bq)(ou bad:Int):Tree bq:=
.lv (w6 c.C2.a0 1 8) λ(x0:Int)=>.lv (w6 x0 2 16) λ(x1:Int)=>.lf ({X:=c.X,Pc:=c.C2.a1,C2:={a0:=oD u32 (iH u32 x1 1) 2,a1:=c.C2.a1,a2:=c.Pc,a3:=wrap u32 ou,a4:=bad,a5:=c.C2.a5,a6:=c.C2.a6,a7:=c.C2.a7}})
def pU c ou bad:=(NM c ou bad).m
def Zr5:bc:=mS 187 [] true [.agg bq.sig,.one (.int .i64),.one (.int .u32)] [] (λa r=>NM (bq.of (aC a 0)) (ar a 1) (ar a 2)) (λX=>.agg (bq.cells X)) (λX=>[])
theorem Rq:bm pG Zr5:=oS (.cons Z71 (.nil)) Tryz.func187 Tryz.call187 [] [] 2
def Qx3(access:Int):Tree (Int×Bool):=
.br (access==1) (.lf (4,true)) (.br (access==2) (.lf (5,true)) (.br (access==3) (.lf (6,true)) (.lf (5,false))))
def Qvm access:=(Qx3 access).m
def Zd6:bc:=mS 270 [] true [.one (.int .i64)] [] (λa r=>Qx3 (ar a 0)) (λX=>.dv [.int .i64 (X.1),.bool (X.2)]) (λX=>[])
theorem Z98:bm pG Zd6:=oS (.nil) Tryz.func270 Tryz.call270 [] [] 2
def Z1d(c:bq):Tree Bool:=
.lf (ba u32 c.C2.a0 (1:Int) !=(0:Int))
def Iu c:=(Z1d c).m
def Zhj:bc:=mS 191 [] true [.agg bq.sig] [] (λa r=>Z1d (bq.of (aC a 0))) (λX=>.bool X) (λX=>[])
theorem Qxp:bm pG Zhj:=oS (.nil) Tryz.func191 Tryz.call191 [] [] 2
def Qq4(access:Int):Tree (Int×Bool):=
.br (access==1) (.lf (4,true)) (.br (access==2) (.lf (5,true)) (.br (access==3) (.lf (6,true)) (.lf (5,false))))
def Qmg access:=(Qq4 access).m
def Z2v:bc:=mS 289 [] true [.one (.int .i64)] [] (λa r=>Qq4 (ar a 0)) (λX=>.dv [.int .i64 (X.1),.bool (X.2)]) (λX=>[])
theorem Z03:bm pG Z2v:=oS (.nil) Tryz.func289 Tryz.call289 [] [] 2
def ZU(m:List Int)(frame:Int):Tree Bool:=
.lv (jL m) λ(x0:Int)=>.lf (decide (wrap u64 frame<wrap u64 x0))
def NI m frame:=(ZU m frame).m
def Z5q:bc:=mS 290 [] true [.one (.ints .u32),.one (.int .u32)] [] (λa r=>ZU (dh .u32 a 0) (ar a 1)) (λX=>.bool X) (λX=>[])
theorem Z33:bm pG Z5q:=oS (.cons Q2 (.nil)) Tryz.func290 Tryz.call290 [] [] 2
def KP(m:List Int)(addr size:Int):Tree (Int×Bool):=
.an (Qew m addr size) (.lv (WZ m addr size) λ(x0:Bool)=>.br (!x0) (.lf (0,false)) (.cn (bX 1 1&&bN 0 1&&decide (0<=wrap u32 (eF addr 4)/\wrap u32 (eF addr 4)<(m.length:Int))) (let E1:=dA (wrap u32 (eF addr 4));.br (size==1) (let E2:=wrap i64 (wrap i64 (cZ addr 4)*8);.an (Mc (m.getD E1 0) E2 8) (.lv (tj (m.getD E1 0) E2 8) λ(x1:Int)=>.lf (x1,true))) (.lf (m.getD E1 0,true)))))
def BN m addr size:=(KP m addr size).m
abbrev Jo m addr size:=(KP m addr size).p
def Zea:bc:=mT 237 [] true [.one (.ints .u32),.one (.int .u32),.one (.int .i64)] [] (λa r=>KP (dh .u32 a 0) (ar a 1) (ar a 2)) (λX=>.dv [.int .u32 (X.1),.bool (X.2)]) (λX=>[])
theorem Rr:bm pG Zea:=oT (.cons Qq (.cons Qoh (.nil))) Tryz.func237 Tryz.call237 [] [] 2
def Qpm(AY access:Int):Tree Bool:=
.br (ba u32 AY (1:Int)==(0:Int)) (.lf false) (.br (access==3) (.lf (ba u32 AY (2:Int) !=(0:Int))) (.br (access==1) (.lf (ba u32 AY (4:Int) !=(0:Int))) (.lf true)))
def SU AY access:=(Qpm AY access).m
def Z2h:bc:=mS 291 [] true [.one (.int .u32),.one (.int .i64)] [] (λa r=>Qpm (ar a 0) (ar a 1)) (λX=>.bool X) (λX=>[])
theorem Qym:bm pG Z2h:=oS (.nil) Tryz.func291 Tryz.call291 [] [] 2
def QM(AY:Int):Tree Int:=
.an (Mc AY 8 8) (.lv (tj AY 8 8) λ(x0:Int)=>.lf x0)
def W6 AY:=(QM AY).m
abbrev Qe1 AY:=(QM AY).p
def Z2w:bc:=mT 292 [] true [.one (.int .u32)] [] (λa r=>QM (ar a 0)) (λX=>.int .u32 X) (λX=>[])
theorem Qz6:bm pG Z2w:=oT (.cons Qoh (.nil)) Tryz.func292 Tryz.call292 [] [] 2
def KT(m:List Int)(root va access:Int):Tree rj:=
.lv (Qmg access) λ(x0:Int×Bool)=>let E1:=({Addr:=0,G1:=0,G0:=x0.1}:rj);.br (!x0.2) (.lf (E1)) (.br (decide (va>=4096)) (.lf (E1)) (.lv (NI m root) λ(x1:Bool)=>.br (!x1) (.lf (E1)) (let E2:=wrap u32 (root*128)+wrap u32 (4*wrap u32 (eF va 128));.an (Jo m (wrap u32 E2) 4) (.lv (BN m (wrap u32 E2) 4) λ(x2:Int×Bool)=>.br (!x2.2) (.lf (E1)) (.lv (SU x2.1 access) λ(x3:Bool)=>.br (!x3) (.lf (E1)) (.an (Qe1 x2.1) (.lv (W6 x2.1) λ(x4:Int)=>.lv (NI m x4) λ(x5:Bool)=>.br (!x5) (.lf (E1)) (.an (Qe1 x2.1) (.lv (W6 x2.1) λ(x6:Int)=>.lf ({Addr:=wrap u32 (wrap u32 (x6*128)+cZ va 128),G1:=wrap u32 E2,G0:=0}))))))))))
def SS m root va access:=(KT m root va access).m
abbrev Qkl m root va access:=(KT m root va access).p
def Zey:bc:=mT 271 [] true [.one (.ints .u32),.one (.int .u32),.one (.int .u32),.one (.int .i64)] [] (λa r=>KT (dh .u32 a 0) (ar a 1) (ar a 2) (ar a 3)) (λX=>.agg (rj.cells X)) (λX=>[])
theorem Zaa:bm pG Zey:=oT (.cons Z03 (.cons Z33 (.cons Rr (.cons Qym (.cons Qz6 (.nil)))))) Tryz.func271 Tryz.call271 [] [] 2
def KV(m:List Int)(entry access:Int):Tree (List Int):=
.an (Jo m entry 4) (.lv (BN m entry 4) λ(x0:Int×Bool)=>.br (!x0.2) (.an (nH m) (.lv (ko m) λ(x1:List Int)=>.lf x1)) (.br (access==3) (.an (Qc4 m entry 4 (iH u32 (iH u32 x0.1 8) 16)) (.lv (KQ m entry 4 (iH u32 (iH u32 x0.1 8) 16)) λ(x2:List Int×Bool)=>.lf x2.1)) (.an (Qc4 m entry 4 (iH u32 x0.1 8)) (.lv (KQ m entry 4 (iH u32 x0.1 8)) λ(x3:List Int×Bool)=>.lf x3.1))))
def NK m entry access:=(KV m entry access).m
abbrev Qhq m entry access:=(KV m entry access).p
def Z96:bc:=mT 272 [] true [.one (.ints .u32),.one (.int .u32),.one (.int .i64)] [] (λa r=>KV (dh .u32 a 0) (ar a 1) (ar a 2)) (λX=>.all 0) (λX=>[⟨false,25,1,.ints .u32 X⟩])
theorem Z7a:bm pG Z96:=oT (.cons Rr (.cons JD (.cons Qs5 (.nil)))) Tryz.func272 Tryz.call272 [.row 25 1 (.ints .u32)] [] 2
def K1(c:bq)(m:List Int)(va size access:Int):Tree (Int×(List Int)×Int):=
.lv (Qvm access) λ(x0:Int×Bool)=>let T3:Tree ((Int×(List Int)×Int)):=.an (nH m) (.lv (ko m) λ(x1:List Int)=>.lf (0,x1,5));.br (!x0.2) T3 (let T1:Tree ((Int×(List Int)×Int)):=.cn (decide (wrap u32 size≠0)) (.br (cZ va (wrap u32 size) !=0) (.an (nH m) (.lv (ko m) λ(x3:List Int)=>.lf (0,x3,3))) (.lv (Iu c) λ(x4:Bool)=>let T2:Tree ((Int×(List Int)×Int)):=.an (Jo m va size) (.lv (BN m va size) λ(x8:Int×Bool)=>.br (!x8.2) (.an (nH m) (.lv (ko m) λ(x9:List Int)=>.lf (0,x9,x0.1))) (.an (nH m) (.lv (ko m) λ(kZ:List Int)=>.lf (va,kZ,0))));.br (!x4) (.br (ba u32 c.C2.a0 (4:Int) !=(0:Int)) (.an (Qkl m c.C2.a6 va access) (.lv (SS m c.C2.a6 va access) λ(x5:rj)=>.br (x5.G0 !=0) (.an (nH m) (.lv (ko m) λ(x6:List Int)=>.lf (0,x6,x5.G0))) (.an (Qhq m x5.G1 access) (.lv (NK m x5.G1 access) λ(x7:List Int)=>.lf (x5.Addr,x7,0))))) T2) T2));.br (size !=1) (.br (size !=4) T3 T1) T1)
def rz c m va size access:=(K1 c m va size access).m
abbrev Qej c m va size access:=(K1 c m va size access).p
def Zfi:bc:=mT 236 [] true [.agg bq.sig,.one (.ints .u32),.one (.int .u32),.one (.int .i64),.one (.int .i64)] [] (λa r=>K1 (bq.of (aC a 0)) (dh .u32 a 1) (ar a 2) (ar a 3) (ar a 4)) (λX=>.dv [.int .u32 (X.1),.all 0,.int .i64 (X.2.2)]) (λX=>[⟨false,25,1,.ints .u32 (X.2.1)⟩])
theorem Qmf:bm pG Zfi:=oT (.cons Z98 (.cons JD (.cons Qxp (.cons Zaa (.cons Z7a (.cons Rr (.nil))))))) Tryz.func236 Tryz.call236 [.row 25 1 (.ints .u32)] [] 2
def QN(c:bq)(m:List Int):Tree (Int×(List Int)×Int):=
.an (Qej c m c.Pc 4 1) (.lv (rz c m c.Pc 4 1) λ(x0:Int×List Int×Int)=>.br (x0.2.2 !=0) (.lf (0,x0.2.1,x0.2.2)) (.an (Jo x0.2.1 x0.1 4) (.lv (BN x0.2.1 x0.1 4) λ(x1:Int×Bool)=>.lf (x1.1,x0.2.1,0))))
def S2 c m:=(QN c m).m
abbrev Qwx c m:=(QN c m).p
def Zme:bc:=mT 188 [] true [.agg bq.sig,.one (.ints .u32)] [] (λa r=>QN (bq.of (aC a 0)) (dh .u32 a 1)) (λX=>.dv [.int .u32 (X.1),.all 0,.int .i64 (X.2.2)]) (λX=>[⟨false,25,1,.ints .u32 (X.2.1)⟩])
theorem Zk0:bm pG Zme:=oT (.cons Qmf (.cons Rr (.nil))) Tryz.func188 Tryz.call188 [.row 25 1 (.ints .u32)] [] 2
def Qq2(op:Int):Tree Bool:=
.br (op==57) (.lf true) (.br (op==58) (.lf true) (.br (op==59) (.lf true) (.br (op==60) (.lf true) (.br (op==61) (.lf true) (.br (op==62) (.lf true) (.br (op==63) (.lf true) (.br (op==64) (.lf true) (.lf false))))))))
def NB op:=(Qq2 op).m
def Z3i:bc:=mS 190 [] true [.one (.int .i64)] [] (λa r=>Qq2 (ar a 0)) (λX=>.bool X) (λX=>[])
theorem Qz8:bm pG Z3i:=oS (.nil) Tryz.func190 Tryz.call190 [] [] 2
def ZV(op:Int):Tree Int:=
.br (op==32) (.lf 4) (.br (op==35) (.lf 4) (.lf 1))
def Jp op:=(ZV op).m
def Zlk:bc:=mS 242 [] true [.one (.int .i64)] [] (λa r=>ZV (ar a 0)) (λX=>.int .i64 X) (λX=>[])
theorem Z1g:bm pG Zlk:=oS (.nil) Tryz.func242 Tryz.call242 [] [] 2
def Ek(c:bq)(register v:Int):Tree bq:=
.br (register !=0) (.cn (bN 0 1&&decide (0<=register/\register<(↑16:Int))) (.lf ({X:=iv.of 0 (dB (iv.l c.X) register.toNat v),Pc:=c.Pc,C2:=c.C2}))) (.lf c)
def ue c register v:=(Ek c register v).m
abbrev Hn c register v:=(Ek c register v).p
def yC:bc:=mT 243 [] true [.agg bq.sig,.one (.int .i64),.one (.int .u32)] [] (λa r=>Ek (bq.of (aC a 0)) (ar a 1) (ar a 2)) (λX=>.agg (bq.cells X)) (λX=>[])
theorem Zce:bm pG yC:=oT (.nil) Tryz.func243 Tryz.call243 [] [] 2
def Ii(c:bq)(m:List Int)(i:gv):Tree (bq×(List Int)):=
.cn (bN 0 1&&decide (0<=i.B/\i.B<(↑16:Int))) (.lv (Jp i.Op) λ(x0:Int)=>let E1:=wrap u32 (aV (iv.l c.X) i.B.toNat 0+wrap u32 i.bz);.an (Qej c m E1 x0 2) (.lv (rz c m E1 x0 2) λ(x1:Int×List Int×Int)=>.br (x1.2.2 !=0) (.lv (pU c x1.2.2 E1) λ(x2:bq)=>.lf (x2,x1.2.1)) (.lv (Jp i.Op) λ(x3:Int)=>.an (Jo x1.2.1 x1.1 x3) (.lv (BN x1.2.1 x1.1 x3) λ(x4:Int×Bool)=>.br (i.Op==33) (.an (Qcm x4.1 8) (.lv (Dr x4.1 8) λ(x5:Int)=>.an (Hn c i.A x5) (.lv (ue c i.A x5) λ(x6:bq)=>.lf ({X:=x6.X,Pc:=wrap u32 (x6.Pc+4),C2:=x6.C2},x1.2.1)))) (.an (Hn c i.A x4.1) (.lv (ue c i.A x4.1) λ(x7:bq)=>.lf ({X:=x7.X,Pc:=wrap u32 (x7.Pc+4),C2:=x7.C2},x1.2.1)))))))
def tk c m i:=(Ii c m i).m
abbrev Z1r c m i:=(Ii c m i).p
def Zt1:bc:=mT 192 [] true [.agg bq.sig,.one (.ints .u32),.agg gv.sig] [] (λa r=>Ii (bq.of (aC a 0)) (dh .u32 a 1) (gv.of (aC a 2))) (λX=>.dv [.agg (bq.cells (X.1)),.all 0]) (λX=>[⟨false,25,1,.ints .u32 (X.2)⟩])
theorem Zln:bm pG Zt1:=oT (.cons Qmf (.cons Z1g (.cons Rq (.cons Rr (.cons Qm4 (.cons Zce (.nil))))))) Tryz.func192 Tryz.call192 [.row 25 1 (.ints .u32)] [] 2
def Ik(c:bq)(m:List Int)(i:gv):Tree (bq×(List Int)):=
.cn (bN 0 1&&decide (0<=i.B/\i.B<(↑16:Int))) (.lv (Jp i.Op) λ(x0:Int)=>let E1:=wrap u32 (aV (iv.l c.X) i.B.toNat 0+wrap u32 i.bz);.an (Qej c m E1 x0 3) (.lv (rz c m E1 x0 3) λ(x1:Int×List Int×Int)=>.br (x1.2.2 !=0) (.lv (pU c x1.2.2 E1) λ(x2:bq)=>.lf (x2,x1.2.1)) (.lv (Jp i.Op) λ(x3:Int)=>.cn (bN 0 1&&decide (0<=i.A/\i.A<(↑16:Int))) (let E2:=aV (iv.l c.X) i.A.toNat 0;.an (Qc4 x1.2.1 x1.1 x3 E2) (.lv (KQ x1.2.1 x1.1 x3 E2) λ(x4:List Int×Bool)=>.lf ({X:=c.X,Pc:=wrap u32 (c.Pc+4),C2:=c.C2},x4.1))))))
def BQ c m i:=(Ik c m i).m
abbrev Qwe c m i:=(Ik c m i).p
def Zoc:bc:=mT 193 [] true [.agg bq.sig,.one (.ints .u32),.agg gv.sig] [] (λa r=>Ik (bq.of (aC a 0)) (dh .u32 a 1) (gv.of (aC a 2))) (λX=>.dv [.agg (bq.cells (X.1)),.all 0]) (λX=>[⟨false,25,1,.ints .u32 (X.2)⟩])
theorem Zl7:bm pG Zoc:=oT (.cons Qmf (.cons Z1g (.cons Rq (.cons Qs5 (.nil))))) Tryz.func193 Tryz.call193 [.row 25 1 (.ints .u32)] [] 2
def Z4p(op a b:Int):Tree Bool:=
.br (op==40) (.lf (a==b)) (.br (op==41) (.lf (a !=b)) (.br (op==42) (.lf (decide (wrap i32 a<wrap i32 b))) (.br (op==43) (.lf (decide (wrap i32 a>=wrap i32 b))) (.br (op==44) (.lf (decide (a<b))) (.lf (decide (a>=b)))))))
def Zjt op a b:=(Z4p op a b).m
def Znw:bc:=mS 245 [] true [.one (.int .i64),.one (.int .u32),.one (.int .u32)] [] (λa r=>Z4p (ar a 0) (ar a 1) (ar a 2)) (λX=>.bool X) (λX=>[])
theorem Zk2:bm pG Znw:=oS (.nil) Tryz.func245 Tryz.call245 [] [] 2
def NO(c:bq):Tree bq:=
.lv (w6 c.C2.a0 8 1) λ(x0:Int)=>.lv (w6 x0 16 2) λ(x1:Int)=>.lf ({X:=c.X,Pc:=c.C2.a2,C2:={a0:=x1,a1:=c.C2.a1,a2:=c.C2.a2,a3:=c.C2.a3,a4:=c.C2.a4,a5:=c.C2.a5,a6:=c.C2.a6,a7:=c.C2.a7}})
def KD c:=(NO c).m
def Zkd:bc:=mS 246 [] true [.agg bq.sig] [] (λa r=>NO (bq.of (aC a 0))) (λX=>.agg (bq.cells X)) (λX=>[])
theorem Zfu:bm pG Zkd:=oS (.cons Z71 (.nil)) Tryz.func246 Tryz.call246 [] [] 2
def Ih(c:bq)(jj v:Int):Tree bq:=
let E4:=bN 0 1&&decide (0<=jj/\jj<(↑8:Int));let T2:Tree (bq):=.cn E4 (.lf ({X:=c.X,Pc:=c.Pc,C2:=A8.of 0 (dB (A8.l c.C2) jj.toNat (ba u32 v 31))}));.br (jj==0) T2 (.br (jj==7) T2 (.br (jj==6) (.cn E4 (.lf ({X:=c.X,Pc:=c.Pc,C2:=A8.of 0 (dB (A8.l c.C2) jj.toNat (ba u32 v 255))}))) (let T3:Tree (bq):=.cn E4 (.lf ({X:=c.X,Pc:=c.Pc,C2:=A8.of 0 (dB (A8.l c.C2) jj.toNat (oD u32 v 3))}));.br (jj==1) T3 (.br (jj==2) T3 (let T1:Tree (bq):=.cn E4 (.lf ({X:=c.X,Pc:=c.Pc,C2:=A8.of 0 (dB (A8.l c.C2) jj.toNat v)}));.br (jj==3) T1 (.br (jj==4) T1 (.br (jj==5) T1 (.lf c))))))))
def Zjf c jj v:=(Ih c jj v).m
abbrev Qxj c jj v:=(Ih c jj v).p
def Zn3:bc:=mT 247 [] true [.agg bq.sig,.one (.int .i64),.one (.int .u32)] [] (λa r=>Ih (bq.of (aC a 0)) (ar a 1) (ar a 2)) (λX=>.agg (bq.cells X)) (λX=>[])
theorem Zkb:bm pG Zn3:=oT (.nil) Tryz.func247 Tryz.call247 [] [] 2
def El(c:bq)(i:gv):Tree (bq×lj):=
.cn (bN 0 1&&decide (0<=i.A/\i.A<(↑16:Int))) (.cn (bN 0 1&&decide (0<=i.B/\i.B<(↑16:Int))) (.br (i.Op==24) (.an (Hn c i.A (ep u32 (wrap u32 i.bz) 16)) (.lv (ue c i.A (ep u32 (wrap u32 i.bz) 16)) λ(x0:bq)=>.lf ({X:=x0.X,Pc:=wrap u32 (c.Pc+4),C2:=x0.C2},{C3:=0,D8:=0,F8:=0,Value:=0}))) (let E2:=({X:=c.X,Pc:=wrap u32 (c.Pc+4),C2:=c.C2}:bq);let E3:=aV (iv.l c.X) i.B.toNat 0;let E4:=aV (iv.l c.X) i.A.toNat 0;let T1:Tree ((bq×lj)):=.lv (Zjt i.Op E4 E3) λ(x1:Bool)=>.br x1 (.lf ({X:=c.X,Pc:=wrap u32 (c.Pc+wrap u32 (4*wrap u32 i.bz)),C2:=c.C2},{C3:=0,D8:=0,F8:=0,Value:=0})) (.lf (E2,{C3:=0,D8:=0,F8:=0,Value:=0}));.br (i.Op==40) T1 (.br (i.Op==41) T1 (.br (i.Op==42) T1 (.br (i.Op==43) T1 (.br (i.Op==44) T1 (.br (i.Op==45) T1 (.br (i.Op==48) (.an (Hn c i.A (wrap u32 (c.Pc+4))) (.lv (ue c i.A (wrap u32 (c.Pc+4))) λ(x7:bq)=>.lf ({X:=x7.X,Pc:=wrap u32 (x7.Pc+wrap u32 (4*wrap u32 i.bz)),C2:=x7.C2},{C3:=0,D8:=0,F8:=0,Value:=0}))) (.br (i.Op==49) (.an (Hn c i.A (wrap u32 (c.Pc+4))) (.lv (ue c i.A (wrap u32 (c.Pc+4))) λ(x8:bq)=>.lf ({X:=x8.X,Pc:=wrap u32 (aV (iv.l c.X) i.B.toNat 0+wrap u32 i.bz),C2:=x8.C2},{C3:=0,D8:=0,F8:=0,Value:=0}))) (.br (i.Op==56) (.lv (pU c 7 0) λ(x9:bq)=>.lf (x9,{C3:=0,D8:=0,F8:=0,Value:=0})) (.br (i.Op==57) (.lv (KD c) λ(kZ:bq)=>.lf (kZ,{C3:=0,D8:=0,F8:=0,Value:=0})) (.br (i.Op==58) (.cn (bN 0 1&&decide (0<=i.bz/\i.bz<(↑8:Int))) (let E5:=aV (A8.l c.C2) i.bz.toNat 0;.an (Hn c i.A E5) (.lv (ue c i.A E5) λ(mz:bq)=>.lf ({X:=mz.X,Pc:=wrap u32 (c.Pc+4),C2:=mz.C2},{C3:=0,D8:=0,F8:=0,Value:=0})))) (.br (i.Op==59) (.an (Qxj c (wrap i64 i.bz) E4) (.lv (Zjf c (wrap i64 i.bz) E4) λ(pL:bq)=>.lf ({X:=pL.X,Pc:=wrap u32 (c.Pc+4),C2:=pL.C2},{C3:=0,D8:=0,F8:=0,Value:=0}))) (.br (i.Op==60) (.lf (E2,{C3:=1,D8:=wrap i64 i.bz,F8:=i.A,Value:=0})) (.br (i.Op==61) (.lf (E2,{C3:=2,D8:=wrap i64 i.bz,F8:=0,Value:=aV (iv.l c.X) i.A.toNat 0})) (.br (i.Op==62) (.lf (E2,{C3:=3,D8:=0,F8:=0,Value:=0})) (.br (i.Op==63) (.lf (E2,{C3:=5,D8:=0,F8:=0,Value:=0})) (.br (i.Op==64) (.lf (E2,{C3:=4,D8:=0,F8:=0,Value:=0})) (.cn (bN 0 1&&decide (0<=i.C/\i.C<(↑16:Int))) (.br (decide (i.Op>=16)) (.an (Qvt i.Op E3 (wrap u32 i.bz)) (.lv (ny i.Op E3 (wrap u32 i.bz)) λ(Aq:Int×Bool)=>.an (Hn c i.A Aq.1) (.lv (ue c i.A Aq.1) λ(Fu:bq)=>.lf ({X:=Fu.X,Pc:=wrap u32 (c.Pc+4),C2:=Fu.C2},{C3:=0,D8:=0,F8:=0,Value:=0})))) (let E6:=aV (iv.l c.X) i.C.toNat 0;.an (Qvt i.Op E3 E6) (.lv (ny i.Op E3 E6) λ(U7:Int×Bool)=>.an (Hn c i.A U7.1) (.lv (ue c i.A U7.1) λ(Fv:bq)=>.lf ({X:=Fv.X,Pc:=wrap u32 (c.Pc+4),C2:=Fv.C2},{C3:=0,D8:=0,F8:=0,Value:=0})))))))))))))))))))))))))
def Xa c i:=(El c i).m
abbrev Qqx c i:=(El c i).p
def Ze7:bc:=mT 194 [] true [.agg bq.sig,.agg gv.sig] [] (λa r=>El (bq.of (aC a 0)) (gv.of (aC a 1))) (λX=>.dv [.agg (bq.cells (X.1)),.agg (lj.cells (X.2))]) (λX=>[])
theorem Z9f:bm pG Ze7:=oT (.cons Zce (.cons Zk2 (.cons Rq (.cons Zfu (.cons Zkb (.cons Zrl (.nil))))))) Tryz.func194 Tryz.call194 [] [] 2
def Em(c:bq)(m:List Int):Tree (bq×(List Int)×lj):=
.an (Qwx c m) (.lv (S2 c m) λ(x0:Int×List Int×Int)=>.br (x0.2.2 !=0) (.lv (pU c x0.2.2 c.Pc) λ(x1:bq)=>.lf (x1,x0.2.1,{C3:=0,D8:=0,F8:=0,Value:=0})) (.an (Que x0.1) (.lv (NF x0.1) λ(x2:gv×Bool)=>.br (!x2.2) (.lv (pU c 1 x0.1) λ(x3:bq)=>.lf (x3,x0.2.1,{C3:=0,D8:=0,F8:=0,Value:=0})) (.lv (NB x2.1.Op) λ(x4:Bool)=>let T1:Tree ((bq×(List Int)×lj)):=let T2:Tree ((bq×(List Int)×lj)):=.an (Z1r c x0.2.1 x2.1) (.lv (tk c x0.2.1 x2.1) λ(x7:bq×List Int)=>.lf (x7.1,x7.2,{C3:=0,D8:=0,F8:=0,Value:=0}));.br (x2.1.Op==32) T2 (.br (x2.1.Op==33) T2 (.br (x2.1.Op==34) T2 (let T3:Tree ((bq×(List Int)×lj)):=.an (Qwe c x0.2.1 x2.1) (.lv (BQ c x0.2.1 x2.1) λ(kZ:bq×List Int)=>.lf (kZ.1,kZ.2,{C3:=0,D8:=0,F8:=0,Value:=0}));.br (x2.1.Op==35) T3 (.br (x2.1.Op==36) T3 (.an (Qqx c x2.1) (.lv (Xa c x2.1) λ(pL:bq×lj)=>.lf (pL.1,x0.2.1,pL.2)))))));.br x4 (.lv (Iu c) λ(x5:Bool)=>.br (!x5) (.lv (pU c 2 x0.1) λ(x6:bq)=>.lf (x6,x0.2.1,{C3:=0,D8:=0,F8:=0,Value:=0})) T1) T1))))
def BR c m:=(Em c m).m
abbrev Z1c c m:=(Em c m).p
def Zsg:bc:=mT 137 [] true [.agg bq.sig,.one (.ints .u32)] [] (λa r=>Em (bq.of (aC a 0)) (dh .u32 a 1)) (λX=>.dv [.agg (bq.cells (X.1)),.all 0,.agg (lj.cells (X.2.2))]) (λX=>[⟨false,25,1,.ints .u32 (X.2.1)⟩])
theorem Zls:bm pG Zsg:=oT (.cons Zk0 (.cons Rq (.cons Zed (.cons Qz8 (.cons Qxp (.cons Zln (.cons Zl7 (.cons Z9f (.nil))))))))) Tryz.func137 Tryz.call137 [.row 25 1 (.ints .u32)] [] 2
end
noncomputable section
def JE:List UInt8:=[(0:UInt8),1,2,2,3,3,3,3,4,4,4,4,4,4,4,4,5,5,5,5,5,5,5,5,5,5,5,5,5,5,5,5,6,6,6,6,6,6,6,6,6,6,6,6,6,6,6,6,6,6,6,6,6,6,6,6,6,6,6,6,6,6,6,6]
def Rs:List UInt8:=[(7:UInt8),7,7,7,7,7,7,7,7,7,7,7,7,7,7,7,7,7,7,7,7,7,7,7,7,7,7,7,7,7,7,7,7,7,7,7,7,7,7,7,7,7,7,7,7,7,7,7,7,7,7,7,7,7,7,7,7,7,7,7,7,7,7,7]
def DL:List UInt8:=[(8:UInt8),8,8,8,8,8,8,8,8,8,8,8,8,8,8,8,8,8,8,8,8,8,8,8,8,8,8,8,8,8,8,8,8,8,8,8,8,8,8,8,8,8,8,8,8,8,8,8,8,8,8,8,8,8,8,8,8,8,8,8,8,8,8,8]
def U8:List UInt8:=[(1:UInt8),2,2,3,3,3,3,4,4,4,4,4,4,4,4,5,5,5,5,5,5,5,5,5,5,5,5,5,5,5,5,6,6,6,6,6,6,6,6,6,6,6,6,6,6,6,6,6,6,6,6,6,6,6,6,6,6,6,6,6,6,6,6]
def JF:List UInt8:=[(0:UInt8),1,1,2,1,2,2,3,1,2,2,3,2,3,3,4,1,2,2,3,2,3,3,4,2,3,3,4,3,4,4,5,1,2,2,3,2,3,3,4,2,3,3,4,3,4,4,5,2,3,3,4,3,4,4,5,3,4,4,5,4,5,5,6]
def DM:List UInt8:=[(1:UInt8),2,2,3,2,3,3,4,2,3,3,4,3,4,4,5,2,3,3,4,3,4,4,5,3,4,4,5,4,5,5,6,2,3,3,4,3,4,4,5,3,4,4,5,4,5,5,6,3,4,4,5,4,5,5,6,4,5,5,6,5,6,6,7]
def Rt:List UInt8:=[(2:UInt8),3,3,4,3,4,4,5,3,4,4,5,4,5,5,6,3,4,4,5,4,5,5,6,4,5,5,6,5,6,6,7,3,4,4,5,4,5,5,6,4,5,5,6,5,6,6,7,4,5,5,6,5,6,6,7,5,6,6,7,6,7,7,8]
def U9:List UInt8:=[(1:UInt8),1,2,1,2,2,3,1,2,2,3,2,3,3,4,1,2,2,3,2,3,3,4,2,3,3,4,3,4,4,5,1,2,2,3,2,3,3,4,2,3,3,4,3,4,4,5,2,3,3,4,3,4,4,5,3,4,4,5,4,5,5,6]
def Qy2(c:iK):Tree Bool:=
.lf (decide ((c.D9.length:Int)<=(16:Int)))
def AD c:=(Qy2 c).m
def Zd4:bc:=mS 151 [] true [.agg iK.sig] [] (λa r=>Qy2 (iK.of (aC a 0))) (λX=>.bool X) (λX=>[])
theorem Z9t:bm pG Zd4:=oS (.nil) Tryz.func151 Tryz.call151 [] [] 2
def SF(t:iT):Tree Bool:=
.br t.F0 (.br (!t.E0) (.lf (t.D3 !=0)) (.lf false)) (.br t.E0 (.lf true) (.lf (t.D3==0)))
def AE t:=(SF t).m
def Znh:bc:=mS 152 [] true [.agg iT.sig] [] (λa r=>SF (iT.of (aC a 0))) (λX=>.bool X) (λX=>[])
theorem Zk9:bm pG Znh:=oS (.nil) Tryz.func152 Tryz.call152 [] [] 2
def Np(d0:fw):Tree Bool:=
.br (d0.F6==1) (.lf (decide (d0.C7=[]))) (.br (d0.F6==2) (.lf ((d0.C7.length:Int)==(128:Int))) (.lf false))
def SD d0:=(Np d0).m
def Qyt:bc:=mS 208 [] true [.agg fw.sig] [] (λa r=>Np (fw.of (aC a 0))) (λX=>.bool X) (λX=>[])
theorem Qx2:bm pG Qyt:=oS (.nil) Tryz.func208 Tryz.call208 [] [] 2
def Ei(d0:fw)(bj:Int):Tree Bool:=
.br (decide (d0.ae>64)) (.lf false) (let T1:Tree (Bool):=.br (d0.F6==0) (.br (d0.C5==0) (.br (d0.C6==0) (.lf (decide (d0.C7=[]))) (.lf false)) (.lf false)) (.lf false);.br (d0.C8==0) T1 (.br (d0.C8==2) T1 (.br (d0.C8==3) T1 (.br (d0.C8==1) (.lv (SD d0) λ(x0:Bool)=>.br x0 (.br (decide (d0.C5<d0.ae)) (.lf (decide (wrap i64 d0.C6<bj))) (.lf false)) (.lf false)) (.lf false)))))
def pT d0 bj:=(Ei d0 bj).m
def Zsy:bc:=mS 153 [] true [.agg fw.sig,.one (.int .i64)] [] (λa r=>Ei (fw.of (aC a 0)) (ar a 1)) (λX=>.bool X) (λX=>[])
theorem Zn5:bm pG Zsy:=oS (.cons Qx2 (.nil)) Tryz.func153 Tryz.call153 [] [] 2
def Nq(n:gw)(bj:Int):Tree Bool:=
let T1:Tree (Bool):=let T2:Tree (Bool):=.br n.C4 (.br (decide (n.F9>=1)) (.lf (decide (n.F9<=128))) (.lf false)) (.lf (n.F9==0));.br n.D1 (.br (decide (wrap i64 n.D4>=bj)) (.lf false) T2) (.br (n.D4 !=0) (.lf false) T2);.br n.D1 (.br n.C4 (.lf false) T1) T1
def u5 n bj:=(Nq n bj).m
def vC:bc:=mS 154 [] true [.agg gw.sig,.one (.int .i64)] [] (λa r=>Nq (gw.of (aC a 0)) (ar a 1)) (λX=>.bool X) (λX=>[])
theorem Zt:bm pG vC:=oS (.nil) Tryz.func154 Tryz.call154 [] [] 2
def Dn(x:Int):Tree Int:=
let E1:=(↑(dF (cP (cP JE Rs) (cP DL DL))):Int);.br (decide (x>=65536)) (.br (decide (bb u32 x (16:Int)>=(256:Int))) (.cn (decide (0<=wrap u8 (bb u32 (bb u32 x 16) 8)/\wrap u8 (bb u32 (bb u32 x 16) 8)<E1)) (.lf (wrap i64 (wrap i64 ((16:Int)+(8:Int))+wrap i64 (↑(hY (aV ((0:UInt8)::(U8++Rs++(DL++DL))) (dA (wrap u8 (bb u32 (bb u32 x 16) 8))) (0:UInt8))):Int))))) (.cn (decide (0<=wrap u8 (bb u32 x 16)/\wrap u8 (bb u32 x 16)<E1)) (.lf (wrap i64 (16+wrap i64 (↑(hY (aV ((0:UInt8)::(U8++Rs++(DL++DL))) (dA (wrap u8 (bb u32 x 16))) (0:UInt8))):Int)))))) (.br (decide (x>=256)) (.cn (decide (0<=wrap u8 (bb u32 x 8)/\wrap u8 (bb u32 x 8)<E1)) (.lf (wrap i64 (wrap i64 ((0:Int)+(8:Int))+wrap i64 (↑(hY (aV ((0:UInt8)::(U8++Rs++(DL++DL))) (dA (wrap u8 (bb u32 x 8))) (0:UInt8))):Int))))) (.cn (decide (0<=wrap u8 x/\wrap u8 x<E1)) (.lf (wrap i64 (0+wrap i64 (↑(hY (aV ((0:UInt8)::(U8++Rs++(DL++DL))) (dA (wrap u8 x)) (0:UInt8))):Int))))))
def u6 x:=(Dn x).m
abbrev Qj6 x:=(Dn x).p
def Qyv:bc:=mT 209 [] true [.one (.int .u32)] [] (λa r=>Dn (ar a 0)) (λX=>.int .i64 X) (λX=>[])
theorem Qxo:bm pG Qyv:=oT (.nil) Tryz.func209 Tryz.call209 [] [] 2
def Ia(b:gl)(bj:Int):Tree Bool:=
.an (Qj6 b.D0) (.lv (u6 b.D0) λ(x0:Int)=>.lf (decide (x0<=if 0>bj then 0 else bj)))
def AF b bj:=(Ia b bj).m
abbrev Qka b bj:=(Ia b bj).p
def Zeo:bc:=mT 155 [] true [.agg gl.sig,.one (.int .i64)] [] (λa r=>Ia (gl.of (aC a 0)) (ar a 1)) (λX=>.bool X) (λX=>[])
theorem Z9z:bm pG Zeo:=oT (.cons Qxo (.nil)) Tryz.func155 Tryz.call155 [] [] 2
def Gh(m:bd):Tree Bool:=
.lv (jL m.Mem) λ(x0:Int)=>.lv (AD m.B2) λ(x1:Bool)=>.br x1 (.lv (AE m.B8) λ(x2:Bool)=>.br x2 (.lv (pT m.B5 x0) λ(x3:Bool)=>.br x3 (.lv (u5 m.D2 x0) λ(x4:Bool)=>.br x4 (.an (Qka m.A6 x0) (.lv (AF m.A6 x0) λ(x5:Bool)=>.lf x5)) (.lf false)) (.lf false)) (.lf false)) (.lf false)
def u0 m:=(Gh m).m
abbrev U2 m:=(Gh m).p
def Qu:bc:=mT 115 [] true [.agg bd.sig] [] (λa r=>Gh (bd.of (aC a 0))) (λX=>.bool X) (λX=>[])
theorem Qro:bm pG Qu:=oT (.cons Q2 (.cons Z9t (.cons Zk9 (.cons Zn5 (.cons Zt (.cons Z9z (.nil))))))) Tryz.func115 Tryz.call115 [] [] 2
def Jq(m:bd):Tree Bool:=
.lv (jL m.Mem) λ(x0:Int)=>.br (x0==0) (.lf false) (.br (m.B4.X.a0 !=0) (.lf false) (.br (decide (m.B4.C2.a0>31)) (.lf false) (.br (decide (m.B4.C2.a7>31)) (.lf false) (.br (decide (m.B4.C2.a6>255)) (.lf false) (.br (cZ m.B4.C2.a1 (4:Int) !=(0:Int)) (.lf false) (.br (decide (m.B7>1152921504606846976)) (.lf false) (.br m.B3 (.br m.B6 (.lf false) (.an (U2 m) (.lv (u0 m) λ(x1:Bool)=>.lf x1))) (.an (U2 m) (.lv (u0 m) λ(x2:Bool)=>.lf x2)))))))))
def AG m:=(Jq m).m
abbrev U1 m:=(Jq m).p
def Zeb:bc:=mT 68 [] true [.agg bd.sig] [] (λa r=>Jq (bd.of (aC a 0))) (λX=>.bool X) (λX=>[])
theorem Qul:bm pG Zeb:=oT (.cons Q2 (.cons Qro (.nil))) Tryz.func68 Tryz.call68 [] [] 2
def Qqv(t:iT):Tree Bool:=
.lf t.E0
def Xz t:=(Qqv t).m
def Z8f:bc:=mS 266 [] true [.agg iT.sig] [] (λa r=>Qqv (iT.of (aC a 0))) (λX=>.bool X) (λX=>[])
theorem Z2f:bm pG Z8f:=oS (.nil) Tryz.func266 Tryz.call266 [] [] 2
def Qnu(c:iK):Tree Bool:=
.lf (!decide (c.D9=[]))
def S7 c:=(Qnu c).m
def Qzd:bc:=mS 267 [] true [.agg iK.sig] [] (λa r=>Qnu (iK.of (aC a 0))) (λX=>.bool X) (λX=>[])
theorem Qwi:bm pG Qzd:=oS (.nil) Tryz.func267 Tryz.call267 [] [] 2
def WC(d0:fw):Tree Bool:=
.br (d0.C8==2) (.lf true) (.lf (d0.C8==3))
def Kw d0:=(WC d0).m
def Z8p:bc:=mS 251 [] true [.agg fw.sig] [] (λa r=>WC (fw.of (aC a 0))) (λX=>.bool X) (λX=>[])
theorem Qqy:bm pG Z8p:=oS (.nil) Tryz.func251 Tryz.call251 [] [] 2
def Qwb(n:gw):Tree Bool:=
.lf n.C4
def XA n:=(Qwb n).m
def Zg6:bc:=mS 268 [] true [.agg gw.sig] [] (λa r=>Qwb (gw.of (aC a 0))) (λX=>.bool X) (λX=>[])
theorem Z8q:bm pG Zg6:=oS (.nil) Tryz.func268 Tryz.call268 [] [] 2
def QP(x:Int):Tree Int:=
let E1:=(↑(dF (cP (cP JF DM) (cP DM Rt))):Int);.cn (decide (0<=bb u32 x 24/\bb u32 x 24<E1)) (.cn (decide (0<=ba u32 (bb u32 x 16) 255/\ba u32 (bb u32 x 16) 255<E1)) (.cn (decide (0<=ba u32 (bb u32 x 8) 255/\ba u32 (bb u32 x 8) 255<E1)) (.cn (decide (0<=ba u32 x 255/\ba u32 x 255<E1)) (.lf (wrap i64 (wrap u8 (wrap u8 (wrap u8 ((↑(hY (aV ((0:UInt8)::(U9++DM++(DM++Rt))) (dA (bb u32 x 24)) (0:UInt8))):Int)+(↑(hY (aV ((0:UInt8)::(U9++DM++(DM++Rt))) (dA (ba u32 (bb u32 x 16) 255)) (0:UInt8))):Int))+(↑(hY (aV ((0:UInt8)::(U9++DM++(DM++Rt))) (dA (ba u32 (bb u32 x 8) 255)) (0:UInt8))):Int))+(↑(hY (aV ((0:UInt8)::(U9++DM++(DM++Rt))) (dA (ba u32 x 255)) (0:UInt8))):Int))))))))
def Xs x:=(QP x).m
abbrev Qbm x:=(QP x).p
def Qot:bc:=mT 279 [] true [.one (.int .u32)] [] (λa r=>QP (ar a 0)) (λX=>.int .i64 X) (λX=>[])
theorem Qnb:bm pG Qot:=oT (.nil) Tryz.func279 Tryz.call279 [] [] 2
def QQ(b:gl):Tree Int:=
.an (Qbm b.D0) (.lv (Xs b.D0) λ(x0:Int)=>.lf x0)
def S9 b:=(QQ b).m
abbrev Qfb b:=(QQ b).p
def Z57:bc:=mT 249 [] true [.agg gl.sig] [] (λa r=>QQ (gl.of (aC a 0))) (λX=>.int .i64 X) (λX=>[])
theorem Qpr:bm pG Z57:=oT (.cons Qnb (.nil)) Tryz.func249 Tryz.call249 [] [] 2
def La(b:gl):Tree Bool:=
.an (Qfb b) (.lv (S9 b) λ(x0:Int)=>.lf (wrap u32 x0 !=b.A2))
def N0 b:=(La b).m
abbrev Qjp b:=(La b).p
def Qyl:bc:=mT 269 [] true [.agg gl.sig] [] (λa r=>La (gl.of (aC a 0))) (λX=>.bool X) (λX=>[])
theorem Qxi:bm pG Qyl:=oT (.cons Qpr (.nil)) Tryz.func269 Tryz.call269 [] [] 2
def Qk5(m:bd)(z:(Int)×(Int)):Nat:=(5-z.2).toNat
def Lh(m:bd):Tree Int:=
.lv (Xz m.B8) λ(x0:Bool)=>.lv (S7 m.B2) λ(x1:Bool)=>.lv (Kw m.B5) λ(x2:Bool)=>.lv (XA m.D2) λ(x3:Bool)=>.an (Qjp m.A6) (.lv (N0 m.A6) λ(x4:Bool)=>.lp inferInstance (Qk5 m (0,0)+1) ((rE (0:Int)/\(rE (x0:Bool)/\rE (x1:Bool)/\rE (x2:Bool)/\rE (x3:Bool)/\rE (x4:Bool)/\True)/\rE (0:Int)/\True)/\True) (0,0) λ(v0:Int×Int)=>.br (decide (v0.2<5)) (.cn (bX 1 1&&(bX 5 5&&decide (0<=v0.2/\v0.2<(↑5:Int)))) (.br (aV [x0,x1,x2,x3,x4] v0.2.toNat false) (.cn (decide (0<=v0.2)) (.nx ((rE ((iH u32 v0.1 (ep u32 1 v0.2)):Int)/\(rE (x0:Bool)/\rE (x1:Bool)/\rE (x2:Bool)/\rE (x3:Bool)/\rE (x4:Bool)/\True)/\rE ((wrap i64 (v0.2+1)):Int)/\True)/\True) (Sum.inl (iH u32 v0.1 (ep u32 1 v0.2),wrap i64 (v0.2+1))))) (.nx ((rE v0.1/\(rE (x0:Bool)/\rE (x1:Bool)/\rE (x2:Bool)/\rE (x3:Bool)/\rE (x4:Bool)/\True)/\rE ((wrap i64 (v0.2+1)):Int)/\True)/\True) (Sum.inl (v0.1,wrap i64 (v0.2+1)))))) (.lf (Sum.inr v0.1)))
def Te m:=(Lh m).m
abbrev Qnz m:=(Lh m).p
def Z3b:cg:={
 α:=(Int)×(Int)
 F:=λst a=>([(4,.int u32 a.1),(23,(lk st 23)),(24,.int i64 a.2)],[])
 a0:=λst=>((lk st 4).toInt,(lk st 24).toInt)
 jf:=λst=>[]++[]}
def Qyi:List (Nat×cg):=[(4,Z3b)]
def Z7s:bc:=mT 234 [] true [.agg bd.sig] [] (λa r=>Lh (bd.of (aC a 0))) (λX=>.int .u32 X) (λX=>[])
theorem Z2e:bm pG Z7s:=oT (.cons Z2f (.cons Qwi (.cons Qqy (.cons Z8q (.cons Qxi (.nil)))))) Tryz.func234 Tryz.call234 [] Qyi 3
def Lj(m:bd):Tree Int:=
.an (Qnz m) (.lv (Te m) λ(x0:Int)=>.lf (ba u32 x0 m.B4.C2.a7))
def Li m:=(Lj m).m
abbrev Qcd m:=(Lj m).p
def Z10:bc:=mT 186 [] true [.agg bd.sig] [] (λa r=>Lj (bd.of (aC a 0))) (λX=>.int .u32 X) (λX=>[])
theorem Qm5:bm pG Z10:=oT (.cons Z2e (.nil)) Tryz.func186 Tryz.call186 [] [] 2
def Ll(m:bd):Tree Bool:=
.br m.B3 (.an (Qcd m) (.lv (Li m) λ(x0:Int)=>.lf (x0==0))) (.lf false)
def SL m:=(Ll m).m
abbrev Qps m:=(Ll m).p
def Zai:bc:=mT 185 [] true [.agg bd.sig] [] (λa r=>Ll (bd.of (aC a 0))) (λX=>.bool X) (λX=>[])
theorem Z5v:bm pG Zai:=oT (.cons Qm5 (.nil)) Tryz.func185 Tryz.call185 [] [] 2

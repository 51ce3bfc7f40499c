import Derived.Test.YtaemmjbkndlkeaaGreatMigrateEndsBase
open Int renaming tmod->cZ,tdiv->eF,toNat->dA
open Nat renaming beq->bX,blt->bN
open List renaming set->dB,getD->aV,length->dF,append->cP
open UInt8 renaming toNat->iA
set_option maxRecDepth 100000
set_option linter.all false
namespace Go.Proofs.YtaemmjbkndlkeaaGreat
open Go Go.GD Go.IntKind
noncomputable section
def kF(s:List Int):(List Int):=
s
def nP(s:List Int):Prop:=
s.length<=35184372088832
def Q4d(s:List Int):List D:=[.sl 1 (.ints .u32 s) false]
def Vp(s:List Int):List Row:=[]
def Mu(X:List Int):D:=.all 0
def Mv(X:List Int):List Row:=[⟨false,25,1,.ints .u32 X⟩]
def Qfs:List mY:=[.row 25 1 (.ints .u32)]
def Q85:List PT:=[.one (.ints .u32)]
def Q7w:List RT:=[]
def Qha(args:List D)(rows:List Row):(List Int):=kF (dh .u32 args 0)
def Qh2(args:List D)(rows:List Row):Prop:=nP (dh .u32 args 0)
def Qil:bd:=kU 114 [] true Q85 Q7w Qh2 Qha Mu Mv
def Q5n(s:List Int)(ja:(List Int)->Prop):Prop:=
(s=[]->ja [])/\cu (decide ((4:Nat)*((0:Nat)+s.length)<=(140737488355328:Nat))) (ja s)
set_option maxRecDepth 100000 in
theorem Qho(s:List Int)(Q:D->List Row->Prop):(kh jZ [] (LL jZ [] Tryz.f114.ntmps 0 [] 2) Tryz.f114 (Q4d s) (Vp s) λd R=>nT (Vp s).length Qfs d R Q)=Q5n s (λX=>Q (Mu X) (Mv X)):=by kernel_rfl
theorem Qg(s:List Int)(ja:(List Int)->Prop)(hw:nP s)(h:ja (kF s)):
Q5n s ja:=by
 delta Q5n
 refine⟨λe=>by rw[e]at h;exact h,?_⟩
 rw[dd]
 refine⟨dY ?_,h⟩
 have:s.length<=35184372088832:=hw
 omega
set_option maxRecDepth 100000 in
theorem Qeu(s:List Int)(hw:nP s):ku pG 114 (Q4d s) (Vp s) (Mu (kF s)) (Mv (kF s)):=
 have hG:jD pG []:=.nil
 lU.calls drawn jz hG Tryz.func114 (rf:=none) (λ_ _=>trivial) (Gj drawn jz hG (.inl rfl) 2 (fq:=[])) (lU.of (Qho s _) (Qg s (λX=>Mu X=Mu (kF s)/\Mv X=Mv (kF s)) hw ⟨rfl,rfl⟩))
set_option maxRecDepth 100000 in
theorem Qfv(args:List D)(rows:List Row):kW Q85 args 0=Q4d (dh .u32 args 0):=by kernel_rfl
set_option maxRecDepth 100000 in
theorem Qet(args:List D)(rows:List Row):kv Q7w rows 0=Vp (dh .u32 args 0):=by kernel_rfl
set_option maxRecDepth 100000 in
theorem Qhi(X:List Int):(tj (Mu X)&&jy (Mv X))=true:=by kernel_rfl
theorem JR:bn pG Qil:=FE Tryz.call114 (λargs rows hp=>by rw[Qfv args rows,Qet args rows];exact Qeu (dh .u32 args 0) hp) (λ_ X=>Qhi X)
def Gs(m:List Int):Tree Int:=
.br (cZ (m.length:Int) (32:Int) !=(0:Int)) (.lf 0) (.br (decide ((m.length:Int)>(1024:Int))) (.lf 0) (.lf (wrap i64 (eF (m.length:Int) 32))))
def jU m:=(Gs m).m
def Zb6:bd:=mS 70 [] true [.one (.ints .u32)] [] (λa r=>Gs (dh .u32 a 0)) (λX=>.int .i64 X) (λX=>[])
theorem Q2:bn pG Zb6:=oS (.nil) Tryz.func70 Tryz.call70 [] [] 2
def ID(m:List Int)(addr size:Int):Tree Bool:=
let T1:Tree (Bool):=.cn (decide (wrap u32 size≠0)) (.br (cZ addr (wrap u32 size) !=0) (.lf false) (.lv (jU m) λ(x0:Int)=>.lf (decide (wrap u64 (wrap u64 addr+wrap u64 size)<=wrap u64 (wrap u64 x0*128)))));.br (size !=1) (.br (size !=4) (.lf false) T1) T1
def Xl m addr size:=(ID m addr size).m
abbrev Qfx m addr size:=(ID m addr size).p
def Z5r:bd:=mT 273 [] true [.one (.ints .u32),.one (.int .u32),.one (.int .i64)] [] (λa r=>ID (dh .u32 a 0) (ar a 1) (ar a 2)) (λX=>.bool X) (λX=>[])
theorem Qq7:bn pG Z5r:=oT (.cons Q2 (.nil)) Tryz.func273 Tryz.call273 [] [] 2
def Ra(n:Int):Tree Int:=
.br (decide (n>=32)) (.lf 4294967295) (.cn (decide (0<=wrap u64 n)) (.lf (wrap u32 (eu u32 1 (wrap u64 n)-1))))
def Z83 n:=(Ra n).m
abbrev Qpl n:=(Ra n).p
def Zmo:bd:=mT 274 [] true [.one (.int .i64)] [] (λa r=>Ra (ar a 0)) (λX=>.int .u32 X) (λX=>[])
theorem Z1r:bn pG Zmo:=oT (.nil) Tryz.func274 Tryz.call274 [] [] 2
def Rb(w low n:Int):Tree Int:=
.br (decide (low<0)) (.lf 0) (.br (decide (low>31)) (.lf 0) (.br (decide (n<1)) (.lf 0) (.cn (decide (0<=wrap u64 low)) (.an (Qpl n) (.lv (Z83 n) λ(x0:Int)=>.lf (bb u32 (bc u32 w (wrap u64 low)) x0))))))
def tz w low n:=(Rb w low n).m
abbrev Mw w low n:=(Rb w low n).p
def Ziy:bd:=mT 238 [] true [.one (.int .u32),.one (.int .i64),.one (.int .i64)] [] (λa r=>Rb (ar a 0) (ar a 1) (ar a 2)) (λX=>.int .u32 X) (λX=>[])
theorem Qpo:bn pG Ziy:=oT (.cons Z1r (.nil)) Tryz.func238 Tryz.call238 [] [] 2
def Rc(w low n v:Int):Tree Int:=
.br (decide (low<0)) (.lf w) (.br (decide (low>31)) (.lf w) (.br (decide (n<1)) (.lf w) (.an (Qpl n) (.lv (Z83 n) λ(x0:Int)=>.cn (decide (0<=wrap u64 low)) (.cn (decide (0<=wrap u64 low)) (.lf (iM u32 (oJ u32 w (eu u32 x0 (wrap u64 low))) (eu u32 (bb u32 v x0) (wrap u64 low)))))))))
def K3 w low n v:=(Rc w low n v).m
abbrev Qn9 w low n v:=(Rc w low n v).p
def Z8x:bd:=mT 276 [] true [.one (.int .u32),.one (.int .i64),.one (.int .i64),.one (.int .u32)] [] (λa r=>Rc (ar a 0) (ar a 1) (ar a 2) (ar a 3)) (λX=>.int .u32 X) (λX=>[])
theorem Z3r:bn pG Z8x:=oT (.cons Z1r (.nil)) Tryz.func276 Tryz.call276 [] [] 2
def K6(m:List Int)(addr size v:Int):Tree ((List Int)×Bool):=
.an (nP m) (.lv (kF m) λ(x0:List Int)=>.an (Qfx m addr size) (.lv (Xl m addr size) λ(x1:Bool)=>.br (!x1) (.lf (x0,false)) (let E1:=bX 1 1&&bN 0 1&&decide (0<=wrap u32 (eF addr 4)/\wrap u32 (eF addr 4)<(x0.length:Int));let E2:=dA (wrap u32 (eF addr 4));.br (size==1) (.cn E1 (let E3:=wrap i64 (wrap i64 (cZ addr 4)*8);.an (Qn9 (x0.getD E2 0) E3 8 v) (.lv (K3 (x0.getD E2 0) E3 8 v) λ(x2:Int)=>.cn E1 (.lf (dB x0 E2 x2,true))))) (.cn E1 (.lf (dB x0 E2 v,true))))))
def K5 m addr size v:=(K6 m addr size v).m
abbrev Qca m addr size v:=(K6 m addr size v).p
def Zap:bd:=mT 244 [] true [.one (.ints .u32),.one (.int .u32),.one (.int .i64),.one (.int .u32)] [] (λa r=>K6 (dh .u32 a 0) (ar a 1) (ar a 2) (ar a 3)) (λX=>.dw [.all 0,.bool (X.2)]) (λX=>[⟨false,25,1,.ints .u32 (X.1)⟩])
theorem Qrh:bn pG Zap:=oT (.cons JR (.cons Qq7 (.cons Z3r (.nil)))) Tryz.func244 Tryz.call244 [.row 25 1 (.ints .u32)] [] 2
def Zlm(op:Int):Tree (w4×Bool):=
.br (op==1) (.lf ({a:=true,b:=true,c:=true,low:=0,F5:=0},true)) (.br (op==2) (.lf ({a:=true,b:=true,c:=true,low:=0,F5:=0},true)) (.br (op==3) (.lf ({a:=true,b:=true,c:=true,low:=0,F5:=0},true)) (.br (op==4) (.lf ({a:=true,b:=true,c:=true,low:=0,F5:=0},true)) (.br (op==5) (.lf ({a:=true,b:=true,c:=true,low:=0,F5:=0},true)) (.br (op==6) (.lf ({a:=true,b:=true,c:=true,low:=0,F5:=0},true)) (.br (op==7) (.lf ({a:=true,b:=true,c:=true,low:=0,F5:=0},true)) (.br (op==8) (.lf ({a:=true,b:=true,c:=true,low:=0,F5:=0},true)) (.br (op==9) (.lf ({a:=true,b:=true,c:=true,low:=0,F5:=0},true)) (.br (op==10) (.lf ({a:=true,b:=true,c:=true,low:=0,F5:=0},true)) (.br (op==11) (.lf ({a:=true,b:=true,c:=true,low:=0,F5:=0},true)) (.br (op==12) (.lf ({a:=true,b:=true,c:=true,low:=0,F5:=0},true)) (.br (op==13) (.lf ({a:=true,b:=true,c:=true,low:=0,F5:=0},true)) (.br (op==16) (.lf ({a:=true,b:=true,c:=false,low:=(-32768),F5:=32767},true)) (.br (op==23) (.lf ({a:=true,b:=true,c:=false,low:=(-32768),F5:=32767},true)) (.br (op==32) (.lf ({a:=true,b:=true,c:=false,low:=(-32768),F5:=32767},true)) (.br (op==33) (.lf ({a:=true,b:=true,c:=false,low:=(-32768),F5:=32767},true)) (.br (op==34) (.lf ({a:=true,b:=true,c:=false,low:=(-32768),F5:=32767},true)) (.br (op==35) (.lf ({a:=true,b:=true,c:=false,low:=(-32768),F5:=32767},true)) (.br (op==36) (.lf ({a:=true,b:=true,c:=false,low:=(-32768),F5:=32767},true)) (.br (op==40) (.lf ({a:=true,b:=true,c:=false,low:=(-32768),F5:=32767},true)) (.br (op==41) (.lf ({a:=true,b:=true,c:=false,low:=(-32768),F5:=32767},true)) (.br (op==42) (.lf ({a:=true,b:=true,c:=false,low:=(-32768),F5:=32767},true)) (.br (op==43) (.lf ({a:=true,b:=true,c:=false,low:=(-32768),F5:=32767},true)) (.br (op==44) (.lf ({a:=true,b:=true,c:=false,low:=(-32768),F5:=32767},true)) (.br (op==45) (.lf ({a:=true,b:=true,c:=false,low:=(-32768),F5:=32767},true)) (.br (op==49) (.lf ({a:=true,b:=true,c:=false,low:=(-32768),F5:=32767},true)) (.br (op==17) (.lf ({a:=true,b:=true,c:=false,low:=0,F5:=65535},true)) (.br (op==18) (.lf ({a:=true,b:=true,c:=false,low:=0,F5:=65535},true)) (.br (op==19) (.lf ({a:=true,b:=true,c:=false,low:=0,F5:=65535},true)) (.br (op==20) (.lf ({a:=true,b:=true,c:=false,low:=0,F5:=31},true)) (.br (op==21) (.lf ({a:=true,b:=true,c:=false,low:=0,F5:=31},true)) (.br (op==22) (.lf ({a:=true,b:=true,c:=false,low:=0,F5:=31},true)) (.br (op==24) (.lf ({a:=true,b:=false,c:=false,low:=0,F5:=65535},true)) (.br (op==48) (.lf ({a:=true,b:=false,c:=false,low:=(-32768),F5:=32767},true)) (.br (op==58) (.lf ({a:=true,b:=false,c:=false,low:=0,F5:=7},true)) (.br (op==59) (.lf ({a:=true,b:=false,c:=false,low:=0,F5:=7},true)) (.br (op==60) (.lf ({a:=true,b:=false,c:=false,low:=0,F5:=11},true)) (.br (op==61) (.lf ({a:=true,b:=false,c:=false,low:=0,F5:=11},true)) (.br (op==56) (.lf ({a:=false,b:=false,c:=false,low:=0,F5:=0},true)) (.br (op==57) (.lf ({a:=false,b:=false,c:=false,low:=0,F5:=0},true)) (.br (op==62) (.lf ({a:=false,b:=false,c:=false,low:=0,F5:=0},true)) (.br (op==63) (.lf ({a:=false,b:=false,c:=false,low:=0,F5:=0},true)) (.br (op==64) (.lf ({a:=false,b:=false,c:=false,low:=0,F5:=0},true)) (.lf ({a:=false,b:=false,c:=false,low:=0,F5:=0},false)))))))))))))))))))))))))))))))))))))))))))))
def S9 op:=(Zlm op).m
def vC:bd:=mS 239 [] true [.one (.int .i64)] [] (λa r=>Zlm (ar a 0)) (λX=>.dw [.agg (w4.cells (X.1)),.bool (X.2)]) (λX=>[])
theorem Zcb:bn pG vC:=oS (.nil) Tryz.func239 Tryz.call239 [] [] 2
def Rd(x n:Int):Tree Int:=
.br (decide (n<1)) (.lf 0) (.br (decide (n>=32)) (.lf x) (let E1:=decide (0<=wrap u64 (wrap i64 (32-n)));.cn E1 (.cn E1 (.lf (wrap u32 (bc i32 (wrap i32 (eu u32 x (wrap u64 (wrap i64 (32-n))))) (wrap u64 (wrap i64 (32-n)))))))))
def DF x n:=(Rd x n).m
abbrev Qct x n:=(Rd x n).p
def Z0k:bd:=mT 240 [] true [.one (.int .u32),.one (.int .i64)] [] (λa r=>Rd (ar a 0) (ar a 1)) (λX=>.int .u32 X) (λX=>[])
theorem Qly:bn pG Z0k:=oT (.nil) Tryz.func240 Tryz.call240 [] [] 2
def Ta(r:Int)(used:Bool):Tree Bool:=
.br used (.br (decide (r>=0)) (.lf (decide (r<=15))) (.lf false)) (.lf (r==0))
def KX r used:=(Ta r used).m
def Zbb:bd:=mS 275 [] true [.one (.int .i64),.one (.bool)] [] (λa r=>Ta (ar a 0) (kI a 1)) (λX=>.bool X) (λX=>[])
theorem Z5v:bn pG Zbb:=oS (.nil) Tryz.func275 Tryz.call275 [] [] 2
def NX(i:ib):Tree Bool:=
.lv (S9 i.Op) λ(x0:w4×Bool)=>.br x0.2 (.lv (KX i.A x0.1.a) λ(x1:Bool)=>.br x1 (.lv (KX i.B x0.1.b) λ(x2:Bool)=>.br x2 (.lv (KX i.C x0.1.c) λ(x3:Bool)=>.br x3 (.br (decide (i.cf>=x0.1.low)) (.lf (decide (i.cf<=x0.1.F5))) (.lf false)) (.lf false)) (.lf false)) (.lf false)) (.lf false)
def IB i:=(NX i).m
def Zn0:bd:=mS 241 [] true [.agg ib.sig] [] (λa r=>NX (ib.of (aC a 0))) (λX=>.bool X) (λX=>[])
theorem Zld:bn pG Zn0:=oS (.cons Zcb (.cons Z5v (.nil))) Tryz.func241 Tryz.call241 [] [] 2
def KZ(w:Int):Tree (ib×Bool):=
.an (Mw w 24 8) (.lv (tz w 24 8) λ(x0:Int)=>.an (Mw w 20 4) (.lv (tz w 20 4) λ(x1:Int)=>.an (Mw w 16 4) (.lv (tz w 16 4) λ(x2:Int)=>.lv (S9 (wrap i64 x0)) λ(x3:w4×Bool)=>let E1:=({Op:=0,A:=0,B:=0,C:=0,cf:=0}:ib);.br (!x3.2) (.lf (E1,false)) (.an (Mw w 0 16) (.lv (tz w 0 16) λ(x4:Int)=>.br x3.1.c (let E2:=({Op:=wrap i64 x0,A:=wrap i64 x1,B:=wrap i64 x2,C:=wrap i64 x4,cf:=0}:ib);.lv (IB E2) λ(x5:Bool)=>.br (!x5) (.lf (E1,false)) (.lf (E2,true))) (.br (decide (x3.1.low<0)) (.an (Qct x4 16) (.lv (DF x4 16) λ(x6:Int)=>let E3:=({Op:=wrap i64 x0,A:=wrap i64 x1,B:=wrap i64 x2,C:=0,cf:=wrap i32 x6}:ib);.lv (IB E3) λ(x7:Bool)=>.br (!x7) (.lf (E1,false)) (.lf (E3,true)))) (let E4:=({Op:=wrap i64 x0,A:=wrap i64 x1,B:=wrap i64 x2,C:=0,cf:=wrap i32 x4}:ib);.lv (IB E4) λ(x8:Bool)=>.br (!x8) (.lf (E1,false)) (.lf (E4,true)))))))))
def NZ w:=(KZ w).m
abbrev Qup w:=(KZ w).p
def Zk8:bd:=mT 189 [] true [.one (.int .u32)] [] (λa r=>KZ (ar a 0)) (λX=>.dw [.agg (ib.cells (X.1)),.bool (X.2)]) (λX=>[])
theorem Zff:bn pG Zk8:=oT (.cons Qpo (.cons Zcb (.cons Qly (.cons Zld (.nil))))) Tryz.func189 Tryz.call189 [] [] 2
def Lf(a b:Int):Tree (Int×Int):=
.br (b==0) (.lf (4294967295,a)) (let T1:Tree ((Int×Int)):=.cn (decide (wrap i32 b≠0)) (.cn (decide (wrap i32 b≠0)) (.lf (wrap u32 (wrap i32 (eF (wrap i32 a) (wrap i32 b))),wrap u32 (cZ (wrap i32 a) (wrap i32 b)))));.br (a==2147483648) (.br (b==4294967295) (.lf (a,0)) T1) T1)
def Lc a b:=(Lf a b).m
abbrev Ql6 a b:=(Lf a b).p
def Zev:bd:=mT 277 [] true [.one (.int .u32),.one (.int .u32)] [] (λa r=>Lf (ar a 0) (ar a 1)) (λX=>.dw [.int .u32 (X.1),.int .u32 (X.2)]) (λX=>[])
theorem Z9e:bn pG Zev:=oT (.nil) Tryz.func277 Tryz.call277 [] [] 2
def Z95(b:Bool):Tree Int:=
.br b (.lf 1) (.lf 0)
def Vb b:=(Z95 b).m
def Zmv:bd:=mS 278 [] true [.one (.bool)] [] (λa r=>Z95 (kI a 0)) (λX=>.int .u32 X) (λX=>[])
theorem Zis:bn pG Zmv:=oS (.nil) Tryz.func278 Tryz.call278 [] [] 2
def Rg(op a b:Int):Tree (Int×Bool):=
.br (op==2) (.lf (wrap u32 (a+wrap u32 (0-b)),true)) (.br (op==1) (.lf (wrap u32 (a+b),true)) (.br (op==16) (.lf (wrap u32 (a+b),true)) (.br (op==3) (.lf (bb u32 a b,true)) (.br (op==17) (.lf (bb u32 a b,true)) (.br (op==4) (.lf (iM u32 a b,true)) (.br (op==18) (.lf (iM u32 a b,true)) (.br (op==5) (.lf (rD u32 a b,true)) (.br (op==19) (.lf (rD u32 a b,true)) (.br (op==6) (.lf (eu u32 a (bb u32 b 31),true)) (.br (op==20) (.lf (eu u32 a (bb u32 b 31),true)) (.br (op==7) (.lf (bc u32 a (bb u32 b 31),true)) (.br (op==21) (.lf (bc u32 a (bb u32 b 31),true)) (let E1:=(wrap u32 (bc i32 (wrap i32 a) (bb u32 b 31)),true);.br (op==8) (.lf E1) (.br (op==22) (.lf E1) (.br (op==9) (.lf (wrap u32 (a*b),true)) (.br (op==10) (.an (Ql6 a b) (.lv (Lc a b) λ(x0:Int×Int)=>.lf (x0.1,true))) (.br (op==11) (.an (Ql6 a b) (.lv (Lc a b) λ(x1:Int×Int)=>.lf (x1.2,true))) (.br (op==12) (.lv (Vb (decide (wrap i32 a<wrap i32 b))) λ(x2:Int)=>.lf (x2,true)) (.br (op==23) (.lv (Vb (decide (wrap i32 a<wrap i32 b))) λ(x3:Int)=>.lf (x3,true)) (.br (op==13) (.lv (Vb (decide (a<b))) λ(x4:Int)=>.lf (x4,true)) (.lf (0,false))))))))))))))))))))))
def nF op a b:=(Rg op a b).m
abbrev Qw1 op a b:=(Rg op a b).p
def qD:bd:=mT 248 [] true [.one (.int .i64),.one (.int .u32),.one (.int .u32)] [] (λa r=>Rg (ar a 0) (ar a 1) (ar a 2)) (λX=>.dw [.int .u32 (X.1),.bool (X.2)]) (λX=>[])
theorem Ztf:bn pG qD:=oT (.cons Z9e (.cons Zis (.nil))) Tryz.func248 Tryz.call248 [] [] 2
end
noncomputable section
def Qu(status Dm to:Int):Tree Int:=
.br (bb u32 status Dm !=0) (.lf (iM u32 status to)) (.lf (oJ u32 status to))
def Aj status Dm to:=(Qu status Dm to).m
def Zsf:bd:=mS 235 [] true [.one (.int .u32),.one (.int .u32),.one (.int .u32)] [] (λa r=>Qu (ar a 0) (ar a 1) (ar a 2)) (λX=>.int .u32 X) (λX=>[])
theorem Z78:bn pG Zsf:=oS (.nil) Tryz.func235 Tryz.call235 [] [] 2
def N6(c:bu)(oA bad:Int):Tree bu:=
.lv (Aj c.C3.a0 1 8) λ(x0:Int)=>.lv (Aj x0 2 16) λ(x1:Int)=>.lf ({X:=c.X,Pc:=c.C3.a1,C3:={a0:=oJ u32 (iM u32 x1 1) 2,a1:=c.C3.a1,a2:=c.Pc,a3:=wrap u32 oA,a4:=bad,a5:=c.C3.a5,a6:=c.C3.a6,a7:=c.C3.a7}})
def rb c oA bad:=(N6 c oA bad).m
def Zu:bd:=mS 187 [] true [.agg bu.sig,.one (.int .i64),.one (.int .u32)] [] (λa r=>N6 (bu.of (aC a 0)) (ar a 1) (ar a 2)) (λX=>.agg (bu.cells X)) (λX=>[])
theorem RL:bn pG Zu:=oS (.cons Z78 (.nil)) Tryz.func187 Tryz.call187 [] [] 2
def Qxt(access:Int):Tree (Int×Bool):=
.br (access==1) (.lf (4,true)) (.br (access==2) (.lf (5,true)) (.br (access==3) (.lf (6,true)) (.lf (5,false))))
def Qvf access:=(Qxt access).m
def Zel:bd:=mS 270 [] true [.one (.int .i64)] [] (λa r=>Qxt (ar a 0)) (λX=>.dw [.int .i64 (X.1),.bool (X.2)]) (λX=>[])
theorem Za9:bn pG Zel:=oS (.nil) Tryz.func270 Tryz.call270 [] [] 2
def Z22(c:bu):Tree Bool:=
.lf (bb u32 c.C3.a0 (1:Int) !=(0:Int))
def IF c:=(Z22 c).m
def Zjv:bd:=mS 191 [] true [.agg bu.sig] [] (λa r=>Z22 (bu.of (aC a 0))) (λX=>.bool X) (λX=>[])
theorem Qxl:bn pG Zjv:=oS (.nil) Tryz.func191 Tryz.call191 [] [] 2
def Qqa(access:Int):Tree (Int×Bool):=
.br (access==1) (.lf (4,true)) (.br (access==2) (.lf (5,true)) (.br (access==3) (.lf (6,true)) (.lf (5,false))))
def Qmx access:=(Qqa access).m
def Z35:bd:=mS 289 [] true [.one (.int .i64)] [] (λa r=>Qqa (ar a 0)) (λX=>.dw [.int .i64 (X.1),.bool (X.2)]) (λX=>[])
theorem Z0r:bn pG Z35:=oS (.nil) Tryz.func289 Tryz.call289 [] [] 2
def Qke(m:List Int)(frame:Int):Tree Bool:=
.lv (jU m) λ(x0:Int)=>.lf (decide (wrap u64 frame<wrap u64 x0))
def N2 m frame:=(Qke m frame).m
def Z5b:bd:=mS 290 [] true [.one (.ints .u32),.one (.int .u32)] [] (λa r=>Qke (dh .u32 a 0) (ar a 1)) (λX=>.bool X) (λX=>[])
theorem Z3m:bn pG Z5b:=oS (.cons Q2 (.nil)) Tryz.func290 Tryz.call290 [] [] 2
def K4(m:List Int)(addr size:Int):Tree (Int×Bool):=
.an (Qfx m addr size) (.lv (Xl m addr size) λ(x0:Bool)=>.br (!x0) (.lf (0,false)) (.cn (bX 1 1&&bN 0 1&&decide (0<=wrap u32 (eF addr 4)/\wrap u32 (eF addr 4)<(m.length:Int))) (let E1:=dA (wrap u32 (eF addr 4));.br (size==1) (let E2:=wrap i64 (wrap i64 (cZ addr 4)*8);.an (Mw (m.getD E1 0) E2 8) (.lv (tz (m.getD E1 0) E2 8) λ(x1:Int)=>.lf (x1,true))) (.lf (m.getD E1 0,true)))))
def BZ m addr size:=(K4 m addr size).m
abbrev JC m addr size:=(K4 m addr size).p
def Zep:bd:=mT 237 [] true [.one (.ints .u32),.one (.int .u32),.one (.int .i64)] [] (λa r=>K4 (dh .u32 a 0) (ar a 1) (ar a 2)) (λX=>.dw [.int .u32 (X.1),.bool (X.2)]) (λX=>[])
theorem RM:bn pG Zep:=oT (.cons Qq7 (.cons Qpo (.nil))) Tryz.func237 Tryz.call237 [] [] 2
def Qpz(Bk access:Int):Tree Bool:=
.br (bb u32 Bk (1:Int)==(0:Int)) (.lf false) (.br (access==3) (.lf (bb u32 Bk (2:Int) !=(0:Int))) (.br (access==1) (.lf (bb u32 Bk (4:Int) !=(0:Int))) (.lf true)))
def Tf Bk access:=(Qpz Bk access).m
def Z4:bd:=mS 291 [] true [.one (.int .u32),.one (.int .i64)] [] (λa r=>Qpz (ar a 0) (ar a 1)) (λX=>.bool X) (λX=>[])
theorem Z0z:bn pG Z4:=oS (.nil) Tryz.func291 Tryz.call291 [] [] 2
def Re(Bk:Int):Tree Int:=
.an (Mw Bk 8 8) (.lv (tz Bk 8 8) λ(x0:Int)=>.lf x0)
def Xq Bk:=(Re Bk).m
abbrev Qe6 Bk:=(Re Bk).p
def Z34:bd:=mT 292 [] true [.one (.int .u32)] [] (λa r=>Re (ar a 0)) (λX=>.int .u32 X) (λX=>[])
theorem Z0d:bn pG Z34:=oT (.cons Qpo (.nil)) Tryz.func292 Tryz.call292 [] [] 2
def K8(m:List Int)(root va access:Int):Tree rF:=
.lv (Qmx access) λ(x0:Int×Bool)=>let E1:=({Addr:=0,G1:=0,G0:=x0.1}:rF);.br (!x0.2) (.lf (E1)) (.br (decide (va>=4096)) (.lf (E1)) (.lv (N2 m root) λ(x1:Bool)=>.br (!x1) (.lf (E1)) (let E2:=wrap u32 (root*128)+wrap u32 (4*wrap u32 (eF va 128));.an (JC m (wrap u32 E2) 4) (.lv (BZ m (wrap u32 E2) 4) λ(x2:Int×Bool)=>.br (!x2.2) (.lf (E1)) (.lv (Tf x2.1 access) λ(x3:Bool)=>.br (!x3) (.lf (E1)) (.an (Qe6 x2.1) (.lv (Xq x2.1) λ(x4:Int)=>.lv (N2 m x4) λ(x5:Bool)=>.br (!x5) (.lf (E1)) (.an (Qe6 x2.1) (.lv (Xq x2.1) λ(x6:Int)=>.lf ({Addr:=wrap u32 (wrap u32 (x6*128)+cZ va 128),G1:=wrap u32 E2,G0:=0}))))))))))
def Te m root va access:=(K8 m root va access).m
abbrev Qkx m root va access:=(K8 m root va access).p
def Zg7:bd:=mT 271 [] true [.one (.ints .u32),.one (.int .u32),.one (.int .u32),.one (.int .i64)] [] (λa r=>K8 (dh .u32 a 0) (ar a 1) (ar a 2) (ar a 3)) (λX=>.agg (rF.cells X)) (λX=>[])
theorem Z9b:bn pG Zg7:=oT (.cons Z0r (.cons Z3m (.cons RM (.cons Z0z (.cons Z0d (.nil)))))) Tryz.func271 Tryz.call271 [] [] 2
def La(m:List Int)(entry access:Int):Tree (List Int):=
.an (JC m entry 4) (.lv (BZ m entry 4) λ(x0:Int×Bool)=>.br (!x0.2) (.an (nP m) (.lv (kF m) λ(x1:List Int)=>.lf x1)) (.br (access==3) (.an (Qca m entry 4 (iM u32 (iM u32 x0.1 8) 16)) (.lv (K5 m entry 4 (iM u32 (iM u32 x0.1 8) 16)) λ(x2:List Int×Bool)=>.lf x2.1)) (.an (Qca m entry 4 (iM u32 x0.1 8)) (.lv (K5 m entry 4 (iM u32 x0.1 8)) λ(x3:List Int×Bool)=>.lf x3.1))))
def N4 m entry access:=(La m entry access).m
abbrev Qi0 m entry access:=(La m entry access).p
def Zan:bd:=mT 272 [] true [.one (.ints .u32),.one (.int .u32),.one (.int .i64)] [] (λa r=>La (dh .u32 a 0) (ar a 1) (ar a 2)) (λX=>.all 0) (λX=>[⟨false,25,1,.ints .u32 X⟩])
theorem Z5e:bn pG Zan:=oT (.cons RM (.cons JR (.cons Qrh (.nil)))) Tryz.func272 Tryz.call272 [.row 25 1 (.ints .u32)] [] 2
def Qb(c:bu)(m:List Int)(va size access:Int):Tree (Int×(List Int)×Int):=
.lv (Qvf access) λ(x0:Int×Bool)=>let T3:Tree ((Int×(List Int)×Int)):=.an (nP m) (.lv (kF m) λ(x1:List Int)=>.lf (0,x1,5));.br (!x0.2) T3 (let T1:Tree ((Int×(List Int)×Int)):=.cn (decide (wrap u32 size≠0)) (.br (cZ va (wrap u32 size) !=0) (.an (nP m) (.lv (kF m) λ(x3:List Int)=>.lf (0,x3,3))) (.lv (IF c) λ(x4:Bool)=>let T2:Tree ((Int×(List Int)×Int)):=.an (JC m va size) (.lv (BZ m va size) λ(x8:Int×Bool)=>.br (!x8.2) (.an (nP m) (.lv (kF m) λ(x9:List Int)=>.lf (0,x9,x0.1))) (.an (nP m) (.lv (kF m) λ(lJ:List Int)=>.lf (va,lJ,0))));.br (!x4) (.br (bb u32 c.C3.a0 (4:Int) !=(0:Int)) (.an (Qkx m c.C3.a6 va access) (.lv (Te m c.C3.a6 va access) λ(x5:rF)=>.br (x5.G0 !=0) (.an (nP m) (.lv (kF m) λ(x6:List Int)=>.lf (0,x6,x5.G0))) (.an (Qi0 m x5.G1 access) (.lv (N4 m x5.G1 access) λ(x7:List Int)=>.lf (x5.Addr,x7,0))))) T2) T2));.br (size !=1) (.br (size !=4) T3 T1) T1)
def rK c m va size access:=(Qb c m va size access).m
abbrev Qdy c m va size access:=(Qb c m va size access).p
def Zfe:bd:=mT 236 [] true [.agg bu.sig,.one (.ints .u32),.one (.int .u32),.one (.int .i64),.one (.int .i64)] [] (λa r=>Qb (bu.of (aC a 0)) (dh .u32 a 1) (ar a 2) (ar a 3) (ar a 4)) (λX=>.dw [.int .u32 (X.1),.all 0,.int .i64 (X.2.2)]) (λX=>[⟨false,25,1,.ints .u32 (X.2.1)⟩])
theorem Qmm:bn pG Zfe:=oT (.cons Za9 (.cons JR (.cons Qxl (.cons Z9b (.cons Z5e (.cons RM (.nil))))))) Tryz.func236 Tryz.call236 [.row 25 1 (.ints .u32)] [] 2
def Rf(c:bu)(m:List Int):Tree (Int×(List Int)×Int):=
.an (Qdy c m c.Pc 4 1) (.lv (rK c m c.Pc 4 1) λ(x0:Int×List Int×Int)=>.br (x0.2.2 !=0) (.lf (0,x0.2.1,x0.2.2)) (.an (JC x0.2.1 x0.1 4) (.lv (BZ x0.2.1 x0.1 4) λ(x1:Int×Bool)=>.lf (x1.1,x0.2.1,0))))
def Tn c m:=(Rf c m).m
abbrev Qxd c m:=(Rf c m).p
def Znl:bd:=mT 188 [] true [.agg bu.sig,.one (.ints .u32)] [] (λa r=>Rf (bu.of (aC a 0)) (dh .u32 a 1)) (λX=>.dw [.int .u32 (X.1),.all 0,.int .i64 (X.2.2)]) (λX=>[⟨false,25,1,.ints .u32 (X.2.1)⟩])
theorem Zlh:bn pG Znl:=oT (.cons Qmm (.cons RM (.nil))) Tryz.func188 Tryz.call188 [.row 25 1 (.ints .u32)] [] 2
def Qpt(op:Int):Tree Bool:=
.br (op==57) (.lf true) (.br (op==58) (.lf true) (.br (op==59) (.lf true) (.br (op==60) (.lf true) (.br (op==61) (.lf true) (.br (op==62) (.lf true) (.br (op==63) (.lf true) (.br (op==64) (.lf true) (.lf false))))))))
def NW op:=(Qpt op).m
def Z3x:bd:=mS 190 [] true [.one (.int .i64)] [] (λa r=>Qpt (ar a 0)) (λX=>.bool X) (λX=>[])
theorem Z18:bn pG Z3x:=oS (.nil) Tryz.func190 Tryz.call190 [] [] 2
def Qvj(op:Int):Tree Int:=
.br (op==32) (.lf 4) (.br (op==35) (.lf 4) (.lf 1))
def JD op:=(Qvj op).m
def Znk:bd:=mS 242 [] true [.one (.int .i64)] [] (λa r=>Qvj (ar a 0)) (λX=>.int .i64 X) (λX=>[])
theorem Z1y:bn pG Znk:=oS (.nil) Tryz.func242 Tryz.call242 [] [] 2
def EB(c:bu)(register v:Int):Tree bu:=
.br (register !=0) (.cn (bN 0 1&&decide (0<=register/\register<(↑16:Int))) (.lf ({X:=ir.of 0 (dB (ir.l c.X) register.toNat v),Pc:=c.Pc,C3:=c.C3}))) (.lf c)
def um c register v:=(EB c register v).m
abbrev Hy c register v:=(EB c register v).p
def xD:bd:=mT 243 [] true [.agg bu.sig,.one (.int .i64),.one (.int .u32)] [] (λa r=>EB (bu.of (aC a 0)) (ar a 1) (ar a 2)) (λX=>.agg (bu.cells X)) (λX=>[])
theorem Zbt:bn pG xD:=oT (.nil) Tryz.func243 Tryz.call243 [] [] 2
def Iu(c:bu)(m:List Int)(i:ib):Tree (bu×(List Int)):=
.cn (bN 0 1&&decide (0<=i.B/\i.B<(↑16:Int))) (.lv (JD i.Op) λ(x0:Int)=>let E1:=wrap u32 (aV (ir.l c.X) i.B.toNat 0+wrap u32 i.cf);.an (Qdy c m E1 x0 2) (.lv (rK c m E1 x0 2) λ(x1:Int×List Int×Int)=>.br (x1.2.2 !=0) (.lv (rb c x1.2.2 E1) λ(x2:bu)=>.lf (x2,x1.2.1)) (.lv (JD i.Op) λ(x3:Int)=>.an (JC x1.2.1 x1.1 x3) (.lv (BZ x1.2.1 x1.1 x3) λ(x4:Int×Bool)=>.br (i.Op==33) (.an (Qct x4.1 8) (.lv (DF x4.1 8) λ(x5:Int)=>.an (Hy c i.A x5) (.lv (um c i.A x5) λ(x6:bu)=>.lf ({X:=x6.X,Pc:=wrap u32 (x6.Pc+4),C3:=x6.C3},x1.2.1)))) (.an (Hy c i.A x4.1) (.lv (um c i.A x4.1) λ(x7:bu)=>.lf ({X:=x7.X,Pc:=wrap u32 (x7.Pc+4),C3:=x7.C3},x1.2.1)))))))
def tA c m i:=(Iu c m i).m
abbrev Z2r c m i:=(Iu c m i).p
def Ztr:bd:=mT 192 [] true [.agg bu.sig,.one (.ints .u32),.agg ib.sig] [] (λa r=>Iu (bu.of (aC a 0)) (dh .u32 a 1) (ib.of (aC a 2))) (λX=>.dw [.agg (bu.cells (X.1)),.all 0]) (λX=>[⟨false,25,1,.ints .u32 (X.2)⟩])
theorem Zoa:bn pG Ztr:=oT (.cons Qmm (.cons Z1y (.cons RL (.cons RM (.cons Qly (.cons Zbt (.nil))))))) Tryz.func192 Tryz.call192 [.row 25 1 (.ints .u32)] [] 2
def Iw(c:bu)(m:List Int)(i:ib):Tree (bu×(List Int)):=
.cn (bN 0 1&&decide (0<=i.B/\i.B<(↑16:Int))) (.lv (JD i.Op) λ(x0:Int)=>let E1:=wrap u32 (aV (ir.l c.X) i.B.toNat 0+wrap u32 i.cf);.an (Qdy c m E1 x0 3) (.lv (rK c m E1 x0 3) λ(x1:Int×List Int×Int)=>.br (x1.2.2 !=0) (.lv (rb c x1.2.2 E1) λ(x2:bu)=>.lf (x2,x1.2.1)) (.lv (JD i.Op) λ(x3:Int)=>.cn (bN 0 1&&decide (0<=i.A/\i.A<(↑16:Int))) (let E2:=aV (ir.l c.X) i.A.toNat 0;.an (Qca x1.2.1 x1.1 x3 E2) (.lv (K5 x1.2.1 x1.1 x3 E2) λ(x4:List Int×Bool)=>.lf ({X:=c.X,Pc:=wrap u32 (c.Pc+4),C3:=c.C3},x4.1))))))
def Cc c m i:=(Iw c m i).m
abbrev Qx1 c m i:=(Iw c m i).p
def Zoj:bd:=mT 193 [] true [.agg bu.sig,.one (.ints .u32),.agg ib.sig] [] (λa r=>Iw (bu.of (aC a 0)) (dh .u32 a 1) (ib.of (aC a 2))) (λX=>.dw [.agg (bu.cells (X.1)),.all 0]) (λX=>[⟨false,25,1,.ints .u32 (X.2)⟩])
theorem Zhu:bn pG Zoj:=oT (.cons Qmm (.cons Z1y (.cons RL (.cons Qrh (.nil))))) Tryz.func193 Tryz.call193 [.row 25 1 (.ints .u32)] [] 2
def Z5z(op a b:Int):Tree Bool:=
.br (op==40) (.lf (a==b)) (.br (op==41) (.lf (a !=b)) (.br (op==42) (.lf (decide (wrap i32 a<wrap i32 b))) (.br (op==43) (.lf (decide (wrap i32 a>=wrap i32 b))) (.br (op==44) (.lf (decide (a<b))) (.lf (decide (a>=b)))))))
def Zjf op a b:=(Z5z op a b).m
def Znv:bd:=mS 245 [] true [.one (.int .i64),.one (.int .u32),.one (.int .u32)] [] (λa r=>Z5z (ar a 0) (ar a 1) (ar a 2)) (λX=>.bool X) (λX=>[])
theorem Zjm:bn pG Znv:=oS (.nil) Tryz.func245 Tryz.call245 [] [] 2
def N8(c:bu):Tree bu:=
.lv (Aj c.C3.a0 8 1) λ(x0:Int)=>.lv (Aj x0 16 2) λ(x1:Int)=>.lf ({X:=c.X,Pc:=c.C3.a2,C3:={a0:=x1,a1:=c.C3.a1,a2:=c.C3.a2,a3:=c.C3.a3,a4:=c.C3.a4,a5:=c.C3.a5,a6:=c.C3.a6,a7:=c.C3.a7}})
def KS c:=(N8 c).m
def Zjs:bd:=mS 246 [] true [.agg bu.sig] [] (λa r=>N8 (bu.of (aC a 0))) (λX=>.agg (bu.cells X)) (λX=>[])
theorem Zgl:bn pG Zjs:=oS (.cons Z78 (.nil)) Tryz.func246 Tryz.call246 [] [] 2
def It(c:bu)(jr v:Int):Tree bu:=
let E4:=bN 0 1&&decide (0<=jr/\jr<(↑8:Int));let T2:Tree (bu):=.cn E4 (.lf ({X:=c.X,Pc:=c.Pc,C3:=A8.of 0 (dB (A8.l c.C3) jr.toNat (bb u32 v 31))}));.br (jr==0) T2 (.br (jr==7) T2 (.br (jr==6) (.cn E4 (.lf ({X:=c.X,Pc:=c.Pc,C3:=A8.of 0 (dB (A8.l c.C3) jr.toNat (bb u32 v 255))}))) (let T3:Tree (bu):=.cn E4 (.lf ({X:=c.X,Pc:=c.Pc,C3:=A8.of 0 (dB (A8.l c.C3) jr.toNat (oJ u32 v 3))}));.br (jr==1) T3 (.br (jr==2) T3 (let T1:Tree (bu):=.cn E4 (.lf ({X:=c.X,Pc:=c.Pc,C3:=A8.of 0 (dB (A8.l c.C3) jr.toNat v)}));.br (jr==3) T1 (.br (jr==4) T1 (.br (jr==5) T1 (.lf c))))))))
def Zic c jr v:=(It c jr v).m
abbrev Qz c jr v:=(It c jr v).p
def Zov:bd:=mT 247 [] true [.agg bu.sig,.one (.int .i64),.one (.int .u32)] [] (λa r=>It (bu.of (aC a 0)) (ar a 1) (ar a 2)) (λX=>.agg (bu.cells X)) (λX=>[])
theorem Zj5:bn pG Zov:=oT (.nil) Tryz.func247 Tryz.call247 [] [] 2
def EC(c:bu)(i:ib):Tree (bu×ly):=
.cn (bN 0 1&&decide (0<=i.A/\i.A<(↑16:Int))) (.cn (bN 0 1&&decide (0<=i.B/\i.B<(↑16:Int))) (.br (i.Op==24) (.an (Hy c i.A (eu u32 (wrap u32 i.cf) 16)) (.lv (um c i.A (eu u32 (wrap u32 i.cf) 16)) λ(x0:bu)=>.lf ({X:=x0.X,Pc:=wrap u32 (c.Pc+4),C3:=x0.C3},{C2:=0,F0:=0,F9:=0,Value:=0}))) (let E2:=({X:=c.X,Pc:=wrap u32 (c.Pc+4),C3:=c.C3}:bu);let E3:=aV (ir.l c.X) i.B.toNat 0;let E4:=aV (ir.l c.X) i.A.toNat 0;let T1:Tree ((bu×ly)):=.lv (Zjf i.Op E4 E3) λ(x1:Bool)=>.br x1 (.lf ({X:=c.X,Pc:=wrap u32 (c.Pc+wrap u32 (4*wrap u32 i.cf)),C3:=c.C3},{C2:=0,F0:=0,F9:=0,Value:=0})) (.lf (E2,{C2:=0,F0:=0,F9:=0,Value:=0}));.br (i.Op==40) T1 (.br (i.Op==41) T1 (.br (i.Op==42) T1 (.br (i.Op==43) T1 (.br (i.Op==44) T1 (.br (i.Op==45) T1 (.br (i.Op==48) (.an (Hy c i.A (wrap u32 (c.Pc+4))) (.lv (um c i.A (wrap u32 (c.Pc+4))) λ(x7:bu)=>.lf ({X:=x7.X,Pc:=wrap u32 (x7.Pc+wrap u32 (4*wrap u32 i.cf)),C3:=x7.C3},{C2:=0,F0:=0,F9:=0,Value:=0}))) (.br (i.Op==49) (.an (Hy c i.A (wrap u32 (c.Pc+4))) (.lv (um c i.A (wrap u32 (c.Pc+4))) λ(x8:bu)=>.lf ({X:=x8.X,Pc:=wrap u32 (aV (ir.l c.X) i.B.toNat 0+wrap u32 i.cf),C3:=x8.C3},{C2:=0,F0:=0,F9:=0,Value:=0}))) (.br (i.Op==56) (.lv (rb c 7 0) λ(x9:bu)=>.lf (x9,{C2:=0,F0:=0,F9:=0,Value:=0})) (.br (i.Op==57) (.lv (KS c) λ(lJ:bu)=>.lf (lJ,{C2:=0,F0:=0,F9:=0,Value:=0})) (.br (i.Op==58) (.cn (bN 0 1&&decide (0<=i.cf/\i.cf<(↑8:Int))) (let E5:=aV (A8.l c.C3) i.cf.toNat 0;.an (Hy c i.A E5) (.lv (um c i.A E5) λ(mb:bu)=>.lf ({X:=mb.X,Pc:=wrap u32 (c.Pc+4),C3:=mb.C3},{C2:=0,F0:=0,F9:=0,Value:=0})))) (.br (i.Op==59) (.an (Qz c (wrap i64 i.cf) E4) (.lv (Zic c (wrap i64 i.cf) E4) λ(oR:bu)=>.lf ({X:=oR.X,Pc:=wrap u32 (c.Pc+4),C3:=oR.C3},{C2:=0,F0:=0,F9:=0,Value:=0}))) (.br (i.Op==60) (.lf (E2,{C2:=1,F0:=wrap i64 i.cf,F9:=i.A,Value:=0})) (.br (i.Op==61) (.lf (E2,{C2:=2,F0:=wrap i64 i.cf,F9:=0,Value:=aV (ir.l c.X) i.A.toNat 0})) (.br (i.Op==62) (.lf (E2,{C2:=3,F0:=0,F9:=0,Value:=0})) (.br (i.Op==63) (.lf (E2,{C2:=5,F0:=0,F9:=0,Value:=0})) (.br (i.Op==64) (.lf (E2,{C2:=4,F0:=0,F9:=0,Value:=0})) (.cn (bN 0 1&&decide (0<=i.C/\i.C<(↑16:Int))) (.br (decide (i.Op>=16)) (.an (Qw1 i.Op E3 (wrap u32 i.cf)) (.lv (nF i.Op E3 (wrap u32 i.cf)) λ(uO:Int×Bool)=>.an (Hy c i.A uO.1) (.lv (um c i.A uO.1) λ(AH:bu)=>.lf ({X:=AH.X,Pc:=wrap u32 (c.Pc+4),C3:=AH.C3},{C2:=0,F0:=0,F9:=0,Value:=0})))) (let E6:=aV (ir.l c.X) i.C.toNat 0;.an (Qw1 i.Op E3 E6) (.lv (nF i.Op E3 E6) λ(Vq:Int×Bool)=>.an (Hy c i.A Vq.1) (.lv (um c i.A Vq.1) λ(Dn:bu)=>.lf ({X:=Dn.X,Pc:=wrap u32 (c.Pc+4),C3:=Dn.C3},{C2:=0,F0:=0,F9:=0,Value:=0})))))))))))))))))))))))))
def Xu c i:=(EC c i).m
abbrev Qry c i:=(EC c i).p
def Ze1:bd:=mT 194 [] true [.agg bu.sig,.agg ib.sig] [] (λa r=>EC (bu.of (aC a 0)) (ib.of (aC a 1))) (λX=>.dw [.agg (bu.cells (X.1)),.agg (ly.cells (X.2))]) (λX=>[])
theorem Z9o:bn pG Ze1:=oT (.cons Zbt (.cons Zjm (.cons RL (.cons Zgl (.cons Zj5 (.cons Ztf (.nil))))))) Tryz.func194 Tryz.call194 [] [] 2
def ED(c:bu)(m:List Int):Tree (bu×(List Int)×ly):=
.an (Qxd c m) (.lv (Tn c m) λ(x0:Int×List Int×Int)=>.br (x0.2.2 !=0) (.lv (rb c x0.2.2 c.Pc) λ(x1:bu)=>.lf (x1,x0.2.1,{C2:=0,F0:=0,F9:=0,Value:=0})) (.an (Qup x0.1) (.lv (NZ x0.1) λ(x2:ib×Bool)=>.br (!x2.2) (.lv (rb c 1 x0.1) λ(x3:bu)=>.lf (x3,x0.2.1,{C2:=0,F0:=0,F9:=0,Value:=0})) (.lv (NW x2.1.Op) λ(x4:Bool)=>let T1:Tree ((bu×(List Int)×ly)):=let T2:Tree ((bu×(List Int)×ly)):=.an (Z2r c x0.2.1 x2.1) (.lv (tA c x0.2.1 x2.1) λ(x7:bu×List Int)=>.lf (x7.1,x7.2,{C2:=0,F0:=0,F9:=0,Value:=0}));.br (x2.1.Op==32) T2 (.br (x2.1.Op==33) T2 (.br (x2.1.Op==34) T2 (let T3:Tree ((bu×(List Int)×ly)):=.an (Qx1 c x0.2.1 x2.1) (.lv (Cc c x0.2.1 x2.1) λ(lJ:bu×List Int)=>.lf (lJ.1,lJ.2,{C2:=0,F0:=0,F9:=0,Value:=0}));.br (x2.1.Op==35) T3 (.br (x2.1.Op==36) T3 (.an (Qry c x2.1) (.lv (Xu c x2.1) λ(oR:bu×ly)=>.lf (oR.1,x0.2.1,oR.2)))))));.br x4 (.lv (IF c) λ(x5:Bool)=>.br (!x5) (.lv (rb c 2 x0.1) λ(x6:bu)=>.lf (x6,x0.2.1,{C2:=0,F0:=0,F9:=0,Value:=0})) T1) T1))))
def Cd c m:=(ED c m).m
abbrev Z1q c m:=(ED c m).p
def Zrm:bd:=mT 137 [] true [.agg bu.sig,.one (.ints .u32)] [] (λa r=>ED (bu.of (aC a 0)) (dh .u32 a 1)) (λX=>.dw [.agg (bu.cells (X.1)),.all 0,.agg (ly.cells (X.2.2))]) (λX=>[⟨false,25,1,.ints .u32 (X.2.1)⟩])
theorem Zoe:bn pG Zrm:=oT (.cons Zlh (.cons RL (.cons Zff (.cons Z18 (.cons Qxl (.cons Zoa (.cons Zhu (.cons Z9o (.nil))))))))) Tryz.func137 Tryz.call137 [.row 25 1 (.ints .u32)] [] 2
end
noncomputable section
def JS:List UInt8:=[(0:UInt8),1,2,2,3,3,3,3,4,4,4,4,4,4,4,4,5,5,5,5,5,5,5,5,5,5,5,5,5,5,5,5,6,6,6,6,6,6,6,6,6,6,6,6,6,6,6,6,6,6,6,6,6,6,6,6,6,6,6,6,6,6,6,6]
def RN:List UInt8:=[(7:UInt8),7,7,7,7,7,7,7,7,7,7,7,7,7,7,7,7,7,7,7,7,7,7,7,7,7,7,7,7,7,7,7,7,7,7,7,7,7,7,7,7,7,7,7,7,7,7,7,7,7,7,7,7,7,7,7,7,7,7,7,7,7,7,7]
def Ea:List UInt8:=[(8:UInt8),8,8,8,8,8,8,8,8,8,8,8,8,8,8,8,8,8,8,8,8,8,8,8,8,8,8,8,8,8,8,8,8,8,8,8,8,8,8,8,8,8,8,8,8,8,8,8,8,8,8,8,8,8,8,8,8,8,8,8,8,8,8,8]
def Vr:List UInt8:=[(1:UInt8),2,2,3,3,3,3,4,4,4,4,4,4,4,4,5,5,5,5,5,5,5,5,5,5,5,5,5,5,5,5,6,6,6,6,6,6,6,6,6,6,6,6,6,6,6,6,6,6,6,6,6,6,6,6,6,6,6,6,6,6,6,6]
def JT:List UInt8:=[(0:UInt8),1,1,2,1,2,2,3,1,2,2,3,2,3,3,4,1,2,2,3,2,3,3,4,2,3,3,4,3,4,4,5,1,2,2,3,2,3,3,4,2,3,3,4,3,4,4,5,2,3,3,4,3,4,4,5,3,4,4,5,4,5,5,6]
def Eb:List UInt8:=[(1:UInt8),2,2,3,2,3,3,4,2,3,3,4,3,4,4,5,2,3,3,4,3,4,4,5,3,4,4,5,4,5,5,6,2,3,3,4,3,4,4,5,3,4,4,5,4,5,5,6,3,4,4,5,4,5,5,6,4,5,5,6,5,6,6,7]
def RO:List UInt8:=[(2:UInt8),3,3,4,3,4,4,5,3,4,4,5,4,5,5,6,3,4,4,5,4,5,5,6,4,5,5,6,5,6,6,7,3,4,4,5,4,5,5,6,4,5,5,6,5,6,6,7,4,5,5,6,5,6,6,7,5,6,6,7,6,7,7,8]
def Zq:List UInt8:=[(1:UInt8),1,2,1,2,2,3,1,2,2,3,2,3,3,4,1,2,2,3,2,3,3,4,2,3,3,4,3,4,4,5,1,2,2,3,2,3,3,4,2,3,3,4,3,4,4,5,2,3,3,4,3,4,4,5,3,4,4,5,4,5,5,6]
def Qwi(c:iH):Tree Bool:=
.lf (decide ((c.E0.length:Int)<=(16:Int)))
def AP c:=(Qwi c).m
def Zfx:bd:=mS 151 [] true [.agg iH.sig] [] (λa r=>Qwi (iH.of (aC a 0))) (λX=>.bool X) (λX=>[])
theorem Z9s:bn pG Zfx:=oS (.nil) Tryz.func151 Tryz.call151 [] [] 2
def S1(t:iV):Tree Bool:=
.br t.F1 (.br (!t.D9) (.lf (t.D3 !=0)) (.lf false)) (.br t.D9 (.lf true) (.lf (t.D3==0)))
def AQ t:=(S1 t).m
def Znp:bd:=mS 152 [] true [.agg iV.sig] [] (λa r=>S1 (iV.of (aC a 0))) (λX=>.bool X) (λX=>[])
theorem Zj3:bn pG Znp:=oS (.nil) Tryz.func152 Tryz.call152 [] [] 2
def NL(d0:fv):Tree Bool:=
.br (d0.F6==1) (.lf (decide (d0.C7=[]))) (.br (d0.F6==2) (.lf ((d0.C7.length:Int)==(128:Int))) (.lf false))
def SZ d0:=(NL d0).m
def Z1h:bd:=mS 208 [] true [.agg fv.sig] [] (λa r=>NL (fv.of (aC a 0))) (λX=>.bool X) (λX=>[])
theorem Qy8:bn pG Z1h:=oS (.nil) Tryz.func208 Tryz.call208 [] [] 2
def Ez(d0:fv)(bm:Int):Tree Bool:=
.br (decide (d0.ae>64)) (.lf false) (let T1:Tree (Bool):=.br (d0.F6==0) (.br (d0.C5==0) (.br (d0.C6==0) (.lf (decide (d0.C7=[]))) (.lf false)) (.lf false)) (.lf false);.br (d0.C9==0) T1 (.br (d0.C9==2) T1 (.br (d0.C9==3) T1 (.br (d0.C9==1) (.lv (SZ d0) λ(x0:Bool)=>.br x0 (.br (decide (d0.C5<d0.ae)) (.lf (decide (wrap i64 d0.C6<bm))) (.lf false)) (.lf false)) (.lf false)))))
def ra d0 bm:=(Ez d0 bm).m
def Ztk:bd:=mS 153 [] true [.agg fv.sig,.one (.int .i64)] [] (λa r=>Ez (fv.of (aC a 0)) (ar a 1)) (λX=>.bool X) (λX=>[])
theorem Zog:bn pG Ztk:=oS (.cons Qy8 (.nil)) Tryz.func153 Tryz.call153 [] [] 2
def Qs(n:gz)(bm:Int):Tree Bool:=
let T1:Tree (Bool):=let T2:Tree (Bool):=.br n.C4 (.br (decide (n.F8>=1)) (.lf (decide (n.F8<=128))) (.lf false)) (.lf (n.F8==0));.br n.D2 (.br (decide (wrap i64 n.D4>=bm)) (.lf false) T2) (.br (n.D4 !=0) (.lf false) T2);.br n.D2 (.br n.C4 (.lf false) T1) T1
def wh n bm:=(Qs n bm).m
def zD:bd:=mS 154 [] true [.agg gz.sig,.one (.int .i64)] [] (λa r=>Qs (gz.of (aC a 0)) (ar a 1)) (λX=>.bool X) (λX=>[])
theorem Zsk:bn pG zD:=oS (.nil) Tryz.func154 Tryz.call154 [] [] 2
def DC(x:Int):Tree Int:=
let E1:=(↑(dF (cP (cP JS RN) (cP Ea Ea))):Int);.br (decide (x>=65536)) (.br (decide (bc u32 x (16:Int)>=(256:Int))) (.cn (decide (0<=wrap u8 (bc u32 (bc u32 x 16) 8)/\wrap u8 (bc u32 (bc u32 x 16) 8)<E1)) (.lf (wrap i64 (wrap i64 ((16:Int)+(8:Int))+wrap i64 (↑(iA (aV ((0:UInt8)::(Vr++RN++(Ea++Ea))) (dA (wrap u8 (bc u32 (bc u32 x 16) 8))) (0:UInt8))):Int))))) (.cn (decide (0<=wrap u8 (bc u32 x 16)/\wrap u8 (bc u32 x 16)<E1)) (.lf (wrap i64 (16+wrap i64 (↑(iA (aV ((0:UInt8)::(Vr++RN++(Ea++Ea))) (dA (wrap u8 (bc u32 x 16))) (0:UInt8))):Int)))))) (.br (decide (x>=256)) (.cn (decide (0<=wrap u8 (bc u32 x 8)/\wrap u8 (bc u32 x 8)<E1)) (.lf (wrap i64 (wrap i64 ((0:Int)+(8:Int))+wrap i64 (↑(iA (aV ((0:UInt8)::(Vr++RN++(Ea++Ea))) (dA (wrap u8 (bc u32 x 8))) (0:UInt8))):Int))))) (.cn (decide (0<=wrap u8 x/\wrap u8 x<E1)) (.lf (wrap i64 (0+wrap i64 (↑(iA (aV ((0:UInt8)::(Vr++RN++(Ea++Ea))) (dA (wrap u8 x)) (0:UInt8))):Int))))))
def wj x:=(DC x).m
abbrev Qkd x:=(DC x).p
def Qzt:bd:=mT 209 [] true [.one (.int .u32)] [] (λa r=>DC (ar a 0)) (λX=>.int .i64 X) (λX=>[])
theorem Qx0:bn pG Qzt:=oT (.nil) Tryz.func209 Tryz.call209 [] [] 2
def Io(b:gm)(bm:Int):Tree Bool:=
.an (Qkd b.D0) (.lv (wj b.D0) λ(x0:Int)=>.lf (decide (x0<=if 0>bm then 0 else bm)))
def AR b bm:=(Io b bm).m
abbrev Qjp b bm:=(Io b bm).p
def Zgu:bd:=mT 155 [] true [.agg gm.sig,.one (.int .i64)] [] (λa r=>Io (gm.of (aC a 0)) (ar a 1)) (λX=>.bool X) (λX=>[])
theorem Zb3:bn pG Zgu:=oT (.cons Qx0 (.nil)) Tryz.func155 Tryz.call155 [] [] 2
def Gu(m:bg):Tree Bool:=
.lv (jU m.Mem) λ(x0:Int)=>.lv (AP m.B3) λ(x1:Bool)=>.br x1 (.lv (AQ m.B9) λ(x2:Bool)=>.br x2 (.lv (ra m.B5 x0) λ(x3:Bool)=>.br x3 (.lv (wh m.D1 x0) λ(x4:Bool)=>.br x4 (.an (Qjp m.A6 x0) (.lv (AR m.A6 x0) λ(x5:Bool)=>.lf x5)) (.lf false)) (.lf false)) (.lf false)) (.lf false)
def wg m:=(Gu m).m
abbrev Vl m:=(Gu m).p
def Qum:bd:=mT 115 [] true [.agg bg.sig] [] (λa r=>Gu (bg.of (aC a 0))) (λX=>.bool X) (λX=>[])
theorem Qt5:bn pG Qum:=oT (.cons Q2 (.cons Z9s (.cons Zj3 (.cons Zog (.cons Zsk (.cons Zb3 (.nil))))))) Tryz.func115 Tryz.call115 [] [] 2
def JE(m:bg):Tree Bool:=
.lv (jU m.Mem) λ(x0:Int)=>.br (x0==0) (.lf false) (.br (m.B2.X.a0 !=0) (.lf false) (.br (decide (m.B2.C3.a0>31)) (.lf false) (.br (decide (m.B2.C3.a7>31)) (.lf false) (.br (decide (m.B2.C3.a6>255)) (.lf false) (.br (cZ m.B2.C3.a1 (4:Int) !=(0:Int)) (.lf false) (.br (decide (m.B7>1152921504606846976)) (.lf false) (.br m.B4 (.br m.B6 (.lf false) (.an (Vl m) (.lv (wg m) λ(x1:Bool)=>.lf x1))) (.an (Vl m) (.lv (wg m) λ(x2:Bool)=>.lf x2)))))))))
def AS m:=(JE m).m
abbrev Vk m:=(JE m).p
def Zg2:bd:=mT 68 [] true [.agg bg.sig] [] (λa r=>JE (bg.of (aC a 0))) (λX=>.bool X) (λX=>[])
theorem Quw:bn pG Zg2:=oT (.cons Q2 (.cons Qt5 (.nil))) Tryz.func68 Tryz.call68 [] [] 2
def Qsu(t:iV):Tree Bool:=
.lf t.D9
def XR t:=(Qsu t).m
def Z4z:bd:=mS 266 [] true [.agg iV.sig] [] (λa r=>Qsu (iV.of (aC a 0))) (λX=>.bool X) (λX=>[])
theorem Z3z:bn pG Z4z:=oS (.nil) Tryz.func266 Tryz.call266 [] [] 2
def Qnv(c:iH):Tree Bool:=
.lf (!decide (c.E0=[]))
def Tt c:=(Qnv c).m
def Z0u:bd:=mS 267 [] true [.agg iH.sig] [] (λa r=>Qnv (iH.of (aC a 0))) (λX=>.bool X) (λX=>[])
theorem Qyj:bn pG Z0u:=oS (.nil) Tryz.func267 Tryz.call267 [] [] 2
def WZ(d0:fv):Tree Bool:=
.br (d0.C9==2) (.lf true) (.lf (d0.C9==3))
def KK d0:=(WZ d0).m
def Z99:bd:=mS 251 [] true [.agg fv.sig] [] (λa r=>WZ (fv.of (aC a 0))) (λX=>.bool X) (λX=>[])
theorem Qt0:bn pG Z99:=oS (.nil) Tryz.func251 Tryz.call251 [] [] 2
def Qwp(n:gz):Tree Bool:=
.lf n.C4
def XS n:=(Qwp n).m
def Zh9:bd:=mS 268 [] true [.agg gz.sig] [] (λa r=>Qwp (gz.of (aC a 0))) (λX=>.bool X) (λX=>[])
theorem Z9j:bn pG Zh9:=oS (.nil) Tryz.func268 Tryz.call268 [] [] 2
def Rh(x:Int):Tree Int:=
let E1:=(↑(dF (cP (cP JT Eb) (cP Eb RO))):Int);.cn (decide (0<=bc u32 x 24/\bc u32 x 24<E1)) (.cn (decide (0<=bb u32 (bc u32 x 16) 255/\bb u32 (bc u32 x 16) 255<E1)) (.cn (decide (0<=bb u32 (bc u32 x 8) 255/\bb u32 (bc u32 x 8) 255<E1)) (.cn (decide (0<=bb u32 x 255/\bb u32 x 255<E1)) (.lf (wrap i64 (wrap u8 (wrap u8 (wrap u8 ((↑(iA (aV ((0:UInt8)::(Zq++Eb++(Eb++RO))) (dA (bc u32 x 24)) (0:UInt8))):Int)+(↑(iA (aV ((0:UInt8)::(Zq++Eb++(Eb++RO))) (dA (bb u32 (bc u32 x 16) 255)) (0:UInt8))):Int))+(↑(iA (aV ((0:UInt8)::(Zq++Eb++(Eb++RO))) (dA (bb u32 (bc u32 x 8) 255)) (0:UInt8))):Int))+(↑(iA (aV ((0:UInt8)::(Zq++Eb++(Eb++RO))) (dA (bb u32 x 255)) (0:UInt8))):Int))))))))
def XL x:=(Rh x).m
abbrev Qc0 x:=(Rh x).p
def Qoc:bd:=mT 279 [] true [.one (.int .u32)] [] (λa r=>Rh (ar a 0)) (λX=>.int .i64 X) (λX=>[])
theorem Qo4:bn pG Qoc:=oT (.nil) Tryz.func279 Tryz.call279 [] [] 2
def Ri(b:gm):Tree Int:=
.an (Qc0 b.D0) (.lv (XL b.D0) λ(x0:Int)=>.lf x0)
def Tv b:=(Ri b).m
abbrev Qfl b:=(Ri b).p
def Z92:bd:=mT 249 [] true [.agg gm.sig] [] (λa r=>Ri (gm.of (aC a 0))) (λX=>.int .i64 X) (λX=>[])
theorem Qq1:bn pG Z92:=oT (.cons Qo4 (.nil)) Tryz.func249 Tryz.call249 [] [] 2
def Lo(b:gm):Tree Bool:=
.an (Qfl b) (.lv (Tv b) λ(x0:Int)=>.lf (wrap u32 x0 !=b.A2))
def Ol b:=(Lo b).m
abbrev Qk0 b:=(Lo b).p
def Qzx:bd:=mT 269 [] true [.agg gm.sig] [] (λa r=>Lo (gm.of (aC a 0))) (λX=>.bool X) (λX=>[])
theorem Qwo:bn pG Qzx:=oT (.cons Qq1 (.nil)) Tryz.func269 Tryz.call269 [] [] 2
def Qk(m:bg)(z:(Int)×(Int)):Nat:=(5-z.2).toNat
def Lu(m:bg):Tree Int:=
.lv (XR m.B9) λ(x0:Bool)=>.lv (Tt m.B3) λ(x1:Bool)=>.lv (KK m.B5) λ(x2:Bool)=>.lv (XS m.D1) λ(x3:Bool)=>.an (Qk0 m.A6) (.lv (Ol m.A6) λ(x4:Bool)=>.lp inferInstance (Qk m (0,0)+1) ((rE (0:Int)/\(rE (x0:Bool)/\rE (x1:Bool)/\rE (x2:Bool)/\rE (x3:Bool)/\rE (x4:Bool)/\True)/\rE (0:Int)/\True)/\True) (0,0) λ(v0:Int×Int)=>.br (decide (v0.2<5)) (.cn (bX 1 1&&(bX 5 5&&decide (0<=v0.2/\v0.2<(↑5:Int)))) (.br (aV [x0,x1,x2,x3,x4] v0.2.toNat false) (.cn (decide (0<=v0.2)) (.nx ((rE ((iM u32 v0.1 (eu u32 1 v0.2)):Int)/\(rE (x0:Bool)/\rE (x1:Bool)/\rE (x2:Bool)/\rE (x3:Bool)/\rE (x4:Bool)/\True)/\rE ((wrap i64 (v0.2+1)):Int)/\True)/\True) (Sum.inl (iM u32 v0.1 (eu u32 1 v0.2),wrap i64 (v0.2+1))))) (.nx ((rE v0.1/\(rE (x0:Bool)/\rE (x1:Bool)/\rE (x2:Bool)/\rE (x3:Bool)/\rE (x4:Bool)/\True)/\rE ((wrap i64 (v0.2+1)):Int)/\True)/\True) (Sum.inl (v0.1,wrap i64 (v0.2+1)))))) (.lf (Sum.inr v0.1)))
def TA m:=(Lu m).m
abbrev Qo3 m:=(Lu m).p
def Z3u:cg:={
 α:=(Int)×(Int)
 F:=λst a=>([(4,.int u32 a.1),(23,(lk st 23)),(24,.int i64 a.2)],[])
 a0:=λst=>((lk st 4).toInt,(lk st 24).toInt)
 jb:=λst=>[]++[]}
def Qwk:List (Nat×cg):=[(4,Z3u)]
def Z68:bd:=mT 234 [] true [.agg bg.sig] [] (λa r=>Lu (bg.of (aC a 0))) (λX=>.int .u32 X) (λX=>[])
theorem Z2v:bn pG Z68:=oT (.cons Z3z (.cons Qyj (.cons Qt0 (.cons Z9j (.cons Qwo (.nil)))))) Tryz.func234 Tryz.call234 [] Qwk 3
def Lw(m:bg):Tree Int:=
.an (Qo3 m) (.lv (TA m) λ(x0:Int)=>.lf (bb u32 x0 m.B2.C3.a7))
def Lv m:=(Lw m).m
abbrev Qci m:=(Lw m).p
def Qzd:bd:=mT 186 [] true [.agg bg.sig] [] (λa r=>Lw (bg.of (aC a 0))) (λX=>.int .u32 X) (λX=>[])
theorem Qm7:bn pG Qzd:=oT (.cons Z2v (.nil)) Tryz.func186 Tryz.call186 [] [] 2
def Ly(m:bg):Tree Bool:=
.br m.B4 (.an (Qci m) (.lv (Lv m) λ(x0:Int)=>.lf (x0==0))) (.lf false)
def S7 m:=(Ly m).m
abbrev Qq9 m:=(Ly m).p
def Zav:bd:=mT 185 [] true [.agg bg.sig] [] (λa r=>Ly (bg.of (aC a 0))) (λX=>.bool X) (λX=>[])
theorem Z6c:bn pG Zav:=oT (.cons Qm7 (.nil)) Tryz.func185 Tryz.call185 [] [] 2

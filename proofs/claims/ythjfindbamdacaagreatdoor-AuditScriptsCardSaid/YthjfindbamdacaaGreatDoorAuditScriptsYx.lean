import Derived.Test.YthjfindbamdacaaGreatDoorAuditScriptsBase
open Int renaming tmod->dE,tdiv->eU,toNat->dF
open Nat renaming beq->bT,blt->bJ
open List renaming set->dG,getD->aK,length->dK,append->cR
open UInt8 renaming toNat->eW
set_option maxRecDepth 100000
set_option linter.all false
namespace Go.Proofs.YthjfindbamdacaaGreatDoor
open Go Go.GD Go.IntKind
noncomputable section
def jD(s:List Int):(List Int):=
s
def mL(s:List Int):Prop:=
s.length<=35184372088832
def Q3l(s:List Int):List D:=[.sl 1 (.ints .u32 s) false]
def VE(s:List Int):List Row:=[]
def MU(X:List Int):D:=.all 0
def MV(X:List Int):List Row:=[⟨false,23,1,.ints .u32 X⟩]
def Qdv:List oZ:=[.row 23 1 (.ints .u32)]
def Q74:List PT:=[.one (.ints .u32)]
def Q7:List RT:=[]
def Qew(args:List D)(rows:List Row):(List Int):=jD (eh .u32 args 0)
def Qek(args:List D)(rows:List Row):Prop:=mL (eh .u32 args 0)
def Qgd:bc:=mP 59 [] true Q74 Q7 Qek Qew MU MV
def Q4o(s:List Int)(DB:(List Int)->Prop):Prop:=
(s=[]->DB [])/\cr (decide ((4:Nat)*((0:Nat)+s.length)<=(140737488355328:Nat))) (DB s)
set_option maxRecDepth 100000 in
theorem Qfq(s:List Int)(Q:D->List Row->Prop):(nz kN [] (LL kN [] Tryz.f59.ntmps 0 [] 2) Tryz.f59 (Q3l s) (VE s) λd R=>sd (VE s).length Qdv d R Q)=Q4o s (λX=>Q (MU X) (MV X)):=by kernel_rfl
theorem Qdn(s:List Int)(DB:(List Int)->Prop)(hw:mL s)(h:DB (jD s)):
Q4o s DB:=by
 delta Q4o
 refine⟨λe=>by rw[e]at h;exact h,?_⟩
 rw[da]
 refine⟨dY ?_,h⟩
 have:s.length<=35184372088832:=hw
 omega
set_option maxRecDepth 100000 in
theorem Qd6(s:List Int)(hw:mL s):j9 pG 59 (Q3l s) (VE s) (MU (jD s)) (MV (jD s)):=
 have hG:jT pG []:=.nil
 u5.calls drawn mQ hG Tryz.func59 (rf:=none) (λ_ _=>trivial) (wy drawn mQ hG (.inl rfl) 2 (h8:=[])) (u5.of (Qfq s _) (Qdn s (λX=>MU X=MU (jD s)/\MV X=MV (jD s)) hw ⟨rfl,rfl⟩))
set_option maxRecDepth 100000 in
theorem Qdd(args:List D)(rows:List Row):Qe Q74 args 0=Q3l (eh .u32 args 0):=by kernel_rfl
set_option maxRecDepth 100000 in
theorem Qd5(args:List D)(rows:List Row):lr Q7 rows 0=VE (eh .u32 args 0):=by kernel_rfl
set_option maxRecDepth 100000 in
theorem Qff(X:List Int):(wa (MU X)&&jI (MV X))=true:=by kernel_rfl
theorem Ew:bj pG Qgd:=MR Tryz.call59 (λargs rows hp=>by rw[Qdd args rows,Qd5 args rows];exact Qd6 (eh .u32 args 0) hp) (λ_ X=>Qff X)
def Lb(m:List Int):Tree Int:=
.br (dE (m.length:Int) (32:Int) !=(0:Int)) (.lf 0) (.br (decide ((m.length:Int)>(1024:Int))) (.lf 0) (.lf (wrap i64 (eU (m.length:Int) 32))))
def lT m:=(Lb m).m
def Z61:bc:=mS 14 [] true [.one (.ints .u32)] [] (λa r=>Lb (eh .u32 a 0)) (λX=>.int .i64 X) (λX=>[])
theorem H3:bj pG Z61:=oS (.nil) Tryz.func14 Tryz.call14 [] [] 2
def Jc(m:List Int)(addr size:Int):Tree Bool:=
let T1:Tree (Bool):=.cn (decide (wrap u32 size≠0)) (.br (dE addr (wrap u32 size) !=0) (.lf false) (.lv (lT m) λ(x0:Int)=>.lf (decide (wrap u64 (wrap u64 addr+wrap u64 size)<=wrap u64 (wrap u64 x0*128)))));.br (size !=1) (.br (size !=4) (.lf false) T1) T1
def XG m addr size:=(Jc m addr size).m
abbrev Qdy m addr size:=(Jc m addr size).p
def Z2d:bc:=mT 247 [] true [.one (.ints .u32),.one (.int .u32),.one (.int .i64)] [] (λa r=>Jc (eh .u32 a 0) (aq a 1) (aq a 2)) (λX=>.bool X) (λX=>[])
theorem Qmz:bj pG Z2d:=oT (.cons H3 (.nil)) Tryz.func247 Tryz.call247 [] [] 2
def Ro(n:Int):Tree Int:=
.br (decide (n>=32)) (.lf 4294967295) (.cn (decide (0<=wrap u64 n)) (.lf (wrap u32 (eg u32 1 (wrap u64 n)-1))))
def Z5m n:=(Ro n).m
abbrev Qlv n:=(Ro n).p
def Zjh:bc:=mT 248 [] true [.one (.int .i64)] [] (λa r=>Ro (aq a 0)) (λX=>.int .u32 X) (λX=>[])
theorem Qze:bj pG Zjh:=oT (.nil) Tryz.func248 Tryz.call248 [] [] 2
def Rp(w low n:Int):Tree Int:=
.br (decide (low<0)) (.lf 0) (.br (decide (low>31)) (.lf 0) (.br (decide (n<1)) (.lf 0) (.cn (decide (0<=wrap u64 low)) (.an (Qlv n) (.lv (Z5m n) λ(x0:Int)=>.lf (bf u32 (bg u32 w (wrap u64 low)) x0))))))
def tJ w low n:=(Rp w low n).m
abbrev MW w low n:=(Rp w low n).p
def Zg6:bc:=mT 179 [] true [.one (.int .u32),.one (.int .i64),.one (.int .i64)] [] (λa r=>Rp (aq a 0) (aq a 1) (aq a 2)) (λX=>.int .u32 X) (λX=>[])
theorem Qm7:bj pG Zg6:=oT (.cons Qze (.nil)) Tryz.func179 Tryz.call179 [] [] 2
def Rq(w low n v:Int):Tree Int:=
.br (decide (low<0)) (.lf w) (.br (decide (low>31)) (.lf w) (.br (decide (n<1)) (.lf w) (.an (Qlv n) (.lv (Z5m n) λ(x0:Int)=>.cn (decide (0<=wrap u64 low)) (.cn (decide (0<=wrap u64 low)) (.lf (ir u32 (nS u32 w (eg u32 x0 (wrap u64 low))) (eg u32 (bf u32 v x0) (wrap u64 low)))))))))
def Lz w low n v:=(Rq w low n v).m
abbrev Qku w low n v:=(Rq w low n v).p
def Z4k:bc:=mT 250 [] true [.one (.int .u32),.one (.int .i64),.one (.int .i64),.one (.int .u32)] [] (λa r=>Rq (aq a 0) (aq a 1) (aq a 2) (aq a 3)) (λX=>.int .u32 X) (λX=>[])
theorem Z08:bj pG Z4k:=oT (.cons Qze (.nil)) Tryz.func250 Tryz.call250 [] [] 2
def Q8(m:List Int)(addr size v:Int):Tree ((List Int)×Bool):=
.an (mL m) (.lv (jD m) λ(x0:List Int)=>.an (Qdy m addr size) (.lv (XG m addr size) λ(x1:Bool)=>.br (!x1) (.lf (x0,false)) (let E1:=bT 1 1&&bJ 0 1&&decide (0<=wrap u32 (eU addr 4)/\wrap u32 (eU addr 4)<(x0.length:Int));let E2:=dF (wrap u32 (eU addr 4));.br (size==1) (.cn E1 (let E3:=wrap i64 (wrap i64 (dE addr 4)*8);.an (Qku (x0.getD E2 0) E3 8 v) (.lv (Lz (x0.getD E2 0) E3 8 v) λ(x2:Int)=>.cn E1 (.lf (dG x0 E2 x2,true))))) (.cn E1 (.lf (dG x0 E2 v,true))))))
def LB m addr size v:=(Q8 m addr size v).m
abbrev Qax m addr size v:=(Q8 m addr size v).p
def Z7m:bc:=mT 186 [] true [.one (.ints .u32),.one (.int .u32),.one (.int .i64),.one (.int .u32)] [] (λa r=>Q8 (eh .u32 a 0) (aq a 1) (aq a 2) (aq a 3)) (λX=>.dt [.all 0,.bool (X.2)]) (λX=>[⟨false,23,1,.ints .u32 (X.1)⟩])
theorem Qp7:bj pG Z7m:=oT (.cons Ew (.cons Qmz (.cons Z08 (.nil)))) Tryz.func186 Tryz.call186 [.row 23 1 (.ints .u32)] [] 2
def Zeq(op:Int):Tree (Am×Bool):=
.br (op==1) (.lf ({a:=true,b:=true,c:=true,low:=0,D7:=0},true)) (.br (op==2) (.lf ({a:=true,b:=true,c:=true,low:=0,D7:=0},true)) (.br (op==3) (.lf ({a:=true,b:=true,c:=true,low:=0,D7:=0},true)) (.br (op==4) (.lf ({a:=true,b:=true,c:=true,low:=0,D7:=0},true)) (.br (op==5) (.lf ({a:=true,b:=true,c:=true,low:=0,D7:=0},true)) (.br (op==6) (.lf ({a:=true,b:=true,c:=true,low:=0,D7:=0},true)) (.br (op==7) (.lf ({a:=true,b:=true,c:=true,low:=0,D7:=0},true)) (.br (op==8) (.lf ({a:=true,b:=true,c:=true,low:=0,D7:=0},true)) (.br (op==9) (.lf ({a:=true,b:=true,c:=true,low:=0,D7:=0},true)) (.br (op==10) (.lf ({a:=true,b:=true,c:=true,low:=0,D7:=0},true)) (.br (op==11) (.lf ({a:=true,b:=true,c:=true,low:=0,D7:=0},true)) (.br (op==12) (.lf ({a:=true,b:=true,c:=true,low:=0,D7:=0},true)) (.br (op==13) (.lf ({a:=true,b:=true,c:=true,low:=0,D7:=0},true)) (.br (op==16) (.lf ({a:=true,b:=true,c:=false,low:=(-32768),D7:=32767},true)) (.br (op==23) (.lf ({a:=true,b:=true,c:=false,low:=(-32768),D7:=32767},true)) (.br (op==32) (.lf ({a:=true,b:=true,c:=false,low:=(-32768),D7:=32767},true)) (.br (op==33) (.lf ({a:=true,b:=true,c:=false,low:=(-32768),D7:=32767},true)) (.br (op==34) (.lf ({a:=true,b:=true,c:=false,low:=(-32768),D7:=32767},true)) (.br (op==35) (.lf ({a:=true,b:=true,c:=false,low:=(-32768),D7:=32767},true)) (.br (op==36) (.lf ({a:=true,b:=true,c:=false,low:=(-32768),D7:=32767},true)) (.br (op==40) (.lf ({a:=true,b:=true,c:=false,low:=(-32768),D7:=32767},true)) (.br (op==41) (.lf ({a:=true,b:=true,c:=false,low:=(-32768),D7:=32767},true)) (.br (op==42) (.lf ({a:=true,b:=true,c:=false,low:=(-32768),D7:=32767},true)) (.br (op==43) (.lf ({a:=true,b:=true,c:=false,low:=(-32768),D7:=32767},true)) (.br (op==44) (.lf ({a:=true,b:=true,c:=false,low:=(-32768),D7:=32767},true)) (.br (op==45) (.lf ({a:=true,b:=true,c:=false,low:=(-32768),D7:=32767},true)) (.br (op==49) (.lf ({a:=true,b:=true,c:=false,low:=(-32768),D7:=32767},true)) (.br (op==17) (.lf ({a:=true,b:=true,c:=false,low:=0,D7:=65535},true)) (.br (op==18) (.lf ({a:=true,b:=true,c:=false,low:=0,D7:=65535},true)) (.br (op==19) (.lf ({a:=true,b:=true,c:=false,low:=0,D7:=65535},true)) (.br (op==20) (.lf ({a:=true,b:=true,c:=false,low:=0,D7:=31},true)) (.br (op==21) (.lf ({a:=true,b:=true,c:=false,low:=0,D7:=31},true)) (.br (op==22) (.lf ({a:=true,b:=true,c:=false,low:=0,D7:=31},true)) (.br (op==24) (.lf ({a:=true,b:=false,c:=false,low:=0,D7:=65535},true)) (.br (op==48) (.lf ({a:=true,b:=false,c:=false,low:=(-32768),D7:=32767},true)) (.br (op==58) (.lf ({a:=true,b:=false,c:=false,low:=0,D7:=7},true)) (.br (op==59) (.lf ({a:=true,b:=false,c:=false,low:=0,D7:=7},true)) (.br (op==60) (.lf ({a:=true,b:=false,c:=false,low:=0,D7:=11},true)) (.br (op==61) (.lf ({a:=true,b:=false,c:=false,low:=0,D7:=11},true)) (.br (op==56) (.lf ({a:=false,b:=false,c:=false,low:=0,D7:=0},true)) (.br (op==57) (.lf ({a:=false,b:=false,c:=false,low:=0,D7:=0},true)) (.br (op==62) (.lf ({a:=false,b:=false,c:=false,low:=0,D7:=0},true)) (.br (op==63) (.lf ({a:=false,b:=false,c:=false,low:=0,D7:=0},true)) (.br (op==64) (.lf ({a:=false,b:=false,c:=false,low:=0,D7:=0},true)) (.lf ({a:=false,b:=false,c:=false,low:=0,D7:=0},false)))))))))))))))))))))))))))))))))))))))))))))
def Tv op:=(Zeq op).m
def vC:bc:=mS 180 [] true [.one (.int .i64)] [] (λa r=>Zeq (aq a 0)) (λX=>.dt [.agg (Am.cells (X.1)),.bool (X.2)]) (λX=>[])
theorem Za1:bj pG vC:=oS (.nil) Tryz.func180 Tryz.call180 [] [] 2
def Rr(x n:Int):Tree Int:=
.br (decide (n<1)) (.lf 0) (.br (decide (n>=32)) (.lf x) (let E1:=decide (0<=wrap u64 (wrap i64 (32-n)));.cn E1 (.cn E1 (.lf (wrap u32 (bg i32 (wrap i32 (eg u32 x (wrap u64 (wrap i64 (32-n))))) (wrap u64 (wrap i64 (32-n)))))))))
def DY x n:=(Rr x n).m
abbrev Qb6 x n:=(Rr x n).p
def Qxu:bc:=mT 181 [] true [.one (.int .u32),.one (.int .i64)] [] (λa r=>Rr (aq a 0) (aq a 1)) (λX=>.int .u32 X) (λX=>[])
theorem Qj8:bj pG Qxu:=oT (.nil) Tryz.func181 Tryz.call181 [] [] 2
def Tw(r:Int)(used:Bool):Tree Bool:=
.br used (.br (decide (r>=0)) (.lf (decide (r<=15))) (.lf false)) (.lf (r==0))
def Lu r used:=(Tw r used).m
def Z7j:bc:=mS 249 [] true [.one (.int .i64),.one (.bool)] [] (λa r=>Tw (aq a 0) (uY a 1)) (λX=>.bool X) (λX=>[])
theorem Z2i:bj pG Z7j:=oS (.nil) Tryz.func249 Tryz.call249 [] [] 2
def Ou(i:gu):Tree Bool:=
.lv (Tv i.Op) λ(x0:Am×Bool)=>.br x0.2 (.lv (Lu i.A x0.1.a) λ(x1:Bool)=>.br x1 (.lv (Lu i.B x0.1.b) λ(x2:Bool)=>.br x2 (.lv (Lu i.C x0.1.c) λ(x3:Bool)=>.br x3 (.br (decide (i.bn>=x0.1.low)) (.lf (decide (i.bn<=x0.1.D7))) (.lf false)) (.lf false)) (.lf false)) (.lf false)) (.lf false)
def I8 i:=(Ou i).m
def Zks:bc:=mS 182 [] true [.agg gu.sig] [] (λa r=>Ou (gu.of (aC a 0))) (λX=>.bool X) (λX=>[])
theorem Zg7:bj pG Zks:=oS (.cons Za1 (.cons Z2i (.nil))) Tryz.func182 Tryz.call182 [] [] 2
def Lw(w:Int):Tree (gu×Bool):=
.an (MW w 24 8) (.lv (tJ w 24 8) λ(x0:Int)=>.an (MW w 20 4) (.lv (tJ w 20 4) λ(x1:Int)=>.an (MW w 16 4) (.lv (tJ w 16 4) λ(x2:Int)=>.lv (Tv (wrap i64 x0)) λ(x3:Am×Bool)=>let E1:=({Op:=0,A:=0,B:=0,C:=0,bn:=0}:gu);.br (!x3.2) (.lf (E1,false)) (.an (MW w 0 16) (.lv (tJ w 0 16) λ(x4:Int)=>.br x3.1.c (let E2:=({Op:=wrap i64 x0,A:=wrap i64 x1,B:=wrap i64 x2,C:=wrap i64 x4,bn:=0}:gu);.lv (I8 E2) λ(x5:Bool)=>.br (!x5) (.lf (E1,false)) (.lf (E2,true))) (.br (decide (x3.1.low<0)) (.an (Qb6 x4 16) (.lv (DY x4 16) λ(x6:Int)=>let E3:=({Op:=wrap i64 x0,A:=wrap i64 x1,B:=wrap i64 x2,C:=0,bn:=wrap i32 x6}:gu);.lv (I8 E3) λ(x7:Bool)=>.br (!x7) (.lf (E1,false)) (.lf (E3,true)))) (let E4:=({Op:=wrap i64 x0,A:=wrap i64 x1,B:=wrap i64 x2,C:=0,bn:=wrap i32 x4}:gu);.lv (I8 E4) λ(x8:Bool)=>.br (!x8) (.lf (E1,false)) (.lf (E4,true)))))))))
def Ow w:=(Lw w).m
abbrev Qrq w:=(Lw w).p
def Zie:bc:=mT 112 [] true [.one (.int .u32)] [] (λa r=>Lw (aq a 0)) (λX=>.dt [.agg (gu.cells (X.1)),.bool (X.2)]) (λX=>[])
theorem Zal:bj pG Zie:=oT (.cons Qm7 (.cons Za1 (.cons Qj8 (.cons Zg7 (.nil))))) Tryz.func112 Tryz.call112 [] [] 2
def LJ(a b:Int):Tree (Int×Int):=
.br (b==0) (.lf (4294967295,a)) (let T1:Tree ((Int×Int)):=.cn (decide (wrap i32 b≠0)) (.cn (decide (wrap i32 b≠0)) (.lf (wrap u32 (wrap i32 (eU (wrap i32 a) (wrap i32 b))),wrap u32 (dE (wrap i32 a) (wrap i32 b)))));.br (a==2147483648) (.br (b==4294967295) (.lf (a,0)) T1) T1)
def LH a b:=(LJ a b).m
abbrev Qgy a b:=(LJ a b).p
def Zd8:bc:=mT 251 [] true [.one (.int .u32),.one (.int .u32)] [] (λa r=>LJ (aq a 0) (aq a 1)) (λX=>.dt [.int .u32 (X.1),.int .u32 (X.2)]) (λX=>[])
theorem Z79:bj pG Zd8:=oT (.nil) Tryz.func251 Tryz.call251 [] [] 2
def Z5(b:Bool):Tree Int:=
.br b (.lf 1) (.lf 0)
def Vq b:=(Z5 b).m
def Zl2:bc:=mS 252 [] true [.one (.bool)] [] (λa r=>Z5 (uY a 0)) (λX=>.int .u32 X) (λX=>[])
theorem Zga:bj pG Zl2:=oS (.nil) Tryz.func252 Tryz.call252 [] [] 2
def Ru(op a b:Int):Tree (Int×Bool):=
.br (op==2) (.lf (wrap u32 (a+wrap u32 (0-b)),true)) (.br (op==1) (.lf (wrap u32 (a+b),true)) (.br (op==16) (.lf (wrap u32 (a+b),true)) (.br (op==3) (.lf (bf u32 a b,true)) (.br (op==17) (.lf (bf u32 a b,true)) (.br (op==4) (.lf (ir u32 a b,true)) (.br (op==18) (.lf (ir u32 a b,true)) (.br (op==5) (.lf (nj u32 a b,true)) (.br (op==19) (.lf (nj u32 a b,true)) (.br (op==6) (.lf (eg u32 a (bf u32 b 31),true)) (.br (op==20) (.lf (eg u32 a (bf u32 b 31),true)) (.br (op==7) (.lf (bg u32 a (bf u32 b 31),true)) (.br (op==21) (.lf (bg u32 a (bf u32 b 31),true)) (let E1:=(wrap u32 (bg i32 (wrap i32 a) (bf u32 b 31)),true);.br (op==8) (.lf E1) (.br (op==22) (.lf E1) (.br (op==9) (.lf (wrap u32 (a*b),true)) (.br (op==10) (.an (Qgy a b) (.lv (LH a b) λ(x0:Int×Int)=>.lf (x0.1,true))) (.br (op==11) (.an (Qgy a b) (.lv (LH a b) λ(x1:Int×Int)=>.lf (x1.2,true))) (.br (op==12) (.lv (Vq (decide (wrap i32 a<wrap i32 b))) λ(x2:Int)=>.lf (x2,true)) (.br (op==23) (.lv (Vq (decide (wrap i32 a<wrap i32 b))) λ(x3:Int)=>.lf (x3,true)) (.br (op==13) (.lv (Vq (decide (a<b))) λ(x4:Int)=>.lf (x4,true)) (.lf (0,false))))))))))))))))))))))
def nL op a b:=(Ru op a b).m
abbrev Qta op a b:=(Ru op a b).p
def qD:bc:=mT 190 [] true [.one (.int .i64),.one (.int .u32),.one (.int .u32)] [] (λa r=>Ru (aq a 0) (aq a 1) (aq a 2)) (λX=>.dt [.int .u32 (X.1),.bool (X.2)]) (λX=>[])
theorem Zqd:bj pG qD:=oT (.cons Z79 (.cons Zga (.nil))) Tryz.func190 Tryz.call190 [] [] 2
end
noncomputable section
def Vp(status DC to:Int):Tree Int:=
.br (bf u32 status DC !=0) (.lf (ir u32 status to)) (.lf (nS u32 status to))
def AH status DC to:=(Vp status DC to).m
def Zpn:bc:=mS 175 [] true [.one (.int .u32),.one (.int .u32),.one (.int .u32)] [] (λa r=>Vp (aq a 0) (aq a 1) (aq a 2)) (λX=>.int .u32 X) (λX=>[])
theorem Z2x:bj pG Zpn:=oS (.nil) Tryz.func175 Tryz.call175 [] [] 2
def OB(c:bh)(oJ bad:Int):Tree bh:=
.lv (AH c.B4.a0 1 8) λ(x0:Int)=>.lv (AH x0 2 16) λ(x1:Int)=>.lf ({X:=c.X,Pc:=c.B4.a1,B4:={a0:=nS u32 (ir u32 x1 1) 2,a1:=c.B4.a1,a2:=c.Pc,a3:=wrap u32 oJ,a4:=bad,a5:=c.B4.a5,a6:=c.B4.a6,a7:=c.B4.a7}})
def rl c oJ bad:=(OB c oJ bad).m
def Zo3:bc:=mS 109 [] true [.agg bh.sig,.one (.int .i64),.one (.int .u32)] [] (λa r=>OB (bh.of (aC a 0)) (aq a 1) (aq a 2)) (λX=>.agg (bh.cells X)) (λX=>[])
theorem R3:bj pG Zo3:=oS (.cons Z2x (.nil)) Tryz.func109 Tryz.call109 [] [] 2
def Qv4(access:Int):Tree (Int×Bool):=
.br (access==1) (.lf (4,true)) (.br (access==2) (.lf (5,true)) (.br (access==3) (.lf (6,true)) (.lf (5,false))))
def Qsh access:=(Qv4 access).m
def Zbe:bc:=mS 245 [] true [.one (.int .i64)] [] (λa r=>Qv4 (aq a 0)) (λX=>.dt [.int .i64 (X.1),.bool (X.2)]) (λX=>[])
theorem Z7h:bj pG Zbe:=oS (.nil) Tryz.func245 Tryz.call245 [] [] 2
def Qzp(c:bh):Tree Bool:=
.lf (bf u32 c.B4.a0 (1:Int) !=(0:Int))
def GZ c:=(Qzp c).m
def Zep:bc:=mS 118 [] true [.agg bh.sig] [] (λa r=>Qzp (bh.of (aC a 0))) (λX=>.bool X) (λX=>[])
theorem Qu8:bj pG Zep:=oS (.nil) Tryz.func118 Tryz.call118 [] [] 2
def Qnc(access:Int):Tree (Int×Bool):=
.br (access==1) (.lf (4,true)) (.br (access==2) (.lf (5,true)) (.br (access==3) (.lf (6,true)) (.lf (5,false))))
def Qk access:=(Qnc access).m
def Z0j:bc:=mS 241 [] true [.one (.int .i64)] [] (λa r=>Qnc (aq a 0)) (λX=>.dt [.int .i64 (X.1),.bool (X.2)]) (λX=>[])
theorem Qxh:bj pG Z0j:=oS (.nil) Tryz.func241 Tryz.call241 [] [] 2
def Qhs(m:List Int)(frame:Int):Tree Bool:=
.lv (lT m) λ(x0:Int)=>.lf (decide (wrap u64 frame<wrap u64 x0))
def Oy m frame:=(Qhs m frame).m
def Z1v:bc:=mS 242 [] true [.one (.ints .u32),.one (.int .u32)] [] (λa r=>Qhs (eh .u32 a 0) (aq a 1)) (λX=>.bool X) (λX=>[])
theorem Z04:bj pG Z1v:=oS (.cons H3 (.nil)) Tryz.func242 Tryz.call242 [] [] 2
def LA(m:List Int)(addr size:Int):Tree (Int×Bool):=
.an (Qdy m addr size) (.lv (XG m addr size) λ(x0:Bool)=>.br (!x0) (.lf (0,false)) (.cn (bT 1 1&&bJ 0 1&&decide (0<=wrap u32 (eU addr 4)/\wrap u32 (eU addr 4)<(m.length:Int))) (let E1:=dF (wrap u32 (eU addr 4));.br (size==1) (let E2:=wrap i64 (wrap i64 (dE addr 4)*8);.an (MW (m.getD E1 0) E2 8) (.lv (tJ (m.getD E1 0) E2 8) λ(x1:Int)=>.lf (x1,true))) (.lf (m.getD E1 0,true)))))
def Cu m addr size:=(LA m addr size).m
abbrev Kb m addr size:=(LA m addr size).p
def Zat:bc:=mT 178 [] true [.one (.ints .u32),.one (.int .u32),.one (.int .i64)] [] (λa r=>LA (eh .u32 a 0) (aq a 1) (aq a 2)) (λX=>.dt [.int .u32 (X.1),.bool (X.2)]) (λX=>[])
theorem R4:bj pG Zat:=oT (.cons Qmz (.cons Qm7 (.nil))) Tryz.func178 Tryz.call178 [] [] 2
def Qmw(BD access:Int):Tree Bool:=
.br (bf u32 BD (1:Int)==(0:Int)) (.lf false) (.br (access==3) (.lf (bf u32 BD (2:Int) !=(0:Int))) (.br (access==1) (.lf (bf u32 BD (4:Int) !=(0:Int))) (.lf true)))
def TE BD access:=(Qmw BD access).m
def Qzy:bc:=mS 243 [] true [.one (.int .u32),.one (.int .i64)] [] (λa r=>Qmw (aq a 0) (aq a 1)) (λX=>.bool X) (λX=>[])
theorem Qwd:bj pG Qzy:=oS (.nil) Tryz.func243 Tryz.call243 [] [] 2
def Rs(BD:Int):Tree Int:=
.an (MW BD 8 8) (.lv (tJ BD 8 8) λ(x0:Int)=>.lf x0)
def XL BD:=(Rs BD).m
abbrev Qd BD:=(Rs BD).p
def Z12:bc:=mT 244 [] true [.one (.int .u32)] [] (λa r=>Rs (aq a 0)) (λX=>.int .u32 X) (λX=>[])
theorem Qwo:bj pG Z12:=oT (.cons Qm7 (.nil)) Tryz.func244 Tryz.call244 [] [] 2
def LD(m:List Int)(root va access:Int):Tree rM:=
.lv (Qk access) λ(x0:Int×Bool)=>let E1:=({Addr:=0,F3:=0,F0:=x0.1}:rM);.br (!x0.2) (.lf (E1)) (.br (decide (va>=4096)) (.lf (E1)) (.lv (Oy m root) λ(x1:Bool)=>.br (!x1) (.lf (E1)) (let E2:=wrap u32 (root*128)+wrap u32 (4*wrap u32 (eU va 128));.an (Kb m (wrap u32 E2) 4) (.lv (Cu m (wrap u32 E2) 4) λ(x2:Int×Bool)=>.br (!x2.2) (.lf (E1)) (.lv (TE x2.1 access) λ(x3:Bool)=>.br (!x3) (.lf (E1)) (.an (Qd x2.1) (.lv (XL x2.1) λ(x4:Int)=>.lv (Oy m x4) λ(x5:Bool)=>.br (!x5) (.lf (E1)) (.an (Qd x2.1) (.lv (XL x2.1) λ(x6:Int)=>.lf ({Addr:=wrap u32 (wrap u32 (x6*128)+dE va 128),F3:=wrap u32 E2,F0:=0}))))))))))
def TC m root va access:=(LD m root va access).m
abbrev Qh m root va access:=(LD m root va access).p
def Zdy:bc:=mT 176 [] true [.one (.ints .u32),.one (.int .u32),.one (.int .u32),.one (.int .i64)] [] (λa r=>LD (eh .u32 a 0) (aq a 1) (aq a 2) (aq a 3)) (λX=>.agg (rM.cells X)) (λX=>[])
theorem Z62:bj pG Zdy:=oT (.cons Qxh (.cons Z04 (.cons R4 (.cons Qwd (.cons Qwo (.nil)))))) Tryz.func176 Tryz.call176 [] [] 2
def LF(m:List Int)(entry access:Int):Tree (List Int):=
.an (Kb m entry 4) (.lv (Cu m entry 4) λ(x0:Int×Bool)=>.br (!x0.2) (.an (mL m) (.lv (jD m) λ(x1:List Int)=>.lf x1)) (.br (access==3) (.an (Qax m entry 4 (ir u32 (ir u32 x0.1 8) 16)) (.lv (LB m entry 4 (ir u32 (ir u32 x0.1 8) 16)) λ(x2:List Int×Bool)=>.lf x2.1)) (.an (Qax m entry 4 (ir u32 x0.1 8)) (.lv (LB m entry 4 (ir u32 x0.1 8)) λ(x3:List Int×Bool)=>.lf x3.1))))
def Oz m entry access:=(LF m entry access).m
abbrev Qfp m entry access:=(LF m entry access).p
def Z5s:bc:=mT 246 [] true [.one (.ints .u32),.one (.int .u32),.one (.int .i64)] [] (λa r=>LF (eh .u32 a 0) (aq a 1) (aq a 2)) (λX=>.all 0) (λX=>[⟨false,23,1,.ints .u32 X⟩])
theorem Z4q:bj pG Z5s:=oT (.cons R4 (.cons Ew (.cons Qp7 (.nil)))) Tryz.func246 Tryz.call246 [.row 23 1 (.ints .u32)] [] 2
def LK(c:bh)(m:List Int)(va size access:Int):Tree (Int×(List Int)×Int):=
.lv (Qsh access) λ(x0:Int×Bool)=>let T3:Tree ((Int×(List Int)×Int)):=.an (mL m) (.lv (jD m) λ(x1:List Int)=>.lf (0,x1,5));.br (!x0.2) T3 (let T1:Tree ((Int×(List Int)×Int)):=.cn (decide (wrap u32 size≠0)) (.br (dE va (wrap u32 size) !=0) (.an (mL m) (.lv (jD m) λ(x3:List Int)=>.lf (0,x3,3))) (.lv (GZ c) λ(x4:Bool)=>let T2:Tree ((Int×(List Int)×Int)):=.an (Kb m va size) (.lv (Cu m va size) λ(x8:Int×Bool)=>.br (!x8.2) (.an (mL m) (.lv (jD m) λ(x9:List Int)=>.lf (0,x9,x0.1))) (.an (mL m) (.lv (jD m) λ(kI:List Int)=>.lf (va,kI,0))));.br (!x4) (.br (bf u32 c.B4.a0 (4:Int) !=(0:Int)) (.an (Qh m c.B4.a6 va access) (.lv (TC m c.B4.a6 va access) λ(x5:rM)=>.br (x5.F0 !=0) (.an (mL m) (.lv (jD m) λ(x6:List Int)=>.lf (0,x6,x5.F0))) (.an (Qfp m x5.F3 access) (.lv (Oz m x5.F3 access) λ(x7:List Int)=>.lf (x5.Addr,x7,0))))) T2) T2));.br (size !=1) (.br (size !=4) T3 T1) T1)
def rW c m va size access:=(LK c m va size access).m
abbrev Qcw c m va size access:=(LK c m va size access).p
def Zdj:bc:=mT 177 [] true [.agg bh.sig,.one (.ints .u32),.one (.int .u32),.one (.int .i64),.one (.int .i64)] [] (λa r=>LK (bh.of (aC a 0)) (eh .u32 a 1) (aq a 2) (aq a 3) (aq a 4)) (λX=>.dt [.int .u32 (X.1),.all 0,.int .i64 (X.2.2)]) (λX=>[⟨false,23,1,.ints .u32 (X.2.1)⟩])
theorem Qk1:bj pG Zdj:=oT (.cons Z7h (.cons Ew (.cons Qu8 (.cons Z62 (.cons Z4q (.cons R4 (.nil))))))) Tryz.func177 Tryz.call177 [.row 23 1 (.ints .u32)] [] 2
def Rt(c:bh)(m:List Int):Tree (Int×(List Int)×Int):=
.an (Qcw c m c.Pc 4 1) (.lv (rW c m c.Pc 4 1) λ(x0:Int×List Int×Int)=>.br (x0.2.2 !=0) (.lf (0,x0.2.1,x0.2.2)) (.an (Kb x0.2.1 x0.1 4) (.lv (Cu x0.2.1 x0.1 4) λ(x1:Int×Bool)=>.lf (x1.1,x0.2.1,0))))
def TP c m:=(Rt c m).m
abbrev Qty c m:=(Rt c m).p
def Zj0:bc:=mT 111 [] true [.agg bh.sig,.one (.ints .u32)] [] (λa r=>Rt (bh.of (aC a 0)) (eh .u32 a 1)) (λX=>.dt [.int .u32 (X.1),.all 0,.int .i64 (X.2.2)]) (λX=>[⟨false,23,1,.ints .u32 (X.2.1)⟩])
theorem Zfv:bj pG Zj0:=oT (.cons Qk1 (.cons R4 (.nil))) Tryz.func111 Tryz.call111 [.row 23 1 (.ints .u32)] [] 2
def Qms(op:Int):Tree Bool:=
.br (op==57) (.lf true) (.br (op==58) (.lf true) (.br (op==59) (.lf true) (.br (op==60) (.lf true) (.br (op==61) (.lf true) (.br (op==62) (.lf true) (.br (op==63) (.lf true) (.br (op==64) (.lf true) (.lf false))))))))
def Ot op:=(Qms op).m
def Z0t:bc:=mS 114 [] true [.one (.int .i64)] [] (λa r=>Qms (aq a 0)) (λX=>.bool X) (λX=>[])
theorem Qwy:bj pG Z0t:=oS (.nil) Tryz.func114 Tryz.call114 [] [] 2
def Qt0(op:Int):Tree Int:=
.br (op==32) (.lf 4) (.br (op==35) (.lf 4) (.lf 1))
def Kc op:=(Qt0 op).m
def Zjw:bc:=mS 184 [] true [.one (.int .i64)] [] (λa r=>Qt0 (aq a 0)) (λX=>.int .i64 X) (λX=>[])
theorem Qzn:bj pG Zjw:=oS (.nil) Tryz.func184 Tryz.call184 [] [] 2
def Fl(c:bh)(register v:Int):Tree bh:=
.br (register !=0) (.cn (bJ 0 1&&decide (0<=register/\register<(↑16:Int))) (.lf ({X:=iU.of 0 (dG (iU.l c.X) register.toNat v),Pc:=c.Pc,B4:=c.B4}))) (.lf c)
def uz c register v:=(Fl c register v).m
abbrev H4 c register v:=(Fl c register v).p
def xD:bc:=mT 185 [] true [.agg bh.sig,.one (.int .i64),.one (.int .u32)] [] (λa r=>Fl (bh.of (aC a 0)) (aq a 1) (aq a 2)) (λX=>.agg (bh.cells X)) (λX=>[])
theorem Z8p:bj pG xD:=oT (.nil) Tryz.func185 Tryz.call185 [] [] 2
def I2(c:bh)(m:List Int)(i:gu):Tree (bh×(List Int)):=
.cn (bJ 0 1&&decide (0<=i.B/\i.B<(↑16:Int))) (.lv (Kc i.Op) λ(x0:Int)=>let E1:=wrap u32 (aK (iU.l c.X) i.B.toNat 0+wrap u32 i.bn);.an (Qcw c m E1 x0 2) (.lv (rW c m E1 x0 2) λ(x1:Int×List Int×Int)=>.br (x1.2.2 !=0) (.lv (rl c x1.2.2 E1) λ(x2:bh)=>.lf (x2,x1.2.1)) (.lv (Kc i.Op) λ(x3:Int)=>.an (Kb x1.2.1 x1.1 x3) (.lv (Cu x1.2.1 x1.1 x3) λ(x4:Int×Bool)=>.br (i.Op==33) (.an (Qb6 x4.1 8) (.lv (DY x4.1 8) λ(x5:Int)=>.an (H4 c i.A x5) (.lv (uz c i.A x5) λ(x6:bh)=>.lf ({X:=x6.X,Pc:=wrap u32 (x6.Pc+4),B4:=x6.B4},x1.2.1)))) (.an (H4 c i.A x4.1) (.lv (uz c i.A x4.1) λ(x7:bh)=>.lf ({X:=x7.X,Pc:=wrap u32 (x7.Pc+4),B4:=x7.B4},x1.2.1)))))))
def tL c m i:=(I2 c m i).m
abbrev Qyy c m i:=(I2 c m i).p
def Zp5:bc:=mT 119 [] true [.agg bh.sig,.one (.ints .u32),.agg gu.sig] [] (λa r=>I2 (bh.of (aC a 0)) (eh .u32 a 1) (gu.of (aC a 2))) (λX=>.dt [.agg (bh.cells (X.1)),.all 0]) (λX=>[⟨false,23,1,.ints .u32 (X.2)⟩])
theorem Zl0:bj pG Zp5:=oT (.cons Qk1 (.cons Qzn (.cons R3 (.cons R4 (.cons Qj8 (.cons Z8p (.nil))))))) Tryz.func119 Tryz.call119 [.row 23 1 (.ints .u32)] [] 2
def I4(c:bh)(m:List Int)(i:gu):Tree (bh×(List Int)):=
.cn (bJ 0 1&&decide (0<=i.B/\i.B<(↑16:Int))) (.lv (Kc i.Op) λ(x0:Int)=>let E1:=wrap u32 (aK (iU.l c.X) i.B.toNat 0+wrap u32 i.bn);.an (Qcw c m E1 x0 3) (.lv (rW c m E1 x0 3) λ(x1:Int×List Int×Int)=>.br (x1.2.2 !=0) (.lv (rl c x1.2.2 E1) λ(x2:bh)=>.lf (x2,x1.2.1)) (.lv (Kc i.Op) λ(x3:Int)=>.cn (bJ 0 1&&decide (0<=i.A/\i.A<(↑16:Int))) (let E2:=aK (iU.l c.X) i.A.toNat 0;.an (Qax x1.2.1 x1.1 x3 E2) (.lv (LB x1.2.1 x1.1 x3 E2) λ(x4:List Int×Bool)=>.lf ({X:=c.X,Pc:=wrap u32 (c.Pc+4),B4:=c.B4},x4.1))))))
def Cw c m i:=(I4 c m i).m
abbrev Qtk c m i:=(I4 c m i).p
def Zkl:bc:=mT 120 [] true [.agg bh.sig,.one (.ints .u32),.agg gu.sig] [] (λa r=>I4 (bh.of (aC a 0)) (eh .u32 a 1) (gu.of (aC a 2))) (λX=>.dt [.agg (bh.cells (X.1)),.all 0]) (λX=>[⟨false,23,1,.ints .u32 (X.2)⟩])
theorem Zei:bj pG Zkl:=oT (.cons Qk1 (.cons Qzn (.cons R3 (.cons Qp7 (.nil))))) Tryz.func120 Tryz.call120 [.row 23 1 (.ints .u32)] [] 2
def Z57(op a b:Int):Tree Bool:=
.br (op==40) (.lf (a==b)) (.br (op==41) (.lf (a !=b)) (.br (op==42) (.lf (decide (wrap i32 a<wrap i32 b))) (.br (op==43) (.lf (decide (wrap i32 a>=wrap i32 b))) (.br (op==44) (.lf (decide (a<b))) (.lf (decide (a>=b)))))))
def Zff op a b:=(Z57 op a b).m
def Zka:bc:=mS 187 [] true [.one (.int .i64),.one (.int .u32),.one (.int .u32)] [] (λa r=>Z57 (aq a 0) (aq a 1) (aq a 2)) (λX=>.bool X) (λX=>[])
theorem Zhl:bj pG Zka:=oS (.nil) Tryz.func187 Tryz.call187 [] [] 2
def OD(c:bh):Tree bh:=
.lv (AH c.B4.a0 8 1) λ(x0:Int)=>.lv (AH x0 16 2) λ(x1:Int)=>.lf ({X:=c.X,Pc:=c.B4.a2,B4:={a0:=x1,a1:=c.B4.a1,a2:=c.B4.a2,a3:=c.B4.a3,a4:=c.B4.a4,a5:=c.B4.a5,a6:=c.B4.a6,a7:=c.B4.a7}})
def Lq c:=(OD c).m
def Zg9:bc:=mS 188 [] true [.agg bh.sig] [] (λa r=>OD (bh.of (aC a 0))) (λX=>.agg (bh.cells X)) (λX=>[])
theorem Zbi:bj pG Zg9:=oS (.cons Z2x (.nil)) Tryz.func188 Tryz.call188 [] [] 2
def I1(c:bh)(jo v:Int):Tree bh:=
let E4:=bJ 0 1&&decide (0<=jo/\jo<(↑8:Int));let T2:Tree (bh):=.cn E4 (.lf ({X:=c.X,Pc:=c.Pc,B4:=A8.of 0 (dG (A8.l c.B4) jo.toNat (bf u32 v 31))}));.br (jo==0) T2 (.br (jo==7) T2 (.br (jo==6) (.cn E4 (.lf ({X:=c.X,Pc:=c.Pc,B4:=A8.of 0 (dG (A8.l c.B4) jo.toNat (bf u32 v 255))}))) (let T3:Tree (bh):=.cn E4 (.lf ({X:=c.X,Pc:=c.Pc,B4:=A8.of 0 (dG (A8.l c.B4) jo.toNat (nS u32 v 3))}));.br (jo==1) T3 (.br (jo==2) T3 (let T1:Tree (bh):=.cn E4 (.lf ({X:=c.X,Pc:=c.Pc,B4:=A8.of 0 (dG (A8.l c.B4) jo.toNat v)}));.br (jo==3) T1 (.br (jo==4) T1 (.br (jo==5) T1 (.lf c))))))))
def Zid c jo v:=(I1 c jo v).m
abbrev Quf c jo v:=(I1 c jo v).p
def Zlb:bc:=mT 189 [] true [.agg bh.sig,.one (.int .i64),.one (.int .u32)] [] (λa r=>I1 (bh.of (aC a 0)) (aq a 1) (aq a 2)) (λX=>.agg (bh.cells X)) (λX=>[])
theorem Zen:bj pG Zlb:=oT (.nil) Tryz.func189 Tryz.call189 [] [] 2
def Fm(c:bh)(i:gu):Tree (bh×kJ):=
.cn (bJ 0 1&&decide (0<=i.A/\i.A<(↑16:Int))) (.cn (bJ 0 1&&decide (0<=i.B/\i.B<(↑16:Int))) (.br (i.Op==24) (.an (H4 c i.A (eg u32 (wrap u32 i.bn) 16)) (.lv (uz c i.A (eg u32 (wrap u32 i.bn) 16)) λ(x0:bh)=>.lf ({X:=x0.X,Pc:=wrap u32 (c.Pc+4),B4:=x0.B4},{B9:=0,D0:=0,D9:=0,Value:=0}))) (let E2:=({X:=c.X,Pc:=wrap u32 (c.Pc+4),B4:=c.B4}:bh);let E3:=aK (iU.l c.X) i.B.toNat 0;let E4:=aK (iU.l c.X) i.A.toNat 0;let T1:Tree ((bh×kJ)):=.lv (Zff i.Op E4 E3) λ(x1:Bool)=>.br x1 (.lf ({X:=c.X,Pc:=wrap u32 (c.Pc+wrap u32 (4*wrap u32 i.bn)),B4:=c.B4},{B9:=0,D0:=0,D9:=0,Value:=0})) (.lf (E2,{B9:=0,D0:=0,D9:=0,Value:=0}));.br (i.Op==40) T1 (.br (i.Op==41) T1 (.br (i.Op==42) T1 (.br (i.Op==43) T1 (.br (i.Op==44) T1 (.br (i.Op==45) T1 (.br (i.Op==48) (.an (H4 c i.A (wrap u32 (c.Pc+4))) (.lv (uz c i.A (wrap u32 (c.Pc+4))) λ(x7:bh)=>.lf ({X:=x7.X,Pc:=wrap u32 (x7.Pc+wrap u32 (4*wrap u32 i.bn)),B4:=x7.B4},{B9:=0,D0:=0,D9:=0,Value:=0}))) (.br (i.Op==49) (.an (H4 c i.A (wrap u32 (c.Pc+4))) (.lv (uz c i.A (wrap u32 (c.Pc+4))) λ(x8:bh)=>.lf ({X:=x8.X,Pc:=wrap u32 (aK (iU.l c.X) i.B.toNat 0+wrap u32 i.bn),B4:=x8.B4},{B9:=0,D0:=0,D9:=0,Value:=0}))) (.br (i.Op==56) (.lv (rl c 7 0) λ(x9:bh)=>.lf (x9,{B9:=0,D0:=0,D9:=0,Value:=0})) (.br (i.Op==57) (.lv (Lq c) λ(kI:bh)=>.lf (kI,{B9:=0,D0:=0,D9:=0,Value:=0})) (.br (i.Op==58) (.cn (bJ 0 1&&decide (0<=i.bn/\i.bn<(↑8:Int))) (let E5:=aK (A8.l c.B4) i.bn.toNat 0;.an (H4 c i.A E5) (.lv (uz c i.A E5) λ(mz:bh)=>.lf ({X:=mz.X,Pc:=wrap u32 (c.Pc+4),B4:=mz.B4},{B9:=0,D0:=0,D9:=0,Value:=0})))) (.br (i.Op==59) (.an (Quf c (wrap i64 i.bn) E4) (.lv (Zid c (wrap i64 i.bn) E4) λ(lH:bh)=>.lf ({X:=lH.X,Pc:=wrap u32 (c.Pc+4),B4:=lH.B4},{B9:=0,D0:=0,D9:=0,Value:=0}))) (.br (i.Op==60) (.lf (E2,{B9:=1,D0:=wrap i64 i.bn,D9:=i.A,Value:=0})) (.br (i.Op==61) (.lf (E2,{B9:=2,D0:=wrap i64 i.bn,D9:=0,Value:=aK (iU.l c.X) i.A.toNat 0})) (.br (i.Op==62) (.lf (E2,{B9:=3,D0:=0,D9:=0,Value:=0})) (.br (i.Op==63) (.lf (E2,{B9:=5,D0:=0,D9:=0,Value:=0})) (.br (i.Op==64) (.lf (E2,{B9:=4,D0:=0,D9:=0,Value:=0})) (.cn (bJ 0 1&&decide (0<=i.C/\i.C<(↑16:Int))) (.br (decide (i.Op>=16)) (.an (Qta i.Op E3 (wrap u32 i.bn)) (.lv (nL i.Op E3 (wrap u32 i.bn)) λ(lW:Int×Bool)=>.an (H4 c i.A lW.1) (.lv (uz c i.A lW.1) λ(uE:bh)=>.lf ({X:=uE.X,Pc:=wrap u32 (c.Pc+4),B4:=uE.B4},{B9:=0,D0:=0,D9:=0,Value:=0})))) (let E6:=aK (iU.l c.X) i.C.toNat 0;.an (Qta i.Op E3 E6) (.lv (nL i.Op E3 E6) λ(Jv:Int×Bool)=>.an (H4 c i.A Jv.1) (.lv (uz c i.A Jv.1) λ(uF:bh)=>.lf ({X:=uF.X,Pc:=wrap u32 (c.Pc+4),B4:=uF.B4},{B9:=0,D0:=0,D9:=0,Value:=0})))))))))))))))))))))))))
def XO c i:=(Fm c i).m
abbrev Qoq c i:=(Fm c i).p
def Zb1:bc:=mT 121 [] true [.agg bh.sig,.agg gu.sig] [] (λa r=>Fm (bh.of (aC a 0)) (gu.of (aC a 1))) (λX=>.dt [.agg (bh.cells (X.1)),.agg (kJ.cells (X.2))]) (λX=>[])
theorem Z63:bj pG Zb1:=oT (.cons Z8p (.cons Zhl (.cons R3 (.cons Zbi (.cons Zen (.cons Zqd (.nil))))))) Tryz.func121 Tryz.call121 [] [] 2
def Fo(c:bh)(m:List Int):Tree (bh×(List Int)×kJ):=
.an (Qty c m) (.lv (TP c m) λ(x0:Int×List Int×Int)=>.br (x0.2.2 !=0) (.lv (rl c x0.2.2 c.Pc) λ(x1:bh)=>.lf (x1,x0.2.1,{B9:=0,D0:=0,D9:=0,Value:=0})) (.an (Qrq x0.1) (.lv (Ow x0.1) λ(x2:gu×Bool)=>.br (!x2.2) (.lv (rl c 1 x0.1) λ(x3:bh)=>.lf (x3,x0.2.1,{B9:=0,D0:=0,D9:=0,Value:=0})) (.lv (Ot x2.1.Op) λ(x4:Bool)=>let T1:Tree ((bh×(List Int)×kJ)):=let T2:Tree ((bh×(List Int)×kJ)):=.an (Qyy c x0.2.1 x2.1) (.lv (tL c x0.2.1 x2.1) λ(x7:bh×List Int)=>.lf (x7.1,x7.2,{B9:=0,D0:=0,D9:=0,Value:=0}));.br (x2.1.Op==32) T2 (.br (x2.1.Op==33) T2 (.br (x2.1.Op==34) T2 (let T3:Tree ((bh×(List Int)×kJ)):=.an (Qtk c x0.2.1 x2.1) (.lv (Cw c x0.2.1 x2.1) λ(kI:bh×List Int)=>.lf (kI.1,kI.2,{B9:=0,D0:=0,D9:=0,Value:=0}));.br (x2.1.Op==35) T3 (.br (x2.1.Op==36) T3 (.an (Qoq c x2.1) (.lv (XO c x2.1) λ(lH:bh×kJ)=>.lf (lH.1,x0.2.1,lH.2)))))));.br x4 (.lv (GZ c) λ(x5:Bool)=>.br (!x5) (.lv (rl c 2 x0.1) λ(x6:bh)=>.lf (x6,x0.2.1,{B9:=0,D0:=0,D9:=0,Value:=0})) T1) T1))))
def wJ c m:=(Fo c m).m
abbrev Qo5 c m:=(Fo c m).p
def Zq8:bc:=mT 63 [] true [.agg bh.sig,.one (.ints .u32)] [] (λa r=>Fo (bh.of (aC a 0)) (eh .u32 a 1)) (λX=>.dt [.agg (bh.cells (X.1)),.all 0,.agg (kJ.cells (X.2.2))]) (λX=>[⟨false,23,1,.ints .u32 (X.2.1)⟩])
theorem Z1x:bj pG Zq8:=oT (.cons Zfv (.cons R3 (.cons Zal (.cons Qwy (.cons Qu8 (.cons Zl0 (.cons Zei (.cons Z63 (.nil))))))))) Tryz.func63 Tryz.call63 [.row 23 1 (.ints .u32)] [] 2
end
noncomputable section
def Ko:List UInt8:=[(0:UInt8),1,2,2,3,3,3,3,4,4,4,4,4,4,4,4,5,5,5,5,5,5,5,5,5,5,5,5,5,5,5,5,6,6,6,6,6,6,6,6,6,6,6,6,6,6,6,6,6,6,6,6,6,6,6,6,6,6,6,6,6,6,6,6]
def R5:List UInt8:=[(7:UInt8),7,7,7,7,7,7,7,7,7,7,7,7,7,7,7,7,7,7,7,7,7,7,7,7,7,7,7,7,7,7,7,7,7,7,7,7,7,7,7,7,7,7,7,7,7,7,7,7,7,7,7,7,7,7,7,7,7,7,7,7,7,7,7]
def Ey:List UInt8:=[(8:UInt8),8,8,8,8,8,8,8,8,8,8,8,8,8,8,8,8,8,8,8,8,8,8,8,8,8,8,8,8,8,8,8,8,8,8,8,8,8,8,8,8,8,8,8,8,8,8,8,8,8,8,8,8,8,8,8,8,8,8,8,8,8,8,8]
def VF:List UInt8:=[(1:UInt8),2,2,3,3,3,3,4,4,4,4,4,4,4,4,5,5,5,5,5,5,5,5,5,5,5,5,5,5,5,5,6,6,6,6,6,6,6,6,6,6,6,6,6,6,6,6,6,6,6,6,6,6,6,6,6,6,6,6,6,6,6,6]
def Kp:List UInt8:=[(0:UInt8),1,1,2,1,2,2,3,1,2,2,3,2,3,3,4,1,2,2,3,2,3,3,4,2,3,3,4,3,4,4,5,1,2,2,3,2,3,3,4,2,3,3,4,3,4,4,5,2,3,3,4,3,4,4,5,3,4,4,5,4,5,5,6]
def Ez:List UInt8:=[(1:UInt8),2,2,3,2,3,3,4,2,3,3,4,3,4,4,5,2,3,3,4,3,4,4,5,3,4,4,5,4,5,5,6,2,3,3,4,3,4,4,5,3,4,4,5,4,5,5,6,3,4,4,5,4,5,5,6,4,5,5,6,5,6,6,7]
def R6:List UInt8:=[(2:UInt8),3,3,4,3,4,4,5,3,4,4,5,4,5,5,6,3,4,4,5,4,5,5,6,4,5,5,6,5,6,6,7,3,4,4,5,4,5,5,6,4,5,5,6,5,6,6,7,4,5,5,6,5,6,6,7,5,6,6,7,6,7,7,8]
def VG:List UInt8:=[(1:UInt8),1,2,1,2,2,3,1,2,2,3,2,3,3,4,1,2,2,3,2,3,3,4,2,3,3,4,3,4,4,5,1,2,2,3,2,3,3,4,2,3,3,4,3,4,4,5,2,3,3,4,3,4,4,5,3,4,4,5,4,5,5,6]
def Qup(c:iV):Tree Bool:=
.lf (decide ((c.D1.length:Int)<=(16:Int)))
def tH c:=(Qup c).m
def Zb4:bc:=mS 195 [] true [.agg iV.sig] [] (λa r=>Qup (iV.of (aC a 0))) (λX=>.bool X) (λX=>[])
theorem Z7g:bj pG Zb4:=oS (.nil) Tryz.func195 Tryz.call195 [] [] 2
def Tn(t:iW):Tree Bool:=
.br t.D3 (.br (!t.D2) (.lf (t.C4 !=0)) (.lf false)) (.br t.D2 (.lf true) (.lf (t.C4==0)))
def tI t:=(Tn t).m
def Zir:bc:=mS 196 [] true [.agg iW.sig] [] (λa r=>Tn (iW.of (aC a 0))) (λX=>.bool X) (λX=>[])
theorem Zfb:bj pG Zir:=oS (.nil) Tryz.func196 Tryz.call196 [] [] 2
def IX(d0:fp):Tree Bool:=
.br (d0.D6==1) (.lf (decide (d0.B8=[]))) (.br (d0.D6==2) (.lf ((d0.B8.length:Int)==(128:Int))) (.lf false))
def Og d0:=(IX d0).m
def Qxj:bc:=mS 260 [] true [.agg fp.sig] [] (λa r=>IX (fp.of (aC a 0))) (λX=>.bool X) (λX=>[])
theorem Qvj:bj pG Qxj:=oS (.nil) Tryz.func260 Tryz.call260 [] [] 2
def wG(d0:fp)(c7:Int):Tree Bool:=
.br (decide (d0.ae>64)) (.lf false) (let T1:Tree (Bool):=.br (d0.D6==0) (.br (d0.B6==0) (.br (d0.B2==0) (.lf (decide (d0.B8=[]))) (.lf false)) (.lf false)) (.lf false);.br (d0.B7==0) T1 (.br (d0.B7==2) T1 (.br (d0.B7==3) T1 (.br (d0.B7==1) (.lv (Og d0) λ(x0:Bool)=>.br x0 (.br (decide (d0.B6<d0.ae)) (.lf (decide (wrap i64 d0.B2<c7))) (.lf false)) (.lf false)) (.lf false)))))
def kd d0 c7:=(wG d0 c7).m
def Zpc:bc:=mS 197 [] true [.agg fp.sig,.one (.int .i64)] [] (λa r=>wG (fp.of (aC a 0)) (aq a 1)) (λX=>.bool X) (λX=>[])
theorem Zkm:bj pG Zpc:=oS (.cons Qvj (.nil)) Tryz.func197 Tryz.call197 [] [] 2
def Le(n:ia)(c7:Int):Tree Bool:=
let T1:Tree (Bool):=let T2:Tree (Bool):=.br n.B5 (.br (decide (n.F1>=1)) (.lf (decide (n.F1<=128))) (.lf false)) (.lf (n.F1==0));.br n.C5 (.br (decide (wrap i64 n.C0>=c7)) (.lf false) T2) (.br (n.C0 !=0) (.lf false) T2);.br n.C5 (.br n.B5 (.lf false) T1) T1
def pw n c7:=(Le n c7).m
def zD:bc:=mS 198 [] true [.agg ia.sig,.one (.int .i64)] [] (λa r=>Le (ia.of (aC a 0)) (aq a 1)) (λX=>.bool X) (λX=>[])
theorem Zpq:bj pG zD:=oS (.nil) Tryz.func198 Tryz.call198 [] [] 2
def DU(x:Int):Tree Int:=
let E1:=(↑(dK (cR (cR Ko R5) (cR Ey Ey))):Int);.br (decide (x>=65536)) (.br (decide (bg u32 x (16:Int)>=(256:Int))) (.cn (decide (0<=wrap u8 (bg u32 (bg u32 x 16) 8)/\wrap u8 (bg u32 (bg u32 x 16) 8)<E1)) (.lf (wrap i64 (wrap i64 ((16:Int)+(8:Int))+wrap i64 (↑(eW (aK ((0:UInt8)::(VF++R5++(Ey++Ey))) (dF (wrap u8 (bg u32 (bg u32 x 16) 8))) (0:UInt8))):Int))))) (.cn (decide (0<=wrap u8 (bg u32 x 16)/\wrap u8 (bg u32 x 16)<E1)) (.lf (wrap i64 (16+wrap i64 (↑(eW (aK ((0:UInt8)::(VF++R5++(Ey++Ey))) (dF (wrap u8 (bg u32 x 16))) (0:UInt8))):Int)))))) (.br (decide (x>=256)) (.cn (decide (0<=wrap u8 (bg u32 x 8)/\wrap u8 (bg u32 x 8)<E1)) (.lf (wrap i64 (wrap i64 ((0:Int)+(8:Int))+wrap i64 (↑(eW (aK ((0:UInt8)::(VF++R5++(Ey++Ey))) (dF (wrap u8 (bg u32 x 8))) (0:UInt8))):Int))))) (.cn (decide (0<=wrap u8 x/\wrap u8 x<E1)) (.lf (wrap i64 (0+wrap i64 (↑(eW (aK ((0:UInt8)::(VF++R5++(Ey++Ey))) (dF (wrap u8 x)) (0:UInt8))):Int))))))
def wH x:=(DU x).m
abbrev Qhc x:=(DU x).p
def Qy8:bc:=mT 261 [] true [.one (.int .u32)] [] (λa r=>DU (aq a 0)) (λX=>.int .i64 X) (λX=>[])
theorem Qvd:bj pG Qy8:=oT (.nil) Tryz.func261 Tryz.call261 [] [] 2
def GH(b:gv)(c7:Int):Tree Bool:=
.an (Qhc b.C2) (.lv (wH b.C2) λ(x0:Int)=>.lf (decide (x0<=if 0>c7 then 0 else c7)))
def uu b c7:=(GH b c7).m
abbrev Qhe b c7:=(GH b c7).p
def Zcn:bc:=mT 199 [] true [.agg gv.sig,.one (.int .i64)] [] (λa r=>GH (gv.of (aC a 0)) (aq a 1)) (λX=>.bool X) (λX=>[])
theorem Z64:bj pG Zcn:=oT (.cons Qvd (.nil)) Tryz.func199 Tryz.call199 [] [] 2
def DS(m:au):Tree Bool:=
.lv (lT m.Mem) λ(x0:Int)=>.lv (tH m.A3) λ(x1:Bool)=>.br x1 (.lv (tI m.A9) λ(x2:Bool)=>.br x2 (.lv (kd m.A7 x0) λ(x3:Bool)=>.br x3 (.lv (pw m.C3 x0) λ(x4:Bool)=>.br x4 (.an (Qhe m.A2 x0) (.lv (uu m.A2 x0) λ(x5:Bool)=>.lf x5)) (.lf false)) (.lf false)) (.lf false)) (.lf false)
def sK m:=(DS m).m
abbrev VB m:=(DS m).p
def Qqw:bc:=mT 131 [] true [.agg au.sig] [] (λa r=>DS (au.of (aC a 0))) (λX=>.bool X) (λX=>[])
theorem Qow:bj pG Qqw:=oT (.cons H3 (.cons Z7g (.cons Zfb (.cons Zkm (.cons Zpq (.cons Z64 (.nil))))))) Tryz.func131 Tryz.call131 [] [] 2
def Kd(m:au):Tree Bool:=
.lv (lT m.Mem) λ(x0:Int)=>.br (x0==0) (.lf false) (.br (m.B1.X.a0 !=0) (.lf false) (.br (decide (m.B1.B4.a0>31)) (.lf false) (.br (decide (m.B1.B4.a7>31)) (.lf false) (.br (decide (m.B1.B4.a6>255)) (.lf false) (.br (dE m.B1.B4.a1 (4:Int) !=(0:Int)) (.lf false) (.br (decide (m.A1>1152921504606846976)) (.lf false) (.br m.A4 (.br m.A6 (.lf false) (.an (VB m) (.lv (sK m) λ(x1:Bool)=>.lf x1))) (.an (VB m) (.lv (sK m) λ(x2:Bool)=>.lf x2)))))))))
def nc m:=(Kd m).m
abbrev RU m:=(Kd m).p
def Zaw:bc:=mT 68 [] true [.agg au.sig] [] (λa r=>Kd (au.of (aC a 0))) (λX=>.bool X) (λX=>[])
theorem Qjy:bj pG Zaw:=oT (.cons H3 (.cons Qow (.nil))) Tryz.func68 Tryz.call68 [] [] 2
def Qph(t:iW):Tree Bool:=
.lf t.D2
def X9 t:=(Qph t).m
def Z2u:bc:=mS 170 [] true [.agg iW.sig] [] (λa r=>Qph (iW.of (aC a 0))) (λX=>.bool X) (λX=>[])
theorem Z0y:bj pG Z2u:=oS (.nil) Tryz.func170 Tryz.call170 [] [] 2
def Ql2(c:iV):Tree Bool:=
.lf (!decide (c.D1=[]))
def TT c:=(Ql2 c).m
def Qw8:bc:=mS 171 [] true [.agg iV.sig] [] (λa r=>Ql2 (iV.of (aC a 0))) (λX=>.bool X) (λX=>[])
theorem Quh:bj pG Qw8:=oS (.nil) Tryz.func171 Tryz.call171 [] [] 2
def Xe(d0:fp):Tree Bool:=
.br (d0.B7==2) (.lf true) (.lf (d0.B7==3))
def Lh d0:=(Xe d0).m
def Z7s:bc:=mS 172 [] true [.agg fp.sig] [] (λa r=>Xe (fp.of (aC a 0))) (λX=>.bool X) (λX=>[])
theorem Qnz:bj pG Z7s:=oS (.nil) Tryz.func172 Tryz.call172 [] [] 2
def Qui(n:ia):Tree Bool:=
.lf n.B5
def Ya n:=(Qui n).m
def Zbf:bc:=mS 173 [] true [.agg ia.sig] [] (λa r=>Qui (ia.of (aC a 0))) (λX=>.bool X) (λX=>[])
theorem Z6z:bj pG Zbf:=oS (.nil) Tryz.func173 Tryz.call173 [] [] 2
def Rv(x:Int):Tree Int:=
let E1:=(↑(dK (cR (cR Kp Ez) (cR Ez R6))):Int);.cn (decide (0<=bg u32 x 24/\bg u32 x 24<E1)) (.cn (decide (0<=bf u32 (bg u32 x 16) 255/\bf u32 (bg u32 x 16) 255<E1)) (.cn (decide (0<=bf u32 (bg u32 x 8) 255/\bf u32 (bg u32 x 8) 255<E1)) (.cn (decide (0<=bf u32 x 255/\bf u32 x 255<E1)) (.lf (wrap i64 (wrap u8 (wrap u8 (wrap u8 ((↑(eW (aK ((0:UInt8)::(VG++Ez++(Ez++R6))) (dF (bg u32 x 24)) (0:UInt8))):Int)+(↑(eW (aK ((0:UInt8)::(VG++Ez++(Ez++R6))) (dF (bf u32 (bg u32 x 16) 255)) (0:UInt8))):Int))+(↑(eW (aK ((0:UInt8)::(VG++Ez++(Ez++R6))) (dF (bf u32 (bg u32 x 8) 255)) (0:UInt8))):Int))+(↑(eW (aK ((0:UInt8)::(VG++Ez++(Ez++R6))) (dF (bf u32 x 255)) (0:UInt8))):Int))))))))
def X3 x:=(Rv x).m
abbrev Qae x:=(Rv x).p
def Qml:bc:=mT 253 [] true [.one (.int .u32)] [] (λa r=>Rv (aq a 0)) (λX=>.int .i64 X) (λX=>[])
theorem Qki:bj pG Qml:=oT (.nil) Tryz.func253 Tryz.call253 [] [] 2
def Rw(b:gv):Tree Int:=
.an (Qae b.C2) (.lv (X3 b.C2) λ(x0:Int)=>.lf x0)
def TW b:=(Rw b).m
abbrev Qe3 b:=(Rw b).p
def Z4c:bc:=mT 191 [] true [.agg gv.sig] [] (λa r=>Rw (gv.of (aC a 0))) (λX=>.int .i64 X) (λX=>[])
theorem Qmy:bj pG Z4c:=oT (.cons Qki (.nil)) Tryz.func191 Tryz.call191 [] [] 2
def LU(b:gv):Tree Bool:=
.an (Qe3 b) (.lv (TW b) λ(x0:Int)=>.lf (wrap u32 x0 !=b.C7))
def OT b:=(LU b).m
abbrev Qi2 b:=(LU b).p
def Qy7:bc:=mT 174 [] true [.agg gv.sig] [] (λa r=>LU (gv.of (aC a 0))) (λX=>.bool X) (λX=>[])
theorem Qu5:bj pG Qy7:=oT (.cons Qmy (.nil)) Tryz.func174 Tryz.call174 [] [] 2
def Qid(m:au)(z:(Int)×(Int)):Nat:=(5-z.2).toNat
def LY(m:au):Tree Int:=
.lv (X9 m.A9) λ(x0:Bool)=>.lv (TT m.A3) λ(x1:Bool)=>.lv (Lh m.A7) λ(x2:Bool)=>.lv (Ya m.C3) λ(x3:Bool)=>.an (Qi2 m.A2) (.lv (OT m.A2) λ(x4:Bool)=>.lp inferInstance (Qid m (0,0)+1) ((rE (0:Int)/\(rE (x0:Bool)/\rE (x1:Bool)/\rE (x2:Bool)/\rE (x3:Bool)/\rE (x4:Bool)/\True)/\rE (0:Int)/\True)/\True) (0,0) λ(v0:Int×Int)=>.br (decide (v0.2<5)) (.cn (bT 1 1&&(bT 5 5&&decide (0<=v0.2/\v0.2<(↑5:Int)))) (.br (aK [x0,x1,x2,x3,x4] v0.2.toNat false) (.cn (decide (0<=v0.2)) (.nx ((rE ((ir u32 v0.1 (eg u32 1 v0.2)):Int)/\(rE (x0:Bool)/\rE (x1:Bool)/\rE (x2:Bool)/\rE (x3:Bool)/\rE (x4:Bool)/\True)/\rE ((wrap i64 (v0.2+1)):Int)/\True)/\True) (Sum.inl (ir u32 v0.1 (eg u32 1 v0.2),wrap i64 (v0.2+1))))) (.nx ((rE v0.1/\(rE (x0:Bool)/\rE (x1:Bool)/\rE (x2:Bool)/\rE (x3:Bool)/\rE (x4:Bool)/\True)/\rE ((wrap i64 (v0.2+1)):Int)/\True)/\True) (Sum.inl (v0.1,wrap i64 (v0.2+1)))))) (.lf (Sum.inr v0.1)))
def T0 m:=(LY m).m
abbrev Ql1 m:=(LY m).p
def Z0w:bu:={
 α:=(Int)×(Int)
 F:=λst a=>([(4,.int u32 a.1),(23,(lk st 23)),(24,.int i64 a.2)],[])
 a0:=λst=>((lk st 4).toInt,(lk st 24).toInt)
 jn:=λst=>[]++[]}
def Qv9:List (Nat×bu):=[(4,Z0w)]
def Z4f:bc:=mT 108 [] true [.agg au.sig] [] (λa r=>LY (au.of (aC a 0))) (λX=>.int .u32 X) (λX=>[])
theorem Z1:bj pG Z4f:=oT (.cons Z0y (.cons Quh (.cons Qnz (.cons Z6z (.cons Qu5 (.nil)))))) Tryz.func108 Tryz.call108 [] Qv9 3
def G8(m:au):Tree Int:=
.an (Ql1 m) (.lv (T0 m) λ(x0:Int)=>.lf (bf u32 x0 m.B1.B4.a7))
def LZ m:=(G8 m).m
abbrev Qb4 m:=(G8 m).p
def Qwx:bc:=mT 117 [] true [.agg au.sig] [] (λa r=>G8 (au.of (aC a 0))) (λX=>.int .u32 X) (λX=>[])
theorem Qjf:bj pG Qwx:=oT (.cons Z1 (.nil)) Tryz.func117 Tryz.call117 [] [] 2
def G9(m:au):Tree Bool:=
.br m.A4 (.an (Qb4 m) (.lv (LZ m) λ(x0:Int)=>.lf (x0==0))) (.lf false)
def Ls m:=(G9 m).m
abbrev Yw m:=(G9 m).p
def Z78:bc:=mT 107 [] true [.agg au.sig] [] (λa r=>G9 (au.of (aC a 0))) (λX=>.bool X) (λX=>[])
theorem Qo1:bj pG Z78:=oT (.cons Qjf (.nil)) Tryz.func107 Tryz.call107 [] [] 2

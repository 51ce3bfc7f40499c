import Derived.Test.YthjfindbamdacaaGreatDoorAuditFewerBase
open Int renaming tmod->dE,tdiv->eU,toNat->dF
open Nat renaming beq->bT,blt->bJ
open List renaming set->dG,getD->aK,length->dK,append->cR
open UInt8 renaming toNat->eW
set_option maxRecDepth 100000
set_option linter.all false
namespace Go.Proofs.YthjfindbamdacaaGreatDoor
open Go Go.GD Go.IntKind
noncomputable section
def jF(s:List Int):(List Int):=
s
def mQ(s:List Int):Prop:=
s.length<=35184372088832
def Q3p(s:List Int):List D:=[.sl 1 (.ints .u32 s) false]
def VT(s:List Int):List Row:=[]
def M7(X:List Int):D:=.all 0
def M8(X:List Int):List Row:=[⟨false,23,1,.ints .u32 X⟩]
def Qd9:List pk:=[.row 23 1 (.ints .u32)]
def Q73:List PT:=[.one (.ints .u32)]
def Q6w:List RT:=[]
def Qeg(args:List D)(rows:List Row):(List Int):=jF (ei .u32 args 0)
def Qee(args:List D)(rows:List Row):Prop:=mQ (ei .u32 args 0)
def Qg6:bc:=mW 59 [] true Q73 Q6w Qee Qeg M7 M8
def Q4p(s:List Int)(DL:(List Int)->Prop):Prop:=
(s=[]->DL [])/\cr (decide ((4:Nat)*((0:Nat)+s.length)<=(140737488355328:Nat))) (DL s)
set_option maxRecDepth 100000 in
theorem Qfp(s:List Int)(Q:D->List Row->Prop):(nF kR [] (LL kR [] Tryz.f59.ntmps 0 [] 2) Tryz.f59 (Q3p s) (VT s) λd R=>sq (VT s).length Qd9 d R Q)=Q4p s (λX=>Q (M7 X) (M8 X)):=by kernel_rfl
theorem Qdc(s:List Int)(DL:(List Int)->Prop)(hw:mQ s)(h:DL (jF s)):
Q4p s DL:=by
 delta Q4p
 refine⟨λe=>by rw[e]at h;exact h,?_⟩
 rw[db]
 refine⟨dY ?_,h⟩
 have:s.length<=35184372088832:=hw
 omega
set_option maxRecDepth 100000 in
theorem Qd5(s:List Int)(hw:mQ s):kj pG 59 (Q3p s) (VT s) (M7 (jF s)) (M8 (jF s)):=
 have hG:jZ pG []:=.nil
 we.calls drawn mX hG Tryz.func59 (rf:=none) (λ_ _=>trivial) (wG drawn mX hG (.inl rfl) 2 (h8:=[])) (we.of (Qfp s _) (Qdc s (λX=>M7 X=M7 (jF s)/\M8 X=M8 (jF s)) hw ⟨rfl,rfl⟩))
set_option maxRecDepth 100000 in
theorem Qdw(args:List D)(rows:List Row):mr Q73 args 0=Q3p (ei .u32 args 0):=by kernel_rfl
set_option maxRecDepth 100000 in
theorem Qd4(args:List D)(rows:List Row):lG Q6w rows 0=VT (ei .u32 args 0):=by kernel_rfl
set_option maxRecDepth 100000 in
theorem Qfe(X:List Int):(wm (M7 X)&&jK (M8 X))=true:=by kernel_rfl
theorem EH:bn pG Qg6:=M4 Tryz.call59 (λargs rows hp=>by rw[Qdw args rows,Qd4 args rows];exact Qd5 (ei .u32 args 0) hp) (λ_ X=>Qfe X)
def Q8(m:List Int):Tree Int:=
.br (dE (m.length:Int) (32:Int) !=(0:Int)) (.lf 0) (.br (decide ((m.length:Int)>(1024:Int))) (.lf 0) (.lf (wrap i64 (eU (m.length:Int) 32))))
def mb m:=(Q8 m).m
def Z7v:bc:=mS 14 [] true [.one (.ints .u32)] [] (λa r=>Q8 (ei .u32 a 0)) (λX=>.int .i64 X) (λX=>[])
theorem Ik:bn pG Z7v:=oS (.nil) Tryz.func14 Tryz.call14 [] [] 2
def Jq(m:List Int)(addr size:Int):Tree Bool:=
let T1:Tree (Bool):=.cn (decide (wrap u32 size≠0)) (.br (dE addr (wrap u32 size) !=0) (.lf false) (.lv (mb m) λ(x0:Int)=>.lf (decide (wrap u64 (wrap u64 addr+wrap u64 size)<=wrap u64 (wrap u64 x0*128)))));.br (size !=1) (.br (size !=4) (.lf false) T1) T1
def XW m addr size:=(Jq m addr size).m
abbrev Qdx m addr size:=(Jq m addr size).p
def Z4m:bc:=mT 247 [] true [.one (.ints .u32),.one (.int .u32),.one (.int .i64)] [] (λa r=>Jq (ei .u32 a 0) (aq a 1) (aq a 2)) (λX=>.bool X) (λX=>[])
theorem Qn1:bn pG Z4m:=oT (.cons Ik (.nil)) Tryz.func247 Tryz.call247 [] [] 2
def Rz(n:Int):Tree Int:=
.br (decide (n>=32)) (.lf 4294967295) (.cn (decide (0<=wrap u64 n)) (.lf (wrap u32 (eh u32 1 (wrap u64 n)-1))))
def Z3z n:=(Rz n).m
abbrev Qmi n:=(Rz n).p
def Zli:bc:=mT 248 [] true [.one (.int .i64)] [] (λa r=>Rz (aq a 0)) (λX=>.int .u32 X) (λX=>[])
theorem Qzs:bn pG Zli:=oT (.nil) Tryz.func248 Tryz.call248 [] [] 2
def RA(w low n:Int):Tree Int:=
.br (decide (low<0)) (.lf 0) (.br (decide (low>31)) (.lf 0) (.br (decide (n<1)) (.lf 0) (.cn (decide (0<=wrap u64 low)) (.an (Qmi n) (.lv (Z3z n) λ(x0:Int)=>.lf (bg u32 (bh u32 w (wrap u64 low)) x0))))))
def tP w low n:=(RA w low n).m
abbrev M9 w low n:=(RA w low n).p
def Zii:bc:=mT 179 [] true [.one (.int .u32),.one (.int .i64),.one (.int .i64)] [] (λa r=>RA (aq a 0) (aq a 1) (aq a 2)) (λX=>.int .u32 X) (λX=>[])
theorem Qlw:bn pG Zii:=oT (.cons Qzs (.nil)) Tryz.func179 Tryz.call179 [] [] 2
def RB(w low n v:Int):Tree Int:=
.br (decide (low<0)) (.lf w) (.br (decide (low>31)) (.lf w) (.br (decide (n<1)) (.lf w) (.an (Qmi n) (.lv (Z3z n) λ(x0:Int)=>.cn (decide (0<=wrap u64 low)) (.cn (decide (0<=wrap u64 low)) (.lf (ir u32 (nY u32 w (eh u32 x0 (wrap u64 low))) (eh u32 (bg u32 v x0) (wrap u64 low)))))))))
def LJ w low n v:=(RB w low n v).m
abbrev Qkf w low n v:=(RB w low n v).p
def Z3y:bc:=mT 250 [] true [.one (.int .u32),.one (.int .i64),.one (.int .i64),.one (.int .u32)] [] (λa r=>RB (aq a 0) (aq a 1) (aq a 2) (aq a 3)) (λX=>.int .u32 X) (λX=>[])
theorem Z12:bn pG Z3y:=oT (.cons Qzs (.nil)) Tryz.func250 Tryz.call250 [] [] 2
def LN(m:List Int)(addr size v:Int):Tree ((List Int)×Bool):=
.an (mQ m) (.lv (jF m) λ(x0:List Int)=>.an (Qdx m addr size) (.lv (XW m addr size) λ(x1:Bool)=>.br (!x1) (.lf (x0,false)) (let E1:=bT 1 1&&bJ 0 1&&decide (0<=wrap u32 (eU addr 4)/\wrap u32 (eU addr 4)<(x0.length:Int));let E2:=dF (wrap u32 (eU addr 4));.br (size==1) (.cn E1 (let E3:=wrap i64 (wrap i64 (dE addr 4)*8);.an (Qkf (x0.getD E2 0) E3 8 v) (.lv (LJ (x0.getD E2 0) E3 8 v) λ(x2:Int)=>.cn E1 (.lf (dG x0 E2 x2,true))))) (.cn E1 (.lf (dG x0 E2 v,true))))))
def LM m addr size v:=(LN m addr size v).m
abbrev Qaz m addr size v:=(LN m addr size v).p
def Z7w:bc:=mT 186 [] true [.one (.ints .u32),.one (.int .u32),.one (.int .i64),.one (.int .u32)] [] (λa r=>LN (ei .u32 a 0) (aq a 1) (aq a 2) (aq a 3)) (λX=>.du [.all 0,.bool (X.2)]) (λX=>[⟨false,23,1,.ints .u32 (X.1)⟩])
theorem Qoi:bn pG Z7w:=oT (.cons EH (.cons Qn1 (.cons Z12 (.nil)))) Tryz.func186 Tryz.call186 [.row 23 1 (.ints .u32)] [] 2
def Zex(op:Int):Tree (Ar×Bool):=
.br (op==1) (.lf ({a:=true,b:=true,c:=true,low:=0,D9:=0},true)) (.br (op==2) (.lf ({a:=true,b:=true,c:=true,low:=0,D9:=0},true)) (.br (op==3) (.lf ({a:=true,b:=true,c:=true,low:=0,D9:=0},true)) (.br (op==4) (.lf ({a:=true,b:=true,c:=true,low:=0,D9:=0},true)) (.br (op==5) (.lf ({a:=true,b:=true,c:=true,low:=0,D9:=0},true)) (.br (op==6) (.lf ({a:=true,b:=true,c:=true,low:=0,D9:=0},true)) (.br (op==7) (.lf ({a:=true,b:=true,c:=true,low:=0,D9:=0},true)) (.br (op==8) (.lf ({a:=true,b:=true,c:=true,low:=0,D9:=0},true)) (.br (op==9) (.lf ({a:=true,b:=true,c:=true,low:=0,D9:=0},true)) (.br (op==10) (.lf ({a:=true,b:=true,c:=true,low:=0,D9:=0},true)) (.br (op==11) (.lf ({a:=true,b:=true,c:=true,low:=0,D9:=0},true)) (.br (op==12) (.lf ({a:=true,b:=true,c:=true,low:=0,D9:=0},true)) (.br (op==13) (.lf ({a:=true,b:=true,c:=true,low:=0,D9:=0},true)) (.br (op==16) (.lf ({a:=true,b:=true,c:=false,low:=(-32768),D9:=32767},true)) (.br (op==23) (.lf ({a:=true,b:=true,c:=false,low:=(-32768),D9:=32767},true)) (.br (op==32) (.lf ({a:=true,b:=true,c:=false,low:=(-32768),D9:=32767},true)) (.br (op==33) (.lf ({a:=true,b:=true,c:=false,low:=(-32768),D9:=32767},true)) (.br (op==34) (.lf ({a:=true,b:=true,c:=false,low:=(-32768),D9:=32767},true)) (.br (op==35) (.lf ({a:=true,b:=true,c:=false,low:=(-32768),D9:=32767},true)) (.br (op==36) (.lf ({a:=true,b:=true,c:=false,low:=(-32768),D9:=32767},true)) (.br (op==40) (.lf ({a:=true,b:=true,c:=false,low:=(-32768),D9:=32767},true)) (.br (op==41) (.lf ({a:=true,b:=true,c:=false,low:=(-32768),D9:=32767},true)) (.br (op==42) (.lf ({a:=true,b:=true,c:=false,low:=(-32768),D9:=32767},true)) (.br (op==43) (.lf ({a:=true,b:=true,c:=false,low:=(-32768),D9:=32767},true)) (.br (op==44) (.lf ({a:=true,b:=true,c:=false,low:=(-32768),D9:=32767},true)) (.br (op==45) (.lf ({a:=true,b:=true,c:=false,low:=(-32768),D9:=32767},true)) (.br (op==49) (.lf ({a:=true,b:=true,c:=false,low:=(-32768),D9:=32767},true)) (.br (op==17) (.lf ({a:=true,b:=true,c:=false,low:=0,D9:=65535},true)) (.br (op==18) (.lf ({a:=true,b:=true,c:=false,low:=0,D9:=65535},true)) (.br (op==19) (.lf ({a:=true,b:=true,c:=false,low:=0,D9:=65535},true)) (.br (op==20) (.lf ({a:=true,b:=true,c:=false,low:=0,D9:=31},true)) (.br (op==21) (.lf ({a:=true,b:=true,c:=false,low:=0,D9:=31},true)) (.br (op==22) (.lf ({a:=true,b:=true,c:=false,low:=0,D9:=31},true)) (.br (op==24) (.lf ({a:=true,b:=false,c:=false,low:=0,D9:=65535},true)) (.br (op==48) (.lf ({a:=true,b:=false,c:=false,low:=(-32768),D9:=32767},true)) (.br (op==58) (.lf ({a:=true,b:=false,c:=false,low:=0,D9:=7},true)) (.br (op==59) (.lf ({a:=true,b:=false,c:=false,low:=0,D9:=7},true)) (.br (op==60) (.lf ({a:=true,b:=false,c:=false,low:=0,D9:=11},true)) (.br (op==61) (.lf ({a:=true,b:=false,c:=false,low:=0,D9:=11},true)) (.br (op==56) (.lf ({a:=false,b:=false,c:=false,low:=0,D9:=0},true)) (.br (op==57) (.lf ({a:=false,b:=false,c:=false,low:=0,D9:=0},true)) (.br (op==62) (.lf ({a:=false,b:=false,c:=false,low:=0,D9:=0},true)) (.br (op==63) (.lf ({a:=false,b:=false,c:=false,low:=0,D9:=0},true)) (.br (op==64) (.lf ({a:=false,b:=false,c:=false,low:=0,D9:=0},true)) (.lf ({a:=false,b:=false,c:=false,low:=0,D9:=0},false)))))))))))))))))))))))))))))))))))))))))))))
def TL op:=(Zex op).m
def yC:bc:=mS 180 [] true [.one (.int .i64)] [] (λa r=>Zex (aq a 0)) (λX=>.du [.agg (Ar.cells (X.1)),.bool (X.2)]) (λX=>[])
theorem Z8c:bn pG yC:=oS (.nil) Tryz.func180 Tryz.call180 [] [] 2
def RC(x n:Int):Tree Int:=
.br (decide (n<1)) (.lf 0) (.br (decide (n>=32)) (.lf x) (let E1:=decide (0<=wrap u64 (wrap i64 (32-n)));.cn E1 (.cn E1 (.lf (wrap u32 (bh i32 (wrap i32 (eh u32 x (wrap u64 (wrap i64 (32-n))))) (wrap u64 (wrap i64 (32-n)))))))))
def Ei x n:=(RC x n).m
abbrev Qb4 x n:=(RC x n).p
def Qwd:bc:=mT 181 [] true [.one (.int .u32),.one (.int .i64)] [] (λa r=>RC (aq a 0) (aq a 1)) (λX=>.int .u32 X) (λX=>[])
theorem Qji:bn pG Qwd:=oT (.nil) Tryz.func181 Tryz.call181 [] [] 2
def TM(r:Int)(used:Bool):Tree Bool:=
.br used (.br (decide (r>=0)) (.lf (decide (r<=15))) (.lf false)) (.lf (r==0))
def LD r used:=(TM r used).m
def Z7y:bc:=mS 249 [] true [.one (.int .i64),.one (.bool)] [] (λa r=>TM (aq a 0) (wa a 1)) (λX=>.bool X) (λX=>[])
theorem Z3b:bn pG Z7y:=oS (.nil) Tryz.func249 Tryz.call249 [] [] 2
def Qi(i:gu):Tree Bool:=
.lv (TL i.Op) λ(x0:Ar×Bool)=>.br x0.2 (.lv (LD i.A x0.1.a) λ(x1:Bool)=>.br x1 (.lv (LD i.B x0.1.b) λ(x2:Bool)=>.br x2 (.lv (LD i.C x0.1.c) λ(x3:Bool)=>.br x3 (.br (decide (i.bq>=x0.1.low)) (.lf (decide (i.bq<=x0.1.D9))) (.lf false)) (.lf false)) (.lf false)) (.lf false)) (.lf false)
def Jn i:=(Qi i).m
def Zle:bc:=mS 182 [] true [.agg gu.sig] [] (λa r=>Qi (gu.of (aC a 0))) (λX=>.bool X) (λX=>[])
theorem Zfy:bn pG Zle:=oS (.cons Z8c (.cons Z3b (.nil))) Tryz.func182 Tryz.call182 [] [] 2
def LG(w:Int):Tree (gu×Bool):=
.an (M9 w 24 8) (.lv (tP w 24 8) λ(x0:Int)=>.an (M9 w 20 4) (.lv (tP w 20 4) λ(x1:Int)=>.an (M9 w 16 4) (.lv (tP w 16 4) λ(x2:Int)=>.lv (TL (wrap i64 x0)) λ(x3:Ar×Bool)=>let E1:=({Op:=0,A:=0,B:=0,C:=0,bq:=0}:gu);.br (!x3.2) (.lf (E1,false)) (.an (M9 w 0 16) (.lv (tP w 0 16) λ(x4:Int)=>.br x3.1.c (let E2:=({Op:=wrap i64 x0,A:=wrap i64 x1,B:=wrap i64 x2,C:=wrap i64 x4,bq:=0}:gu);.lv (Jn E2) λ(x5:Bool)=>.br (!x5) (.lf (E1,false)) (.lf (E2,true))) (.br (decide (x3.1.low<0)) (.an (Qb4 x4 16) (.lv (Ei x4 16) λ(x6:Int)=>let E3:=({Op:=wrap i64 x0,A:=wrap i64 x1,B:=wrap i64 x2,C:=0,bq:=wrap i32 x6}:gu);.lv (Jn E3) λ(x7:Bool)=>.br (!x7) (.lf (E1,false)) (.lf (E3,true)))) (let E4:=({Op:=wrap i64 x0,A:=wrap i64 x1,B:=wrap i64 x2,C:=0,bq:=wrap i32 x4}:gu);.lv (Jn E4) λ(x8:Bool)=>.br (!x8) (.lf (E1,false)) (.lf (E4,true)))))))))
def OF w:=(LG w).m
abbrev Qro w:=(LG w).p
def Zib:bc:=mT 112 [] true [.one (.int .u32)] [] (λa r=>LG (aq a 0)) (λX=>.du [.agg (gu.cells (X.1)),.bool (X.2)]) (λX=>[])
theorem Ze6:bn pG Zib:=oT (.cons Qlw (.cons Z8c (.cons Qji (.cons Zfy (.nil))))) Tryz.func112 Tryz.call112 [] [] 2
def LV(a b:Int):Tree (Int×Int):=
.br (b==0) (.lf (4294967295,a)) (let T1:Tree ((Int×Int)):=.cn (decide (wrap i32 b≠0)) (.cn (decide (wrap i32 b≠0)) (.lf (wrap u32 (wrap i32 (eU (wrap i32 a) (wrap i32 b))),wrap u32 (dE (wrap i32 a) (wrap i32 b)))));.br (a==2147483648) (.br (b==4294967295) (.lf (a,0)) T1) T1)
def LS a b:=(LV a b).m
abbrev Qi2 a b:=(LV a b).p
def Zb1:bc:=mT 251 [] true [.one (.int .u32),.one (.int .u32)] [] (λa r=>LV (aq a 0) (aq a 1)) (λX=>.du [.int .u32 (X.1),.int .u32 (X.2)]) (λX=>[])
theorem Z7f:bn pG Zb1:=oT (.nil) Tryz.func251 Tryz.call251 [] [] 2
def Z4s(b:Bool):Tree Int:=
.br b (.lf 1) (.lf 0)
def VF b:=(Z4s b).m
def Zj7:bc:=mS 252 [] true [.one (.bool)] [] (λa r=>Z4s (wa a 0)) (λX=>.int .u32 X) (λX=>[])
theorem Zep:bn pG Zj7:=oS (.nil) Tryz.func252 Tryz.call252 [] [] 2
def RG(op a b:Int):Tree (Int×Bool):=
.br (op==2) (.lf (wrap u32 (a+wrap u32 (0-b)),true)) (.br (op==1) (.lf (wrap u32 (a+b),true)) (.br (op==16) (.lf (wrap u32 (a+b),true)) (.br (op==3) (.lf (bg u32 a b,true)) (.br (op==17) (.lf (bg u32 a b,true)) (.br (op==4) (.lf (ir u32 a b,true)) (.br (op==18) (.lf (ir u32 a b,true)) (.br (op==5) (.lf (nu u32 a b,true)) (.br (op==19) (.lf (nu u32 a b,true)) (.br (op==6) (.lf (eh u32 a (bg u32 b 31),true)) (.br (op==20) (.lf (eh u32 a (bg u32 b 31),true)) (.br (op==7) (.lf (bh u32 a (bg u32 b 31),true)) (.br (op==21) (.lf (bh u32 a (bg u32 b 31),true)) (let E1:=(wrap u32 (bh i32 (wrap i32 a) (bg u32 b 31)),true);.br (op==8) (.lf E1) (.br (op==22) (.lf E1) (.br (op==9) (.lf (wrap u32 (a*b),true)) (.br (op==10) (.an (Qi2 a b) (.lv (LS a b) λ(x0:Int×Int)=>.lf (x0.1,true))) (.br (op==11) (.an (Qi2 a b) (.lv (LS a b) λ(x1:Int×Int)=>.lf (x1.2,true))) (.br (op==12) (.lv (VF (decide (wrap i32 a<wrap i32 b))) λ(x2:Int)=>.lf (x2,true)) (.br (op==23) (.lv (VF (decide (wrap i32 a<wrap i32 b))) λ(x3:Int)=>.lf (x3,true)) (.br (op==13) (.lv (VF (decide (a<b))) λ(x4:Int)=>.lf (x4,true)) (.lf (0,false))))))))))))))))))))))
def nS op a b:=(RG op a b).m
abbrev Qsh op a b:=(RG op a b).p
def vC:bc:=mT 190 [] true [.one (.int .i64),.one (.int .u32),.one (.int .u32)] [] (λa r=>RG (aq a 0) (aq a 1) (aq a 2)) (λX=>.du [.int .u32 (X.1),.bool (X.2)]) (λX=>[])
theorem Zqj:bn pG vC:=oT (.cons Z7f (.cons Zep (.nil))) Tryz.func190 Tryz.call190 [] [] 2
end
noncomputable section
def VE(status DM to:Int):Tree Int:=
.br (bg u32 status DM !=0) (.lf (ir u32 status to)) (.lf (nY u32 status to))
def AK status DM to:=(VE status DM to).m
def Zpq:bc:=mS 175 [] true [.one (.int .u32),.one (.int .u32),.one (.int .u32)] [] (λa r=>VE (aq a 0) (aq a 1) (aq a 2)) (λX=>.int .u32 X) (λX=>[])
theorem Z4k:bn pG Zpq:=oS (.nil) Tryz.func175 Tryz.call175 [] [] 2
def OL(c:bj)(oU bad:Int):Tree bj:=
.lv (AK c.B7.a0 1 8) λ(x0:Int)=>.lv (AK x0 2 16) λ(x1:Int)=>.lf ({X:=c.X,Pc:=c.B7.a1,B7:={a0:=nY u32 (ir u32 x1 1) 2,a1:=c.B7.a1,a2:=c.Pc,a3:=wrap u32 oU,a4:=bad,a5:=c.B7.a5,a6:=c.B7.a6,a7:=c.B7.a7}})
def rC c oU bad:=(OL c oU bad).m
def Zoc:bc:=mS 109 [] true [.agg bj.sig,.one (.int .i64),.one (.int .u32)] [] (λa r=>OL (bj.of (aC a 0)) (aq a 1) (aq a 2)) (λX=>.agg (bj.cells X)) (λX=>[])
theorem Se:bn pG Zoc:=oS (.cons Z4k (.nil)) Tryz.func109 Tryz.call109 [] [] 2
def Quu(access:Int):Tree (Int×Bool):=
.br (access==1) (.lf (4,true)) (.br (access==2) (.lf (5,true)) (.br (access==3) (.lf (6,true)) (.lf (5,false))))
def Qso access:=(Quu access).m
def Zd4:bc:=mS 245 [] true [.one (.int .i64)] [] (λa r=>Quu (aq a 0)) (λX=>.du [.int .i64 (X.1),.bool (X.2)]) (λX=>[])
theorem Z67:bn pG Zd4:=oS (.nil) Tryz.func245 Tryz.call245 [] [] 2
def Qzm(c:bj):Tree Bool:=
.lf (bg u32 c.B7.a0 (1:Int) !=(0:Int))
def Hg c:=(Qzm c).m
def Zhi:bc:=mS 118 [] true [.agg bj.sig] [] (λa r=>Qzm (bj.of (aC a 0))) (λX=>.bool X) (λX=>[])
theorem Qv2:bn pG Zhi:=oS (.nil) Tryz.func118 Tryz.call118 [] [] 2
def Qmy(access:Int):Tree (Int×Bool):=
.br (access==1) (.lf (4,true)) (.br (access==2) (.lf (5,true)) (.br (access==3) (.lf (6,true)) (.lf (5,false))))
def Qk8 access:=(Qmy access).m
def Z07:bc:=mS 241 [] true [.one (.int .i64)] [] (λa r=>Qmy (aq a 0)) (λX=>.du [.int .i64 (X.1),.bool (X.2)]) (λX=>[])
theorem Qy7:bn pG Z07:=oS (.nil) Tryz.func241 Tryz.call241 [] [] 2
def Qh6(m:List Int)(frame:Int):Tree Bool:=
.lv (mb m) λ(x0:Int)=>.lf (decide (wrap u64 frame<wrap u64 x0))
def OI m frame:=(Qh6 m frame).m
def Z30:bc:=mS 242 [] true [.one (.ints .u32),.one (.int .u32)] [] (λa r=>Qh6 (ei .u32 a 0) (aq a 1)) (λX=>.bool X) (λX=>[])
theorem Z0s:bn pG Z30:=oS (.cons Ik (.nil)) Tryz.func242 Tryz.call242 [] [] 2
def LK(m:List Int)(addr size:Int):Tree (Int×Bool):=
.an (Qdx m addr size) (.lv (XW m addr size) λ(x0:Bool)=>.br (!x0) (.lf (0,false)) (.cn (bT 1 1&&bJ 0 1&&decide (0<=wrap u32 (eU addr 4)/\wrap u32 (eU addr 4)<(m.length:Int))) (let E1:=dF (wrap u32 (eU addr 4));.br (size==1) (let E2:=wrap i64 (wrap i64 (dE addr 4)*8);.an (M9 (m.getD E1 0) E2 8) (.lv (tP (m.getD E1 0) E2 8) λ(x1:Int)=>.lf (x1,true))) (.lf (m.getD E1 0,true)))))
def Cz m addr size:=(LK m addr size).m
abbrev Q4 m addr size:=(LK m addr size).p
def Zdq:bc:=mT 178 [] true [.one (.ints .u32),.one (.int .u32),.one (.int .i64)] [] (λa r=>LK (ei .u32 a 0) (aq a 1) (aq a 2)) (λX=>.du [.int .u32 (X.1),.bool (X.2)]) (λX=>[])
theorem Sf:bn pG Zdq:=oT (.cons Qn1 (.cons Qlw (.nil))) Tryz.func178 Tryz.call178 [] [] 2
def Qna(BI access:Int):Tree Bool:=
.br (bg u32 BI (1:Int)==(0:Int)) (.lf false) (.br (access==3) (.lf (bg u32 BI (2:Int) !=(0:Int))) (.br (access==1) (.lf (bg u32 BI (4:Int) !=(0:Int))) (.lf true)))
def TS BI access:=(Qna BI access).m
def Z0e:bc:=mS 243 [] true [.one (.int .u32),.one (.int .i64)] [] (λa r=>Qna (aq a 0) (aq a 1)) (λX=>.bool X) (λX=>[])
theorem Qx0:bn pG Z0e:=oS (.nil) Tryz.func243 Tryz.call243 [] [] 2
def RD(BI:Int):Tree Int:=
.an (M9 BI 8 8) (.lv (tP BI 8 8) λ(x0:Int)=>.lf x0)
def X1 BI:=(RD BI).m
abbrev Qcs BI:=(RD BI).p
def Z0n:bc:=mT 244 [] true [.one (.int .u32)] [] (λa r=>RD (aq a 0)) (λX=>.int .u32 X) (λX=>[])
theorem Qxt:bn pG Z0n:=oT (.cons Qlw (.nil)) Tryz.func244 Tryz.call244 [] [] 2
def LP(m:List Int)(root va access:Int):Tree rS:=
.lv (Qk8 access) λ(x0:Int×Bool)=>let E1:=({Addr:=0,F6:=0,F5:=x0.1}:rS);.br (!x0.2) (.lf (E1)) (.br (decide (va>=4096)) (.lf (E1)) (.lv (OI m root) λ(x1:Bool)=>.br (!x1) (.lf (E1)) (let E2:=wrap u32 (root*128)+wrap u32 (4*wrap u32 (eU va 128));.an (Q4 m (wrap u32 E2) 4) (.lv (Cz m (wrap u32 E2) 4) λ(x2:Int×Bool)=>.br (!x2.2) (.lf (E1)) (.lv (TS x2.1 access) λ(x3:Bool)=>.br (!x3) (.lf (E1)) (.an (Qcs x2.1) (.lv (X1 x2.1) λ(x4:Int)=>.lv (OI m x4) λ(x5:Bool)=>.br (!x5) (.lf (E1)) (.an (Qcs x2.1) (.lv (X1 x2.1) λ(x6:Int)=>.lf ({Addr:=wrap u32 (wrap u32 (x6*128)+dE va 128),F6:=wrap u32 E2,F5:=0}))))))))))
def TR m root va access:=(LP m root va access).m
abbrev Qh3 m root va access:=(LP m root va access).p
def Zcd:bc:=mT 176 [] true [.one (.ints .u32),.one (.int .u32),.one (.int .u32),.one (.int .i64)] [] (λa r=>LP (ei .u32 a 0) (aq a 1) (aq a 2) (aq a 3)) (λX=>.agg (rS.cells X)) (λX=>[])
theorem Z61:bn pG Zcd:=oT (.cons Qy7 (.cons Z0s (.cons Sf (.cons Qx0 (.cons Qxt (.nil)))))) Tryz.func176 Tryz.call176 [] [] 2
def LQ(m:List Int)(entry access:Int):Tree (List Int):=
.an (Q4 m entry 4) (.lv (Cz m entry 4) λ(x0:Int×Bool)=>.br (!x0.2) (.an (mQ m) (.lv (jF m) λ(x1:List Int)=>.lf x1)) (.br (access==3) (.an (Qaz m entry 4 (ir u32 (ir u32 x0.1 8) 16)) (.lv (LM m entry 4 (ir u32 (ir u32 x0.1 8) 16)) λ(x2:List Int×Bool)=>.lf x2.1)) (.an (Qaz m entry 4 (ir u32 x0.1 8)) (.lv (LM m entry 4 (ir u32 x0.1 8)) λ(x3:List Int×Bool)=>.lf x3.1))))
def OJ m entry access:=(LQ m entry access).m
abbrev Qfo m entry access:=(LQ m entry access).p
def Z7s:bc:=mT 246 [] true [.one (.ints .u32),.one (.int .u32),.one (.int .i64)] [] (λa r=>LQ (ei .u32 a 0) (aq a 1) (aq a 2)) (λX=>.all 0) (λX=>[⟨false,23,1,.ints .u32 X⟩])
theorem Z3c:bn pG Z7s:=oT (.cons Sf (.cons EH (.cons Qoi (.nil)))) Tryz.func246 Tryz.call246 [.row 23 1 (.ints .u32)] [] 2
def LW(c:bj)(m:List Int)(va size access:Int):Tree (Int×(List Int)×Int):=
.lv (Qso access) λ(x0:Int×Bool)=>let T3:Tree ((Int×(List Int)×Int)):=.an (mQ m) (.lv (jF m) λ(x1:List Int)=>.lf (0,x1,5));.br (!x0.2) T3 (let T1:Tree ((Int×(List Int)×Int)):=.cn (decide (wrap u32 size≠0)) (.br (dE va (wrap u32 size) !=0) (.an (mQ m) (.lv (jF m) λ(x3:List Int)=>.lf (0,x3,3))) (.lv (Hg c) λ(x4:Bool)=>let T2:Tree ((Int×(List Int)×Int)):=.an (Q4 m va size) (.lv (Cz m va size) λ(x8:Int×Bool)=>.br (!x8.2) (.an (mQ m) (.lv (jF m) λ(x9:List Int)=>.lf (0,x9,x0.1))) (.an (mQ m) (.lv (jF m) λ(ki:List Int)=>.lf (va,ki,0))));.br (!x4) (.br (bg u32 c.B7.a0 (4:Int) !=(0:Int)) (.an (Qh3 m c.B7.a6 va access) (.lv (TR m c.B7.a6 va access) λ(x5:rS)=>.br (x5.F5 !=0) (.an (mQ m) (.lv (jF m) λ(x6:List Int)=>.lf (0,x6,x5.F5))) (.an (Qfo m x5.F6 access) (.lv (OJ m x5.F6 access) λ(x7:List Int)=>.lf (x5.Addr,x7,0))))) T2) T2));.br (size !=1) (.br (size !=4) T3 T1) T1)
def r9 c m va size access:=(LW c m va size access).m
abbrev Qck c m va size access:=(LW c m va size access).p
def Zas:bc:=mT 177 [] true [.agg bj.sig,.one (.ints .u32),.one (.int .u32),.one (.int .i64),.one (.int .i64)] [] (λa r=>LW (bj.of (aC a 0)) (ei .u32 a 1) (aq a 2) (aq a 3) (aq a 4)) (λX=>.du [.int .u32 (X.1),.all 0,.int .i64 (X.2.2)]) (λX=>[⟨false,23,1,.ints .u32 (X.2.1)⟩])
theorem Qk:bn pG Zas:=oT (.cons Z67 (.cons EH (.cons Qv2 (.cons Z61 (.cons Z3c (.cons Sf (.nil))))))) Tryz.func177 Tryz.call177 [.row 23 1 (.ints .u32)] [] 2
def RE(c:bj)(m:List Int):Tree (Int×(List Int)×Int):=
.an (Qck c m c.Pc 4 1) (.lv (r9 c m c.Pc 4 1) λ(x0:Int×List Int×Int)=>.br (x0.2.2 !=0) (.lf (0,x0.2.1,x0.2.2)) (.an (Q4 x0.2.1 x0.1 4) (.lv (Cz x0.2.1 x0.1 4) λ(x1:Int×Bool)=>.lf (x1.1,x0.2.1,0))))
def T8 c m:=(RE c m).m
abbrev Qtp c m:=(RE c m).p
def Zjg:bc:=mT 111 [] true [.agg bj.sig,.one (.ints .u32)] [] (λa r=>RE (bj.of (aC a 0)) (ei .u32 a 1)) (λX=>.du [.int .u32 (X.1),.all 0,.int .i64 (X.2.2)]) (λX=>[⟨false,23,1,.ints .u32 (X.2.1)⟩])
theorem Zg:bn pG Zjg:=oT (.cons Qk (.cons Sf (.nil))) Tryz.func111 Tryz.call111 [.row 23 1 (.ints .u32)] [] 2
def Qn4(op:Int):Tree Bool:=
.br (op==57) (.lf true) (.br (op==58) (.lf true) (.br (op==59) (.lf true) (.br (op==60) (.lf true) (.br (op==61) (.lf true) (.br (op==62) (.lf true) (.br (op==63) (.lf true) (.br (op==64) (.lf true) (.lf false))))))))
def OD op:=(Qn4 op).m
def Z0c:bc:=mS 114 [] true [.one (.int .i64)] [] (λa r=>Qn4 (aq a 0)) (λX=>.bool X) (λX=>[])
theorem Qxv:bn pG Z0c:=oS (.nil) Tryz.func114 Tryz.call114 [] [] 2
def Qsn(op:Int):Tree Int:=
.br (op==32) (.lf 4) (.br (op==35) (.lf 4) (.lf 1))
def Km op:=(Qsn op).m
def Zj4:bc:=mS 184 [] true [.one (.int .i64)] [] (λa r=>Qsn (aq a 0)) (λX=>.int .i64 X) (λX=>[])
theorem Qyt:bn pG Zj4:=oS (.nil) Tryz.func184 Tryz.call184 [] [] 2
def Fy(c:bj)(register v:Int):Tree bj:=
.br (register !=0) (.cn (bJ 0 1&&decide (0<=register/\register<(↑16:Int))) (.lf ({X:=iV.of 0 (dG (iV.l c.X) register.toNat v),Pc:=c.Pc,B7:=c.B7}))) (.lf c)
def uH c register v:=(Fy c register v).m
abbrev Il c register v:=(Fy c register v).p
def qD:bc:=mT 185 [] true [.agg bj.sig,.one (.int .i64),.one (.int .u32)] [] (λa r=>Fy (bj.of (aC a 0)) (aq a 1) (aq a 2)) (λX=>.agg (bj.cells X)) (λX=>[])
theorem Z9j:bn pG qD:=oT (.nil) Tryz.func185 Tryz.call185 [] [] 2
def Jh(c:bj)(m:List Int)(i:gu):Tree (bj×(List Int)):=
.cn (bJ 0 1&&decide (0<=i.B/\i.B<(↑16:Int))) (.lv (Km i.Op) λ(x0:Int)=>let E1:=wrap u32 (aK (iV.l c.X) i.B.toNat 0+wrap u32 i.bq);.an (Qck c m E1 x0 2) (.lv (r9 c m E1 x0 2) λ(x1:Int×List Int×Int)=>.br (x1.2.2 !=0) (.lv (rC c x1.2.2 E1) λ(x2:bj)=>.lf (x2,x1.2.1)) (.lv (Km i.Op) λ(x3:Int)=>.an (Q4 x1.2.1 x1.1 x3) (.lv (Cz x1.2.1 x1.1 x3) λ(x4:Int×Bool)=>.br (i.Op==33) (.an (Qb4 x4.1 8) (.lv (Ei x4.1 8) λ(x5:Int)=>.an (Il c i.A x5) (.lv (uH c i.A x5) λ(x6:bj)=>.lf ({X:=x6.X,Pc:=wrap u32 (x6.Pc+4),B7:=x6.B7},x1.2.1)))) (.an (Il c i.A x4.1) (.lv (uH c i.A x4.1) λ(x7:bj)=>.lf ({X:=x7.X,Pc:=wrap u32 (x7.Pc+4),B7:=x7.B7},x1.2.1)))))))
def tR c m i:=(Jh c m i).m
abbrev Qz2 c m i:=(Jh c m i).p
def Zof:bc:=mT 119 [] true [.agg bj.sig,.one (.ints .u32),.agg gu.sig] [] (λa r=>Jh (bj.of (aC a 0)) (ei .u32 a 1) (gu.of (aC a 2))) (λX=>.du [.agg (bj.cells (X.1)),.all 0]) (λX=>[⟨false,23,1,.ints .u32 (X.2)⟩])
theorem Zk6:bn pG Zof:=oT (.cons Qk (.cons Qyt (.cons Se (.cons Sf (.cons Qji (.cons Z9j (.nil))))))) Tryz.func119 Tryz.call119 [.row 23 1 (.ints .u32)] [] 2
def Jj(c:bj)(m:List Int)(i:gu):Tree (bj×(List Int)):=
.cn (bJ 0 1&&decide (0<=i.B/\i.B<(↑16:Int))) (.lv (Km i.Op) λ(x0:Int)=>let E1:=wrap u32 (aK (iV.l c.X) i.B.toNat 0+wrap u32 i.bq);.an (Qck c m E1 x0 3) (.lv (r9 c m E1 x0 3) λ(x1:Int×List Int×Int)=>.br (x1.2.2 !=0) (.lv (rC c x1.2.2 E1) λ(x2:bj)=>.lf (x2,x1.2.1)) (.lv (Km i.Op) λ(x3:Int)=>.cn (bJ 0 1&&decide (0<=i.A/\i.A<(↑16:Int))) (let E2:=aK (iV.l c.X) i.A.toNat 0;.an (Qaz x1.2.1 x1.1 x3 E2) (.lv (LM x1.2.1 x1.1 x3 E2) λ(x4:List Int×Bool)=>.lf ({X:=c.X,Pc:=wrap u32 (c.Pc+4),B7:=c.B7},x4.1))))))
def CB c m i:=(Jj c m i).m
abbrev Qtr c m i:=(Jj c m i).p
def Zja:bc:=mT 120 [] true [.agg bj.sig,.one (.ints .u32),.agg gu.sig] [] (λa r=>Jj (bj.of (aC a 0)) (ei .u32 a 1) (gu.of (aC a 2))) (λX=>.du [.agg (bj.cells (X.1)),.all 0]) (λX=>[⟨false,23,1,.ints .u32 (X.2)⟩])
theorem Zi2:bn pG Zja:=oT (.cons Qk (.cons Qyt (.cons Se (.cons Qoi (.nil))))) Tryz.func120 Tryz.call120 [.row 23 1 (.ints .u32)] [] 2
def Z4j(op a b:Int):Tree Bool:=
.br (op==40) (.lf (a==b)) (.br (op==41) (.lf (a !=b)) (.br (op==42) (.lf (decide (wrap i32 a<wrap i32 b))) (.br (op==43) (.lf (decide (wrap i32 a>=wrap i32 b))) (.br (op==44) (.lf (decide (a<b))) (.lf (decide (a>=b)))))))
def Zez op a b:=(Z4j op a b).m
def Zlk:bc:=mS 187 [] true [.one (.int .i64),.one (.int .u32),.one (.int .u32)] [] (λa r=>Z4j (aq a 0) (aq a 1) (aq a 2)) (λX=>.bool X) (λX=>[])
theorem Zh1:bn pG Zlk:=oS (.nil) Tryz.func187 Tryz.call187 [] [] 2
def ON(c:bj):Tree bj:=
.lv (AK c.B7.a0 8 1) λ(x0:Int)=>.lv (AK x0 16 2) λ(x1:Int)=>.lf ({X:=c.X,Pc:=c.B7.a2,B7:={a0:=x1,a1:=c.B7.a1,a2:=c.B7.a2,a3:=c.B7.a3,a4:=c.B7.a4,a5:=c.B7.a5,a6:=c.B7.a6,a7:=c.B7.a7}})
def Lz c:=(ON c).m
def Zht:bc:=mS 188 [] true [.agg bj.sig] [] (λa r=>ON (bj.of (aC a 0))) (λX=>.agg (bj.cells X)) (λX=>[])
theorem Zco:bn pG Zht:=oS (.cons Z4k (.nil)) Tryz.func188 Tryz.call188 [] [] 2
def Jg(c:bj)(jt v:Int):Tree bj:=
let E4:=bJ 0 1&&decide (0<=jt/\jt<(↑8:Int));let T2:Tree (bj):=.cn E4 (.lf ({X:=c.X,Pc:=c.Pc,B7:=A8.of 0 (dG (A8.l c.B7) jt.toNat (bg u32 v 31))}));.br (jt==0) T2 (.br (jt==7) T2 (.br (jt==6) (.cn E4 (.lf ({X:=c.X,Pc:=c.Pc,B7:=A8.of 0 (dG (A8.l c.B7) jt.toNat (bg u32 v 255))}))) (let T3:Tree (bj):=.cn E4 (.lf ({X:=c.X,Pc:=c.Pc,B7:=A8.of 0 (dG (A8.l c.B7) jt.toNat (nY u32 v 3))}));.br (jt==1) T3 (.br (jt==2) T3 (let T1:Tree (bj):=.cn E4 (.lf ({X:=c.X,Pc:=c.Pc,B7:=A8.of 0 (dG (A8.l c.B7) jt.toNat v)}));.br (jt==3) T1 (.br (jt==4) T1 (.br (jt==5) T1 (.lf c))))))))
def Zeh c jt v:=(Jg c jt v).m
abbrev Qv4 c jt v:=(Jg c jt v).p
def Zkv:bc:=mT 189 [] true [.agg bj.sig,.one (.int .i64),.one (.int .u32)] [] (λa r=>Jg (bj.of (aC a 0)) (aq a 1) (aq a 2)) (λX=>.agg (bj.cells X)) (λX=>[])
theorem Zgt:bn pG Zkv:=oT (.nil) Tryz.func189 Tryz.call189 [] [] 2
def Fz(c:bj)(i:gu):Tree (bj×kN):=
.cn (bJ 0 1&&decide (0<=i.A/\i.A<(↑16:Int))) (.cn (bJ 0 1&&decide (0<=i.B/\i.B<(↑16:Int))) (.br (i.Op==24) (.an (Il c i.A (eh u32 (wrap u32 i.bq) 16)) (.lv (uH c i.A (eh u32 (wrap u32 i.bq) 16)) λ(x0:bj)=>.lf ({X:=x0.X,Pc:=wrap u32 (c.Pc+4),B7:=x0.B7},{C3:=0,D4:=0,F3:=0,Value:=0}))) (let E2:=({X:=c.X,Pc:=wrap u32 (c.Pc+4),B7:=c.B7}:bj);let E3:=aK (iV.l c.X) i.B.toNat 0;let E4:=aK (iV.l c.X) i.A.toNat 0;let T1:Tree ((bj×kN)):=.lv (Zez i.Op E4 E3) λ(x1:Bool)=>.br x1 (.lf ({X:=c.X,Pc:=wrap u32 (c.Pc+wrap u32 (4*wrap u32 i.bq)),B7:=c.B7},{C3:=0,D4:=0,F3:=0,Value:=0})) (.lf (E2,{C3:=0,D4:=0,F3:=0,Value:=0}));.br (i.Op==40) T1 (.br (i.Op==41) T1 (.br (i.Op==42) T1 (.br (i.Op==43) T1 (.br (i.Op==44) T1 (.br (i.Op==45) T1 (.br (i.Op==48) (.an (Il c i.A (wrap u32 (c.Pc+4))) (.lv (uH c i.A (wrap u32 (c.Pc+4))) λ(x7:bj)=>.lf ({X:=x7.X,Pc:=wrap u32 (x7.Pc+wrap u32 (4*wrap u32 i.bq)),B7:=x7.B7},{C3:=0,D4:=0,F3:=0,Value:=0}))) (.br (i.Op==49) (.an (Il c i.A (wrap u32 (c.Pc+4))) (.lv (uH c i.A (wrap u32 (c.Pc+4))) λ(x8:bj)=>.lf ({X:=x8.X,Pc:=wrap u32 (aK (iV.l c.X) i.B.toNat 0+wrap u32 i.bq),B7:=x8.B7},{C3:=0,D4:=0,F3:=0,Value:=0}))) (.br (i.Op==56) (.lv (rC c 7 0) λ(x9:bj)=>.lf (x9,{C3:=0,D4:=0,F3:=0,Value:=0})) (.br (i.Op==57) (.lv (Lz c) λ(ki:bj)=>.lf (ki,{C3:=0,D4:=0,F3:=0,Value:=0})) (.br (i.Op==58) (.cn (bJ 0 1&&decide (0<=i.bq/\i.bq<(↑8:Int))) (let E5:=aK (A8.l c.B7) i.bq.toNat 0;.an (Il c i.A E5) (.lv (uH c i.A E5) λ(mI:bj)=>.lf ({X:=mI.X,Pc:=wrap u32 (c.Pc+4),B7:=mI.B7},{C3:=0,D4:=0,F3:=0,Value:=0})))) (.br (i.Op==59) (.an (Qv4 c (wrap i64 i.bq) E4) (.lv (Zeh c (wrap i64 i.bq) E4) λ(lO:bj)=>.lf ({X:=lO.X,Pc:=wrap u32 (c.Pc+4),B7:=lO.B7},{C3:=0,D4:=0,F3:=0,Value:=0}))) (.br (i.Op==60) (.lf (E2,{C3:=1,D4:=wrap i64 i.bq,F3:=i.A,Value:=0})) (.br (i.Op==61) (.lf (E2,{C3:=2,D4:=wrap i64 i.bq,F3:=0,Value:=aK (iV.l c.X) i.A.toNat 0})) (.br (i.Op==62) (.lf (E2,{C3:=3,D4:=0,F3:=0,Value:=0})) (.br (i.Op==63) (.lf (E2,{C3:=5,D4:=0,F3:=0,Value:=0})) (.br (i.Op==64) (.lf (E2,{C3:=4,D4:=0,F3:=0,Value:=0})) (.cn (bJ 0 1&&decide (0<=i.C/\i.C<(↑16:Int))) (.br (decide (i.Op>=16)) (.an (Qsh i.Op E3 (wrap u32 i.bq)) (.lv (nS i.Op E3 (wrap u32 i.bq)) λ(me:Int×Bool)=>.an (Il c i.A me.1) (.lv (uH c i.A me.1) λ(uM:bj)=>.lf ({X:=uM.X,Pc:=wrap u32 (c.Pc+4),B7:=uM.B7},{C3:=0,D4:=0,F3:=0,Value:=0})))) (let E6:=aK (iV.l c.X) i.C.toNat 0;.an (Qsh i.Op E3 E6) (.lv (nS i.Op E3 E6) λ(JH:Int×Bool)=>.an (Il c i.A JH.1) (.lv (uH c i.A JH.1) λ(uO:bj)=>.lf ({X:=uO.X,Pc:=wrap u32 (c.Pc+4),B7:=uO.B7},{C3:=0,D4:=0,F3:=0,Value:=0})))))))))))))))))))))))))
def X4 c i:=(Fz c i).m
abbrev Qp8 c i:=(Fz c i).p
def Zeb:bc:=mT 121 [] true [.agg bj.sig,.agg gu.sig] [] (λa r=>Fz (bj.of (aC a 0)) (gu.of (aC a 1))) (λX=>.du [.agg (bj.cells (X.1)),.agg (kN.cells (X.2))]) (λX=>[])
theorem Z74:bn pG Zeb:=oT (.cons Z9j (.cons Zh1 (.cons Se (.cons Zco (.cons Zgt (.cons Zqj (.nil))))))) Tryz.func121 Tryz.call121 [] [] 2
def FA(c:bj)(m:List Int):Tree (bj×(List Int)×kN):=
.an (Qtp c m) (.lv (T8 c m) λ(x0:Int×List Int×Int)=>.br (x0.2.2 !=0) (.lv (rC c x0.2.2 c.Pc) λ(x1:bj)=>.lf (x1,x0.2.1,{C3:=0,D4:=0,F3:=0,Value:=0})) (.an (Qro x0.1) (.lv (OF x0.1) λ(x2:gu×Bool)=>.br (!x2.2) (.lv (rC c 1 x0.1) λ(x3:bj)=>.lf (x3,x0.2.1,{C3:=0,D4:=0,F3:=0,Value:=0})) (.lv (OD x2.1.Op) λ(x4:Bool)=>let T1:Tree ((bj×(List Int)×kN)):=let T2:Tree ((bj×(List Int)×kN)):=.an (Qz2 c x0.2.1 x2.1) (.lv (tR c x0.2.1 x2.1) λ(x7:bj×List Int)=>.lf (x7.1,x7.2,{C3:=0,D4:=0,F3:=0,Value:=0}));.br (x2.1.Op==32) T2 (.br (x2.1.Op==33) T2 (.br (x2.1.Op==34) T2 (let T3:Tree ((bj×(List Int)×kN)):=.an (Qtr c x0.2.1 x2.1) (.lv (CB c x0.2.1 x2.1) λ(ki:bj×List Int)=>.lf (ki.1,ki.2,{C3:=0,D4:=0,F3:=0,Value:=0}));.br (x2.1.Op==35) T3 (.br (x2.1.Op==36) T3 (.an (Qp8 c x2.1) (.lv (X4 c x2.1) λ(lO:bj×kN)=>.lf (lO.1,x0.2.1,lO.2)))))));.br x4 (.lv (Hg c) λ(x5:Bool)=>.br (!x5) (.lv (rC c 2 x0.1) λ(x6:bj)=>.lf (x6,x0.2.1,{C3:=0,D4:=0,F3:=0,Value:=0})) T1) T1))))
def wR c m:=(FA c m).m
abbrev Qo0 c m:=(FA c m).p
def Zpx:bc:=mT 63 [] true [.agg bj.sig,.one (.ints .u32)] [] (λa r=>FA (bj.of (aC a 0)) (ei .u32 a 1)) (λX=>.du [.agg (bj.cells (X.1)),.all 0,.agg (kN.cells (X.2.2))]) (λX=>[⟨false,23,1,.ints .u32 (X.2.1)⟩])
theorem Z3f:bn pG Zpx:=oT (.cons Zg (.cons Se (.cons Ze6 (.cons Qxv (.cons Qv2 (.cons Zk6 (.cons Zi2 (.cons Z74 (.nil))))))))) Tryz.func63 Tryz.call63 [.row 23 1 (.ints .u32)] [] 2
end
noncomputable section
def Ky:List UInt8:=[(0:UInt8),1,2,2,3,3,3,3,4,4,4,4,4,4,4,4,5,5,5,5,5,5,5,5,5,5,5,5,5,5,5,5,6,6,6,6,6,6,6,6,6,6,6,6,6,6,6,6,6,6,6,6,6,6,6,6,6,6,6,6,6,6,6,6]
def Sg:List UInt8:=[(7:UInt8),7,7,7,7,7,7,7,7,7,7,7,7,7,7,7,7,7,7,7,7,7,7,7,7,7,7,7,7,7,7,7,7,7,7,7,7,7,7,7,7,7,7,7,7,7,7,7,7,7,7,7,7,7,7,7,7,7,7,7,7,7,7,7]
def EI:List UInt8:=[(8:UInt8),8,8,8,8,8,8,8,8,8,8,8,8,8,8,8,8,8,8,8,8,8,8,8,8,8,8,8,8,8,8,8,8,8,8,8,8,8,8,8,8,8,8,8,8,8,8,8,8,8,8,8,8,8,8,8,8,8,8,8,8,8,8,8]
def VU:List UInt8:=[(1:UInt8),2,2,3,3,3,3,4,4,4,4,4,4,4,4,5,5,5,5,5,5,5,5,5,5,5,5,5,5,5,5,6,6,6,6,6,6,6,6,6,6,6,6,6,6,6,6,6,6,6,6,6,6,6,6,6,6,6,6,6,6,6,6]
def Kz:List UInt8:=[(0:UInt8),1,1,2,1,2,2,3,1,2,2,3,2,3,3,4,1,2,2,3,2,3,3,4,2,3,3,4,3,4,4,5,1,2,2,3,2,3,3,4,2,3,3,4,3,4,4,5,2,3,3,4,3,4,4,5,3,4,4,5,4,5,5,6]
def EJ:List UInt8:=[(1:UInt8),2,2,3,2,3,3,4,2,3,3,4,3,4,4,5,2,3,3,4,3,4,4,5,3,4,4,5,4,5,5,6,2,3,3,4,3,4,4,5,3,4,4,5,4,5,5,6,3,4,4,5,4,5,5,6,4,5,5,6,5,6,6,7]
def Sh:List UInt8:=[(2:UInt8),3,3,4,3,4,4,5,3,4,4,5,4,5,5,6,3,4,4,5,4,5,5,6,4,5,5,6,5,6,6,7,3,4,4,5,4,5,5,6,4,5,5,6,5,6,6,7,4,5,5,6,5,6,6,7,5,6,6,7,6,7,7,8]
def VV:List UInt8:=[(1:UInt8),1,2,1,2,2,3,1,2,2,3,2,3,3,4,1,2,2,3,2,3,3,4,2,3,3,4,3,4,4,5,1,2,2,3,2,3,3,4,2,3,3,4,3,4,4,5,2,3,3,4,3,4,4,5,3,4,4,5,4,5,5,6]
def Quq(c:iW):Tree Bool:=
.lf (decide ((c.D5.length:Int)<=(16:Int)))
def tN c:=(Quq c).m
def Ze0:bc:=mS 195 [] true [.agg iW.sig] [] (λa r=>Quq (iW.of (aC a 0))) (λX=>.bool X) (λX=>[])
theorem Z6a:bn pG Ze0:=oS (.nil) Tryz.func195 Tryz.call195 [] [] 2
def TA(t:iX):Tree Bool:=
.br t.D7 (.br (!t.D6) (.lf (t.C7 !=0)) (.lf false)) (.br t.D6 (.lf true) (.lf (t.C7==0)))
def tO t:=(TA t).m
def Zkg:bc:=mS 196 [] true [.agg iX.sig] [] (λa r=>TA (iX.of (aC a 0))) (λX=>.bool X) (λX=>[])
theorem Zhr:bn pG Zkg:=oS (.nil) Tryz.func196 Tryz.call196 [] [] 2
def Jc(d0:fp):Tree Bool:=
.br (d0.D8==1) (.lf (decide (d0.C1=[]))) (.br (d0.D8==2) (.lf ((d0.C1.length:Int)==(128:Int))) (.lf false))
def Ot d0:=(Jc d0).m
def Qx5:bc:=mS 260 [] true [.agg fp.sig] [] (λa r=>Jc (fp.of (aC a 0))) (λX=>.bool X) (λX=>[])
theorem Qvd:bn pG Qx5:=oS (.nil) Tryz.func260 Tryz.call260 [] [] 2
def wO(d0:fp)(c8:Int):Tree Bool:=
.br (decide (d0.ag>64)) (.lf false) (let T1:Tree (Bool):=.br (d0.D8==0) (.br (d0.B9==0) (.br (d0.B5==0) (.lf (decide (d0.C1=[]))) (.lf false)) (.lf false)) (.lf false);.br (d0.C0==0) T1 (.br (d0.C0==2) T1 (.br (d0.C0==3) T1 (.br (d0.C0==1) (.lv (Ot d0) λ(x0:Bool)=>.br x0 (.br (decide (d0.B9<d0.ag)) (.lf (decide (wrap i64 d0.B5<c8))) (.lf false)) (.lf false)) (.lf false)))))
def kr d0 c8:=(wO d0 c8).m
def Zqb:bc:=mS 197 [] true [.agg fp.sig,.one (.int .i64)] [] (λa r=>wO (fp.of (aC a 0)) (aq a 1)) (λX=>.bool X) (λX=>[])
theorem Zkz:bn pG Zqb:=oS (.cons Qvd (.nil)) Tryz.func197 Tryz.call197 [] [] 2
def Ln(n:ia)(c8:Int):Tree Bool:=
let T1:Tree (Bool):=let T2:Tree (Bool):=.br n.B8 (.br (decide (n.F4>=1)) (.lf (decide (n.F4<=128))) (.lf false)) (.lf (n.F4==0));.br n.C8 (.br (decide (wrap i64 n.C2>=c8)) (.lf false) T2) (.br (n.C2 !=0) (.lf false) T2);.br n.C8 (.br n.B8 (.lf false) T1) T1
def pE n c8:=(Ln n c8).m
def xD:bc:=mS 198 [] true [.agg ia.sig,.one (.int .i64)] [] (λa r=>Ln (ia.of (aC a 0)) (aq a 1)) (λX=>.bool X) (λX=>[])
theorem Zob:bn pG xD:=oS (.nil) Tryz.func198 Tryz.call198 [] [] 2
def Ee(x:Int):Tree Int:=
let E1:=(↑(dK (cR (cR Ky Sg) (cR EI EI))):Int);.br (decide (x>=65536)) (.br (decide (bh u32 x (16:Int)>=(256:Int))) (.cn (decide (0<=wrap u8 (bh u32 (bh u32 x 16) 8)/\wrap u8 (bh u32 (bh u32 x 16) 8)<E1)) (.lf (wrap i64 (wrap i64 ((16:Int)+(8:Int))+wrap i64 (↑(eW (aK ((0:UInt8)::(VU++Sg++(EI++EI))) (dF (wrap u8 (bh u32 (bh u32 x 16) 8))) (0:UInt8))):Int))))) (.cn (decide (0<=wrap u8 (bh u32 x 16)/\wrap u8 (bh u32 x 16)<E1)) (.lf (wrap i64 (16+wrap i64 (↑(eW (aK ((0:UInt8)::(VU++Sg++(EI++EI))) (dF (wrap u8 (bh u32 x 16))) (0:UInt8))):Int)))))) (.br (decide (x>=256)) (.cn (decide (0<=wrap u8 (bh u32 x 8)/\wrap u8 (bh u32 x 8)<E1)) (.lf (wrap i64 (wrap i64 ((0:Int)+(8:Int))+wrap i64 (↑(eW (aK ((0:UInt8)::(VU++Sg++(EI++EI))) (dF (wrap u8 (bh u32 x 8))) (0:UInt8))):Int))))) (.cn (decide (0<=wrap u8 x/\wrap u8 x<E1)) (.lf (wrap i64 (0+wrap i64 (↑(eW (aK ((0:UInt8)::(VU++Sg++(EI++EI))) (dF (wrap u8 x)) (0:UInt8))):Int))))))
def wP x:=(Ee x).m
abbrev Qh7 x:=(Ee x).p
def Qwr:bc:=mT 261 [] true [.one (.int .u32)] [] (λa r=>Ee (aq a 0)) (λX=>.int .i64 X) (λX=>[])
theorem Qvc:bn pG Qwr:=oT (.nil) Tryz.func261 Tryz.call261 [] [] 2
def GY(b:gv)(c8:Int):Tree Bool:=
.an (Qh7 b.C5) (.lv (wP b.C5) λ(x0:Int)=>.lf (decide (x0<=if 0>c8 then 0 else c8)))
def uD b c8:=(GY b c8).m
abbrev Qiy b c8:=(GY b c8).p
def Zc0:bc:=mT 199 [] true [.agg gv.sig,.one (.int .i64)] [] (λa r=>GY (gv.of (aC a 0)) (aq a 1)) (λX=>.bool X) (λX=>[])
theorem Z7g:bn pG Zc0:=oT (.cons Qvc (.nil)) Tryz.func199 Tryz.call199 [] [] 2
def Ec(m:au):Tree Bool:=
.lv (mb m.Mem) λ(x0:Int)=>.lv (tN m.A7) λ(x1:Bool)=>.br x1 (.lv (tO m.B2) λ(x2:Bool)=>.br x2 (.lv (kr m.B1 x0) λ(x3:Bool)=>.br x3 (.lv (pE m.C6 x0) λ(x4:Bool)=>.br x4 (.an (Qiy m.A6 x0) (.lv (uD m.A6 x0) λ(x5:Bool)=>.lf x5)) (.lf false)) (.lf false)) (.lf false)) (.lf false)
def sT m:=(Ec m).m
abbrev VQ m:=(Ec m).p
def Qqu:bc:=mT 131 [] true [.agg au.sig] [] (λa r=>Ec (au.of (aC a 0))) (λX=>.bool X) (λX=>[])
theorem Qp3:bn pG Qqu:=oT (.cons Ik (.cons Z6a (.cons Zhr (.cons Zkz (.cons Zob (.cons Z7g (.nil))))))) Tryz.func131 Tryz.call131 [] [] 2
def Kn(m:au):Tree Bool:=
.lv (mb m.Mem) λ(x0:Int)=>.br (x0==0) (.lf false) (.br (m.B4.X.a0 !=0) (.lf false) (.br (decide (m.B4.B7.a0>31)) (.lf false) (.br (decide (m.B4.B7.a7>31)) (.lf false) (.br (decide (m.B4.B7.a6>255)) (.lf false) (.br (dE m.B4.B7.a1 (4:Int) !=(0:Int)) (.lf false) (.br (decide (m.A4>1152921504606846976)) (.lf false) (.br m.A9 (.br m.B0 (.lf false) (.an (VQ m) (.lv (sT m) λ(x1:Bool)=>.lf x1))) (.an (VQ m) (.lv (sT m) λ(x2:Bool)=>.lf x2)))))))))
def nj m:=(Kn m).m
abbrev R8 m:=(Kn m).p
def Zcz:bc:=mT 68 [] true [.agg au.sig] [] (λa r=>Kn (au.of (aC a 0))) (λX=>.bool X) (λX=>[])
theorem Qk5:bn pG Zcz:=oT (.cons Ik (.cons Qp3 (.nil))) Tryz.func68 Tryz.call68 [] [] 2
def Qoh(t:iX):Tree Bool:=
.lf t.D6
def Yp t:=(Qoh t).m
def Z2n:bc:=mS 170 [] true [.agg iX.sig] [] (λa r=>Qoh (iX.of (aC a 0))) (λX=>.bool X) (λX=>[])
theorem Z0x:bn pG Z2n:=oS (.nil) Tryz.func170 Tryz.call170 [] [] 2
def Ql1(c:iW):Tree Bool:=
.lf (!decide (c.D5=[]))
def Uc c:=(Ql1 c).m
def Qww:bc:=mS 171 [] true [.agg iW.sig] [] (λa r=>Ql1 (iW.of (aC a 0))) (λX=>.bool X) (λX=>[])
theorem Qvi:bn pG Qww:=oS (.nil) Tryz.func171 Tryz.call171 [] [] 2
def Xu(d0:fp):Tree Bool:=
.br (d0.C0==2) (.lf true) (.lf (d0.C0==3))
def Lq d0:=(Xu d0).m
def Z81:bc:=mS 172 [] true [.agg fp.sig] [] (λa r=>Xu (fp.of (aC a 0))) (λX=>.bool X) (λX=>[])
theorem Qot:bn pG Z81:=oS (.nil) Tryz.func172 Tryz.call172 [] [] 2
def Qv0(n:ia):Tree Bool:=
.lf n.B8
def Yq n:=(Qv0 n).m
def Zbz:bc:=mS 173 [] true [.agg ia.sig] [] (λa r=>Qv0 (ia.of (aC a 0))) (λX=>.bool X) (λX=>[])
theorem Z68:bn pG Zbz:=oS (.nil) Tryz.func173 Tryz.call173 [] [] 2
def RH(x:Int):Tree Int:=
let E1:=(↑(dK (cR (cR Kz EJ) (cR EJ Sh))):Int);.cn (decide (0<=bh u32 x 24/\bh u32 x 24<E1)) (.cn (decide (0<=bg u32 (bh u32 x 16) 255/\bg u32 (bh u32 x 16) 255<E1)) (.cn (decide (0<=bg u32 (bh u32 x 8) 255/\bg u32 (bh u32 x 8) 255<E1)) (.cn (decide (0<=bg u32 x 255/\bg u32 x 255<E1)) (.lf (wrap i64 (wrap u8 (wrap u8 (wrap u8 ((↑(eW (aK ((0:UInt8)::(VV++EJ++(EJ++Sh))) (dF (bh u32 x 24)) (0:UInt8))):Int)+(↑(eW (aK ((0:UInt8)::(VV++EJ++(EJ++Sh))) (dF (bg u32 (bh u32 x 16) 255)) (0:UInt8))):Int))+(↑(eW (aK ((0:UInt8)::(VV++EJ++(EJ++Sh))) (dF (bg u32 (bh u32 x 8) 255)) (0:UInt8))):Int))+(↑(eW (aK ((0:UInt8)::(VV++EJ++(EJ++Sh))) (dF (bg u32 x 255)) (0:UInt8))):Int))))))))
def Yj x:=(RH x).m
abbrev Qag x:=(RH x).p
def Qma:bc:=mT 253 [] true [.one (.int .u32)] [] (λa r=>RH (aq a 0)) (λX=>.int .i64 X) (λX=>[])
theorem Ql5:bn pG Qma:=oT (.nil) Tryz.func253 Tryz.call253 [] [] 2
def RI(b:gv):Tree Int:=
.an (Qag b.C5) (.lv (Yj b.C5) λ(x0:Int)=>.lf x0)
def Uf b:=(RI b).m
abbrev Qdp b:=(RI b).p
def Z3r:bc:=mT 191 [] true [.agg gv.sig] [] (λa r=>RI (gv.of (aC a 0))) (λX=>.int .i64 X) (λX=>[])
theorem Qmz:bn pG Z3r:=oT (.cons Ql5 (.nil)) Tryz.func191 Tryz.call191 [] [] 2
def Q5(b:gv):Tree Bool:=
.an (Qdp b) (.lv (Uf b) λ(x0:Int)=>.lf (wrap u32 x0 !=b.C9))
def O2 b:=(Q5 b).m
abbrev Qil b:=(Q5 b).p
def Qy8:bc:=mT 174 [] true [.agg gv.sig] [] (λa r=>Q5 (gv.of (aC a 0))) (λX=>.bool X) (λX=>[])
theorem Qw0:bn pG Qy8:=oT (.cons Qmz (.nil)) Tryz.func174 Tryz.call174 [] [] 2
def Qgz(m:au)(z:(Int)×(Int)):Nat:=(5-z.2).toNat
def L7(m:au):Tree Int:=
.lv (Yp m.B2) λ(x0:Bool)=>.lv (Uc m.A7) λ(x1:Bool)=>.lv (Lq m.B1) λ(x2:Bool)=>.lv (Yq m.C6) λ(x3:Bool)=>.an (Qil m.A6) (.lv (O2 m.A6) λ(x4:Bool)=>.lp inferInstance (Qgz m (0,0)+1) ((rE (0:Int)/\(rE (x0:Bool)/\rE (x1:Bool)/\rE (x2:Bool)/\rE (x3:Bool)/\rE (x4:Bool)/\True)/\rE (0:Int)/\True)/\True) (0,0) λ(v0:Int×Int)=>.br (decide (v0.2<5)) (.cn (bT 1 1&&(bT 5 5&&decide (0<=v0.2/\v0.2<(↑5:Int)))) (.br (aK [x0,x1,x2,x3,x4] v0.2.toNat false) (.cn (decide (0<=v0.2)) (.nx ((rE ((ir u32 v0.1 (eh u32 1 v0.2)):Int)/\(rE (x0:Bool)/\rE (x1:Bool)/\rE (x2:Bool)/\rE (x3:Bool)/\rE (x4:Bool)/\True)/\rE ((wrap i64 (v0.2+1)):Int)/\True)/\True) (Sum.inl (ir u32 v0.1 (eh u32 1 v0.2),wrap i64 (v0.2+1))))) (.nx ((rE v0.1/\(rE (x0:Bool)/\rE (x1:Bool)/\rE (x2:Bool)/\rE (x3:Bool)/\rE (x4:Bool)/\True)/\rE ((wrap i64 (v0.2+1)):Int)/\True)/\True) (Sum.inl (v0.1,wrap i64 (v0.2+1)))))) (.lf (Sum.inr v0.1)))
def Uj m:=(L7 m).m
abbrev Ql9 m:=(L7 m).p
def Z0z:bw:={
 α:=(Int)×(Int)
 F:=λst a=>([(4,.int u32 a.1),(23,(lk st 23)),(24,.int i64 a.2)],[])
 a0:=λst=>((lk st 4).toInt,(lk st 24).toInt)
 jo:=λst=>[]++[]}
def Qtj:List (Nat×bw):=[(4,Z0z)]
def Z29:bc:=mT 108 [] true [.agg au.sig] [] (λa r=>L7 (au.of (aC a 0))) (λX=>.int .u32 X) (λX=>[])
theorem Z0h:bn pG Z29:=oT (.cons Z0x (.cons Qvi (.cons Qot (.cons Z68 (.cons Qw0 (.nil)))))) Tryz.func108 Tryz.call108 [] Qtj 3
def Hp(m:au):Tree Int:=
.an (Ql9 m) (.lv (Uj m) λ(x0:Int)=>.lf (bg u32 x0 m.B4.B7.a7))
def L9 m:=(Hp m).m
abbrev Qba m:=(Hp m).p
def Qwk:bc:=mT 117 [] true [.agg au.sig] [] (λa r=>Hp (au.of (aC a 0))) (λX=>.int .u32 X) (λX=>[])
theorem Qjt:bn pG Qwk:=oT (.cons Z0h (.nil)) Tryz.func117 Tryz.call117 [] [] 2
def Hq(m:au):Tree Bool:=
.br m.A9 (.an (Qba m) (.lv (L9 m) λ(x0:Int)=>.lf (x0==0))) (.lf false)
def LC m:=(Hq m).m
abbrev YO m:=(Hq m).p
def Z60:bc:=mT 107 [] true [.agg au.sig] [] (λa r=>Hq (au.of (aC a 0))) (λX=>.bool X) (λX=>[])
theorem Qnx:bn pG Z60:=oT (.cons Qjt (.nil)) Tryz.func107 Tryz.call107 [] [] 2

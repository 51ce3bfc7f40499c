import Derived.Test.YthjfindbamdacaaGreatDoorAuditFindsBase
open Int renaming tmod->dE,tdiv->eU,toNat->dF
open Nat renaming beq->bT,blt->bJ
open List renaming set->dG,getD->aK,length->dK,append->cR
open UInt8 renaming toNat->eW
set_option maxRecDepth 100000
set_option linter.all false
namespace Go.Proofs.YthjfindbamdacaaGreatDoor
open Go Go.GD Go.IntKind
noncomputable section
def jC(s:List Int):(List Int):=
s
def mJ(s:List Int):Prop:=
s.length<=35184372088832
def Q3p(s:List Int):List D:=[.sl 1 (.ints .u32 s) false]
def Vv(s:List Int):List Row:=[]
def MO(X:List Int):D:=.all 0
def MP(X:List Int):List Row:=[⟨false,23,1,.ints .u32 X⟩]
def Qdk:List oX:=[.row 23 1 (.ints .u32)]
def Q73:List PT:=[.one (.ints .u32)]
def Q6x:List RT:=[]
def Qeq(args:List D)(rows:List Row):(List Int):=jC (eh .u32 args 0)
def Qf4(args:List D)(rows:List Row):Prop:=mJ (eh .u32 args 0)
def Qgh:bc:=mM 59 [] true Q73 Q6x Qf4 Qeq MO MP
def Q4n(s:List Int)(Dy:(List Int)->Prop):Prop:=
(s=[]->Dy [])/\cj (decide ((4:Nat)*((0:Nat)+s.length)<=(140737488355328:Nat))) (Dy s)
set_option maxRecDepth 100000 in
theorem Qfe(s:List Int)(Q:D->List Row->Prop):(ny kM [] (LL kM [] Tryz.f59.ntmps 0 [] 2) Tryz.f59 (Q3p s) (Vv s) λd R=>r8 (Vv s).length Qdk d R Q)=Q4n s (λX=>Q (MO X) (MP X)):=by kernel_rfl
theorem Qdb(s:List Int)(Dy:(List Int)->Prop)(hw:mJ s)(h:Dy (jC s)):
Q4n s Dy:=by
 delta Q4n
 refine⟨λe=>by rw[e]at h;exact h,?_⟩
 rw[da]
 refine⟨dY ?_,h⟩
 have:s.length<=35184372088832:=hw
 omega
set_option maxRecDepth 100000 in
theorem Qd5(s:List Int)(hw:mJ s):Q3 pG 59 (Q3p s) (Vv s) (MO (jC s)) (MP (jC s)):=
 have hG:jW pG []:=.nil
 uV.calls drawn mN hG Tryz.func59 (rf:=none) (λ_ _=>trivial) (wq drawn mN hG (.inl rfl) 2 (h8:=[])) (uV.of (Qfe s _) (Qdb s (λX=>MO X=MO (jC s)/\MP X=MP (jC s)) hw ⟨rfl,rfl⟩))
set_option maxRecDepth 100000 in
theorem Qds(args:List D)(rows:List Row):me Q73 args 0=Q3p (eh .u32 args 0):=by kernel_rfl
set_option maxRecDepth 100000 in
theorem Qd4(args:List D)(rows:List Row):lr Q6x rows 0=Vv (eh .u32 args 0):=by kernel_rfl
set_option maxRecDepth 100000 in
theorem Qfk(X:List Int):(uZ (MO X)&&jH (MP X))=true:=by kernel_rfl
theorem Ew:bj pG Qgh:=ML Tryz.call59 (λargs rows hp=>by rw[Qds args rows,Qd4 args rows];exact Qd5 (eh .u32 args 0) hp) (λ_ X=>Qfk X)
def K4(m:List Int):Tree Int:=
.br (dE (m.length:Int) (32:Int) !=(0:Int)) (.lf 0) (.br (decide ((m.length:Int)>(1024:Int))) (.lf 0) (.lf (wrap i64 (eU (m.length:Int) 32))))
def lR m:=(K4 m).m
def Z6b:bc:=mS 14 [] true [.one (.ints .u32)] [] (λa r=>K4 (eh .u32 a 0)) (λX=>.int .i64 X) (λX=>[])
theorem H2:bj pG Z6b:=oS (.nil) Tryz.func14 Tryz.call14 [] [] 2
def Ja(m:List Int)(addr size:Int):Tree Bool:=
let T1:Tree (Bool):=.cn (decide (wrap u32 size≠0)) (.br (dE addr (wrap u32 size) !=0) (.lf false) (.lv (lR m) λ(x0:Int)=>.lf (decide (wrap u64 (wrap u64 addr+wrap u64 size)<=wrap u64 (wrap u64 x0*128)))));.br (size !=1) (.br (size !=4) (.lf false) T1) T1
def Xx m addr size:=(Ja m addr size).m
abbrev Qdj m addr size:=(Ja m addr size).p
def Z4m:bc:=mT 247 [] true [.one (.ints .u32),.one (.int .u32),.one (.int .i64)] [] (λa r=>Ja (eh .u32 a 0) (aq a 1) (aq a 2)) (λX=>.bool X) (λX=>[])
theorem Qn:bj pG Z4m:=oT (.cons H2 (.nil)) Tryz.func247 Tryz.call247 [] [] 2
def Ri(n:Int):Tree Int:=
.br (decide (n>=32)) (.lf 4294967295) (.cn (decide (0<=wrap u64 n)) (.lf (wrap u32 (eg u32 1 (wrap u64 n)-1))))
def Z3j n:=(Ri n).m
abbrev Qll n:=(Ri n).p
def Ziw:bc:=mT 248 [] true [.one (.int .i64)] [] (λa r=>Ri (aq a 0)) (λX=>.int .u32 X) (λX=>[])
theorem Qz1:bj pG Ziw:=oT (.nil) Tryz.func248 Tryz.call248 [] [] 2
def Rj(w low n:Int):Tree Int:=
.br (decide (low<0)) (.lf 0) (.br (decide (low>31)) (.lf 0) (.br (decide (n<1)) (.lf 0) (.cn (decide (0<=wrap u64 low)) (.an (Qll n) (.lv (Z3j n) λ(x0:Int)=>.lf (bf u32 (bg u32 w (wrap u64 low)) x0))))))
def tD w low n:=(Rj w low n).m
abbrev MQ w low n:=(Rj w low n).p
def Zgc:bc:=mT 179 [] true [.one (.int .u32),.one (.int .i64),.one (.int .i64)] [] (λa r=>Rj (aq a 0) (aq a 1) (aq a 2)) (λX=>.int .u32 X) (λX=>[])
theorem Qmi:bj pG Zgc:=oT (.cons Qz1 (.nil)) Tryz.func179 Tryz.call179 [] [] 2
def Rk(w low n v:Int):Tree Int:=
.br (decide (low<0)) (.lf w) (.br (decide (low>31)) (.lf w) (.br (decide (n<1)) (.lf w) (.an (Qll n) (.lv (Z3j n) λ(x0:Int)=>.cn (decide (0<=wrap u64 low)) (.cn (decide (0<=wrap u64 low)) (.lf (iq u32 (nQ u32 w (eg u32 x0 (wrap u64 low))) (eg u32 (bf u32 v x0) (wrap u64 low)))))))))
def Ls w low n v:=(Rk w low n v).m
abbrev Ql9 w low n v:=(Rk w low n v).p
def Z2x:bc:=mT 250 [] true [.one (.int .u32),.one (.int .i64),.one (.int .i64),.one (.int .u32)] [] (λa r=>Rk (aq a 0) (aq a 1) (aq a 2) (aq a 3)) (λX=>.int .u32 X) (λX=>[])
theorem Z0w:bj pG Z2x:=oT (.cons Qz1 (.nil)) Tryz.func250 Tryz.call250 [] [] 2
def Lv(m:List Int)(addr size v:Int):Tree ((List Int)×Bool):=
.an (mJ m) (.lv (jC m) λ(x0:List Int)=>.an (Qdj m addr size) (.lv (Xx m addr size) λ(x1:Bool)=>.br (!x1) (.lf (x0,false)) (let E1:=bT 1 1&&bJ 0 1&&decide (0<=wrap u32 (eU addr 4)/\wrap u32 (eU addr 4)<(x0.length:Int));let E2:=dF (wrap u32 (eU addr 4));.br (size==1) (.cn E1 (let E3:=wrap i64 (wrap i64 (dE addr 4)*8);.an (Ql9 (x0.getD E2 0) E3 8 v) (.lv (Ls (x0.getD E2 0) E3 8 v) λ(x2:Int)=>.cn E1 (.lf (dG x0 E2 x2,true))))) (.cn E1 (.lf (dG x0 E2 v,true))))))
def Lu m addr size v:=(Lv m addr size v).m
abbrev Qb0 m addr size v:=(Lv m addr size v).p
def Z6k:bc:=mT 186 [] true [.one (.ints .u32),.one (.int .u32),.one (.int .i64),.one (.int .u32)] [] (λa r=>Lv (eh .u32 a 0) (aq a 1) (aq a 2) (aq a 3)) (λX=>.dt [.all 0,.bool (X.2)]) (λX=>[⟨false,23,1,.ints .u32 (X.1)⟩])
theorem Qoc:bj pG Z6k:=oT (.cons Ew (.cons Qn (.cons Z0w (.nil)))) Tryz.func186 Tryz.call186 [.row 23 1 (.ints .u32)] [] 2
def Zg(op:Int):Tree (Ag×Bool):=
.br (op==1) (.lf ({a:=true,b:=true,c:=true,low:=0,D6:=0},true)) (.br (op==2) (.lf ({a:=true,b:=true,c:=true,low:=0,D6:=0},true)) (.br (op==3) (.lf ({a:=true,b:=true,c:=true,low:=0,D6:=0},true)) (.br (op==4) (.lf ({a:=true,b:=true,c:=true,low:=0,D6:=0},true)) (.br (op==5) (.lf ({a:=true,b:=true,c:=true,low:=0,D6:=0},true)) (.br (op==6) (.lf ({a:=true,b:=true,c:=true,low:=0,D6:=0},true)) (.br (op==7) (.lf ({a:=true,b:=true,c:=true,low:=0,D6:=0},true)) (.br (op==8) (.lf ({a:=true,b:=true,c:=true,low:=0,D6:=0},true)) (.br (op==9) (.lf ({a:=true,b:=true,c:=true,low:=0,D6:=0},true)) (.br (op==10) (.lf ({a:=true,b:=true,c:=true,low:=0,D6:=0},true)) (.br (op==11) (.lf ({a:=true,b:=true,c:=true,low:=0,D6:=0},true)) (.br (op==12) (.lf ({a:=true,b:=true,c:=true,low:=0,D6:=0},true)) (.br (op==13) (.lf ({a:=true,b:=true,c:=true,low:=0,D6:=0},true)) (.br (op==16) (.lf ({a:=true,b:=true,c:=false,low:=(-32768),D6:=32767},true)) (.br (op==23) (.lf ({a:=true,b:=true,c:=false,low:=(-32768),D6:=32767},true)) (.br (op==32) (.lf ({a:=true,b:=true,c:=false,low:=(-32768),D6:=32767},true)) (.br (op==33) (.lf ({a:=true,b:=true,c:=false,low:=(-32768),D6:=32767},true)) (.br (op==34) (.lf ({a:=true,b:=true,c:=false,low:=(-32768),D6:=32767},true)) (.br (op==35) (.lf ({a:=true,b:=true,c:=false,low:=(-32768),D6:=32767},true)) (.br (op==36) (.lf ({a:=true,b:=true,c:=false,low:=(-32768),D6:=32767},true)) (.br (op==40) (.lf ({a:=true,b:=true,c:=false,low:=(-32768),D6:=32767},true)) (.br (op==41) (.lf ({a:=true,b:=true,c:=false,low:=(-32768),D6:=32767},true)) (.br (op==42) (.lf ({a:=true,b:=true,c:=false,low:=(-32768),D6:=32767},true)) (.br (op==43) (.lf ({a:=true,b:=true,c:=false,low:=(-32768),D6:=32767},true)) (.br (op==44) (.lf ({a:=true,b:=true,c:=false,low:=(-32768),D6:=32767},true)) (.br (op==45) (.lf ({a:=true,b:=true,c:=false,low:=(-32768),D6:=32767},true)) (.br (op==49) (.lf ({a:=true,b:=true,c:=false,low:=(-32768),D6:=32767},true)) (.br (op==17) (.lf ({a:=true,b:=true,c:=false,low:=0,D6:=65535},true)) (.br (op==18) (.lf ({a:=true,b:=true,c:=false,low:=0,D6:=65535},true)) (.br (op==19) (.lf ({a:=true,b:=true,c:=false,low:=0,D6:=65535},true)) (.br (op==20) (.lf ({a:=true,b:=true,c:=false,low:=0,D6:=31},true)) (.br (op==21) (.lf ({a:=true,b:=true,c:=false,low:=0,D6:=31},true)) (.br (op==22) (.lf ({a:=true,b:=true,c:=false,low:=0,D6:=31},true)) (.br (op==24) (.lf ({a:=true,b:=false,c:=false,low:=0,D6:=65535},true)) (.br (op==48) (.lf ({a:=true,b:=false,c:=false,low:=(-32768),D6:=32767},true)) (.br (op==58) (.lf ({a:=true,b:=false,c:=false,low:=0,D6:=7},true)) (.br (op==59) (.lf ({a:=true,b:=false,c:=false,low:=0,D6:=7},true)) (.br (op==60) (.lf ({a:=true,b:=false,c:=false,low:=0,D6:=11},true)) (.br (op==61) (.lf ({a:=true,b:=false,c:=false,low:=0,D6:=11},true)) (.br (op==56) (.lf ({a:=false,b:=false,c:=false,low:=0,D6:=0},true)) (.br (op==57) (.lf ({a:=false,b:=false,c:=false,low:=0,D6:=0},true)) (.br (op==62) (.lf ({a:=false,b:=false,c:=false,low:=0,D6:=0},true)) (.br (op==63) (.lf ({a:=false,b:=false,c:=false,low:=0,D6:=0},true)) (.br (op==64) (.lf ({a:=false,b:=false,c:=false,low:=0,D6:=0},true)) (.lf ({a:=false,b:=false,c:=false,low:=0,D6:=0},false)))))))))))))))))))))))))))))))))))))))))))))
def Tq op:=(Zg op).m
def yC:bc:=mS 180 [] true [.one (.int .i64)] [] (λa r=>Zg (aq a 0)) (λX=>.dt [.agg (Ag.cells (X.1)),.bool (X.2)]) (λX=>[])
theorem Z9r:bj pG yC:=oS (.nil) Tryz.func180 Tryz.call180 [] [] 2
def Rl(x n:Int):Tree Int:=
.br (decide (n<1)) (.lf 0) (.br (decide (n>=32)) (.lf x) (let E1:=decide (0<=wrap u64 (wrap i64 (32-n)));.cn E1 (.cn E1 (.lf (wrap u32 (bg i32 (wrap i32 (eg u32 x (wrap u64 (wrap i64 (32-n))))) (wrap u64 (wrap i64 (32-n)))))))))
def DU x n:=(Rl x n).m
abbrev Qbc x n:=(Rl x n).p
def Qy7:bc:=mT 181 [] true [.one (.int .u32),.one (.int .i64)] [] (λa r=>Rl (aq a 0) (aq a 1)) (λX=>.int .u32 X) (λX=>[])
theorem Qjn:bj pG Qy7:=oT (.nil) Tryz.func181 Tryz.call181 [] [] 2
def Ts(r:Int)(used:Bool):Tree Bool:=
.br used (.br (decide (r>=0)) (.lf (decide (r<=15))) (.lf false)) (.lf (r==0))
def Ln r used:=(Ts r used).m
def Z69:bc:=mS 249 [] true [.one (.int .i64),.one (.bool)] [] (λa r=>Ts (aq a 0) (uT a 1)) (λX=>.bool X) (λX=>[])
theorem Z1n:bj pG Z69:=oS (.nil) Tryz.func249 Tryz.call249 [] [] 2
def Oh(i:gu):Tree Bool:=
.lv (Tq i.Op) λ(x0:Ag×Bool)=>.br x0.2 (.lv (Ln i.A x0.1.a) λ(x1:Bool)=>.br x1 (.lv (Ln i.B x0.1.b) λ(x2:Bool)=>.br x2 (.lv (Ln i.C x0.1.c) λ(x3:Bool)=>.br x3 (.br (decide (i.bn>=x0.1.low)) (.lf (decide (i.bn<=x0.1.D6))) (.lf false)) (.lf false)) (.lf false)) (.lf false)) (.lf false)
def I6 i:=(Oh i).m
def Zld:bc:=mS 182 [] true [.agg gu.sig] [] (λa r=>Oh (gu.of (aC a 0))) (λX=>.bool X) (λX=>[])
theorem Zin:bj pG Zld:=oS (.cons Z9r (.cons Z1n (.nil))) Tryz.func182 Tryz.call182 [] [] 2
def Lp(w:Int):Tree (gu×Bool):=
.an (MQ w 24 8) (.lv (tD w 24 8) λ(x0:Int)=>.an (MQ w 20 4) (.lv (tD w 20 4) λ(x1:Int)=>.an (MQ w 16 4) (.lv (tD w 16 4) λ(x2:Int)=>.lv (Tq (wrap i64 x0)) λ(x3:Ag×Bool)=>let E1:=({Op:=0,A:=0,B:=0,C:=0,bn:=0}:gu);.br (!x3.2) (.lf (E1,false)) (.an (MQ w 0 16) (.lv (tD w 0 16) λ(x4:Int)=>.br x3.1.c (let E2:=({Op:=wrap i64 x0,A:=wrap i64 x1,B:=wrap i64 x2,C:=wrap i64 x4,bn:=0}:gu);.lv (I6 E2) λ(x5:Bool)=>.br (!x5) (.lf (E1,false)) (.lf (E2,true))) (.br (decide (x3.1.low<0)) (.an (Qbc x4 16) (.lv (DU x4 16) λ(x6:Int)=>let E3:=({Op:=wrap i64 x0,A:=wrap i64 x1,B:=wrap i64 x2,C:=0,bn:=wrap i32 x6}:gu);.lv (I6 E3) λ(x7:Bool)=>.br (!x7) (.lf (E1,false)) (.lf (E3,true)))) (let E4:=({Op:=wrap i64 x0,A:=wrap i64 x1,B:=wrap i64 x2,C:=0,bn:=wrap i32 x4}:gu);.lv (I6 E4) λ(x8:Bool)=>.br (!x8) (.lf (E1,false)) (.lf (E4,true)))))))))
def Oj w:=(Lp w).m
abbrev Qs7 w:=(Lp w).p
def Zhe:bc:=mT 112 [] true [.one (.int .u32)] [] (λa r=>Lp (aq a 0)) (λX=>.dt [.agg (gu.cells (X.1)),.bool (X.2)]) (λX=>[])
theorem Zah:bj pG Zhe:=oT (.cons Qmi (.cons Z9r (.cons Qjn (.cons Zin (.nil))))) Tryz.func112 Tryz.call112 [] [] 2
def LC(a b:Int):Tree (Int×Int):=
.br (b==0) (.lf (4294967295,a)) (let T1:Tree ((Int×Int)):=.cn (decide (wrap i32 b≠0)) (.cn (decide (wrap i32 b≠0)) (.lf (wrap u32 (wrap i32 (eU (wrap i32 a) (wrap i32 b))),wrap u32 (dE (wrap i32 a) (wrap i32 b)))));.br (a==2147483648) (.br (b==4294967295) (.lf (a,0)) T1) T1)
def LA a b:=(LC a b).m
abbrev Qgz a b:=(LC a b).p
def Zba:bc:=mT 251 [] true [.one (.int .u32),.one (.int .u32)] [] (λa r=>LC (aq a 0) (aq a 1)) (λX=>.dt [.int .u32 (X.1),.int .u32 (X.2)]) (λX=>[])
theorem Z5t:bj pG Zba:=oT (.nil) Tryz.func251 Tryz.call251 [] [] 2
def Z29(b:Bool):Tree Int:=
.br b (.lf 1) (.lf 0)
def Vh b:=(Z29 b).m
def Zl3:bc:=mS 252 [] true [.one (.bool)] [] (λa r=>Z29 (uT a 0)) (λX=>.int .u32 X) (λX=>[])
theorem Zf2:bj pG Zl3:=oS (.nil) Tryz.func252 Tryz.call252 [] [] 2
def Ro(op a b:Int):Tree (Int×Bool):=
.br (op==2) (.lf (wrap u32 (a+wrap u32 (0-b)),true)) (.br (op==1) (.lf (wrap u32 (a+b),true)) (.br (op==16) (.lf (wrap u32 (a+b),true)) (.br (op==3) (.lf (bf u32 a b,true)) (.br (op==17) (.lf (bf u32 a b,true)) (.br (op==4) (.lf (iq u32 a b,true)) (.br (op==18) (.lf (iq u32 a b,true)) (.br (op==5) (.lf (jN u32 a b,true)) (.br (op==19) (.lf (jN u32 a b,true)) (.br (op==6) (.lf (eg u32 a (bf u32 b 31),true)) (.br (op==20) (.lf (eg u32 a (bf u32 b 31),true)) (.br (op==7) (.lf (bg u32 a (bf u32 b 31),true)) (.br (op==21) (.lf (bg u32 a (bf u32 b 31),true)) (let E1:=(wrap u32 (bg i32 (wrap i32 a) (bf u32 b 31)),true);.br (op==8) (.lf E1) (.br (op==22) (.lf E1) (.br (op==9) (.lf (wrap u32 (a*b),true)) (.br (op==10) (.an (Qgz a b) (.lv (LA a b) λ(x0:Int×Int)=>.lf (x0.1,true))) (.br (op==11) (.an (Qgz a b) (.lv (LA a b) λ(x1:Int×Int)=>.lf (x1.2,true))) (.br (op==12) (.lv (Vh (decide (wrap i32 a<wrap i32 b))) λ(x2:Int)=>.lf (x2,true)) (.br (op==23) (.lv (Vh (decide (wrap i32 a<wrap i32 b))) λ(x3:Int)=>.lf (x3,true)) (.br (op==13) (.lv (Vh (decide (a<b))) λ(x4:Int)=>.lf (x4,true)) (.lf (0,false))))))))))))))))))))))
def nK op a b:=(Ro op a b).m
abbrev Qso op a b:=(Ro op a b).p
def vC:bc:=mT 190 [] true [.one (.int .i64),.one (.int .u32),.one (.int .u32)] [] (λa r=>Ro (aq a 0) (aq a 1) (aq a 2)) (λX=>.dt [.int .u32 (X.1),.bool (X.2)]) (λX=>[])
theorem Zpa:bj pG vC:=oT (.cons Z5t (.cons Zf2 (.nil))) Tryz.func190 Tryz.call190 [] [] 2
end
noncomputable section
def Qq(status Dz to:Int):Tree Int:=
.br (bf u32 status Dz !=0) (.lf (iq u32 status to)) (.lf (nQ u32 status to))
def AA status Dz to:=(Qq status Dz to).m
def Zo3:bc:=mS 175 [] true [.one (.int .u32),.one (.int .u32),.one (.int .u32)] [] (λa r=>Qq (aq a 0) (aq a 1) (aq a 2)) (λX=>.int .u32 X) (λX=>[])
theorem Z3l:bj pG Zo3:=oS (.nil) Tryz.func175 Tryz.call175 [] [] 2
def Oq(c:bh)(oJ bad:Int):Tree bh:=
.lv (AA c.B4.a0 1 8) λ(x0:Int)=>.lv (AA x0 2 16) λ(x1:Int)=>.lf ({X:=c.X,Pc:=c.B4.a1,B4:={a0:=nQ u32 (iq u32 x1 1) 2,a1:=c.B4.a1,a2:=c.Pc,a3:=wrap u32 oJ,a4:=bad,a5:=c.B4.a5,a6:=c.B4.a6,a7:=c.B4.a7}})
def rk c oJ bad:=(Oq c oJ bad).m
def Zoq:bc:=mS 109 [] true [.agg bh.sig,.one (.int .i64),.one (.int .u32)] [] (λa r=>Oq (bh.of (aC a 0)) (aq a 1) (aq a 2)) (λX=>.agg (bh.cells X)) (λX=>[])
theorem RS:bj pG Zoq:=oS (.cons Z3l (.nil)) Tryz.func109 Tryz.call109 [] [] 2
def Qv4(access:Int):Tree (Int×Bool):=
.br (access==1) (.lf (4,true)) (.br (access==2) (.lf (5,true)) (.br (access==3) (.lf (6,true)) (.lf (5,false))))
def Qsu access:=(Qv4 access).m
def Zab:bc:=mS 245 [] true [.one (.int .i64)] [] (λa r=>Qv4 (aq a 0)) (λX=>.dt [.int .i64 (X.1),.bool (X.2)]) (λX=>[])
theorem Z5o:bj pG Zab:=oS (.nil) Tryz.func245 Tryz.call245 [] [] 2
def Qzf(c:bh):Tree Bool:=
.lf (bf u32 c.B4.a0 (1:Int) !=(0:Int))
def G0 c:=(Qzf c).m
def Zfc:bc:=mS 118 [] true [.agg bh.sig] [] (λa r=>Qzf (bh.of (aC a 0))) (λX=>.bool X) (λX=>[])
theorem Qty:bj pG Zfc:=oS (.nil) Tryz.func118 Tryz.call118 [] [] 2
def Qmz(access:Int):Tree (Int×Bool):=
.br (access==1) (.lf (4,true)) (.br (access==2) (.lf (5,true)) (.br (access==3) (.lf (6,true)) (.lf (5,false))))
def Qju access:=(Qmz access).m
def Z01:bc:=mS 241 [] true [.one (.int .i64)] [] (λa r=>Qmz (aq a 0)) (λX=>.dt [.int .i64 (X.1),.bool (X.2)]) (λX=>[])
theorem Qy0:bj pG Z01:=oS (.nil) Tryz.func241 Tryz.call241 [] [] 2
def Qhi(m:List Int)(frame:Int):Tree Bool:=
.lv (lR m) λ(x0:Int)=>.lf (decide (wrap u64 frame<wrap u64 x0))
def Om m frame:=(Qhi m frame).m
def Z57:bc:=mS 242 [] true [.one (.ints .u32),.one (.int .u32)] [] (λa r=>Qhi (eh .u32 a 0) (aq a 1)) (λX=>.bool X) (λX=>[])
theorem Z0c:bj pG Z57:=oS (.cons H2 (.nil)) Tryz.func242 Tryz.call242 [] [] 2
def Lt(m:List Int)(addr size:Int):Tree (Int×Bool):=
.an (Qdj m addr size) (.lv (Xx m addr size) λ(x0:Bool)=>.br (!x0) (.lf (0,false)) (.cn (bT 1 1&&bJ 0 1&&decide (0<=wrap u32 (eU addr 4)/\wrap u32 (eU addr 4)<(m.length:Int))) (let E1:=dF (wrap u32 (eU addr 4));.br (size==1) (let E2:=wrap i64 (wrap i64 (dE addr 4)*8);.an (MQ (m.getD E1 0) E2 8) (.lv (tD (m.getD E1 0) E2 8) λ(x1:Int)=>.lf (x1,true))) (.lf (m.getD E1 0,true)))))
def Cp m addr size:=(Lt m addr size).m
abbrev Q4 m addr size:=(Lt m addr size).p
def Zbz:bc:=mT 178 [] true [.one (.ints .u32),.one (.int .u32),.one (.int .i64)] [] (λa r=>Lt (eh .u32 a 0) (aq a 1) (aq a 2)) (λX=>.dt [.int .u32 (X.1),.bool (X.2)]) (λX=>[])
theorem RU:bj pG Zbz:=oT (.cons Qn (.cons Qmi (.nil))) Tryz.func178 Tryz.call178 [] [] 2
def Qms(By access:Int):Tree Bool:=
.br (bf u32 By (1:Int)==(0:Int)) (.lf false) (.br (access==3) (.lf (bf u32 By (2:Int) !=(0:Int))) (.br (access==1) (.lf (bf u32 By (4:Int) !=(0:Int))) (.lf true)))
def Tz By access:=(Qms By access).m
def Z1:bc:=mS 243 [] true [.one (.int .u32),.one (.int .i64)] [] (λa r=>Qms (aq a 0) (aq a 1)) (λX=>.bool X) (λX=>[])
theorem Qwb:bj pG Z1:=oS (.nil) Tryz.func243 Tryz.call243 [] [] 2
def Rm(By:Int):Tree Int:=
.an (MQ By 8 8) (.lv (tD By 8 8) λ(x0:Int)=>.lf x0)
def XC By:=(Rm By).m
abbrev Qcb By:=(Rm By).p
def Qzs:bc:=mT 244 [] true [.one (.int .u32)] [] (λa r=>Rm (aq a 0)) (λX=>.int .u32 X) (λX=>[])
theorem Qy5:bj pG Qzs:=oT (.cons Qmi (.nil)) Tryz.func244 Tryz.call244 [] [] 2
def Lx(m:List Int)(root va access:Int):Tree rJ:=
.lv (Qju access) λ(x0:Int×Bool)=>let E1:=({Addr:=0,F3:=0,F0:=x0.1}:rJ);.br (!x0.2) (.lf (E1)) (.br (decide (va>=4096)) (.lf (E1)) (.lv (Om m root) λ(x1:Bool)=>.br (!x1) (.lf (E1)) (let E2:=wrap u32 (root*128)+wrap u32 (4*wrap u32 (eU va 128));.an (Q4 m (wrap u32 E2) 4) (.lv (Cp m (wrap u32 E2) 4) λ(x2:Int×Bool)=>.br (!x2.2) (.lf (E1)) (.lv (Tz x2.1 access) λ(x3:Bool)=>.br (!x3) (.lf (E1)) (.an (Qcb x2.1) (.lv (XC x2.1) λ(x4:Int)=>.lv (Om m x4) λ(x5:Bool)=>.br (!x5) (.lf (E1)) (.an (Qcb x2.1) (.lv (XC x2.1) λ(x6:Int)=>.lf ({Addr:=wrap u32 (wrap u32 (x6*128)+dE va 128),F3:=wrap u32 E2,F0:=0}))))))))))
def Ty m root va access:=(Lx m root va access).m
abbrev Qhp m root va access:=(Lx m root va access).p
def Zap:bc:=mT 176 [] true [.one (.ints .u32),.one (.int .u32),.one (.int .u32),.one (.int .i64)] [] (λa r=>Lx (eh .u32 a 0) (aq a 1) (aq a 2) (aq a 3)) (λX=>.agg (rJ.cells X)) (λX=>[])
theorem Z6d:bj pG Zap:=oT (.cons Qy0 (.cons Z0c (.cons RU (.cons Qwb (.cons Qy5 (.nil)))))) Tryz.func176 Tryz.call176 [] [] 2
def Ly(m:List Int)(entry access:Int):Tree (List Int):=
.an (Q4 m entry 4) (.lv (Cp m entry 4) λ(x0:Int×Bool)=>.br (!x0.2) (.an (mJ m) (.lv (jC m) λ(x1:List Int)=>.lf x1)) (.br (access==3) (.an (Qb0 m entry 4 (iq u32 (iq u32 x0.1 8) 16)) (.lv (Lu m entry 4 (iq u32 (iq u32 x0.1 8) 16)) λ(x2:List Int×Bool)=>.lf x2.1)) (.an (Qb0 m entry 4 (iq u32 x0.1 8)) (.lv (Lu m entry 4 (iq u32 x0.1 8)) λ(x3:List Int×Bool)=>.lf x3.1))))
def On m entry access:=(Ly m entry access).m
abbrev Qfo m entry access:=(Ly m entry access).p
def Z7c:bc:=mT 246 [] true [.one (.ints .u32),.one (.int .u32),.one (.int .i64)] [] (λa r=>Ly (eh .u32 a 0) (aq a 1) (aq a 2)) (λX=>.all 0) (λX=>[⟨false,23,1,.ints .u32 X⟩])
theorem Z2w:bj pG Z7c:=oT (.cons RU (.cons Ew (.cons Qoc (.nil)))) Tryz.func246 Tryz.call246 [.row 23 1 (.ints .u32)] [] 2
def LF(c:bh)(m:List Int)(va size access:Int):Tree (Int×(List Int)×Int):=
.lv (Qsu access) λ(x0:Int×Bool)=>let T3:Tree ((Int×(List Int)×Int)):=.an (mJ m) (.lv (jC m) λ(x1:List Int)=>.lf (0,x1,5));.br (!x0.2) T3 (let T1:Tree ((Int×(List Int)×Int)):=.cn (decide (wrap u32 size≠0)) (.br (dE va (wrap u32 size) !=0) (.an (mJ m) (.lv (jC m) λ(x3:List Int)=>.lf (0,x3,3))) (.lv (G0 c) λ(x4:Bool)=>let T2:Tree ((Int×(List Int)×Int)):=.an (Q4 m va size) (.lv (Cp m va size) λ(x8:Int×Bool)=>.br (!x8.2) (.an (mJ m) (.lv (jC m) λ(x9:List Int)=>.lf (0,x9,x0.1))) (.an (mJ m) (.lv (jC m) λ(jM:List Int)=>.lf (va,jM,0))));.br (!x4) (.br (bf u32 c.B4.a0 (4:Int) !=(0:Int)) (.an (Qhp m c.B4.a6 va access) (.lv (Ty m c.B4.a6 va access) λ(x5:rJ)=>.br (x5.F0 !=0) (.an (mJ m) (.lv (jC m) λ(x6:List Int)=>.lf (0,x6,x5.F0))) (.an (Qfo m x5.F3 access) (.lv (On m x5.F3 access) λ(x7:List Int)=>.lf (x5.Addr,x7,0))))) T2) T2));.br (size !=1) (.br (size !=4) T3 T1) T1)
def rT c m va size access:=(LF c m va size access).m
abbrev Qce c m va size access:=(LF c m va size access).p
def Zc0:bc:=mT 177 [] true [.agg bh.sig,.one (.ints .u32),.one (.int .u32),.one (.int .i64),.one (.int .i64)] [] (λa r=>LF (bh.of (aC a 0)) (eh .u32 a 1) (aq a 2) (aq a 3) (aq a 4)) (λX=>.dt [.int .u32 (X.1),.all 0,.int .i64 (X.2.2)]) (λX=>[⟨false,23,1,.ints .u32 (X.2.1)⟩])
theorem Qjy:bj pG Zc0:=oT (.cons Z5o (.cons Ew (.cons Qty (.cons Z6d (.cons Z2w (.cons RU (.nil))))))) Tryz.func177 Tryz.call177 [.row 23 1 (.ints .u32)] [] 2
def Rn(c:bh)(m:List Int):Tree (Int×(List Int)×Int):=
.an (Qce c m c.Pc 4 1) (.lv (rT c m c.Pc 4 1) λ(x0:Int×List Int×Int)=>.br (x0.2.2 !=0) (.lf (0,x0.2.1,x0.2.2)) (.an (Q4 x0.2.1 x0.1 4) (.lv (Cp x0.2.1 x0.1 4) λ(x1:Int×Bool)=>.lf (x1.1,x0.2.1,0))))
def TL c m:=(Rn c m).m
abbrev Qts c m:=(Rn c m).p
def Zlm:bc:=mT 111 [] true [.agg bh.sig,.one (.ints .u32)] [] (λa r=>Rn (bh.of (aC a 0)) (eh .u32 a 1)) (λX=>.dt [.int .u32 (X.1),.all 0,.int .i64 (X.2.2)]) (λX=>[⟨false,23,1,.ints .u32 (X.2.1)⟩])
theorem Zi6:bj pG Zlm:=oT (.cons Qjy (.cons RU (.nil))) Tryz.func111 Tryz.call111 [.row 23 1 (.ints .u32)] [] 2
def Qmr(op:Int):Tree Bool:=
.br (op==57) (.lf true) (.br (op==58) (.lf true) (.br (op==59) (.lf true) (.br (op==60) (.lf true) (.br (op==61) (.lf true) (.br (op==62) (.lf true) (.br (op==63) (.lf true) (.br (op==64) (.lf true) (.lf false))))))))
def Og op:=(Qmr op).m
def Z07:bc:=mS 114 [] true [.one (.int .i64)] [] (λa r=>Qmr (aq a 0)) (λX=>.bool X) (λX=>[])
theorem Qwl:bj pG Z07:=oS (.nil) Tryz.func114 Tryz.call114 [] [] 2
def Qt0(op:Int):Tree Int:=
.br (op==32) (.lf 4) (.br (op==35) (.lf 4) (.lf 1))
def J4 op:=(Qt0 op).m
def Zln:bc:=mS 184 [] true [.one (.int .i64)] [] (λa r=>Qt0 (aq a 0)) (λX=>.int .i64 X) (λX=>[])
theorem Qyw:bj pG Zln:=oS (.nil) Tryz.func184 Tryz.call184 [] [] 2
def Fm(c:bh)(register v:Int):Tree bh:=
.br (register !=0) (.cn (bJ 0 1&&decide (0<=register/\register<(↑16:Int))) (.lf ({X:=iS.of 0 (dG (iS.l c.X) register.toNat v),Pc:=c.Pc,B4:=c.B4}))) (.lf c)
def ur c register v:=(Fm c register v).m
abbrev H3 c register v:=(Fm c register v).p
def qD:bc:=mT 185 [] true [.agg bh.sig,.one (.int .i64),.one (.int .u32)] [] (λa r=>Fm (bh.of (aC a 0)) (aq a 1) (aq a 2)) (λX=>.agg (bh.cells X)) (λX=>[])
theorem Z8f:bj pG qD:=oT (.nil) Tryz.func185 Tryz.call185 [] [] 2
def I0(c:bh)(m:List Int)(i:gu):Tree (bh×(List Int)):=
.cn (bJ 0 1&&decide (0<=i.B/\i.B<(↑16:Int))) (.lv (J4 i.Op) λ(x0:Int)=>let E1:=wrap u32 (aK (iS.l c.X) i.B.toNat 0+wrap u32 i.bn);.an (Qce c m E1 x0 2) (.lv (rT c m E1 x0 2) λ(x1:Int×List Int×Int)=>.br (x1.2.2 !=0) (.lv (rk c x1.2.2 E1) λ(x2:bh)=>.lf (x2,x1.2.1)) (.lv (J4 i.Op) λ(x3:Int)=>.an (Q4 x1.2.1 x1.1 x3) (.lv (Cp x1.2.1 x1.1 x3) λ(x4:Int×Bool)=>.br (i.Op==33) (.an (Qbc x4.1 8) (.lv (DU x4.1 8) λ(x5:Int)=>.an (H3 c i.A x5) (.lv (ur c i.A x5) λ(x6:bh)=>.lf ({X:=x6.X,Pc:=wrap u32 (x6.Pc+4),B4:=x6.B4},x1.2.1)))) (.an (H3 c i.A x4.1) (.lv (ur c i.A x4.1) λ(x7:bh)=>.lf ({X:=x7.X,Pc:=wrap u32 (x7.Pc+4),B4:=x7.B4},x1.2.1)))))))
def tF c m i:=(I0 c m i).m
abbrev Qzc c m i:=(I0 c m i).p
def Zpj:bc:=mT 119 [] true [.agg bh.sig,.one (.ints .u32),.agg gu.sig] [] (λa r=>I0 (bh.of (aC a 0)) (eh .u32 a 1) (gu.of (aC a 2))) (λX=>.dt [.agg (bh.cells (X.1)),.all 0]) (λX=>[⟨false,23,1,.ints .u32 (X.2)⟩])
theorem Zk7:bj pG Zpj:=oT (.cons Qjy (.cons Qyw (.cons RS (.cons RU (.cons Qjn (.cons Z8f (.nil))))))) Tryz.func119 Tryz.call119 [.row 23 1 (.ints .u32)] [] 2
def I2(c:bh)(m:List Int)(i:gu):Tree (bh×(List Int)):=
.cn (bJ 0 1&&decide (0<=i.B/\i.B<(↑16:Int))) (.lv (J4 i.Op) λ(x0:Int)=>let E1:=wrap u32 (aK (iS.l c.X) i.B.toNat 0+wrap u32 i.bn);.an (Qce c m E1 x0 3) (.lv (rT c m E1 x0 3) λ(x1:Int×List Int×Int)=>.br (x1.2.2 !=0) (.lv (rk c x1.2.2 E1) λ(x2:bh)=>.lf (x2,x1.2.1)) (.lv (J4 i.Op) λ(x3:Int)=>.cn (bJ 0 1&&decide (0<=i.A/\i.A<(↑16:Int))) (let E2:=aK (iS.l c.X) i.A.toNat 0;.an (Qb0 x1.2.1 x1.1 x3 E2) (.lv (Lu x1.2.1 x1.1 x3 E2) λ(x4:List Int×Bool)=>.lf ({X:=c.X,Pc:=wrap u32 (c.Pc+4),B4:=c.B4},x4.1))))))
def Cr c m i:=(I2 c m i).m
abbrev Qvg c m i:=(I2 c m i).p
def Zj2:bc:=mT 120 [] true [.agg bh.sig,.one (.ints .u32),.agg gu.sig] [] (λa r=>I2 (bh.of (aC a 0)) (eh .u32 a 1) (gu.of (aC a 2))) (λX=>.dt [.agg (bh.cells (X.1)),.all 0]) (λX=>[⟨false,23,1,.ints .u32 (X.2)⟩])
theorem Zgw:bj pG Zj2:=oT (.cons Qjy (.cons Qyw (.cons RS (.cons Qoc (.nil))))) Tryz.func120 Tryz.call120 [.row 23 1 (.ints .u32)] [] 2
def Z4w(op a b:Int):Tree Bool:=
.br (op==40) (.lf (a==b)) (.br (op==41) (.lf (a !=b)) (.br (op==42) (.lf (decide (wrap i32 a<wrap i32 b))) (.br (op==43) (.lf (decide (wrap i32 a>=wrap i32 b))) (.br (op==44) (.lf (decide (a<b))) (.lf (decide (a>=b)))))))
def Zfm op a b:=(Z4w op a b).m
def Zkk:bc:=mS 187 [] true [.one (.int .i64),.one (.int .u32),.one (.int .u32)] [] (λa r=>Z4w (aq a 0) (aq a 1) (aq a 2)) (λX=>.bool X) (λX=>[])
theorem Ze7:bj pG Zkk:=oS (.nil) Tryz.func187 Tryz.call187 [] [] 2
def Ou(c:bh):Tree bh:=
.lv (AA c.B4.a0 8 1) λ(x0:Int)=>.lv (AA x0 16 2) λ(x1:Int)=>.lf ({X:=c.X,Pc:=c.B4.a2,B4:={a0:=x1,a1:=c.B4.a1,a2:=c.B4.a2,a3:=c.B4.a3,a4:=c.B4.a4,a5:=c.B4.a5,a6:=c.B4.a6,a7:=c.B4.a7}})
def Li c:=(Ou c).m
def Zei:bc:=mS 188 [] true [.agg bh.sig] [] (λa r=>Ou (bh.of (aC a 0))) (λX=>.agg (bh.cells X)) (λX=>[])
theorem Zco:bj pG Zei:=oS (.cons Z3l (.nil)) Tryz.func188 Tryz.call188 [] [] 2
def IZ(c:bh)(jo v:Int):Tree bh:=
let E4:=bJ 0 1&&decide (0<=jo/\jo<(↑8:Int));let T2:Tree (bh):=.cn E4 (.lf ({X:=c.X,Pc:=c.Pc,B4:=A8.of 0 (dG (A8.l c.B4) jo.toNat (bf u32 v 31))}));.br (jo==0) T2 (.br (jo==7) T2 (.br (jo==6) (.cn E4 (.lf ({X:=c.X,Pc:=c.Pc,B4:=A8.of 0 (dG (A8.l c.B4) jo.toNat (bf u32 v 255))}))) (let T3:Tree (bh):=.cn E4 (.lf ({X:=c.X,Pc:=c.Pc,B4:=A8.of 0 (dG (A8.l c.B4) jo.toNat (nQ u32 v 3))}));.br (jo==1) T3 (.br (jo==2) T3 (let T1:Tree (bh):=.cn E4 (.lf ({X:=c.X,Pc:=c.Pc,B4:=A8.of 0 (dG (A8.l c.B4) jo.toNat v)}));.br (jo==3) T1 (.br (jo==4) T1 (.br (jo==5) T1 (.lf c))))))))
def Zh7 c jo v:=(IZ c jo v).m
abbrev Qvh c jo v:=(IZ c jo v).p
def Zkg:bc:=mT 189 [] true [.agg bh.sig,.one (.int .i64),.one (.int .u32)] [] (λa r=>IZ (bh.of (aC a 0)) (aq a 1) (aq a 2)) (λX=>.agg (bh.cells X)) (λX=>[])
theorem Zhb:bj pG Zkg:=oT (.nil) Tryz.func189 Tryz.call189 [] [] 2
def Fo(c:bh)(i:gu):Tree (bh×kI):=
.cn (bJ 0 1&&decide (0<=i.A/\i.A<(↑16:Int))) (.cn (bJ 0 1&&decide (0<=i.B/\i.B<(↑16:Int))) (.br (i.Op==24) (.an (H3 c i.A (eg u32 (wrap u32 i.bn) 16)) (.lv (ur c i.A (eg u32 (wrap u32 i.bn) 16)) λ(x0:bh)=>.lf ({X:=x0.X,Pc:=wrap u32 (c.Pc+4),B4:=x0.B4},{C0:=0,D0:=0,D9:=0,Value:=0}))) (let E2:=({X:=c.X,Pc:=wrap u32 (c.Pc+4),B4:=c.B4}:bh);let E3:=aK (iS.l c.X) i.B.toNat 0;let E4:=aK (iS.l c.X) i.A.toNat 0;let T1:Tree ((bh×kI)):=.lv (Zfm i.Op E4 E3) λ(x1:Bool)=>.br x1 (.lf ({X:=c.X,Pc:=wrap u32 (c.Pc+wrap u32 (4*wrap u32 i.bn)),B4:=c.B4},{C0:=0,D0:=0,D9:=0,Value:=0})) (.lf (E2,{C0:=0,D0:=0,D9:=0,Value:=0}));.br (i.Op==40) T1 (.br (i.Op==41) T1 (.br (i.Op==42) T1 (.br (i.Op==43) T1 (.br (i.Op==44) T1 (.br (i.Op==45) T1 (.br (i.Op==48) (.an (H3 c i.A (wrap u32 (c.Pc+4))) (.lv (ur c i.A (wrap u32 (c.Pc+4))) λ(x7:bh)=>.lf ({X:=x7.X,Pc:=wrap u32 (x7.Pc+wrap u32 (4*wrap u32 i.bn)),B4:=x7.B4},{C0:=0,D0:=0,D9:=0,Value:=0}))) (.br (i.Op==49) (.an (H3 c i.A (wrap u32 (c.Pc+4))) (.lv (ur c i.A (wrap u32 (c.Pc+4))) λ(x8:bh)=>.lf ({X:=x8.X,Pc:=wrap u32 (aK (iS.l c.X) i.B.toNat 0+wrap u32 i.bn),B4:=x8.B4},{C0:=0,D0:=0,D9:=0,Value:=0}))) (.br (i.Op==56) (.lv (rk c 7 0) λ(x9:bh)=>.lf (x9,{C0:=0,D0:=0,D9:=0,Value:=0})) (.br (i.Op==57) (.lv (Li c) λ(jM:bh)=>.lf (jM,{C0:=0,D0:=0,D9:=0,Value:=0})) (.br (i.Op==58) (.cn (bJ 0 1&&decide (0<=i.bn/\i.bn<(↑8:Int))) (let E5:=aK (A8.l c.B4) i.bn.toNat 0;.an (H3 c i.A E5) (.lv (ur c i.A E5) λ(mr:bh)=>.lf ({X:=mr.X,Pc:=wrap u32 (c.Pc+4),B4:=mr.B4},{C0:=0,D0:=0,D9:=0,Value:=0})))) (.br (i.Op==59) (.an (Qvh c (wrap i64 i.bn) E4) (.lv (Zh7 c (wrap i64 i.bn) E4) λ(kS:bh)=>.lf ({X:=kS.X,Pc:=wrap u32 (c.Pc+4),B4:=kS.B4},{C0:=0,D0:=0,D9:=0,Value:=0}))) (.br (i.Op==60) (.lf (E2,{C0:=1,D0:=wrap i64 i.bn,D9:=i.A,Value:=0})) (.br (i.Op==61) (.lf (E2,{C0:=2,D0:=wrap i64 i.bn,D9:=0,Value:=aK (iS.l c.X) i.A.toNat 0})) (.br (i.Op==62) (.lf (E2,{C0:=3,D0:=0,D9:=0,Value:=0})) (.br (i.Op==63) (.lf (E2,{C0:=5,D0:=0,D9:=0,Value:=0})) (.br (i.Op==64) (.lf (E2,{C0:=4,D0:=0,D9:=0,Value:=0})) (.cn (bJ 0 1&&decide (0<=i.C/\i.C<(↑16:Int))) (.br (decide (i.Op>=16)) (.an (Qso i.Op E3 (wrap u32 i.bn)) (.lv (nK i.Op E3 (wrap u32 i.bn)) λ(lU:Int×Bool)=>.an (H3 c i.A lU.1) (.lv (ur c i.A lU.1) λ(uz:bh)=>.lf ({X:=uz.X,Pc:=wrap u32 (c.Pc+4),B4:=uz.B4},{C0:=0,D0:=0,D9:=0,Value:=0})))) (let E6:=aK (iS.l c.X) i.C.toNat 0;.an (Qso i.Op E3 E6) (.lv (nK i.Op E3 E6) λ(Jr:Int×Bool)=>.an (H3 c i.A Jr.1) (.lv (ur c i.A Jr.1) λ(uA:bh)=>.lf ({X:=uA.X,Pc:=wrap u32 (c.Pc+4),B4:=uA.B4},{C0:=0,D0:=0,D9:=0,Value:=0})))))))))))))))))))))))))
def XF c i:=(Fo c i).m
abbrev Qoe c i:=(Fo c i).p
def Zbd:bc:=mT 121 [] true [.agg bh.sig,.agg gu.sig] [] (λa r=>Fo (bh.of (aC a 0)) (gu.of (aC a 1))) (λX=>.dt [.agg (bh.cells (X.1)),.agg (kI.cells (X.2))]) (λX=>[])
theorem Z6u:bj pG Zbd:=oT (.cons Z8f (.cons Ze7 (.cons RS (.cons Zco (.cons Zhb (.cons Zpa (.nil))))))) Tryz.func121 Tryz.call121 [] [] 2
def Fp(c:bh)(m:List Int):Tree (bh×(List Int)×kI):=
.an (Qts c m) (.lv (TL c m) λ(x0:Int×List Int×Int)=>.br (x0.2.2 !=0) (.lv (rk c x0.2.2 c.Pc) λ(x1:bh)=>.lf (x1,x0.2.1,{C0:=0,D0:=0,D9:=0,Value:=0})) (.an (Qs7 x0.1) (.lv (Oj x0.1) λ(x2:gu×Bool)=>.br (!x2.2) (.lv (rk c 1 x0.1) λ(x3:bh)=>.lf (x3,x0.2.1,{C0:=0,D0:=0,D9:=0,Value:=0})) (.lv (Og x2.1.Op) λ(x4:Bool)=>let T1:Tree ((bh×(List Int)×kI)):=let T2:Tree ((bh×(List Int)×kI)):=.an (Qzc c x0.2.1 x2.1) (.lv (tF c x0.2.1 x2.1) λ(x7:bh×List Int)=>.lf (x7.1,x7.2,{C0:=0,D0:=0,D9:=0,Value:=0}));.br (x2.1.Op==32) T2 (.br (x2.1.Op==33) T2 (.br (x2.1.Op==34) T2 (let T3:Tree ((bh×(List Int)×kI)):=.an (Qvg c x0.2.1 x2.1) (.lv (Cr c x0.2.1 x2.1) λ(jM:bh×List Int)=>.lf (jM.1,jM.2,{C0:=0,D0:=0,D9:=0,Value:=0}));.br (x2.1.Op==35) T3 (.br (x2.1.Op==36) T3 (.an (Qoe c x2.1) (.lv (XF c x2.1) λ(kS:bh×kI)=>.lf (kS.1,x0.2.1,kS.2)))))));.br x4 (.lv (G0 c) λ(x5:Bool)=>.br (!x5) (.lv (rk c 2 x0.1) λ(x6:bh)=>.lf (x6,x0.2.1,{C0:=0,D0:=0,D9:=0,Value:=0})) T1) T1))))
def wF c m:=(Fp c m).m
abbrev Qp3 c m:=(Fp c m).p
def Zpz:bc:=mT 63 [] true [.agg bh.sig,.one (.ints .u32)] [] (λa r=>Fp (bh.of (aC a 0)) (eh .u32 a 1)) (λX=>.dt [.agg (bh.cells (X.1)),.all 0,.agg (kI.cells (X.2.2))]) (λX=>[⟨false,23,1,.ints .u32 (X.2.1)⟩])
theorem Z1z:bj pG Zpz:=oT (.cons Zi6 (.cons RS (.cons Zah (.cons Qwl (.cons Qty (.cons Zk7 (.cons Zgw (.cons Z6u (.nil))))))))) Tryz.func63 Tryz.call63 [.row 23 1 (.ints .u32)] [] 2
end
noncomputable section
def Kg:List UInt8:=[(0:UInt8),1,2,2,3,3,3,3,4,4,4,4,4,4,4,4,5,5,5,5,5,5,5,5,5,5,5,5,5,5,5,5,6,6,6,6,6,6,6,6,6,6,6,6,6,6,6,6,6,6,6,6,6,6,6,6,6,6,6,6,6,6,6,6]
def RV:List UInt8:=[(7:UInt8),7,7,7,7,7,7,7,7,7,7,7,7,7,7,7,7,7,7,7,7,7,7,7,7,7,7,7,7,7,7,7,7,7,7,7,7,7,7,7,7,7,7,7,7,7,7,7,7,7,7,7,7,7,7,7,7,7,7,7,7,7,7,7]
def Ey:List UInt8:=[(8:UInt8),8,8,8,8,8,8,8,8,8,8,8,8,8,8,8,8,8,8,8,8,8,8,8,8,8,8,8,8,8,8,8,8,8,8,8,8,8,8,8,8,8,8,8,8,8,8,8,8,8,8,8,8,8,8,8,8,8,8,8,8,8,8,8]
def Zm:List UInt8:=[(1:UInt8),2,2,3,3,3,3,4,4,4,4,4,4,4,4,5,5,5,5,5,5,5,5,5,5,5,5,5,5,5,5,6,6,6,6,6,6,6,6,6,6,6,6,6,6,6,6,6,6,6,6,6,6,6,6,6,6,6,6,6,6,6,6]
def Kh:List UInt8:=[(0:UInt8),1,1,2,1,2,2,3,1,2,2,3,2,3,3,4,1,2,2,3,2,3,3,4,2,3,3,4,3,4,4,5,1,2,2,3,2,3,3,4,2,3,3,4,3,4,4,5,2,3,3,4,3,4,4,5,3,4,4,5,4,5,5,6]
def Ez:List UInt8:=[(1:UInt8),2,2,3,2,3,3,4,2,3,3,4,3,4,4,5,2,3,3,4,3,4,4,5,3,4,4,5,4,5,5,6,2,3,3,4,3,4,4,5,3,4,4,5,4,5,5,6,3,4,4,5,4,5,5,6,4,5,5,6,5,6,6,7]
def RW:List UInt8:=[(2:UInt8),3,3,4,3,4,4,5,3,4,4,5,4,5,5,6,3,4,4,5,4,5,5,6,4,5,5,6,5,6,6,7,3,4,4,5,4,5,5,6,4,5,5,6,5,6,6,7,4,5,5,6,5,6,6,7,5,6,6,7,6,7,7,8]
def Vw:List UInt8:=[(1:UInt8),1,2,1,2,2,3,1,2,2,3,2,3,3,4,1,2,2,3,2,3,3,4,2,3,3,4,3,4,4,5,1,2,2,3,2,3,3,4,2,3,3,4,3,4,4,5,2,3,3,4,3,4,4,5,3,4,4,5,4,5,5,6]
def Qtj(c:iT):Tree Bool:=
.lf (decide ((c.D1.length:Int)<=(16:Int)))
def tB c:=(Qtj c).m
def Zbk:bc:=mS 195 [] true [.agg iT.sig] [] (λa r=>Qtj (iT.of (aC a 0))) (λX=>.bool X) (λX=>[])
theorem Z79:bj pG Zbk:=oS (.nil) Tryz.func195 Tryz.call195 [] [] 2
def Ti(t:iU):Tree Bool:=
.br t.D4 (.br (!t.D3) (.lf (t.C4 !=0)) (.lf false)) (.br t.D3 (.lf true) (.lf (t.C4==0)))
def tC t:=(Ti t).m
def Zkr:bc:=mS 196 [] true [.agg iU.sig] [] (λa r=>Ti (iU.of (aC a 0))) (λX=>.bool X) (λX=>[])
theorem Zip:bj pG Zkr:=oS (.nil) Tryz.func196 Tryz.call196 [] [] 2
def IV(d0:fp):Tree Bool:=
.br (d0.D5==1) (.lf (decide (d0.B8=[]))) (.br (d0.D5==2) (.lf ((d0.B8.length:Int)==(128:Int))) (.lf false))
def N6 d0:=(IV d0).m
def Qy2:bc:=mS 260 [] true [.agg fp.sig] [] (λa r=>IV (fp.of (aC a 0))) (λX=>.bool X) (λX=>[])
theorem Quu:bj pG Qy2:=oS (.nil) Tryz.func260 Tryz.call260 [] [] 2
def wC(d0:fp)(c7:Int):Tree Bool:=
.br (decide (d0.ag>64)) (.lf false) (let T1:Tree (Bool):=.br (d0.D5==0) (.br (d0.B6==0) (.br (d0.B2==0) (.lf (decide (d0.B8=[]))) (.lf false)) (.lf false)) (.lf false);.br (d0.B7==0) T1 (.br (d0.B7==2) T1 (.br (d0.B7==3) T1 (.br (d0.B7==1) (.lv (N6 d0) λ(x0:Bool)=>.br x0 (.br (decide (d0.B6<d0.ag)) (.lf (decide (wrap i64 d0.B2<c7))) (.lf false)) (.lf false)) (.lf false)))))
def ki d0 c7:=(wC d0 c7).m
def Zql:bc:=mS 197 [] true [.agg fp.sig,.one (.int .i64)] [] (λa r=>wC (fp.of (aC a 0)) (aq a 1)) (λX=>.bool X) (λX=>[])
theorem Zjf:bj pG Zql:=oS (.cons Quu (.nil)) Tryz.func197 Tryz.call197 [] [] 2
def K7(n:ia)(c7:Int):Tree Bool:=
let T1:Tree (Bool):=let T2:Tree (Bool):=.br n.B5 (.br (decide (n.F1>=1)) (.lf (decide (n.F1<=128))) (.lf false)) (.lf (n.F1==0));.br n.C5 (.br (decide (wrap i64 n.B9>=c7)) (.lf false) T2) (.br (n.B9 !=0) (.lf false) T2);.br n.C5 (.br n.B5 (.lf false) T1) T1
def pr n c7:=(K7 n c7).m
def xD:bc:=mS 198 [] true [.agg ia.sig,.one (.int .i64)] [] (λa r=>K7 (ia.of (aC a 0)) (aq a 1)) (λX=>.bool X) (λX=>[])
theorem Zp4:bj pG xD:=oS (.nil) Tryz.func198 Tryz.call198 [] [] 2
def DQ(x:Int):Tree Int:=
let E1:=(↑(dK (cR (cR Kg RV) (cR Ey Ey))):Int);.br (decide (x>=65536)) (.br (decide (bg u32 x (16:Int)>=(256:Int))) (.cn (decide (0<=wrap u8 (bg u32 (bg u32 x 16) 8)/\wrap u8 (bg u32 (bg u32 x 16) 8)<E1)) (.lf (wrap i64 (wrap i64 ((16:Int)+(8:Int))+wrap i64 (↑(eW (aK ((0:UInt8)::(Zm++RV++(Ey++Ey))) (dF (wrap u8 (bg u32 (bg u32 x 16) 8))) (0:UInt8))):Int))))) (.cn (decide (0<=wrap u8 (bg u32 x 16)/\wrap u8 (bg u32 x 16)<E1)) (.lf (wrap i64 (16+wrap i64 (↑(eW (aK ((0:UInt8)::(Zm++RV++(Ey++Ey))) (dF (wrap u8 (bg u32 x 16))) (0:UInt8))):Int)))))) (.br (decide (x>=256)) (.cn (decide (0<=wrap u8 (bg u32 x 8)/\wrap u8 (bg u32 x 8)<E1)) (.lf (wrap i64 (wrap i64 ((0:Int)+(8:Int))+wrap i64 (↑(eW (aK ((0:UInt8)::(Zm++RV++(Ey++Ey))) (dF (wrap u8 (bg u32 x 8))) (0:UInt8))):Int))))) (.cn (decide (0<=wrap u8 x/\wrap u8 x<E1)) (.lf (wrap i64 (0+wrap i64 (↑(eW (aK ((0:UInt8)::(Zm++RV++(Ey++Ey))) (dF (wrap u8 x)) (0:UInt8))):Int))))))
def wD x:=(DQ x).m
abbrev Qhw x:=(DQ x).p
def Qxx:bc:=mT 261 [] true [.one (.int .u32)] [] (λa r=>DQ (aq a 0)) (λX=>.int .i64 X) (λX=>[])
theorem Qug:bj pG Qxx:=oT (.nil) Tryz.func261 Tryz.call261 [] [] 2
def GH(b:gv)(c7:Int):Tree Bool:=
.an (Qhw b.C2) (.lv (wD b.C2) λ(x0:Int)=>.lf (decide (x0<=if 0>c7 then 0 else c7)))
def uk b c7:=(GH b c7).m
abbrev Qhk b c7:=(GH b c7).p
def Zda:bc:=mT 199 [] true [.agg gv.sig,.one (.int .i64)] [] (λa r=>GH (gv.of (aC a 0)) (aq a 1)) (λX=>.bool X) (λX=>[])
theorem Z62:bj pG Zda:=oT (.cons Qug (.nil)) Tryz.func199 Tryz.call199 [] [] 2
def DO(m:au):Tree Bool:=
.lv (lR m.Mem) λ(x0:Int)=>.lv (tB m.A3) λ(x1:Bool)=>.br x1 (.lv (tC m.A9) λ(x2:Bool)=>.br x2 (.lv (ki m.A7 x0) λ(x3:Bool)=>.br x3 (.lv (pr m.C3 x0) λ(x4:Bool)=>.br x4 (.an (Qhk m.A2 x0) (.lv (uk m.A2 x0) λ(x5:Bool)=>.lf x5)) (.lf false)) (.lf false)) (.lf false)) (.lf false)
def sH m:=(DO m).m
abbrev Vs m:=(DO m).p
def Qqt:bc:=mT 131 [] true [.agg au.sig] [] (λa r=>DO (au.of (aC a 0))) (λX=>.bool X) (λX=>[])
theorem Qoo:bj pG Qqt:=oT (.cons H2 (.cons Z79 (.cons Zip (.cons Zjf (.cons Zp4 (.cons Z62 (.nil))))))) Tryz.func131 Tryz.call131 [] [] 2
def J5(m:au):Tree Bool:=
.lv (lR m.Mem) λ(x0:Int)=>.br (x0==0) (.lf false) (.br (m.B1.X.a0 !=0) (.lf false) (.br (decide (m.B1.B4.a0>31)) (.lf false) (.br (decide (m.B1.B4.a7>31)) (.lf false) (.br (decide (m.B1.B4.a6>255)) (.lf false) (.br (dE m.B1.B4.a1 (4:Int) !=(0:Int)) (.lf false) (.br (decide (m.A1>1152921504606846976)) (.lf false) (.br m.A4 (.br m.A6 (.lf false) (.an (Vs m) (.lv (sH m) λ(x1:Bool)=>.lf x1))) (.an (Vs m) (.lv (sH m) λ(x2:Bool)=>.lf x2)))))))))
def mZ m:=(J5 m).m
abbrev RM m:=(J5 m).p
def Zcr:bc:=mT 68 [] true [.agg au.sig] [] (λa r=>J5 (au.of (aC a 0))) (λX=>.bool X) (λX=>[])
theorem Qjt:bj pG Zcr:=oT (.cons H2 (.cons Qoo (.nil))) Tryz.func68 Tryz.call68 [] [] 2
def Qol(t:iU):Tree Bool:=
.lf t.D3
def X1 t:=(Qol t).m
def Z56:bc:=mS 170 [] true [.agg iU.sig] [] (λa r=>Qol (iU.of (aC a 0))) (λX=>.bool X) (λX=>[])
theorem Z0z:bj pG Z56:=oS (.nil) Tryz.func170 Tryz.call170 [] [] 2
def Qkk(c:iT):Tree Bool:=
.lf (!decide (c.D1=[]))
def TP c:=(Qkk c).m
def Qxy:bc:=mS 171 [] true [.agg iT.sig] [] (λa r=>Qkk (iT.of (aC a 0))) (λX=>.bool X) (λX=>[])
theorem Qte:bj pG Qxy:=oS (.nil) Tryz.func171 Tryz.call171 [] [] 2
def W5(d0:fp):Tree Bool:=
.br (d0.B7==2) (.lf true) (.lf (d0.B7==3))
def La d0:=(W5 d0).m
def Z5v:bc:=mS 172 [] true [.agg fp.sig] [] (λa r=>W5 (fp.of (aC a 0))) (λX=>.bool X) (λX=>[])
theorem Qp8:bj pG Z5v:=oS (.nil) Tryz.func172 Tryz.call172 [] [] 2
def Qv5(n:ia):Tree Bool:=
.lf n.B5
def X2 n:=(Qv5 n).m
def Zdn:bc:=mS 173 [] true [.agg ia.sig] [] (λa r=>Qv5 (ia.of (aC a 0))) (λX=>.bool X) (λX=>[])
theorem Z7d:bj pG Zdn:=oS (.nil) Tryz.func173 Tryz.call173 [] [] 2
def Rp(x:Int):Tree Int:=
let E1:=(↑(dK (cR (cR Kh Ez) (cR Ez RW))):Int);.cn (decide (0<=bg u32 x 24/\bg u32 x 24<E1)) (.cn (decide (0<=bf u32 (bg u32 x 16) 255/\bf u32 (bg u32 x 16) 255<E1)) (.cn (decide (0<=bf u32 (bg u32 x 8) 255/\bf u32 (bg u32 x 8) 255<E1)) (.cn (decide (0<=bf u32 x 255/\bf u32 x 255<E1)) (.lf (wrap i64 (wrap u8 (wrap u8 (wrap u8 ((↑(eW (aK ((0:UInt8)::(Vw++Ez++(Ez++RW))) (dF (bg u32 x 24)) (0:UInt8))):Int)+(↑(eW (aK ((0:UInt8)::(Vw++Ez++(Ez++RW))) (dF (bf u32 (bg u32 x 16) 255)) (0:UInt8))):Int))+(↑(eW (aK ((0:UInt8)::(Vw++Ez++(Ez++RW))) (dF (bf u32 (bg u32 x 8) 255)) (0:UInt8))):Int))+(↑(eW (aK ((0:UInt8)::(Vw++Ez++(Ez++RW))) (dF (bf u32 x 255)) (0:UInt8))):Int))))))))
def XU x:=(Rp x).m
abbrev Qad x:=(Rp x).p
def Qm1:bc:=mT 253 [] true [.one (.int .u32)] [] (λa r=>Rp (aq a 0)) (λX=>.int .i64 X) (λX=>[])
theorem Qkq:bj pG Qm1:=oT (.nil) Tryz.func253 Tryz.call253 [] [] 2
def Rq(b:gv):Tree Int:=
.an (Qad b.C2) (.lv (XU b.C2) λ(x0:Int)=>.lf x0)
def Qd b:=(Rq b).m
abbrev Qdg b:=(Rq b).p
def Z36:bc:=mT 191 [] true [.agg gv.sig] [] (λa r=>Rq (gv.of (aC a 0))) (λX=>.int .i64 X) (λX=>[])
theorem Qn8:bj pG Z36:=oT (.cons Qkq (.nil)) Tryz.func191 Tryz.call191 [] [] 2
def LO(b:gv):Tree Bool:=
.an (Qdg b) (.lv (Qd b) λ(x0:Int)=>.lf (wrap u32 x0 !=b.C6))
def OK b:=(LO b).m
abbrev Qi8 b:=(LO b).p
def Qx6:bc:=mT 174 [] true [.agg gv.sig] [] (λa r=>LO (gv.of (aC a 0))) (λX=>.bool X) (λX=>[])
theorem Qtv:bj pG Qx6:=oT (.cons Qn8 (.nil)) Tryz.func174 Tryz.call174 [] [] 2
def Qhu(m:au)(z:(Int)×(Int)):Nat:=(5-z.2).toNat
def Q7(m:au):Tree Int:=
.lv (X1 m.A9) λ(x0:Bool)=>.lv (TP m.A3) λ(x1:Bool)=>.lv (La m.A7) λ(x2:Bool)=>.lv (X2 m.C3) λ(x3:Bool)=>.an (Qi8 m.A2) (.lv (OK m.A2) λ(x4:Bool)=>.lp inferInstance (Qhu m (0,0)+1) ((rE (0:Int)/\(rE (x0:Bool)/\rE (x1:Bool)/\rE (x2:Bool)/\rE (x3:Bool)/\rE (x4:Bool)/\True)/\rE (0:Int)/\True)/\True) (0,0) λ(v0:Int×Int)=>.br (decide (v0.2<5)) (.cn (bT 1 1&&(bT 5 5&&decide (0<=v0.2/\v0.2<(↑5:Int)))) (.br (aK [x0,x1,x2,x3,x4] v0.2.toNat false) (.cn (decide (0<=v0.2)) (.nx ((rE ((iq u32 v0.1 (eg u32 1 v0.2)):Int)/\(rE (x0:Bool)/\rE (x1:Bool)/\rE (x2:Bool)/\rE (x3:Bool)/\rE (x4:Bool)/\True)/\rE ((wrap i64 (v0.2+1)):Int)/\True)/\True) (Sum.inl (iq u32 v0.1 (eg u32 1 v0.2),wrap i64 (v0.2+1))))) (.nx ((rE v0.1/\(rE (x0:Bool)/\rE (x1:Bool)/\rE (x2:Bool)/\rE (x3:Bool)/\rE (x4:Bool)/\True)/\rE ((wrap i64 (v0.2+1)):Int)/\True)/\True) (Sum.inl (v0.1,wrap i64 (v0.2+1)))))) (.lf (Sum.inr v0.1)))
def TV m:=(Q7 m).m
abbrev Qli m:=(Q7 m).p
def Z11:bu:={
 α:=(Int)×(Int)
 F:=λst a=>([(4,.int u32 a.1),(23,(lk st 23)),(24,.int i64 a.2)],[])
 a0:=λst=>((lk st 4).toInt,(lk st 24).toInt)
 jn:=λst=>[]++[]}
def Qub:List (Nat×bu):=[(4,Z11)]
def Z4c:bc:=mT 108 [] true [.agg au.sig] [] (λa r=>Q7 (au.of (aC a 0))) (λX=>.int .u32 X) (λX=>[])
theorem Z0:bj pG Z4c:=oT (.cons Z0z (.cons Qte (.cons Qp8 (.cons Z7d (.cons Qtv (.nil)))))) Tryz.func108 Tryz.call108 [] Qub 3
def G9(m:au):Tree Int:=
.an (Qli m) (.lv (TV m) λ(x0:Int)=>.lf (bf u32 x0 m.B1.B4.a7))
def LS m:=(G9 m).m
abbrev Qb3 m:=(G9 m).p
def Qwv:bc:=mT 117 [] true [.agg au.sig] [] (λa r=>G9 (au.of (aC a 0))) (λX=>.int .u32 X) (λX=>[])
theorem Qji:bj pG Qwv:=oT (.cons Z0 (.nil)) Tryz.func117 Tryz.call117 [] [] 2
def Ha(m:au):Tree Bool:=
.br m.A4 (.an (Qb3 m) (.lv (LS m) λ(x0:Int)=>.lf (x0==0))) (.lf false)
def Ll m:=(Ha m).m
abbrev Yo m:=(Ha m).p
def Z61:bc:=mT 107 [] true [.agg au.sig] [] (λa r=>Ha (au.of (aC a 0))) (λX=>.bool X) (λX=>[])
theorem Qp9:bj pG Z61:=oT (.cons Qji (.nil)) Tryz.func107 Tryz.call107 [] [] 2

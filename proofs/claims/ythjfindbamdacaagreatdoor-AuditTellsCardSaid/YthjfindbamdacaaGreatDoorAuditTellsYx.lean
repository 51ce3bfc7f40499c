import Derived.Test.YthjfindbamdacaaGreatDoorAuditTellsBase
open Int renaming tmod->dD,tdiv->eT,toNat->dE
open Nat renaming beq->bT,blt->bJ
open List renaming set->dF,getD->aK,length->dJ,append->cQ
open UInt8 renaming toNat->eV
set_option maxRecDepth 100000
set_option linter.all false
namespace Go.Proofs.YthjfindbamdacaaGreatDoor
open Go Go.GD Go.IntKind
noncomputable section
def jK(s:List Int):(List Int):=
s
def mN(s:List Int):Prop:=
s.length<=35184372088832
def Q3i(s:List Int):List D:=[.sl 1 (.ints .u32 s) false]
def Vy(s:List Int):List Row:=[]
def M3(X:List Int):D:=.all 0
def M4(X:List Int):List Row:=[⟨false,23,1,.ints .u32 X⟩]
def Qdt:List o8:=[.row 23 1 (.ints .u32)]
def Q6u:List PT:=[.one (.ints .u32)]
def Q6r:List RT:=[]
def Qeu(args:List D)(rows:List Row):(List Int):=jK (ek .u32 args 0)
def Qf2(args:List D)(rows:List Row):Prop:=mN (ek .u32 args 0)
def Qga:bb:=mU 59 [] true Q6u Q6r Qf2 Qeu M3 M4
def Q4q(s:List Int)(DO:(List Int)->Prop):Prop:=
(s=[]->DO [])/\cw (decide ((4:Nat)*((0:Nat)+s.length)<=(140737488355328:Nat))) (DO s)
set_option maxRecDepth 100000 in
theorem Qf9(s:List Int)(Q:D->List Row->Prop):(nz kX [] (LL kX [] Tryz.f59.ntmps 0 [] 2) Tryz.f59 (Q3i s) (Vy s) λd R=>sq (Vy s).length Qdt d R Q)=Q4q s (λX=>Q (M3 X) (M4 X)):=by kernel_rfl
theorem Qd5(s:List Int)(DO:(List Int)->Prop)(hw:mN s)(h:DO (jK s)):
Q4q s DO:=by
 delta Q4q
 refine⟨λe=>by rw[e]at h;exact h,?_⟩
 rw[c9]
 refine⟨dY ?_,h⟩
 have:s.length<=35184372088832:=hw
 omega
set_option maxRecDepth 100000 in
theorem Qcq(s:List Int)(hw:mN s):kq pG 59 (Q3i s) (Vy s) (M3 (jK s)) (M4 (jK s)):=
 have hG:j5 pG []:=.nil
 wg.calls drawn nj hG Tryz.func59 (rf:=none) (λ_ _=>trivial) (wJ drawn nj hG (.inl rfl) 2 (gy:=[])) (wg.of (Qf9 s _) (Qd5 s (λX=>M3 X=M3 (jK s)/\M4 X=M4 (jK s)) hw ⟨rfl,rfl⟩))
set_option maxRecDepth 100000 in
theorem Qdj(args:List D)(rows:List Row):mq Q6u args 0=Q3i (ek .u32 args 0):=by kernel_rfl
set_option maxRecDepth 100000 in
theorem Qcr(args:List D)(rows:List Row):lG Q6r rows 0=Vy (ek .u32 args 0):=by kernel_rfl
set_option maxRecDepth 100000 in
theorem Qf6(X:List Int):(wu (M3 X)&&jP (M4 X))=true:=by kernel_rfl
theorem EI:bj pG Qga:=MZ Tryz.call59 (λargs rows hp=>by rw[Qdj args rows,Qcr args rows];exact Qcq (ek .u32 args 0) hp) (λ_ X=>Qf6 X)
def Le(m:List Int):Tree Int:=
.br (dD (m.length:Int) (32:Int) !=(0:Int)) (.lf 0) (.br (decide ((m.length:Int)>(1024:Int))) (.lf 0) (.lf (wrap i64 (eT (m.length:Int) 32))))
def lZ m:=(Le m).m
def Z79:bb:=mS 14 [] true [.one (.ints .u32)] [] (λa r=>Le (ek .u32 a 0)) (λX=>.int .i64 X) (λX=>[])
theorem Ia:bj pG Z79:=oS (.nil) Tryz.func14 Tryz.call14 [] [] 2
def Je(m:List Int)(addr size:Int):Tree Bool:=
let T1:Tree (Bool):=.cn (decide (wrap u32 size≠0)) (.br (dD addr (wrap u32 size) !=0) (.lf false) (.lv (lZ m) λ(x0:Int)=>.lf (decide (wrap u64 (wrap u64 addr+wrap u64 size)<=wrap u64 (wrap u64 x0*128)))));.br (size !=1) (.br (size !=4) (.lf false) T1) T1
def XC m addr size:=(Je m addr size).m
abbrev Qd1 m addr size:=(Je m addr size).p
def Z4b:bb:=mT 247 [] true [.one (.ints .u32),.one (.int .u32),.one (.int .i64)] [] (λa r=>Je (ek .u32 a 0) (av a 1) (av a 2)) (λX=>.bool X) (λX=>[])
theorem Qno:bj pG Z4b:=oT (.cons Ia (.nil)) Tryz.func247 Tryz.call247 [] [] 2
def Ru(n:Int):Tree Int:=
.br (decide (n>=32)) (.lf 4294967295) (.cn (decide (0<=wrap u64 n)) (.lf (wrap u32 (eg u32 1 (wrap u64 n)-1))))
def Z2i n:=(Ru n).m
abbrev Qmx n:=(Ru n).p
def Zk7:bb:=mT 248 [] true [.one (.int .i64)] [] (λa r=>Ru (av a 0)) (λX=>.int .u32 X) (λX=>[])
theorem Qzi:bj pG Zk7:=oT (.nil) Tryz.func248 Tryz.call248 [] [] 2
def Rv(w low n:Int):Tree Int:=
.br (decide (low<0)) (.lf 0) (.br (decide (low>31)) (.lf 0) (.br (decide (n<1)) (.lf 0) (.cn (decide (0<=wrap u64 low)) (.an (Qmx n) (.lv (Z2i n) λ(x0:Int)=>.lf (bc u32 (bf u32 w (wrap u64 low)) x0))))))
def tL w low n:=(Rv w low n).m
abbrev M5 w low n:=(Rv w low n).p
def Ziu:bb:=mT 179 [] true [.one (.int .u32),.one (.int .i64),.one (.int .i64)] [] (λa r=>Rv (av a 0) (av a 1) (av a 2)) (λX=>.int .u32 X) (λX=>[])
theorem Qm7:bj pG Ziu:=oT (.cons Qzi (.nil)) Tryz.func179 Tryz.call179 [] [] 2
def Q9(w low n v:Int):Tree Int:=
.br (decide (low<0)) (.lf w) (.br (decide (low>31)) (.lf w) (.br (decide (n<1)) (.lf w) (.an (Qmx n) (.lv (Z2i n) λ(x0:Int)=>.cn (decide (0<=wrap u64 low)) (.cn (decide (0<=wrap u64 low)) (.lf (il u32 (nU u32 w (eg u32 x0 (wrap u64 low))) (eg u32 (bc u32 v x0) (wrap u64 low)))))))))
def LD w low n v:=(Q9 w low n v).m
abbrev Qkx w low n v:=(Q9 w low n v).p
def Z4m:bb:=mT 250 [] true [.one (.int .u32),.one (.int .i64),.one (.int .i64),.one (.int .u32)] [] (λa r=>Q9 (av a 0) (av a 1) (av a 2) (av a 3)) (λX=>.int .u32 X) (λX=>[])
theorem Z0y:bj pG Z4m:=oT (.cons Qzi (.nil)) Tryz.func250 Tryz.call250 [] [] 2
def LH(m:List Int)(addr size v:Int):Tree ((List Int)×Bool):=
.an (mN m) (.lv (jK m) λ(x0:List Int)=>.an (Qd1 m addr size) (.lv (XC m addr size) λ(x1:Bool)=>.br (!x1) (.lf (x0,false)) (let E1:=bT 1 1&&bJ 0 1&&decide (0<=wrap u32 (eT addr 4)/\wrap u32 (eT addr 4)<(x0.length:Int));let E2:=dE (wrap u32 (eT addr 4));.br (size==1) (.cn E1 (let E3:=wrap i64 (wrap i64 (dD addr 4)*8);.an (Qkx (x0.getD E2 0) E3 8 v) (.lv (LD (x0.getD E2 0) E3 8 v) λ(x2:Int)=>.cn E1 (.lf (dF x0 E2 x2,true))))) (.cn E1 (.lf (dF x0 E2 v,true))))))
def LG m addr size v:=(LH m addr size v).m
abbrev Qap m addr size v:=(LH m addr size v).p
def Z6g:bb:=mT 186 [] true [.one (.ints .u32),.one (.int .u32),.one (.int .i64),.one (.int .u32)] [] (λa r=>LH (ek .u32 a 0) (av a 1) (av a 2) (av a 3)) (λX=>.dt [.all 0,.bool (X.2)]) (λX=>[⟨false,23,1,.ints .u32 (X.1)⟩])
theorem Qp0:bj pG Z6g:=oT (.cons EI (.cons Qno (.cons Z0y (.nil)))) Tryz.func186 Tryz.call186 [.row 23 1 (.ints .u32)] [] 2
def Zfe(op:Int):Tree (Aq×Bool):=
.br (op==1) (.lf ({a:=true,b:=true,c:=true,low:=0,D3:=0},true)) (.br (op==2) (.lf ({a:=true,b:=true,c:=true,low:=0,D3:=0},true)) (.br (op==3) (.lf ({a:=true,b:=true,c:=true,low:=0,D3:=0},true)) (.br (op==4) (.lf ({a:=true,b:=true,c:=true,low:=0,D3:=0},true)) (.br (op==5) (.lf ({a:=true,b:=true,c:=true,low:=0,D3:=0},true)) (.br (op==6) (.lf ({a:=true,b:=true,c:=true,low:=0,D3:=0},true)) (.br (op==7) (.lf ({a:=true,b:=true,c:=true,low:=0,D3:=0},true)) (.br (op==8) (.lf ({a:=true,b:=true,c:=true,low:=0,D3:=0},true)) (.br (op==9) (.lf ({a:=true,b:=true,c:=true,low:=0,D3:=0},true)) (.br (op==10) (.lf ({a:=true,b:=true,c:=true,low:=0,D3:=0},true)) (.br (op==11) (.lf ({a:=true,b:=true,c:=true,low:=0,D3:=0},true)) (.br (op==12) (.lf ({a:=true,b:=true,c:=true,low:=0,D3:=0},true)) (.br (op==13) (.lf ({a:=true,b:=true,c:=true,low:=0,D3:=0},true)) (.br (op==16) (.lf ({a:=true,b:=true,c:=false,low:=(-32768),D3:=32767},true)) (.br (op==23) (.lf ({a:=true,b:=true,c:=false,low:=(-32768),D3:=32767},true)) (.br (op==32) (.lf ({a:=true,b:=true,c:=false,low:=(-32768),D3:=32767},true)) (.br (op==33) (.lf ({a:=true,b:=true,c:=false,low:=(-32768),D3:=32767},true)) (.br (op==34) (.lf ({a:=true,b:=true,c:=false,low:=(-32768),D3:=32767},true)) (.br (op==35) (.lf ({a:=true,b:=true,c:=false,low:=(-32768),D3:=32767},true)) (.br (op==36) (.lf ({a:=true,b:=true,c:=false,low:=(-32768),D3:=32767},true)) (.br (op==40) (.lf ({a:=true,b:=true,c:=false,low:=(-32768),D3:=32767},true)) (.br (op==41) (.lf ({a:=true,b:=true,c:=false,low:=(-32768),D3:=32767},true)) (.br (op==42) (.lf ({a:=true,b:=true,c:=false,low:=(-32768),D3:=32767},true)) (.br (op==43) (.lf ({a:=true,b:=true,c:=false,low:=(-32768),D3:=32767},true)) (.br (op==44) (.lf ({a:=true,b:=true,c:=false,low:=(-32768),D3:=32767},true)) (.br (op==45) (.lf ({a:=true,b:=true,c:=false,low:=(-32768),D3:=32767},true)) (.br (op==49) (.lf ({a:=true,b:=true,c:=false,low:=(-32768),D3:=32767},true)) (.br (op==17) (.lf ({a:=true,b:=true,c:=false,low:=0,D3:=65535},true)) (.br (op==18) (.lf ({a:=true,b:=true,c:=false,low:=0,D3:=65535},true)) (.br (op==19) (.lf ({a:=true,b:=true,c:=false,low:=0,D3:=65535},true)) (.br (op==20) (.lf ({a:=true,b:=true,c:=false,low:=0,D3:=31},true)) (.br (op==21) (.lf ({a:=true,b:=true,c:=false,low:=0,D3:=31},true)) (.br (op==22) (.lf ({a:=true,b:=true,c:=false,low:=0,D3:=31},true)) (.br (op==24) (.lf ({a:=true,b:=false,c:=false,low:=0,D3:=65535},true)) (.br (op==48) (.lf ({a:=true,b:=false,c:=false,low:=(-32768),D3:=32767},true)) (.br (op==58) (.lf ({a:=true,b:=false,c:=false,low:=0,D3:=7},true)) (.br (op==59) (.lf ({a:=true,b:=false,c:=false,low:=0,D3:=7},true)) (.br (op==60) (.lf ({a:=true,b:=false,c:=false,low:=0,D3:=11},true)) (.br (op==61) (.lf ({a:=true,b:=false,c:=false,low:=0,D3:=11},true)) (.br (op==56) (.lf ({a:=false,b:=false,c:=false,low:=0,D3:=0},true)) (.br (op==57) (.lf ({a:=false,b:=false,c:=false,low:=0,D3:=0},true)) (.br (op==62) (.lf ({a:=false,b:=false,c:=false,low:=0,D3:=0},true)) (.br (op==63) (.lf ({a:=false,b:=false,c:=false,low:=0,D3:=0},true)) (.br (op==64) (.lf ({a:=false,b:=false,c:=false,low:=0,D3:=0},true)) (.lf ({a:=false,b:=false,c:=false,low:=0,D3:=0},false)))))))))))))))))))))))))))))))))))))))))))))
def Tq op:=(Zfe op).m
def qA:bb:=mS 180 [] true [.one (.int .i64)] [] (λa r=>Zfe (av a 0)) (λX=>.dt [.agg (Aq.cells (X.1)),.bool (X.2)]) (λX=>[])
theorem Z8e:bj pG qA:=oS (.nil) Tryz.func180 Tryz.call180 [] [] 2
def Rw(x n:Int):Tree Int:=
.br (decide (n<1)) (.lf 0) (.br (decide (n>=32)) (.lf x) (let E1:=decide (0<=wrap u64 (wrap i64 (32-n)));.cn E1 (.cn E1 (.lf (wrap u32 (bf i32 (wrap i32 (eg u32 x (wrap u64 (wrap i64 (32-n))))) (wrap u64 (wrap i64 (32-n)))))))))
def El x n:=(Rw x n).m
abbrev Qay x n:=(Rw x n).p
def Qxv:bb:=mT 181 [] true [.one (.int .u32),.one (.int .i64)] [] (λa r=>Rw (av a 0) (av a 1)) (λX=>.int .u32 X) (λX=>[])
theorem Qj:bj pG Qxv:=oT (.nil) Tryz.func181 Tryz.call181 [] [] 2
def Ts(r:Int)(used:Bool):Tree Bool:=
.br used (.br (decide (r>=0)) (.lf (decide (r<=15))) (.lf false)) (.lf (r==0))
def Ly r used:=(Ts r used).m
def Z7r:bb:=mS 249 [] true [.one (.int .i64),.one (.bool)] [] (λa r=>Ts (av a 0) (tz a 1)) (λX=>.bool X) (λX=>[])
theorem Z3v:bj pG Z7r:=oS (.nil) Tryz.func249 Tryz.call249 [] [] 2
def Ov(i:gm):Tree Bool:=
.lv (Tq i.Op) λ(x0:Aq×Bool)=>.br x0.2 (.lv (Ly i.A x0.1.a) λ(x1:Bool)=>.br x1 (.lv (Ly i.B x0.1.b) λ(x2:Bool)=>.br x2 (.lv (Ly i.C x0.1.c) λ(x3:Bool)=>.br x3 (.br (decide (i.bo>=x0.1.low)) (.lf (decide (i.bo<=x0.1.D3))) (.lf false)) (.lf false)) (.lf false)) (.lf false)) (.lf false)
def Ja i:=(Ov i).m
def Zjs:bb:=mS 182 [] true [.agg gm.sig] [] (λa r=>Ov (gm.of (aC a 0))) (λX=>.bool X) (λX=>[])
theorem Zi7:bj pG Zjs:=oS (.cons Z8e (.cons Z3v (.nil))) Tryz.func182 Tryz.call182 [] [] 2
def LA(w:Int):Tree (gm×Bool):=
.an (M5 w 24 8) (.lv (tL w 24 8) λ(x0:Int)=>.an (M5 w 20 4) (.lv (tL w 20 4) λ(x1:Int)=>.an (M5 w 16 4) (.lv (tL w 16 4) λ(x2:Int)=>.lv (Tq (wrap i64 x0)) λ(x3:Aq×Bool)=>let E1:=({Op:=0,A:=0,B:=0,C:=0,bo:=0}:gm);.br (!x3.2) (.lf (E1,false)) (.an (M5 w 0 16) (.lv (tL w 0 16) λ(x4:Int)=>.br x3.1.c (let E2:=({Op:=wrap i64 x0,A:=wrap i64 x1,B:=wrap i64 x2,C:=wrap i64 x4,bo:=0}:gm);.lv (Ja E2) λ(x5:Bool)=>.br (!x5) (.lf (E1,false)) (.lf (E2,true))) (.br (decide (x3.1.low<0)) (.an (Qay x4 16) (.lv (El x4 16) λ(x6:Int)=>let E3:=({Op:=wrap i64 x0,A:=wrap i64 x1,B:=wrap i64 x2,C:=0,bo:=wrap i32 x6}:gm);.lv (Ja E3) λ(x7:Bool)=>.br (!x7) (.lf (E1,false)) (.lf (E3,true)))) (let E4:=({Op:=wrap i64 x0,A:=wrap i64 x1,B:=wrap i64 x2,C:=0,bo:=wrap i32 x4}:gm);.lv (Ja E4) λ(x8:Bool)=>.br (!x8) (.lf (E1,false)) (.lf (E4,true)))))))))
def Ox w:=(LA w).m
abbrev Qrl w:=(LA w).p
def Zhx:bb:=mT 112 [] true [.one (.int .u32)] [] (λa r=>LA (av a 0)) (λX=>.dt [.agg (gm.cells (X.1)),.bool (X.2)]) (λX=>[])
theorem Zd:bj pG Zhx:=oT (.cons Qm7 (.cons Z8e (.cons Qj (.cons Zi7 (.nil))))) Tryz.func112 Tryz.call112 [] [] 2
def LP(a b:Int):Tree (Int×Int):=
.br (b==0) (.lf (4294967295,a)) (let T1:Tree ((Int×Int)):=.cn (decide (wrap i32 b≠0)) (.cn (decide (wrap i32 b≠0)) (.lf (wrap u32 (wrap i32 (eT (wrap i32 a) (wrap i32 b))),wrap u32 (dD (wrap i32 a) (wrap i32 b)))));.br (a==2147483648) (.br (b==4294967295) (.lf (a,0)) T1) T1)
def LN a b:=(LP a b).m
abbrev Qhn a b:=(LP a b).p
def Zd1:bb:=mT 251 [] true [.one (.int .u32),.one (.int .u32)] [] (λa r=>LP (av a 0) (av a 1)) (λX=>.dt [.int .u32 (X.1),.int .u32 (X.2)]) (λX=>[])
theorem Z6e:bj pG Zd1:=oT (.nil) Tryz.func251 Tryz.call251 [] [] 2
def Z2r(b:Bool):Tree Int:=
.br b (.lf 1) (.lf 0)
def Vo b:=(Z2r b).m
def Zjc:bb:=mS 252 [] true [.one (.bool)] [] (λa r=>Z2r (tz a 0)) (λX=>.int .u32 X) (λX=>[])
theorem Zg3:bj pG Zjc:=oS (.nil) Tryz.func252 Tryz.call252 [] [] 2
def Rz(op a b:Int):Tree (Int×Bool):=
.br (op==2) (.lf (wrap u32 (a+wrap u32 (0-b)),true)) (.br (op==1) (.lf (wrap u32 (a+b),true)) (.br (op==16) (.lf (wrap u32 (a+b),true)) (.br (op==3) (.lf (bc u32 a b,true)) (.br (op==17) (.lf (bc u32 a b,true)) (.br (op==4) (.lf (il u32 a b,true)) (.br (op==18) (.lf (il u32 a b,true)) (.br (op==5) (.lf (nh u32 a b,true)) (.br (op==19) (.lf (nh u32 a b,true)) (.br (op==6) (.lf (eg u32 a (bc u32 b 31),true)) (.br (op==20) (.lf (eg u32 a (bc u32 b 31),true)) (.br (op==7) (.lf (bf u32 a (bc u32 b 31),true)) (.br (op==21) (.lf (bf u32 a (bc u32 b 31),true)) (let E1:=(wrap u32 (bf i32 (wrap i32 a) (bc u32 b 31)),true);.br (op==8) (.lf E1) (.br (op==22) (.lf E1) (.br (op==9) (.lf (wrap u32 (a*b),true)) (.br (op==10) (.an (Qhn a b) (.lv (LN a b) λ(x0:Int×Int)=>.lf (x0.1,true))) (.br (op==11) (.an (Qhn a b) (.lv (LN a b) λ(x1:Int×Int)=>.lf (x1.2,true))) (.br (op==12) (.lv (Vo (decide (wrap i32 a<wrap i32 b))) λ(x2:Int)=>.lf (x2,true)) (.br (op==23) (.lv (Vo (decide (wrap i32 a<wrap i32 b))) λ(x3:Int)=>.lf (x3,true)) (.br (op==13) (.lv (Vo (decide (a<b))) λ(x4:Int)=>.lf (x4,true)) (.lf (0,false))))))))))))))))))))))
def nM op a b:=(Rz op a b).m
abbrev Qt7 op a b:=(Rz op a b).p
def xA:bb:=mT 190 [] true [.one (.int .i64),.one (.int .u32),.one (.int .u32)] [] (λa r=>Rz (av a 0) (av a 1) (av a 2)) (λX=>.dt [.int .u32 (X.1),.bool (X.2)]) (λX=>[])
theorem Zr2:bj pG xA:=oT (.cons Z6e (.cons Zg3 (.nil))) Tryz.func190 Tryz.call190 [] [] 2
end
noncomputable section
def Vn(status DP to:Int):Tree Int:=
.br (bc u32 status DP !=0) (.lf (il u32 status to)) (.lf (nU u32 status to))
def AL status DP to:=(Vn status DP to).m
def Zq3:bb:=mS 175 [] true [.one (.int .u32),.one (.int .u32),.one (.int .u32)] [] (λa r=>Vn (av a 0) (av a 1) (av a 2)) (λX=>.int .u32 X) (λX=>[])
theorem Z42:bj pG Zq3:=oS (.nil) Tryz.func175 Tryz.call175 [] [] 2
def OD(c:bg)(oO bad:Int):Tree bg:=
.lv (AL c.B1.a0 1 8) λ(x0:Int)=>.lv (AL x0 2 16) λ(x1:Int)=>.lf ({X:=c.X,Pc:=c.B1.a1,B1:={a0:=nU u32 (il u32 x1 1) 2,a1:=c.B1.a1,a2:=c.Pc,a3:=wrap u32 oO,a4:=bad,a5:=c.B1.a5,a6:=c.B1.a6,a7:=c.B1.a7}})
def rB c oO bad:=(OD c oO bad).m
def Zp5:bb:=mS 109 [] true [.agg bg.sig,.one (.int .i64),.one (.int .u32)] [] (λa r=>OD (bg.of (aC a 0)) (av a 1) (av a 2)) (λX=>.agg (bg.cells X)) (λX=>[])
theorem R4:bj pG Zp5:=oS (.cons Z42 (.nil)) Tryz.func109 Tryz.call109 [] [] 2
def Qub(access:Int):Tree (Int×Bool):=
.br (access==1) (.lf (4,true)) (.br (access==2) (.lf (5,true)) (.br (access==3) (.lf (6,true)) (.lf (5,false))))
def Qt1 access:=(Qub access).m
def Zak:bb:=mS 245 [] true [.one (.int .i64)] [] (λa r=>Qub (av a 0)) (λX=>.dt [.int .i64 (X.1),.bool (X.2)]) (λX=>[])
theorem Z76:bj pG Zak:=oS (.nil) Tryz.func245 Tryz.call245 [] [] 2
def Qyn(c:bg):Tree Bool:=
.lf (bc u32 c.B1.a0 (1:Int) !=(0:Int))
def G3 c:=(Qyn c).m
def Zix:bb:=mS 118 [] true [.agg bg.sig] [] (λa r=>Qyn (bg.of (aC a 0))) (λX=>.bool X) (λX=>[])
theorem Qu2:bj pG Zix:=oS (.nil) Tryz.func118 Tryz.call118 [] [] 2
def Qnd(access:Int):Tree (Int×Bool):=
.br (access==1) (.lf (4,true)) (.br (access==2) (.lf (5,true)) (.br (access==3) (.lf (6,true)) (.lf (5,false))))
def Qk access:=(Qnd access).m
def Qzy:bb:=mS 241 [] true [.one (.int .i64)] [] (λa r=>Qnd (av a 0)) (λX=>.dt [.int .i64 (X.1),.bool (X.2)]) (λX=>[])
theorem Qya:bj pG Qzy:=oS (.nil) Tryz.func241 Tryz.call241 [] [] 2
def Qh5(m:List Int)(frame:Int):Tree Bool:=
.lv (lZ m) λ(x0:Int)=>.lf (decide (wrap u64 frame<wrap u64 x0))
def OA m frame:=(Qh5 m frame).m
def Z5a:bb:=mS 242 [] true [.one (.ints .u32),.one (.int .u32)] [] (λa r=>Qh5 (ek .u32 a 0) (av a 1)) (λX=>.bool X) (λX=>[])
theorem Z02:bj pG Z5a:=oS (.cons Ia (.nil)) Tryz.func242 Tryz.call242 [] [] 2
def LF(m:List Int)(addr size:Int):Tree (Int×Bool):=
.an (Qd1 m addr size) (.lv (XC m addr size) λ(x0:Bool)=>.br (!x0) (.lf (0,false)) (.cn (bT 1 1&&bJ 0 1&&decide (0<=wrap u32 (eT addr 4)/\wrap u32 (eT addr 4)<(m.length:Int))) (let E1:=dE (wrap u32 (eT addr 4));.br (size==1) (let E2:=wrap i64 (wrap i64 (dD addr 4)*8);.an (M5 (m.getD E1 0) E2 8) (.lv (tL (m.getD E1 0) E2 8) λ(x1:Int)=>.lf (x1,true))) (.lf (m.getD E1 0,true)))))
def Cz m addr size:=(LF m addr size).m
abbrev Kc m addr size:=(LF m addr size).p
def Zbw:bb:=mT 178 [] true [.one (.ints .u32),.one (.int .u32),.one (.int .i64)] [] (λa r=>LF (ek .u32 a 0) (av a 1) (av a 2)) (λX=>.dt [.int .u32 (X.1),.bool (X.2)]) (λX=>[])
theorem R5:bj pG Zbw:=oT (.cons Qno (.cons Qm7 (.nil))) Tryz.func178 Tryz.call178 [] [] 2
def Qnp(BI access:Int):Tree Bool:=
.br (bc u32 BI (1:Int)==(0:Int)) (.lf false) (.br (access==3) (.lf (bc u32 BI (2:Int) !=(0:Int))) (.br (access==1) (.lf (bc u32 BI (4:Int) !=(0:Int))) (.lf true)))
def Tz BI access:=(Qnp BI access).m
def Z0p:bb:=mS 243 [] true [.one (.int .u32),.one (.int .i64)] [] (λa r=>Qnp (av a 0) (av a 1)) (λX=>.bool X) (λX=>[])
theorem Qw8:bj pG Z0p:=oS (.nil) Tryz.func243 Tryz.call243 [] [] 2
def Rx(BI:Int):Tree Int:=
.an (M5 BI 8 8) (.lv (tL BI 8 8) λ(x0:Int)=>.lf x0)
def XH BI:=(Rx BI).m
abbrev Qby BI:=(Rx BI).p
def Z0w:bb:=mT 244 [] true [.one (.int .u32)] [] (λa r=>Rx (av a 0)) (λX=>.int .u32 X) (λX=>[])
theorem Qwy:bj pG Z0w:=oT (.cons Qm7 (.nil)) Tryz.func244 Tryz.call244 [] [] 2
def LJ(m:List Int)(root va access:Int):Tree rS:=
.lv (Qk access) λ(x0:Int×Bool)=>let E1:=({Addr:=0,E0:=0,D9:=x0.1}:rS);.br (!x0.2) (.lf (E1)) (.br (decide (va>=4096)) (.lf (E1)) (.lv (OA m root) λ(x1:Bool)=>.br (!x1) (.lf (E1)) (let E2:=wrap u32 (root*128)+wrap u32 (4*wrap u32 (eT va 128));.an (Kc m (wrap u32 E2) 4) (.lv (Cz m (wrap u32 E2) 4) λ(x2:Int×Bool)=>.br (!x2.2) (.lf (E1)) (.lv (Tz x2.1 access) λ(x3:Bool)=>.br (!x3) (.lf (E1)) (.an (Qby x2.1) (.lv (XH x2.1) λ(x4:Int)=>.lv (OA m x4) λ(x5:Bool)=>.br (!x5) (.lf (E1)) (.an (Qby x2.1) (.lv (XH x2.1) λ(x6:Int)=>.lf ({Addr:=wrap u32 (wrap u32 (x6*128)+dD va 128),E0:=wrap u32 E2,D9:=0}))))))))))
def Ty m root va access:=(LJ m root va access).m
abbrev Qi5 m root va access:=(LJ m root va access).p
def Zcs:bb:=mT 176 [] true [.one (.ints .u32),.one (.int .u32),.one (.int .u32),.one (.int .i64)] [] (λa r=>LJ (ek .u32 a 0) (av a 1) (av a 2) (av a 3)) (λX=>.agg (rS.cells X)) (λX=>[])
theorem Z7i:bj pG Zcs:=oT (.cons Qya (.cons Z02 (.cons R5 (.cons Qw8 (.cons Qwy (.nil)))))) Tryz.func176 Tryz.call176 [] [] 2
def LK(m:List Int)(entry access:Int):Tree (List Int):=
.an (Kc m entry 4) (.lv (Cz m entry 4) λ(x0:Int×Bool)=>.br (!x0.2) (.an (mN m) (.lv (jK m) λ(x1:List Int)=>.lf x1)) (.br (access==3) (.an (Qap m entry 4 (il u32 (il u32 x0.1 8) 16)) (.lv (LG m entry 4 (il u32 (il u32 x0.1 8) 16)) λ(x2:List Int×Bool)=>.lf x2.1)) (.an (Qap m entry 4 (il u32 x0.1 8)) (.lv (LG m entry 4 (il u32 x0.1 8)) λ(x3:List Int×Bool)=>.lf x3.1))))
def OB m entry access:=(LK m entry access).m
abbrev Qff m entry access:=(LK m entry access).p
def Z6p:bb:=mT 246 [] true [.one (.ints .u32),.one (.int .u32),.one (.int .i64)] [] (λa r=>LK (ek .u32 a 0) (av a 1) (av a 2)) (λX=>.all 0) (λX=>[⟨false,23,1,.ints .u32 X⟩])
theorem Z4v:bj pG Z6p:=oT (.cons R5 (.cons EI (.cons Qp0 (.nil)))) Tryz.func246 Tryz.call246 [.row 23 1 (.ints .u32)] [] 2
def LR(c:bg)(m:List Int)(va size access:Int):Tree (Int×(List Int)×Int):=
.lv (Qt1 access) λ(x0:Int×Bool)=>let T3:Tree ((Int×(List Int)×Int)):=.an (mN m) (.lv (jK m) λ(x1:List Int)=>.lf (0,x1,5));.br (!x0.2) T3 (let T1:Tree ((Int×(List Int)×Int)):=.cn (decide (wrap u32 size≠0)) (.br (dD va (wrap u32 size) !=0) (.an (mN m) (.lv (jK m) λ(x3:List Int)=>.lf (0,x3,3))) (.lv (G3 c) λ(x4:Bool)=>let T2:Tree ((Int×(List Int)×Int)):=.an (Kc m va size) (.lv (Cz m va size) λ(x8:Int×Bool)=>.br (!x8.2) (.an (mN m) (.lv (jK m) λ(x9:List Int)=>.lf (0,x9,x0.1))) (.an (mN m) (.lv (jK m) λ(ja:List Int)=>.lf (va,ja,0))));.br (!x4) (.br (bc u32 c.B1.a0 (4:Int) !=(0:Int)) (.an (Qi5 m c.B1.a6 va access) (.lv (Ty m c.B1.a6 va access) λ(x5:rS)=>.br (x5.D9 !=0) (.an (mN m) (.lv (jK m) λ(x6:List Int)=>.lf (0,x6,x5.D9))) (.an (Qff m x5.E0 access) (.lv (OB m x5.E0 access) λ(x7:List Int)=>.lf (x5.Addr,x7,0))))) T2) T2));.br (size !=1) (.br (size !=4) T3 T1) T1)
def r9 c m va size access:=(LR c m va size access).m
abbrev Qc1 c m va size access:=(LR c m va size access).p
def Zb3:bb:=mT 177 [] true [.agg bg.sig,.one (.ints .u32),.one (.int .u32),.one (.int .i64),.one (.int .i64)] [] (λa r=>LR (bg.of (aC a 0)) (ek .u32 a 1) (av a 2) (av a 3) (av a 4)) (λX=>.dt [.int .u32 (X.1),.all 0,.int .i64 (X.2.2)]) (λX=>[⟨false,23,1,.ints .u32 (X.2.1)⟩])
theorem Qjz:bj pG Zb3:=oT (.cons Z76 (.cons EI (.cons Qu2 (.cons Z7i (.cons Z4v (.cons R5 (.nil))))))) Tryz.func177 Tryz.call177 [.row 23 1 (.ints .u32)] [] 2
def Ry(c:bg)(m:List Int):Tree (Int×(List Int)×Int):=
.an (Qc1 c m c.Pc 4 1) (.lv (r9 c m c.Pc 4 1) λ(x0:Int×List Int×Int)=>.br (x0.2.2 !=0) (.lf (0,x0.2.1,x0.2.2)) (.an (Kc x0.2.1 x0.1 4) (.lv (Cz x0.2.1 x0.1 4) λ(x1:Int×Bool)=>.lf (x1.1,x0.2.1,0))))
def TL c m:=(Ry c m).m
abbrev Qvd c m:=(Ry c m).p
def Zjv:bb:=mT 111 [] true [.agg bg.sig,.one (.ints .u32)] [] (λa r=>Ry (bg.of (aC a 0)) (ek .u32 a 1)) (λX=>.dt [.int .u32 (X.1),.all 0,.int .i64 (X.2.2)]) (λX=>[⟨false,23,1,.ints .u32 (X.2.1)⟩])
theorem Zgn:bj pG Zjv:=oT (.cons Qjz (.cons R5 (.nil))) Tryz.func111 Tryz.call111 [.row 23 1 (.ints .u32)] [] 2
def Qnc(op:Int):Tree Bool:=
.br (op==57) (.lf true) (.br (op==58) (.lf true) (.br (op==59) (.lf true) (.br (op==60) (.lf true) (.br (op==61) (.lf true) (.br (op==62) (.lf true) (.br (op==63) (.lf true) (.br (op==64) (.lf true) (.lf false))))))))
def Ou op:=(Qnc op).m
def Z0c:bb:=mS 114 [] true [.one (.int .i64)] [] (λa r=>Qnc (av a 0)) (λX=>.bool X) (λX=>[])
theorem Qxl:bj pG Z0c:=oS (.nil) Tryz.func114 Tryz.call114 [] [] 2
def Qst(op:Int):Tree Int:=
.br (op==32) (.lf 4) (.br (op==35) (.lf 4) (.lf 1))
def Kd op:=(Qst op).m
def Zl8:bb:=mS 184 [] true [.one (.int .i64)] [] (λa r=>Qst (av a 0)) (λX=>.int .i64 X) (λX=>[])
theorem Qz:bj pG Zl8:=oS (.nil) Tryz.func184 Tryz.call184 [] [] 2
def Fw(c:bg)(register v:Int):Tree bg:=
.br (register !=0) (.cn (bJ 0 1&&decide (0<=register/\register<(↑16:Int))) (.lf ({X:=fu.of 0 (dF (fu.l c.X) register.toNat v),Pc:=c.Pc,B1:=c.B1}))) (.lf c)
def uK c register v:=(Fw c register v).m
abbrev Ib c register v:=(Fw c register v).p
def zA:bb:=mT 185 [] true [.agg bg.sig,.one (.int .i64),.one (.int .u32)] [] (λa r=>Fw (bg.of (aC a 0)) (av a 1) (av a 2)) (λX=>.agg (bg.cells X)) (λX=>[])
theorem Z8b:bj pG zA:=oT (.nil) Tryz.func185 Tryz.call185 [] [] 2
def Qd(c:bg)(m:List Int)(i:gm):Tree (bg×(List Int)):=
.cn (bJ 0 1&&decide (0<=i.B/\i.B<(↑16:Int))) (.lv (Kd i.Op) λ(x0:Int)=>let E1:=wrap u32 (aK (fu.l c.X) i.B.toNat 0+wrap u32 i.bo);.an (Qc1 c m E1 x0 2) (.lv (r9 c m E1 x0 2) λ(x1:Int×List Int×Int)=>.br (x1.2.2 !=0) (.lv (rB c x1.2.2 E1) λ(x2:bg)=>.lf (x2,x1.2.1)) (.lv (Kd i.Op) λ(x3:Int)=>.an (Kc x1.2.1 x1.1 x3) (.lv (Cz x1.2.1 x1.1 x3) λ(x4:Int×Bool)=>.br (i.Op==33) (.an (Qay x4.1 8) (.lv (El x4.1 8) λ(x5:Int)=>.an (Ib c i.A x5) (.lv (uK c i.A x5) λ(x6:bg)=>.lf ({X:=x6.X,Pc:=wrap u32 (x6.Pc+4),B1:=x6.B1},x1.2.1)))) (.an (Ib c i.A x4.1) (.lv (uK c i.A x4.1) λ(x7:bg)=>.lf ({X:=x7.X,Pc:=wrap u32 (x7.Pc+4),B1:=x7.B1},x1.2.1)))))))
def tN c m i:=(Qd c m i).m
abbrev Qzr c m i:=(Qd c m i).p
def Zok:bb:=mT 119 [] true [.agg bg.sig,.one (.ints .u32),.agg gm.sig] [] (λa r=>Qd (bg.of (aC a 0)) (ek .u32 a 1) (gm.of (aC a 2))) (λX=>.dt [.agg (bg.cells (X.1)),.all 0]) (λX=>[⟨false,23,1,.ints .u32 (X.2)⟩])
theorem Zj2:bj pG Zok:=oT (.cons Qjz (.cons Qz (.cons R4 (.cons R5 (.cons Qj (.cons Z8b (.nil))))))) Tryz.func119 Tryz.call119 [.row 23 1 (.ints .u32)] [] 2
def Qb(c:bg)(m:List Int)(i:gm):Tree (bg×(List Int)):=
.cn (bJ 0 1&&decide (0<=i.B/\i.B<(↑16:Int))) (.lv (Kd i.Op) λ(x0:Int)=>let E1:=wrap u32 (aK (fu.l c.X) i.B.toNat 0+wrap u32 i.bo);.an (Qc1 c m E1 x0 3) (.lv (r9 c m E1 x0 3) λ(x1:Int×List Int×Int)=>.br (x1.2.2 !=0) (.lv (rB c x1.2.2 E1) λ(x2:bg)=>.lf (x2,x1.2.1)) (.lv (Kd i.Op) λ(x3:Int)=>.cn (bJ 0 1&&decide (0<=i.A/\i.A<(↑16:Int))) (let E2:=aK (fu.l c.X) i.A.toNat 0;.an (Qap x1.2.1 x1.1 x3 E2) (.lv (LG x1.2.1 x1.1 x3 E2) λ(x4:List Int×Bool)=>.lf ({X:=c.X,Pc:=wrap u32 (c.Pc+4),B1:=c.B1},x4.1))))))
def CB c m i:=(Qb c m i).m
abbrev Qun c m i:=(Qb c m i).p
def Ziz:bb:=mT 120 [] true [.agg bg.sig,.one (.ints .u32),.agg gm.sig] [] (λa r=>Qb (bg.of (aC a 0)) (ek .u32 a 1) (gm.of (aC a 2))) (λX=>.dt [.agg (bg.cells (X.1)),.all 0]) (λX=>[⟨false,23,1,.ints .u32 (X.2)⟩])
theorem Zex:bj pG Ziz:=oT (.cons Qjz (.cons Qz (.cons R4 (.cons Qp0 (.nil))))) Tryz.func120 Tryz.call120 [.row 23 1 (.ints .u32)] [] 2
def Z39(op a b:Int):Tree Bool:=
.br (op==40) (.lf (a==b)) (.br (op==41) (.lf (a !=b)) (.br (op==42) (.lf (decide (wrap i32 a<wrap i32 b))) (.br (op==43) (.lf (decide (wrap i32 a>=wrap i32 b))) (.br (op==44) (.lf (decide (a<b))) (.lf (decide (a>=b)))))))
def Zik op a b:=(Z39 op a b).m
def Zj7:bb:=mS 187 [] true [.one (.int .i64),.one (.int .u32),.one (.int .u32)] [] (λa r=>Z39 (av a 0) (av a 1) (av a 2)) (λX=>.bool X) (λX=>[])
theorem Zej:bj pG Zj7:=oS (.nil) Tryz.func187 Tryz.call187 [] [] 2
def OF(c:bg):Tree bg:=
.lv (AL c.B1.a0 8 1) λ(x0:Int)=>.lv (AL x0 16 2) λ(x1:Int)=>.lf ({X:=c.X,Pc:=c.B1.a2,B1:={a0:=x1,a1:=c.B1.a1,a2:=c.B1.a2,a3:=c.B1.a3,a4:=c.B1.a4,a5:=c.B1.a5,a6:=c.B1.a6,a7:=c.B1.a7}})
def Lt c:=(OF c).m
def Zi2:bb:=mS 188 [] true [.agg bg.sig] [] (λa r=>OF (bg.of (aC a 0))) (λX=>.agg (bg.cells X)) (λX=>[])
theorem Zar:bj pG Zi2:=oS (.cons Z42 (.nil)) Tryz.func188 Tryz.call188 [] [] 2
def I5(c:bg)(jy v:Int):Tree bg:=
let E4:=bJ 0 1&&decide (0<=jy/\jy<(↑8:Int));let T2:Tree (bg):=.cn E4 (.lf ({X:=c.X,Pc:=c.Pc,B1:=A8.of 0 (dF (A8.l c.B1) jy.toNat (bc u32 v 31))}));.br (jy==0) T2 (.br (jy==7) T2 (.br (jy==6) (.cn E4 (.lf ({X:=c.X,Pc:=c.Pc,B1:=A8.of 0 (dF (A8.l c.B1) jy.toNat (bc u32 v 255))}))) (let T3:Tree (bg):=.cn E4 (.lf ({X:=c.X,Pc:=c.Pc,B1:=A8.of 0 (dF (A8.l c.B1) jy.toNat (nU u32 v 3))}));.br (jy==1) T3 (.br (jy==2) T3 (let T1:Tree (bg):=.cn E4 (.lf ({X:=c.X,Pc:=c.Pc,B1:=A8.of 0 (dF (A8.l c.B1) jy.toNat v)}));.br (jy==3) T1 (.br (jy==4) T1 (.br (jy==5) T1 (.lf c))))))))
def Zgi c jy v:=(I5 c jy v).m
abbrev Qvq c jy v:=(I5 c jy v).p
def Zjp:bb:=mT 189 [] true [.agg bg.sig,.one (.int .i64),.one (.int .u32)] [] (λa r=>I5 (bg.of (aC a 0)) (av a 1) (av a 2)) (λX=>.agg (bg.cells X)) (λX=>[])
theorem Zg6:bj pG Zjp:=oT (.nil) Tryz.func189 Tryz.call189 [] [] 2
def Fx(c:bg)(i:gm):Tree (bg×kY):=
.cn (bJ 0 1&&decide (0<=i.A/\i.A<(↑16:Int))) (.cn (bJ 0 1&&decide (0<=i.B/\i.B<(↑16:Int))) (.br (i.Op==24) (.an (Ib c i.A (eg u32 (wrap u32 i.bo) 16)) (.lv (uK c i.A (eg u32 (wrap u32 i.bo) 16)) λ(x0:bg)=>.lf ({X:=x0.X,Pc:=wrap u32 (c.Pc+4),B1:=x0.B1},{C3:=0,C7:=0,D7:=0,Value:=0}))) (let E2:=({X:=c.X,Pc:=wrap u32 (c.Pc+4),B1:=c.B1}:bg);let E3:=aK (fu.l c.X) i.B.toNat 0;let E4:=aK (fu.l c.X) i.A.toNat 0;let T1:Tree ((bg×kY)):=.lv (Zik i.Op E4 E3) λ(x1:Bool)=>.br x1 (.lf ({X:=c.X,Pc:=wrap u32 (c.Pc+wrap u32 (4*wrap u32 i.bo)),B1:=c.B1},{C3:=0,C7:=0,D7:=0,Value:=0})) (.lf (E2,{C3:=0,C7:=0,D7:=0,Value:=0}));.br (i.Op==40) T1 (.br (i.Op==41) T1 (.br (i.Op==42) T1 (.br (i.Op==43) T1 (.br (i.Op==44) T1 (.br (i.Op==45) T1 (.br (i.Op==48) (.an (Ib c i.A (wrap u32 (c.Pc+4))) (.lv (uK c i.A (wrap u32 (c.Pc+4))) λ(x7:bg)=>.lf ({X:=x7.X,Pc:=wrap u32 (x7.Pc+wrap u32 (4*wrap u32 i.bo)),B1:=x7.B1},{C3:=0,C7:=0,D7:=0,Value:=0}))) (.br (i.Op==49) (.an (Ib c i.A (wrap u32 (c.Pc+4))) (.lv (uK c i.A (wrap u32 (c.Pc+4))) λ(x8:bg)=>.lf ({X:=x8.X,Pc:=wrap u32 (aK (fu.l c.X) i.B.toNat 0+wrap u32 i.bo),B1:=x8.B1},{C3:=0,C7:=0,D7:=0,Value:=0}))) (.br (i.Op==56) (.lv (rB c 7 0) λ(x9:bg)=>.lf (x9,{C3:=0,C7:=0,D7:=0,Value:=0})) (.br (i.Op==57) (.lv (Lt c) λ(ja:bg)=>.lf (ja,{C3:=0,C7:=0,D7:=0,Value:=0})) (.br (i.Op==58) (.cn (bJ 0 1&&decide (0<=i.bo/\i.bo<(↑8:Int))) (let E5:=aK (A8.l c.B1) i.bo.toNat 0;.an (Ib c i.A E5) (.lv (uK c i.A E5) λ(jv:bg)=>.lf ({X:=jv.X,Pc:=wrap u32 (c.Pc+4),B1:=jv.B1},{C3:=0,C7:=0,D7:=0,Value:=0})))) (.br (i.Op==59) (.an (Qvq c (wrap i64 i.bo) E4) (.lv (Zgi c (wrap i64 i.bo) E4) λ(jO:bg)=>.lf ({X:=jO.X,Pc:=wrap u32 (c.Pc+4),B1:=jO.B1},{C3:=0,C7:=0,D7:=0,Value:=0}))) (.br (i.Op==60) (.lf (E2,{C3:=1,C7:=wrap i64 i.bo,D7:=i.A,Value:=0})) (.br (i.Op==61) (.lf (E2,{C3:=2,C7:=wrap i64 i.bo,D7:=0,Value:=aK (fu.l c.X) i.A.toNat 0})) (.br (i.Op==62) (.lf (E2,{C3:=3,C7:=0,D7:=0,Value:=0})) (.br (i.Op==63) (.lf (E2,{C3:=5,C7:=0,D7:=0,Value:=0})) (.br (i.Op==64) (.lf (E2,{C3:=4,C7:=0,D7:=0,Value:=0})) (.cn (bJ 0 1&&decide (0<=i.C/\i.C<(↑16:Int))) (.br (decide (i.Op>=16)) (.an (Qt7 i.Op E3 (wrap u32 i.bo)) (.lv (nM i.Op E3 (wrap u32 i.bo)) λ(jW:Int×Bool)=>.an (Ib c i.A jW.1) (.lv (uK c i.A jW.1) λ(kF:bg)=>.lf ({X:=kF.X,Pc:=wrap u32 (c.Pc+4),B1:=kF.B1},{C3:=0,C7:=0,D7:=0,Value:=0})))) (let E6:=aK (fu.l c.X) i.C.toNat 0;.an (Qt7 i.Op E3 E6) (.lv (nM i.Op E3 E6) λ(mh:Int×Bool)=>.an (Ib c i.A mh.1) (.lv (uK c i.A mh.1) λ(lB:bg)=>.lf ({X:=lB.X,Pc:=wrap u32 (c.Pc+4),B1:=lB.B1},{C3:=0,C7:=0,D7:=0,Value:=0})))))))))))))))))))))))))
def XK c i:=(Fx c i).m
abbrev Qp c i:=(Fx c i).p
def Zbi:bb:=mT 121 [] true [.agg bg.sig,.agg gm.sig] [] (λa r=>Fx (bg.of (aC a 0)) (gm.of (aC a 1))) (λX=>.dt [.agg (bg.cells (X.1)),.agg (kY.cells (X.2))]) (λX=>[])
theorem Z6f:bj pG Zbi:=oT (.cons Z8b (.cons Zej (.cons R4 (.cons Zar (.cons Zg6 (.cons Zr2 (.nil))))))) Tryz.func121 Tryz.call121 [] [] 2
def Fy(c:bg)(m:List Int):Tree (bg×(List Int)×kY):=
.an (Qvd c m) (.lv (TL c m) λ(x0:Int×List Int×Int)=>.br (x0.2.2 !=0) (.lv (rB c x0.2.2 c.Pc) λ(x1:bg)=>.lf (x1,x0.2.1,{C3:=0,C7:=0,D7:=0,Value:=0})) (.an (Qrl x0.1) (.lv (Ox x0.1) λ(x2:gm×Bool)=>.br (!x2.2) (.lv (rB c 1 x0.1) λ(x3:bg)=>.lf (x3,x0.2.1,{C3:=0,C7:=0,D7:=0,Value:=0})) (.lv (Ou x2.1.Op) λ(x4:Bool)=>let T1:Tree ((bg×(List Int)×kY)):=let T2:Tree ((bg×(List Int)×kY)):=.an (Qzr c x0.2.1 x2.1) (.lv (tN c x0.2.1 x2.1) λ(x7:bg×List Int)=>.lf (x7.1,x7.2,{C3:=0,C7:=0,D7:=0,Value:=0}));.br (x2.1.Op==32) T2 (.br (x2.1.Op==33) T2 (.br (x2.1.Op==34) T2 (let T3:Tree ((bg×(List Int)×kY)):=.an (Qun c x0.2.1 x2.1) (.lv (CB c x0.2.1 x2.1) λ(ja:bg×List Int)=>.lf (ja.1,ja.2,{C3:=0,C7:=0,D7:=0,Value:=0}));.br (x2.1.Op==35) T3 (.br (x2.1.Op==36) T3 (.an (Qp c x2.1) (.lv (XK c x2.1) λ(jO:bg×kY)=>.lf (jO.1,x0.2.1,jO.2)))))));.br x4 (.lv (G3 c) λ(x5:Bool)=>.br (!x5) (.lv (rB c 2 x0.1) λ(x6:bg)=>.lf (x6,x0.2.1,{C3:=0,C7:=0,D7:=0,Value:=0})) T1) T1))))
def wU c m:=(Fy c m).m
abbrev Qot c m:=(Fy c m).p
def Zpj:bb:=mT 63 [] true [.agg bg.sig,.one (.ints .u32)] [] (λa r=>Fy (bg.of (aC a 0)) (ek .u32 a 1)) (λX=>.dt [.agg (bg.cells (X.1)),.all 0,.agg (kY.cells (X.2.2))]) (λX=>[⟨false,23,1,.ints .u32 (X.2.1)⟩])
theorem Z5g:bj pG Zpj:=oT (.cons Zgn (.cons R4 (.cons Zd (.cons Qxl (.cons Qu2 (.cons Zj2 (.cons Zex (.cons Z6f (.nil))))))))) Tryz.func63 Tryz.call63 [.row 23 1 (.ints .u32)] [] 2
end
noncomputable section
def Kq:List UInt8:=[(0:UInt8),1,2,2,3,3,3,3,4,4,4,4,4,4,4,4,5,5,5,5,5,5,5,5,5,5,5,5,5,5,5,5,6,6,6,6,6,6,6,6,6,6,6,6,6,6,6,6,6,6,6,6,6,6,6,6,6,6,6,6,6,6,6,6]
def R6:List UInt8:=[(7:UInt8),7,7,7,7,7,7,7,7,7,7,7,7,7,7,7,7,7,7,7,7,7,7,7,7,7,7,7,7,7,7,7,7,7,7,7,7,7,7,7,7,7,7,7,7,7,7,7,7,7,7,7,7,7,7,7,7,7,7,7,7,7,7,7]
def EJ:List UInt8:=[(8:UInt8),8,8,8,8,8,8,8,8,8,8,8,8,8,8,8,8,8,8,8,8,8,8,8,8,8,8,8,8,8,8,8,8,8,8,8,8,8,8,8,8,8,8,8,8,8,8,8,8,8,8,8,8,8,8,8,8,8,8,8,8,8,8,8]
def Zo:List UInt8:=[(1:UInt8),2,2,3,3,3,3,4,4,4,4,4,4,4,4,5,5,5,5,5,5,5,5,5,5,5,5,5,5,5,5,6,6,6,6,6,6,6,6,6,6,6,6,6,6,6,6,6,6,6,6,6,6,6,6,6,6,6,6,6,6,6,6]
def Kr:List UInt8:=[(0:UInt8),1,1,2,1,2,2,3,1,2,2,3,2,3,3,4,1,2,2,3,2,3,3,4,2,3,3,4,3,4,4,5,1,2,2,3,2,3,3,4,2,3,3,4,3,4,4,5,2,3,3,4,3,4,4,5,3,4,4,5,4,5,5,6]
def EK:List UInt8:=[(1:UInt8),2,2,3,2,3,3,4,2,3,3,4,3,4,4,5,2,3,3,4,3,4,4,5,3,4,4,5,4,5,5,6,2,3,3,4,3,4,4,5,3,4,4,5,4,5,5,6,3,4,4,5,4,5,5,6,4,5,5,6,5,6,6,7]
def R7:List UInt8:=[(2:UInt8),3,3,4,3,4,4,5,3,4,4,5,4,5,5,6,3,4,4,5,4,5,5,6,4,5,5,6,5,6,6,7,3,4,4,5,4,5,5,6,4,5,5,6,5,6,6,7,4,5,5,6,5,6,6,7,5,6,6,7,6,7,7,8]
def Vz:List UInt8:=[(1:UInt8),1,2,1,2,2,3,1,2,2,3,2,3,3,4,1,2,2,3,2,3,3,4,2,3,3,4,3,4,4,5,1,2,2,3,2,3,3,4,2,3,3,4,3,4,4,5,2,3,3,4,3,4,4,5,3,4,4,5,4,5,5,6]
def Qvj(c:je):Tree Bool:=
.lf (decide ((c.C6.length:Int)<=(16:Int)))
def tJ c:=(Qvj c).m
def Zal:bb:=mS 195 [] true [.agg je.sig] [] (λa r=>Qvj (je.of (aC a 0))) (λX=>.bool X) (λX=>[])
theorem Z6r:bj pG Zal:=oS (.nil) Tryz.func195 Tryz.call195 [] [] 2
def Ti(t:jk):Tree Bool:=
.br t.D0 (.br (!t.C9) (.lf (t.B8 !=0)) (.lf false)) (.br t.C9 (.lf true) (.lf (t.B8==0)))
def tK t:=(Ti t).m
def Zk3:bb:=mS 196 [] true [.agg jk.sig] [] (λa r=>Ti (jk.of (aC a 0))) (λX=>.bool X) (λX=>[])
theorem Zga:bj pG Zk3:=oS (.nil) Tryz.func196 Tryz.call196 [] [] 2
def I2(d0:fm):Tree Bool:=
.br (d0.D1==1) (.lf (decide (d0.B5=[]))) (.br (d0.D1==2) (.lf ((d0.B5.length:Int)==(128:Int))) (.lf false))
def Oh d0:=(I2 d0).m
def Qwo:bb:=mS 260 [] true [.agg fm.sig] [] (λa r=>I2 (fm.of (aC a 0))) (λX=>.bool X) (λX=>[])
theorem Qvr:bj pG Qwo:=oS (.nil) Tryz.func260 Tryz.call260 [] [] 2
def wR(d0:fm)(c7:Int):Tree Bool:=
.br (decide (d0.ag>64)) (.lf false) (let T1:Tree (Bool):=.br (d0.D1==0) (.br (d0.B4==0) (.br (d0.B0==0) (.lf (decide (d0.B5=[]))) (.lf false)) (.lf false)) (.lf false);.br (d0.B6==0) T1 (.br (d0.B6==2) T1 (.br (d0.B6==3) T1 (.br (d0.B6==1) (.lv (Oh d0) λ(x0:Bool)=>.br x0 (.br (decide (d0.B4<d0.ag)) (.lf (decide (wrap i64 d0.B0<c7))) (.lf false)) (.lf false)) (.lf false)))))
def ky d0 c7:=(wR d0 c7).m
def Zq4:bb:=mS 197 [] true [.agg fm.sig,.one (.int .i64)] [] (λa r=>wR (fm.of (aC a 0)) (av a 1)) (λX=>.bool X) (λX=>[])
theorem Zlj:bj pG Zq4:=oS (.cons Qvr (.nil)) Tryz.func197 Tryz.call197 [] [] 2
def Lh(n:ij)(c7:Int):Tree Bool:=
let T1:Tree (Bool):=let T2:Tree (Bool):=.br n.B3 (.br (decide (n.D8>=1)) (.lf (decide (n.D8<=128))) (.lf false)) (.lf (n.D8==0));.br n.C2 (.br (decide (wrap i64 n.B7>=c7)) (.lf false) T2) (.br (n.B7 !=0) (.lf false) T2);.br n.C2 (.br n.B3 (.lf false) T1) T1
def pw n c7:=(Lh n c7).m
def yA:bb:=mS 198 [] true [.agg ij.sig,.one (.int .i64)] [] (λa r=>Lh (ij.of (aC a 0)) (av a 1)) (λX=>.bool X) (λX=>[])
theorem Zpf:bj pG yA:=oS (.nil) Tryz.func198 Tryz.call198 [] [] 2
def Eh(x:Int):Tree Int:=
let E1:=(↑(dJ (cQ (cQ Kq R6) (cQ EJ EJ))):Int);.br (decide (x>=65536)) (.br (decide (bf u32 x (16:Int)>=(256:Int))) (.cn (decide (0<=wrap u8 (bf u32 (bf u32 x 16) 8)/\wrap u8 (bf u32 (bf u32 x 16) 8)<E1)) (.lf (wrap i64 (wrap i64 ((16:Int)+(8:Int))+wrap i64 (↑(eV (aK ((0:UInt8)::(Zo++R6++(EJ++EJ))) (dE (wrap u8 (bf u32 (bf u32 x 16) 8))) (0:UInt8))):Int))))) (.cn (decide (0<=wrap u8 (bf u32 x 16)/\wrap u8 (bf u32 x 16)<E1)) (.lf (wrap i64 (16+wrap i64 (↑(eV (aK ((0:UInt8)::(Zo++R6++(EJ++EJ))) (dE (wrap u8 (bf u32 x 16))) (0:UInt8))):Int)))))) (.br (decide (x>=256)) (.cn (decide (0<=wrap u8 (bf u32 x 8)/\wrap u8 (bf u32 x 8)<E1)) (.lf (wrap i64 (wrap i64 ((0:Int)+(8:Int))+wrap i64 (↑(eV (aK ((0:UInt8)::(Zo++R6++(EJ++EJ))) (dE (wrap u8 (bf u32 x 8))) (0:UInt8))):Int))))) (.cn (decide (0<=wrap u8 x/\wrap u8 x<E1)) (.lf (wrap i64 (0+wrap i64 (↑(eV (aK ((0:UInt8)::(Zo++R6++(EJ++EJ))) (dE (wrap u8 x)) (0:UInt8))):Int))))))
def wS x:=(Eh x).m
abbrev Qhf x:=(Eh x).p
def Qwl:bb:=mT 261 [] true [.one (.int .u32)] [] (λa r=>Eh (av a 0)) (λX=>.int .i64 X) (λX=>[])
theorem Qum:bj pG Qwl:=oT (.nil) Tryz.func261 Tryz.call261 [] [] 2
def GK(b:gr)(c7:Int):Tree Bool:=
.an (Qhf b.C0) (.lv (wS b.C0) λ(x0:Int)=>.lf (decide (x0<=if 0>c7 then 0 else c7)))
def uF b c7:=(GK b c7).m
abbrev Qhb b c7:=(GK b c7).p
def Zdn:bb:=mT 199 [] true [.agg gr.sig,.one (.int .i64)] [] (λa r=>GK (gr.of (aC a 0)) (av a 1)) (λX=>.bool X) (λX=>[])
theorem Z61:bj pG Zdn:=oT (.cons Qum (.nil)) Tryz.func199 Tryz.call199 [] [] 2
def Ef(m:ao):Tree Bool:=
.lv (lZ m.Mem) λ(x0:Int)=>.lv (tJ m.A2) λ(x1:Bool)=>.br x1 (.lv (tK m.A9) λ(x2:Bool)=>.br x2 (.lv (ky m.A4 x0) λ(x3:Bool)=>.br x3 (.lv (pw m.C1 x0) λ(x4:Bool)=>.br x4 (.an (Qhb m.A1 x0) (.lv (uF m.A1 x0) λ(x5:Bool)=>.lf x5)) (.lf false)) (.lf false)) (.lf false)) (.lf false)
def sP m:=(Ef m).m
abbrev Vx m:=(Ef m).p
def Qr5:bb:=mT 131 [] true [.agg ao.sig] [] (λa r=>Ef (ao.of (aC a 0))) (λX=>.bool X) (λX=>[])
theorem Qoa:bj pG Qr5:=oT (.cons Ia (.cons Z6r (.cons Zga (.cons Zlj (.cons Zpf (.cons Z61 (.nil))))))) Tryz.func131 Tryz.call131 [] [] 2
def Ke(m:ao):Tree Bool:=
.lv (lZ m.Mem) λ(x0:Int)=>.br (x0==0) (.lf false) (.br (m.A7.X.a0 !=0) (.lf false) (.br (decide (m.A7.B1.a0>31)) (.lf false) (.br (decide (m.A7.B1.a7>31)) (.lf false) (.br (decide (m.A7.B1.a6>255)) (.lf false) (.br (dD m.A7.B1.a1 (4:Int) !=(0:Int)) (.lf false) (.br (decide (m.A0>1152921504606846976)) (.lf false) (.br m.A3 (.br m.A6 (.lf false) (.an (Vx m) (.lv (sP m) λ(x1:Bool)=>.lf x1))) (.an (Vx m) (.lv (sP m) λ(x2:Bool)=>.lf x2)))))))))
def mM m:=(Ke m).m
abbrev RV m:=(Ke m).p
def Zcu:bb:=mT 68 [] true [.agg ao.sig] [] (λa r=>Ke (ao.of (aC a 0))) (λX=>.bool X) (λX=>[])
theorem Qjw:bj pG Zcu:=oT (.cons Ia (.cons Qoa (.nil))) Tryz.func68 Tryz.call68 [] [] 2
def Qpv(t:jk):Tree Bool:=
.lf t.C9
def X6 t:=(Qpv t).m
def Z3q:bb:=mS 170 [] true [.agg jk.sig] [] (λa r=>Qpv (jk.of (aC a 0))) (λX=>.bool X) (λX=>[])
theorem Z0j:bj pG Z3q:=oS (.nil) Tryz.func170 Tryz.call170 [] [] 2
def Qkm(c:je):Tree Bool:=
.lf (!decide (c.C6=[]))
def TQ c:=(Qkm c).m
def Qx3:bb:=mS 171 [] true [.agg je.sig] [] (λa r=>Qkm (je.of (aC a 0))) (λX=>.bool X) (λX=>[])
theorem Qv3:bj pG Qx3:=oS (.nil) Tryz.func171 Tryz.call171 [] [] 2
def W8(d0:fm):Tree Bool:=
.br (d0.B6==2) (.lf true) (.lf (d0.B6==3))
def Lk d0:=(W8 d0).m
def Z7l:bb:=mS 172 [] true [.agg fm.sig] [] (λa r=>W8 (fm.of (aC a 0))) (λX=>.bool X) (λX=>[])
theorem Qok:bj pG Z7l:=oS (.nil) Tryz.func172 Tryz.call172 [] [] 2
def Qva(n:ij):Tree Bool:=
.lf n.B3
def X7 n:=(Qva n).m
def Zee:bb:=mS 173 [] true [.agg ij.sig] [] (λa r=>Qva (ij.of (aC a 0))) (λX=>.bool X) (λX=>[])
theorem Z81:bj pG Zee:=oS (.nil) Tryz.func173 Tryz.call173 [] [] 2
def RA(x:Int):Tree Int:=
let E1:=(↑(dJ (cQ (cQ Kr EK) (cQ EK R7))):Int);.cn (decide (0<=bf u32 x 24/\bf u32 x 24<E1)) (.cn (decide (0<=bc u32 (bf u32 x 16) 255/\bc u32 (bf u32 x 16) 255<E1)) (.cn (decide (0<=bc u32 (bf u32 x 8) 255/\bc u32 (bf u32 x 8) 255<E1)) (.cn (decide (0<=bc u32 x 255/\bc u32 x 255<E1)) (.lf (wrap i64 (wrap u8 (wrap u8 (wrap u8 ((↑(eV (aK ((0:UInt8)::(Vz++EK++(EK++R7))) (dE (bf u32 x 24)) (0:UInt8))):Int)+(↑(eV (aK ((0:UInt8)::(Vz++EK++(EK++R7))) (dE (bc u32 (bf u32 x 16) 255)) (0:UInt8))):Int))+(↑(eV (aK ((0:UInt8)::(Vz++EK++(EK++R7))) (dE (bc u32 (bf u32 x 8) 255)) (0:UInt8))):Int))+(↑(eV (aK ((0:UInt8)::(Vz++EK++(EK++R7))) (dE (bc u32 x 255)) (0:UInt8))):Int))))))))
def X0 x:=(RA x).m
abbrev Qa3 x:=(RA x).p
def Qm4:bb:=mT 253 [] true [.one (.int .u32)] [] (λa r=>RA (av a 0)) (λX=>.int .i64 X) (λX=>[])
theorem Qka:bj pG Qm4:=oT (.nil) Tryz.func253 Tryz.call253 [] [] 2
def RB(b:gr):Tree Int:=
.an (Qa3 b.C0) (.lv (X0 b.C0) λ(x0:Int)=>.lf x0)
def TU b:=(RB b).m
abbrev Qdh b:=(RB b).p
def Z48:bb:=mT 191 [] true [.agg gr.sig] [] (λa r=>RB (gr.of (aC a 0))) (λX=>.int .i64 X) (λX=>[])
theorem Qn3:bj pG Z48:=oT (.cons Qka (.nil)) Tryz.func191 Tryz.call191 [] [] 2
def Q5(b:gr):Tree Bool:=
.an (Qdh b) (.lv (TU b) λ(x0:Int)=>.lf (wrap u32 x0 !=b.C4))
def OT b:=(Q5 b).m
abbrev Qh0 b:=(Q5 b).p
def Qwz:bb:=mT 174 [] true [.agg gr.sig] [] (λa r=>Q5 (gr.of (aC a 0))) (λX=>.bool X) (λX=>[])
theorem Qw3:bj pG Qwz:=oT (.cons Qn3 (.nil)) Tryz.func174 Tryz.call174 [] [] 2
def Qht(m:ao)(z:(Int)×(Int)):Nat:=(5-z.2).toNat
def L4(m:ao):Tree Int:=
.lv (X6 m.A9) λ(x0:Bool)=>.lv (TQ m.A2) λ(x1:Bool)=>.lv (Lk m.A4) λ(x2:Bool)=>.lv (X7 m.C1) λ(x3:Bool)=>.an (Qh0 m.A1) (.lv (OT m.A1) λ(x4:Bool)=>.lp inferInstance (Qht m (0,0)+1) ((rE (0:Int)/\(rE (x0:Bool)/\rE (x1:Bool)/\rE (x2:Bool)/\rE (x3:Bool)/\rE (x4:Bool)/\True)/\rE (0:Int)/\True)/\True) (0,0) λ(v0:Int×Int)=>.br (decide (v0.2<5)) (.cn (bT 1 1&&(bT 5 5&&decide (0<=v0.2/\v0.2<(↑5:Int)))) (.br (aK [x0,x1,x2,x3,x4] v0.2.toNat false) (.cn (decide (0<=v0.2)) (.nx ((rE ((il u32 v0.1 (eg u32 1 v0.2)):Int)/\(rE (x0:Bool)/\rE (x1:Bool)/\rE (x2:Bool)/\rE (x3:Bool)/\rE (x4:Bool)/\True)/\rE ((wrap i64 (v0.2+1)):Int)/\True)/\True) (Sum.inl (il u32 v0.1 (eg u32 1 v0.2),wrap i64 (v0.2+1))))) (.nx ((rE v0.1/\(rE (x0:Bool)/\rE (x1:Bool)/\rE (x2:Bool)/\rE (x3:Bool)/\rE (x4:Bool)/\True)/\rE ((wrap i64 (v0.2+1)):Int)/\True)/\True) (Sum.inl (v0.1,wrap i64 (v0.2+1)))))) (.lf (Sum.inr v0.1)))
def TY m:=(L4 m).m
abbrev Qkb m:=(L4 m).p
def Z00:bm:={
 α:=(Int)×(Int)
 F:=λst a=>([(4,.int u32 a.1),(23,(lk st 23)),(24,.int i64 a.2)],[])
 a0:=λst=>((lk st 4).toInt,(lk st 24).toInt)
 iy:=λst=>[]++[]}
def Qvg:List (Nat×bm):=[(4,Z00)]
def Z4t:bb:=mT 108 [] true [.agg ao.sig] [] (λa r=>L4 (ao.of (aC a 0))) (λX=>.int .u32 X) (λX=>[])
theorem Qzx:bj pG Z4t:=oT (.cons Z0j (.cons Qv3 (.cons Qok (.cons Z81 (.cons Qw3 (.nil)))))) Tryz.func108 Tryz.call108 [] Qvg 3
def Hc(m:ao):Tree Int:=
.an (Qkb m) (.lv (TY m) λ(x0:Int)=>.lf (bc u32 x0 m.A7.B1.a7))
def L5 m:=(Hc m).m
abbrev Qb1 m:=(Hc m).p
def Qxg:bb:=mT 117 [] true [.agg ao.sig] [] (λa r=>Hc (ao.of (aC a 0))) (λX=>.int .u32 X) (λX=>[])
theorem Qj5:bj pG Qxg:=oT (.cons Qzx (.nil)) Tryz.func117 Tryz.call117 [] [] 2
def Hd(m:ao):Tree Bool:=
.br m.A3 (.an (Qb1 m) (.lv (L5 m) λ(x0:Int)=>.lf (x0==0))) (.lf false)
def Lw m:=(Hd m).m
abbrev Yn m:=(Hd m).p
def Z65:bb:=mT 107 [] true [.agg ao.sig] [] (λa r=>Hd (ao.of (aC a 0))) (λX=>.bool X) (λX=>[])
theorem Qpi:bj pG Z65:=oT (.cons Qj5 (.nil)) Tryz.func107 Tryz.call107 [] [] 2

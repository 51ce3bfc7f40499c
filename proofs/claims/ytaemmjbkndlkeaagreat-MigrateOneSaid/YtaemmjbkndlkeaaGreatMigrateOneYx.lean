import Derived.Test.YtaemmjbkndlkeaaGreatMigrateOneBase
open Int renaming tmod->cZ,tdiv->eF,toNat->dA
open Nat renaming beq->bX,blt->bN
open List renaming set->dB,getD->aV,length->dF,append->cP
open UInt8 renaming toNat->hY
set_option maxRecDepth 100000
set_option linter.all false
namespace Go.Proofs.YtaemmjbkndlkeaaGreat
open Go Go.GD Go.IntKind
noncomputable section
def ko(s:List Int):(List Int):=
s
def nI(s:List Int):Prop:=
s.length<=35184372088832
def Q4a(s:List Int):List D:=[.sl 1 (.ints .u32 s) false]
def UX(s:List Int):List Row:=[]
def L8(X:List Int):D:=.all 0
def L9(X:List Int):List Row:=[⟨false,25,1,.ints .u32 X⟩]
def Qf6:List mw:=[.row 25 1 (.ints .u32)]
def Q84:List PT:=[.one (.ints .u32)]
def Q7j:List RT:=[]
def Qg0(args:List D)(rows:List Row):(List Int):=ko (dh .u32 args 0)
def Qgr(args:List D)(rows:List Row):Prop:=nI (dh .u32 args 0)
def Qie:ba:=kY 114 [] true Q84 Q7j Qgr Qg0 L8 L9
def Q5b(s:List Int)(iV:(List Int)->Prop):Prop:=
(s=[]->iV [])/\cu (decide ((4:Nat)*((0:Nat)+s.length)<=(140737488355328:Nat))) (iV s)
set_option maxRecDepth 100000 in
theorem Qhh(s:List Int)(Q:D->List Row->Prop):(j5 jP [] (LL jP [] Tryz.f114.ntmps 0 [] 2) Tryz.f114 (Q4a s) (UX s) λd R=>nL (UX s).length Qf6 d R Q)=Q5b s (λX=>Q (L8 X) (L9 X)):=by kernel_rfl
theorem Qfc(s:List Int)(iV:(List Int)->Prop)(hw:nI s)(h:iV (ko s)):
Q5b s iV:=by
 delta Q5b
 refine⟨λe=>by rw[e]at h;exact h,?_⟩
 rw[de]
 refine⟨dY ?_,h⟩
 have:s.length<=35184372088832:=hw
 omega
set_option maxRecDepth 100000 in
theorem Qec(s:List Int)(hw:nI s):kg pG 114 (Q4a s) (UX s) (L8 (ko s)) (L9 (ko s)):=
 have hG:jr pG []:=.nil
 lH.calls drawn jt hG Tryz.func114 (rf:=none) (λ_ _=>trivial) (FX drawn jt hG (.inl rfl) 2 (fm:=[])) (lH.of (Qhh s _) (Qfc s (λX=>L8 X=L8 (ko s)/\L9 X=L9 (ko s)) hw ⟨rfl,rfl⟩))
set_option maxRecDepth 100000 in
theorem Qf7(args:List D)(rows:List Row):kM Q84 args 0=Q4a (dh .u32 args 0):=by kernel_rfl
set_option maxRecDepth 100000 in
theorem Qed(args:List D)(rows:List Row):kh Q7j rows 0=UX (dh .u32 args 0):=by kernel_rfl
set_option maxRecDepth 100000 in
theorem Qhk(X:List Int):(sU (L8 X)&&jo (L9 X))=true:=by kernel_rfl
theorem JC:bm pG Qie:=Fp Tryz.call114 (λargs rows hp=>by rw[Qf7 args rows,Qed args rows];exact Qec (dh .u32 args 0) hp) (λ_ X=>Qhk X)
def Gg(m:List Int):Tree Int:=
.br (cZ (m.length:Int) (32:Int) !=(0:Int)) (.lf 0) (.br (decide ((m.length:Int)>(1024:Int))) (.lf 0) (.lf (wrap i64 (eF (m.length:Int) 32))))
def jK m:=(Gg m).m
def Z9i:ba:=mS 70 [] true [.one (.ints .u32)] [] (λa r=>Gg (dh .u32 a 0)) (λX=>.int .i64 X) (λX=>[])
theorem Q2:bm pG Z9i:=oS (.nil) Tryz.func70 Tryz.call70 [] [] 2
def Iq(m:List Int)(addr size:Int):Tree Bool:=
let T1:Tree (Bool):=.cn (decide (wrap u32 size≠0)) (.br (cZ addr (wrap u32 size) !=0) (.lf false) (.lv (jK m) λ(x0:Int)=>.lf (decide (wrap u64 (wrap u64 addr+wrap u64 size)<=wrap u64 (wrap u64 x0*128)))));.br (size !=1) (.br (size !=4) (.lf false) T1) T1
def WL m addr size:=(Iq m addr size).m
abbrev Qev m addr size:=(Iq m addr size).p
def Z6t:ba:=mT 273 [] true [.one (.ints .u32),.one (.int .u32),.one (.int .i64)] [] (λa r=>Iq (dh .u32 a 0) (au a 1) (au a 2)) (λX=>.bool X) (λX=>[])
theorem Qp8:bm pG Z6t:=oT (.cons Q2 (.nil)) Tryz.func273 Tryz.call273 [] [] 2
def QF(n:Int):Tree Int:=
.br (decide (n>=32)) (.lf 4294967295) (.cn (decide (0<=wrap u64 n)) (.lf (wrap u32 (eu u32 1 (wrap u64 n)-1))))
def Z6v n:=(QF n).m
abbrev Qok n:=(QF n).p
def Zly:ba:=mT 274 [] true [.one (.int .i64)] [] (λa r=>QF (au a 0)) (λX=>.int .u32 X) (λX=>[])
theorem Z0u:bm pG Zly:=oT (.nil) Tryz.func274 Tryz.call274 [] [] 2
def QG(w low n:Int):Tree Int:=
.br (decide (low<0)) (.lf 0) (.br (decide (low>31)) (.lf 0) (.br (decide (n<1)) (.lf 0) (.cn (decide (0<=wrap u64 low)) (.an (Qok n) (.lv (Z6v n) λ(x0:Int)=>.lf (bb u32 (bc u32 w (wrap u64 low)) x0))))))
def th w low n:=(QG w low n).m
abbrev Q7 w low n:=(QG w low n).p
def Zk2:ba:=mT 238 [] true [.one (.int .u32),.one (.int .i64),.one (.int .i64)] [] (λa r=>QG (au a 0) (au a 1) (au a 2)) (λX=>.int .u32 X) (λX=>[])
theorem Qol:bm pG Zk2:=oT (.cons Z0u (.nil)) Tryz.func238 Tryz.call238 [] [] 2
def QH(w low n v:Int):Tree Int:=
.br (decide (low<0)) (.lf w) (.br (decide (low>31)) (.lf w) (.br (decide (n<1)) (.lf w) (.an (Qok n) (.lv (Z6v n) λ(x0:Int)=>.cn (decide (0<=wrap u64 low)) (.cn (decide (0<=wrap u64 low)) (.lf (iG u32 (oD u32 w (eu u32 x0 (wrap u64 low))) (eu u32 (bb u32 v x0) (wrap u64 low)))))))))
def KO w low n v:=(QH w low n v).m
abbrev Qnh w low n v:=(QH w low n v).p
def Z5t:ba:=mT 276 [] true [.one (.int .u32),.one (.int .i64),.one (.int .i64),.one (.int .u32)] [] (λa r=>QH (au a 0) (au a 1) (au a 2) (au a 3)) (λX=>.int .u32 X) (λX=>[])
theorem Z2z:bm pG Z5t:=oT (.cons Z0u (.nil)) Tryz.func276 Tryz.call276 [] [] 2
def KR(m:List Int)(addr size v:Int):Tree ((List Int)×Bool):=
.an (nI m) (.lv (ko m) λ(x0:List Int)=>.an (Qev m addr size) (.lv (WL m addr size) λ(x1:Bool)=>.br (!x1) (.lf (x0,false)) (let E1:=bX 1 1&&bN 0 1&&decide (0<=wrap u32 (eF addr 4)/\wrap u32 (eF addr 4)<(x0.length:Int));let E2:=dA (wrap u32 (eF addr 4));.br (size==1) (.cn E1 (let E3:=wrap i64 (wrap i64 (cZ addr 4)*8);.an (Qnh (x0.getD E2 0) E3 8 v) (.lv (KO (x0.getD E2 0) E3 8 v) λ(x2:Int)=>.cn E1 (.lf (dB x0 E2 x2,true))))) (.cn E1 (.lf (dB x0 E2 v,true))))))
def KQ m addr size v:=(KR m addr size v).m
abbrev Qbw m addr size v:=(KR m addr size v).p
def Z9j:ba:=mT 244 [] true [.one (.ints .u32),.one (.int .u32),.one (.int .i64),.one (.int .u32)] [] (λa r=>KR (dh .u32 a 0) (au a 1) (au a 2) (au a 3)) (λX=>.dw [.all 0,.bool (X.2)]) (λX=>[⟨false,25,1,.ints .u32 (X.1)⟩])
theorem Qqu:bm pG Z9j:=oT (.cons JC (.cons Qp8 (.cons Z2z (.nil)))) Tryz.func244 Tryz.call244 [.row 25 1 (.ints .u32)] [] 2
def Zhy(op:Int):Tree (wP×Bool):=
.br (op==1) (.lf ({a:=true,b:=true,c:=true,low:=0,F4:=0},true)) (.br (op==2) (.lf ({a:=true,b:=true,c:=true,low:=0,F4:=0},true)) (.br (op==3) (.lf ({a:=true,b:=true,c:=true,low:=0,F4:=0},true)) (.br (op==4) (.lf ({a:=true,b:=true,c:=true,low:=0,F4:=0},true)) (.br (op==5) (.lf ({a:=true,b:=true,c:=true,low:=0,F4:=0},true)) (.br (op==6) (.lf ({a:=true,b:=true,c:=true,low:=0,F4:=0},true)) (.br (op==7) (.lf ({a:=true,b:=true,c:=true,low:=0,F4:=0},true)) (.br (op==8) (.lf ({a:=true,b:=true,c:=true,low:=0,F4:=0},true)) (.br (op==9) (.lf ({a:=true,b:=true,c:=true,low:=0,F4:=0},true)) (.br (op==10) (.lf ({a:=true,b:=true,c:=true,low:=0,F4:=0},true)) (.br (op==11) (.lf ({a:=true,b:=true,c:=true,low:=0,F4:=0},true)) (.br (op==12) (.lf ({a:=true,b:=true,c:=true,low:=0,F4:=0},true)) (.br (op==13) (.lf ({a:=true,b:=true,c:=true,low:=0,F4:=0},true)) (.br (op==16) (.lf ({a:=true,b:=true,c:=false,low:=(-32768),F4:=32767},true)) (.br (op==23) (.lf ({a:=true,b:=true,c:=false,low:=(-32768),F4:=32767},true)) (.br (op==32) (.lf ({a:=true,b:=true,c:=false,low:=(-32768),F4:=32767},true)) (.br (op==33) (.lf ({a:=true,b:=true,c:=false,low:=(-32768),F4:=32767},true)) (.br (op==34) (.lf ({a:=true,b:=true,c:=false,low:=(-32768),F4:=32767},true)) (.br (op==35) (.lf ({a:=true,b:=true,c:=false,low:=(-32768),F4:=32767},true)) (.br (op==36) (.lf ({a:=true,b:=true,c:=false,low:=(-32768),F4:=32767},true)) (.br (op==40) (.lf ({a:=true,b:=true,c:=false,low:=(-32768),F4:=32767},true)) (.br (op==41) (.lf ({a:=true,b:=true,c:=false,low:=(-32768),F4:=32767},true)) (.br (op==42) (.lf ({a:=true,b:=true,c:=false,low:=(-32768),F4:=32767},true)) (.br (op==43) (.lf ({a:=true,b:=true,c:=false,low:=(-32768),F4:=32767},true)) (.br (op==44) (.lf ({a:=true,b:=true,c:=false,low:=(-32768),F4:=32767},true)) (.br (op==45) (.lf ({a:=true,b:=true,c:=false,low:=(-32768),F4:=32767},true)) (.br (op==49) (.lf ({a:=true,b:=true,c:=false,low:=(-32768),F4:=32767},true)) (.br (op==17) (.lf ({a:=true,b:=true,c:=false,low:=0,F4:=65535},true)) (.br (op==18) (.lf ({a:=true,b:=true,c:=false,low:=0,F4:=65535},true)) (.br (op==19) (.lf ({a:=true,b:=true,c:=false,low:=0,F4:=65535},true)) (.br (op==20) (.lf ({a:=true,b:=true,c:=false,low:=0,F4:=31},true)) (.br (op==21) (.lf ({a:=true,b:=true,c:=false,low:=0,F4:=31},true)) (.br (op==22) (.lf ({a:=true,b:=true,c:=false,low:=0,F4:=31},true)) (.br (op==24) (.lf ({a:=true,b:=false,c:=false,low:=0,F4:=65535},true)) (.br (op==48) (.lf ({a:=true,b:=false,c:=false,low:=(-32768),F4:=32767},true)) (.br (op==58) (.lf ({a:=true,b:=false,c:=false,low:=0,F4:=7},true)) (.br (op==59) (.lf ({a:=true,b:=false,c:=false,low:=0,F4:=7},true)) (.br (op==60) (.lf ({a:=true,b:=false,c:=false,low:=0,F4:=11},true)) (.br (op==61) (.lf ({a:=true,b:=false,c:=false,low:=0,F4:=11},true)) (.br (op==56) (.lf ({a:=false,b:=false,c:=false,low:=0,F4:=0},true)) (.br (op==57) (.lf ({a:=false,b:=false,c:=false,low:=0,F4:=0},true)) (.br (op==62) (.lf ({a:=false,b:=false,c:=false,low:=0,F4:=0},true)) (.br (op==63) (.lf ({a:=false,b:=false,c:=false,low:=0,F4:=0},true)) (.br (op==64) (.lf ({a:=false,b:=false,c:=false,low:=0,F4:=0},true)) (.lf ({a:=false,b:=false,c:=false,low:=0,F4:=0},false)))))))))))))))))))))))))))))))))))))))))))))
def SI op:=(Zhy op).m
def xC:ba:=mS 239 [] true [.one (.int .i64)] [] (λa r=>Zhy (au a 0)) (λX=>.dw [.agg (wP.cells (X.1)),.bool (X.2)]) (λX=>[])
theorem Zaz:bm pG xC:=oS (.nil) Tryz.func239 Tryz.call239 [] [] 2
def Q8(x n:Int):Tree Int:=
.br (decide (n<1)) (.lf 0) (.br (decide (n>=32)) (.lf x) (let E1:=decide (0<=wrap u64 (wrap i64 (32-n)));.cn E1 (.cn E1 (.lf (wrap u32 (bc i32 (wrap i32 (eu u32 x (wrap u64 (wrap i64 (32-n))))) (wrap u64 (wrap i64 (32-n)))))))))
def Dr x n:=(Q8 x n).m
abbrev Qcb x n:=(Q8 x n).p
def Z09:ba:=mT 240 [] true [.one (.int .u32),.one (.int .i64)] [] (λa r=>Q8 (au a 0) (au a 1)) (λX=>.int .u32 X) (λX=>[])
theorem Qlf:bm pG Z09:=oT (.nil) Tryz.func240 Tryz.call240 [] [] 2
def SJ(r:Int)(used:Bool):Tree Bool:=
.br used (.br (decide (r>=0)) (.lf (decide (r<=15))) (.lf false)) (.lf (r==0))
def KJ r used:=(SJ r used).m
def Z96:ba:=mS 275 [] true [.one (.int .i64),.one (.bool)] [] (λa r=>SJ (au a 0) (kq a 1)) (λX=>.bool X) (λX=>[])
theorem Z60:bm pG Z96:=oS (.nil) Tryz.func275 Tryz.call275 [] [] 2
def NC(i:gr):Tree Bool:=
.lv (SI i.Op) λ(x0:wP×Bool)=>.br x0.2 (.lv (KJ i.A x0.1.a) λ(x1:Bool)=>.br x1 (.lv (KJ i.B x0.1.b) λ(x2:Bool)=>.br x2 (.lv (KJ i.C x0.1.c) λ(x3:Bool)=>.br x3 (.br (decide (i.bw>=x0.1.low)) (.lf (decide (i.bw<=x0.1.F4))) (.lf false)) (.lf false)) (.lf false)) (.lf false)) (.lf false)
def Io i:=(NC i).m
def Znb:ba:=mS 241 [] true [.agg gr.sig] [] (λa r=>NC (gr.of (aC a 0))) (λX=>.bool X) (λX=>[])
theorem Zj:bm pG Znb:=oS (.cons Zaz (.cons Z60 (.nil))) Tryz.func241 Tryz.call241 [] [] 2
def KL(w:Int):Tree (gr×Bool):=
.an (Q7 w 24 8) (.lv (th w 24 8) λ(x0:Int)=>.an (Q7 w 20 4) (.lv (th w 20 4) λ(x1:Int)=>.an (Q7 w 16 4) (.lv (th w 16 4) λ(x2:Int)=>.lv (SI (wrap i64 x0)) λ(x3:wP×Bool)=>let E1:=({Op:=0,A:=0,B:=0,C:=0,bw:=0}:gr);.br (!x3.2) (.lf (E1,false)) (.an (Q7 w 0 16) (.lv (th w 0 16) λ(x4:Int)=>.br x3.1.c (let E2:=({Op:=wrap i64 x0,A:=wrap i64 x1,B:=wrap i64 x2,C:=wrap i64 x4,bw:=0}:gr);.lv (Io E2) λ(x5:Bool)=>.br (!x5) (.lf (E1,false)) (.lf (E2,true))) (.br (decide (x3.1.low<0)) (.an (Qcb x4 16) (.lv (Dr x4 16) λ(x6:Int)=>let E3:=({Op:=wrap i64 x0,A:=wrap i64 x1,B:=wrap i64 x2,C:=0,bw:=wrap i32 x6}:gr);.lv (Io E3) λ(x7:Bool)=>.br (!x7) (.lf (E1,false)) (.lf (E3,true)))) (let E4:=({Op:=wrap i64 x0,A:=wrap i64 x1,B:=wrap i64 x2,C:=0,bw:=wrap i32 x4}:gr);.lv (Io E4) λ(x8:Bool)=>.br (!x8) (.lf (E1,false)) (.lf (E4,true)))))))))
def NF w:=(KL w).m
abbrev Qu w:=(KL w).p
def Zl0:ba:=mT 189 [] true [.one (.int .u32)] [] (λa r=>KL (au a 0)) (λX=>.dw [.agg (gr.cells (X.1)),.bool (X.2)]) (λX=>[])
theorem Zel:bm pG Zl0:=oT (.cons Qol (.cons Zaz (.cons Qlf (.cons Zj (.nil))))) Tryz.func189 Tryz.call189 [] [] 2
def KY(a b:Int):Tree (Int×Int):=
.br (b==0) (.lf (4294967295,a)) (let T1:Tree ((Int×Int)):=.cn (decide (wrap i32 b≠0)) (.cn (decide (wrap i32 b≠0)) (.lf (wrap u32 (wrap i32 (eF (wrap i32 a) (wrap i32 b))),wrap u32 (cZ (wrap i32 a) (wrap i32 b)))));.br (a==2147483648) (.br (b==4294967295) (.lf (a,0)) T1) T1)
def KW a b:=(KY a b).m
abbrev Qjv a b:=(KY a b).p
def Zed:ba:=mT 277 [] true [.one (.int .u32),.one (.int .u32)] [] (λa r=>KY (au a 0) (au a 1)) (λX=>.dw [.int .u32 (X.1),.int .u32 (X.2)]) (λX=>[])
theorem Z9n:bm pG Zed:=oT (.nil) Tryz.func277 Tryz.call277 [] [] 2
def Z67(b:Bool):Tree Int:=
.br b (.lf 1) (.lf 0)
def UH b:=(Z67 b).m
def Znm:ba:=mS 278 [] true [.one (.bool)] [] (λa r=>Z67 (kq a 0)) (λX=>.int .u32 X) (λX=>[])
theorem Zk4:bm pG Znm:=oS (.nil) Tryz.func278 Tryz.call278 [] [] 2
def QK(op a b:Int):Tree (Int×Bool):=
.br (op==2) (.lf (wrap u32 (a+wrap u32 (0-b)),true)) (.br (op==1) (.lf (wrap u32 (a+b),true)) (.br (op==16) (.lf (wrap u32 (a+b),true)) (.br (op==3) (.lf (bb u32 a b,true)) (.br (op==17) (.lf (bb u32 a b,true)) (.br (op==4) (.lf (iG u32 a b,true)) (.br (op==18) (.lf (iG u32 a b,true)) (.br (op==5) (.lf (rh u32 a b,true)) (.br (op==19) (.lf (rh u32 a b,true)) (.br (op==6) (.lf (eu u32 a (bb u32 b 31),true)) (.br (op==20) (.lf (eu u32 a (bb u32 b 31),true)) (.br (op==7) (.lf (bc u32 a (bb u32 b 31),true)) (.br (op==21) (.lf (bc u32 a (bb u32 b 31),true)) (let E1:=(wrap u32 (bc i32 (wrap i32 a) (bb u32 b 31)),true);.br (op==8) (.lf E1) (.br (op==22) (.lf E1) (.br (op==9) (.lf (wrap u32 (a*b),true)) (.br (op==10) (.an (Qjv a b) (.lv (KW a b) λ(x0:Int×Int)=>.lf (x0.1,true))) (.br (op==11) (.an (Qjv a b) (.lv (KW a b) λ(x1:Int×Int)=>.lf (x1.2,true))) (.br (op==12) (.lv (UH (decide (wrap i32 a<wrap i32 b))) λ(x2:Int)=>.lf (x2,true)) (.br (op==23) (.lv (UH (decide (wrap i32 a<wrap i32 b))) λ(x3:Int)=>.lf (x3,true)) (.br (op==13) (.lv (UH (decide (a<b))) λ(x4:Int)=>.lf (x4,true)) (.lf (0,false))))))))))))))))))))))
def nz op a b:=(QK op a b).m
abbrev Qun op a b:=(QK op a b).p
def zC:ba:=mT 248 [] true [.one (.int .i64),.one (.int .u32),.one (.int .u32)] [] (λa r=>QK (au a 0) (au a 1) (au a 2)) (λX=>.dw [.int .u32 (X.1),.bool (X.2)]) (λX=>[])
theorem Zr6:bm pG zC:=oT (.cons Z9n (.cons Zk4 (.nil))) Tryz.func248 Tryz.call248 [] [] 2
end
noncomputable section
def UG(status CZ to:Int):Tree Int:=
.br (bb u32 status CZ !=0) (.lf (iG u32 status to)) (.lf (oD u32 status to))
def w7 status CZ to:=(UG status CZ to).m
def Zrv:ba:=mS 235 [] true [.one (.int .u32),.one (.int .u32),.one (.int .u32)] [] (λa r=>UG (au a 0) (au a 1) (au a 2)) (λX=>.int .u32 X) (λX=>[])
theorem Z4z:bm pG Zrv:=oS (.nil) Tryz.func235 Tryz.call235 [] [] 2
def NM(c:bn)(ou bad:Int):Tree bn:=
.lv (w7 c.C3.a0 1 8) λ(x0:Int)=>.lv (w7 x0 2 16) λ(x1:Int)=>.lf ({X:=c.X,Pc:=c.C3.a1,C3:={a0:=oD u32 (iG u32 x1 1) 2,a1:=c.C3.a1,a2:=c.Pc,a3:=wrap u32 ou,a4:=bad,a5:=c.C3.a5,a6:=c.C3.a6,a7:=c.C3.a7}})
def pT c ou bad:=(NM c ou bad).m
def Zrx:ba:=mS 187 [] true [.agg bn.sig,.one (.int .i64),.one (.int .u32)] [] (λa r=>NM (bn.of (aC a 0)) (au a 1) (au a 2)) (λX=>.agg (bn.cells X)) (λX=>[])
theorem Rk:bm pG Zrx:=oS (.cons Z4z (.nil)) Tryz.func187 Tryz.call187 [] [] 2
def Qwi(access:Int):Tree (Int×Bool):=
.br (access==1) (.lf (4,true)) (.br (access==2) (.lf (5,true)) (.br (access==3) (.lf (6,true)) (.lf (5,false))))
def Qv8 access:=(Qwi access).m
def Ze4:ba:=mS 270 [] true [.one (.int .i64)] [] (λa r=>Qwi (au a 0)) (λX=>.dw [.int .i64 (X.1),.bool (X.2)]) (λX=>[])
theorem Z9h:bm pG Ze4:=oS (.nil) Tryz.func270 Tryz.call270 [] [] 2
def Z1n(c:bn):Tree Bool:=
.lf (bb u32 c.C3.a0 (1:Int) !=(0:Int))
def Is c:=(Z1n c).m
def Zij:ba:=mS 191 [] true [.agg bn.sig] [] (λa r=>Z1n (bn.of (aC a 0))) (λX=>.bool X) (λX=>[])
theorem Qw7:bm pG Zij:=oS (.nil) Tryz.func191 Tryz.call191 [] [] 2
def Qpv(access:Int):Tree (Int×Bool):=
.br (access==1) (.lf (4,true)) (.br (access==2) (.lf (5,true)) (.br (access==3) (.lf (6,true)) (.lf (5,false))))
def Qm4 access:=(Qpv access).m
def Z22:ba:=mS 289 [] true [.one (.int .i64)] [] (λa r=>Qpv (au a 0)) (λX=>.dw [.int .i64 (X.1),.bool (X.2)]) (λX=>[])
theorem Qzh:bm pG Z22:=oS (.nil) Tryz.func289 Tryz.call289 [] [] 2
def ZH(m:List Int)(frame:Int):Tree Bool:=
.lv (jK m) λ(x0:Int)=>.lf (decide (wrap u64 frame<wrap u64 x0))
def NI m frame:=(ZH m frame).m
def Z4s:ba:=mS 290 [] true [.one (.ints .u32),.one (.int .u32)] [] (λa r=>ZH (dh .u32 a 0) (au a 1)) (λX=>.bool X) (λX=>[])
theorem Z2g:bm pG Z4s:=oS (.cons Q2 (.nil)) Tryz.func290 Tryz.call290 [] [] 2
def KP(m:List Int)(addr size:Int):Tree (Int×Bool):=
.an (Qev m addr size) (.lv (WL m addr size) λ(x0:Bool)=>.br (!x0) (.lf (0,false)) (.cn (bX 1 1&&bN 0 1&&decide (0<=wrap u32 (eF addr 4)/\wrap u32 (eF addr 4)<(m.length:Int))) (let E1:=dA (wrap u32 (eF addr 4));.br (size==1) (let E2:=wrap i64 (wrap i64 (cZ addr 4)*8);.an (Q7 (m.getD E1 0) E2 8) (.lv (th (m.getD E1 0) E2 8) λ(x1:Int)=>.lf (x1,true))) (.lf (m.getD E1 0,true)))))
def BO m addr size:=(KP m addr size).m
abbrev Jn m addr size:=(KP m addr size).p
def Zd0:ba:=mT 237 [] true [.one (.ints .u32),.one (.int .u32),.one (.int .i64)] [] (λa r=>KP (dh .u32 a 0) (au a 1) (au a 2)) (λX=>.dw [.int .u32 (X.1),.bool (X.2)]) (λX=>[])
theorem Rl:bm pG Zd0:=oT (.cons Qp8 (.cons Qol (.nil))) Tryz.func237 Tryz.call237 [] [] 2
def Qpl(AY access:Int):Tree Bool:=
.br (bb u32 AY (1:Int)==(0:Int)) (.lf false) (.br (access==3) (.lf (bb u32 AY (2:Int) !=(0:Int))) (.br (access==1) (.lf (bb u32 AY (4:Int) !=(0:Int))) (.lf true)))
def SO AY access:=(Qpl AY access).m
def Z2u:ba:=mS 291 [] true [.one (.int .u32),.one (.int .i64)] [] (λa r=>Qpl (au a 0) (au a 1)) (λX=>.bool X) (λX=>[])
theorem Z07:bm pG Z2u:=oS (.nil) Tryz.func291 Tryz.call291 [] [] 2
def QI(AY:Int):Tree Int:=
.an (Q7 AY 8 8) (.lv (th AY 8 8) λ(x0:Int)=>.lf x0)
def WR AY:=(QI AY).m
abbrev Qeb AY:=(QI AY).p
def Z33:ba:=mT 292 [] true [.one (.int .u32)] [] (λa r=>QI (au a 0)) (λX=>.int .u32 X) (λX=>[])
theorem Z0f:bm pG Z33:=oT (.cons Qol (.nil)) Tryz.func292 Tryz.call292 [] [] 2
def KT(m:List Int)(root va access:Int):Tree rj:=
.lv (Qm4 access) λ(x0:Int×Bool)=>let E1:=({Addr:=0,G1:=0,G0:=x0.1}:rj);.br (!x0.2) (.lf (E1)) (.br (decide (va>=4096)) (.lf (E1)) (.lv (NI m root) λ(x1:Bool)=>.br (!x1) (.lf (E1)) (let E2:=wrap u32 (root*128)+wrap u32 (4*wrap u32 (eF va 128));.an (Jn m (wrap u32 E2) 4) (.lv (BO m (wrap u32 E2) 4) λ(x2:Int×Bool)=>.br (!x2.2) (.lf (E1)) (.lv (SO x2.1 access) λ(x3:Bool)=>.br (!x3) (.lf (E1)) (.an (Qeb x2.1) (.lv (WR x2.1) λ(x4:Int)=>.lv (NI m x4) λ(x5:Bool)=>.br (!x5) (.lf (E1)) (.an (Qeb x2.1) (.lv (WR x2.1) λ(x6:Int)=>.lf ({Addr:=wrap u32 (wrap u32 (x6*128)+cZ va 128),G1:=wrap u32 E2,G0:=0}))))))))))
def SN m root va access:=(KT m root va access).m
abbrev Qje m root va access:=(KT m root va access).p
def Zf9:ba:=mT 271 [] true [.one (.ints .u32),.one (.int .u32),.one (.int .u32),.one (.int .i64)] [] (λa r=>KT (dh .u32 a 0) (au a 1) (au a 2) (au a 3)) (λX=>.agg (rj.cells X)) (λX=>[])
theorem Z9q:bm pG Zf9:=oT (.cons Qzh (.cons Z2g (.cons Rl (.cons Z07 (.cons Z0f (.nil)))))) Tryz.func271 Tryz.call271 [] [] 2
def Q9(m:List Int)(entry access:Int):Tree (List Int):=
.an (Jn m entry 4) (.lv (BO m entry 4) λ(x0:Int×Bool)=>.br (!x0.2) (.an (nI m) (.lv (ko m) λ(x1:List Int)=>.lf x1)) (.br (access==3) (.an (Qbw m entry 4 (iG u32 (iG u32 x0.1 8) 16)) (.lv (KQ m entry 4 (iG u32 (iG u32 x0.1 8) 16)) λ(x2:List Int×Bool)=>.lf x2.1)) (.an (Qbw m entry 4 (iG u32 x0.1 8)) (.lv (KQ m entry 4 (iG u32 x0.1 8)) λ(x3:List Int×Bool)=>.lf x3.1))))
def NK m entry access:=(Q9 m entry access).m
abbrev Qhd m entry access:=(Q9 m entry access).p
def Z8e:ba:=mT 272 [] true [.one (.ints .u32),.one (.int .u32),.one (.int .i64)] [] (λa r=>Q9 (dh .u32 a 0) (au a 1) (au a 2)) (λX=>.all 0) (λX=>[⟨false,25,1,.ints .u32 X⟩])
theorem Z47:bm pG Z8e:=oT (.cons Rl (.cons JC (.cons Qqu (.nil)))) Tryz.func272 Tryz.call272 [.row 25 1 (.ints .u32)] [] 2
def K0(c:bn)(m:List Int)(va size access:Int):Tree (Int×(List Int)×Int):=
.lv (Qv8 access) λ(x0:Int×Bool)=>let T3:Tree ((Int×(List Int)×Int)):=.an (nI m) (.lv (ko m) λ(x1:List Int)=>.lf (0,x1,5));.br (!x0.2) T3 (let T1:Tree ((Int×(List Int)×Int)):=.cn (decide (wrap u32 size≠0)) (.br (cZ va (wrap u32 size) !=0) (.an (nI m) (.lv (ko m) λ(x3:List Int)=>.lf (0,x3,3))) (.lv (Is c) λ(x4:Bool)=>let T2:Tree ((Int×(List Int)×Int)):=.an (Jn m va size) (.lv (BO m va size) λ(x8:Int×Bool)=>.br (!x8.2) (.an (nI m) (.lv (ko m) λ(x9:List Int)=>.lf (0,x9,x0.1))) (.an (nI m) (.lv (ko m) λ(mi:List Int)=>.lf (va,mi,0))));.br (!x4) (.br (bb u32 c.C3.a0 (4:Int) !=(0:Int)) (.an (Qje m c.C3.a6 va access) (.lv (SN m c.C3.a6 va access) λ(x5:rj)=>.br (x5.G0 !=0) (.an (nI m) (.lv (ko m) λ(x6:List Int)=>.lf (0,x6,x5.G0))) (.an (Qhd m x5.G1 access) (.lv (NK m x5.G1 access) λ(x7:List Int)=>.lf (x5.Addr,x7,0))))) T2) T2));.br (size !=1) (.br (size !=4) T3 T1) T1)
def rz c m va size access:=(K0 c m va size access).m
abbrev Qdx c m va size access:=(K0 c m va size access).p
def Zfk:ba:=mT 236 [] true [.agg bn.sig,.one (.ints .u32),.one (.int .u32),.one (.int .i64),.one (.int .i64)] [] (λa r=>K0 (bn.of (aC a 0)) (dh .u32 a 1) (au a 2) (au a 3) (au a 4)) (λX=>.dw [.int .u32 (X.1),.all 0,.int .i64 (X.2.2)]) (λX=>[⟨false,25,1,.ints .u32 (X.2.1)⟩])
theorem Qm3:bm pG Zfk:=oT (.cons Z9h (.cons JC (.cons Qw7 (.cons Z9q (.cons Z47 (.cons Rl (.nil))))))) Tryz.func236 Tryz.call236 [.row 25 1 (.ints .u32)] [] 2
def QJ(c:bn)(m:List Int):Tree (Int×(List Int)×Int):=
.an (Qdx c m c.Pc 4 1) (.lv (rz c m c.Pc 4 1) λ(x0:Int×List Int×Int)=>.br (x0.2.2 !=0) (.lf (0,x0.2.1,x0.2.2)) (.an (Jn x0.2.1 x0.1 4) (.lv (BO x0.2.1 x0.1 4) λ(x1:Int×Bool)=>.lf (x1.1,x0.2.1,0))))
def SX c m:=(QJ c m).m
abbrev Qx2 c m:=(QJ c m).p
def Zmq:ba:=mT 188 [] true [.agg bn.sig,.one (.ints .u32)] [] (λa r=>QJ (bn.of (aC a 0)) (dh .u32 a 1)) (λX=>.dw [.int .u32 (X.1),.all 0,.int .i64 (X.2.2)]) (λX=>[⟨false,25,1,.ints .u32 (X.2.1)⟩])
theorem Zii:bm pG Zmq:=oT (.cons Qm3 (.cons Rl (.nil))) Tryz.func188 Tryz.call188 [.row 25 1 (.ints .u32)] [] 2
def Qpg(op:Int):Tree Bool:=
.br (op==57) (.lf true) (.br (op==58) (.lf true) (.br (op==59) (.lf true) (.br (op==60) (.lf true) (.br (op==61) (.lf true) (.br (op==62) (.lf true) (.br (op==63) (.lf true) (.br (op==64) (.lf true) (.lf false))))))))
def NB op:=(Qpg op).m
def Z2o:ba:=mS 190 [] true [.one (.int .i64)] [] (λa r=>Qpg (au a 0)) (λX=>.bool X) (λX=>[])
theorem Z0r:bm pG Z2o:=oS (.nil) Tryz.func190 Tryz.call190 [] [] 2
def ZI(op:Int):Tree Int:=
.br (op==32) (.lf 4) (.br (op==35) (.lf 4) (.lf 1))
def Jo op:=(ZI op).m
def Zmj:ba:=mS 242 [] true [.one (.int .i64)] [] (λa r=>ZI (au a 0)) (λX=>.int .i64 X) (λX=>[])
theorem Z2:bm pG Zmj:=oS (.nil) Tryz.func242 Tryz.call242 [] [] 2
def El(c:bn)(register v:Int):Tree bn:=
.br (register !=0) (.cn (bN 0 1&&decide (0<=register/\register<(↑16:Int))) (.lf ({X:=iv.of 0 (dB (iv.l c.X) register.toNat v),Pc:=c.Pc,C3:=c.C3}))) (.lf c)
def uc c register v:=(El c register v).m
abbrev Hm c register v:=(El c register v).p
def yC:ba:=mT 243 [] true [.agg bn.sig,.one (.int .i64),.one (.int .u32)] [] (λa r=>El (bn.of (aC a 0)) (au a 1) (au a 2)) (λX=>.agg (bn.cells X)) (λX=>[])
theorem Zas:bm pG yC:=oT (.nil) Tryz.func243 Tryz.call243 [] [] 2
def Ig(c:bn)(m:List Int)(i:gr):Tree (bn×(List Int)):=
.cn (bN 0 1&&decide (0<=i.B/\i.B<(↑16:Int))) (.lv (Jo i.Op) λ(x0:Int)=>let E1:=wrap u32 (aV (iv.l c.X) i.B.toNat 0+wrap u32 i.bw);.an (Qdx c m E1 x0 2) (.lv (rz c m E1 x0 2) λ(x1:Int×List Int×Int)=>.br (x1.2.2 !=0) (.lv (pT c x1.2.2 E1) λ(x2:bn)=>.lf (x2,x1.2.1)) (.lv (Jo i.Op) λ(x3:Int)=>.an (Jn x1.2.1 x1.1 x3) (.lv (BO x1.2.1 x1.1 x3) λ(x4:Int×Bool)=>.br (i.Op==33) (.an (Qcb x4.1 8) (.lv (Dr x4.1 8) λ(x5:Int)=>.an (Hm c i.A x5) (.lv (uc c i.A x5) λ(x6:bn)=>.lf ({X:=x6.X,Pc:=wrap u32 (x6.Pc+4),C3:=x6.C3},x1.2.1)))) (.an (Hm c i.A x4.1) (.lv (uc c i.A x4.1) λ(x7:bn)=>.lf ({X:=x7.X,Pc:=wrap u32 (x7.Pc+4),C3:=x7.C3},x1.2.1)))))))
def tj c m i:=(Ig c m i).m
abbrev Z0v c m i:=(Ig c m i).p
def Zsv:ba:=mT 192 [] true [.agg bn.sig,.one (.ints .u32),.agg gr.sig] [] (λa r=>Ig (bn.of (aC a 0)) (dh .u32 a 1) (gr.of (aC a 2))) (λX=>.dw [.agg (bn.cells (X.1)),.all 0]) (λX=>[⟨false,25,1,.ints .u32 (X.2)⟩])
theorem Zng:bm pG Zsv:=oT (.cons Qm3 (.cons Z2 (.cons Rk (.cons Rl (.cons Qlf (.cons Zas (.nil))))))) Tryz.func192 Tryz.call192 [.row 25 1 (.ints .u32)] [] 2
def Ii(c:bn)(m:List Int)(i:gr):Tree (bn×(List Int)):=
.cn (bN 0 1&&decide (0<=i.B/\i.B<(↑16:Int))) (.lv (Jo i.Op) λ(x0:Int)=>let E1:=wrap u32 (aV (iv.l c.X) i.B.toNat 0+wrap u32 i.bw);.an (Qdx c m E1 x0 3) (.lv (rz c m E1 x0 3) λ(x1:Int×List Int×Int)=>.br (x1.2.2 !=0) (.lv (pT c x1.2.2 E1) λ(x2:bn)=>.lf (x2,x1.2.1)) (.lv (Jo i.Op) λ(x3:Int)=>.cn (bN 0 1&&decide (0<=i.A/\i.A<(↑16:Int))) (let E2:=aV (iv.l c.X) i.A.toNat 0;.an (Qbw x1.2.1 x1.1 x3 E2) (.lv (KQ x1.2.1 x1.1 x3 E2) λ(x4:List Int×Bool)=>.lf ({X:=c.X,Pc:=wrap u32 (c.Pc+4),C3:=c.C3},x4.1))))))
def BR c m i:=(Ii c m i).m
abbrev Qvw c m i:=(Ii c m i).p
def Zmt:ba:=mT 193 [] true [.agg bn.sig,.one (.ints .u32),.agg gr.sig] [] (λa r=>Ii (bn.of (aC a 0)) (dh .u32 a 1) (gr.of (aC a 2))) (λX=>.dw [.agg (bn.cells (X.1)),.all 0]) (λX=>[⟨false,25,1,.ints .u32 (X.2)⟩])
theorem Zim:bm pG Zmt:=oT (.cons Qm3 (.cons Z2 (.cons Rk (.cons Qqu (.nil))))) Tryz.func193 Tryz.call193 [.row 25 1 (.ints .u32)] [] 2
def Z43(op a b:Int):Tree Bool:=
.br (op==40) (.lf (a==b)) (.br (op==41) (.lf (a !=b)) (.br (op==42) (.lf (decide (wrap i32 a<wrap i32 b))) (.br (op==43) (.lf (decide (wrap i32 a>=wrap i32 b))) (.br (op==44) (.lf (decide (a<b))) (.lf (decide (a>=b)))))))
def Zhn op a b:=(Z43 op a b).m
def Zlu:ba:=mS 245 [] true [.one (.int .i64),.one (.int .u32),.one (.int .u32)] [] (λa r=>Z43 (au a 0) (au a 1) (au a 2)) (λX=>.bool X) (λX=>[])
theorem Zhb:bm pG Zlu:=oS (.nil) Tryz.func245 Tryz.call245 [] [] 2
def NO(c:bn):Tree bn:=
.lv (w7 c.C3.a0 8 1) λ(x0:Int)=>.lv (w7 x0 16 2) λ(x1:Int)=>.lf ({X:=c.X,Pc:=c.C3.a2,C3:={a0:=x1,a1:=c.C3.a1,a2:=c.C3.a2,a3:=c.C3.a3,a4:=c.C3.a4,a5:=c.C3.a5,a6:=c.C3.a6,a7:=c.C3.a7}})
def KD c:=(NO c).m
def Zhj:ba:=mS 246 [] true [.agg bn.sig] [] (λa r=>NO (bn.of (aC a 0))) (λX=>.agg (bn.cells X)) (λX=>[])
theorem Zeo:bm pG Zhj:=oS (.cons Z4z (.nil)) Tryz.func246 Tryz.call246 [] [] 2
def Ie(c:bn)(jj v:Int):Tree bn:=
let E4:=bN 0 1&&decide (0<=jj/\jj<(↑8:Int));let T2:Tree (bn):=.cn E4 (.lf ({X:=c.X,Pc:=c.Pc,C3:=A8.of 0 (dB (A8.l c.C3) jj.toNat (bb u32 v 31))}));.br (jj==0) T2 (.br (jj==7) T2 (.br (jj==6) (.cn E4 (.lf ({X:=c.X,Pc:=c.Pc,C3:=A8.of 0 (dB (A8.l c.C3) jj.toNat (bb u32 v 255))}))) (let T3:Tree (bn):=.cn E4 (.lf ({X:=c.X,Pc:=c.Pc,C3:=A8.of 0 (dB (A8.l c.C3) jj.toNat (oD u32 v 3))}));.br (jj==1) T3 (.br (jj==2) T3 (let T1:Tree (bn):=.cn E4 (.lf ({X:=c.X,Pc:=c.Pc,C3:=A8.of 0 (dB (A8.l c.C3) jj.toNat v)}));.br (jj==3) T1 (.br (jj==4) T1 (.br (jj==5) T1 (.lf c))))))))
def Zj2 c jj v:=(Ie c jj v).m
abbrev Qwf c jj v:=(Ie c jj v).p
def Zma:ba:=mT 247 [] true [.agg bn.sig,.one (.int .i64),.one (.int .u32)] [] (λa r=>Ie (bn.of (aC a 0)) (au a 1) (au a 2)) (λX=>.agg (bn.cells X)) (λX=>[])
theorem Zjd:bm pG Zma:=oT (.nil) Tryz.func247 Tryz.call247 [] [] 2
def Em(c:bn)(i:gr):Tree (bn×kZ):=
.cn (bN 0 1&&decide (0<=i.A/\i.A<(↑16:Int))) (.cn (bN 0 1&&decide (0<=i.B/\i.B<(↑16:Int))) (.br (i.Op==24) (.an (Hm c i.A (eu u32 (wrap u32 i.bw) 16)) (.lv (uc c i.A (eu u32 (wrap u32 i.bw) 16)) λ(x0:bn)=>.lf ({X:=x0.X,Pc:=wrap u32 (c.Pc+4),C3:=x0.C3},{C2:=0,D8:=0,F8:=0,Value:=0}))) (let E2:=({X:=c.X,Pc:=wrap u32 (c.Pc+4),C3:=c.C3}:bn);let E3:=aV (iv.l c.X) i.B.toNat 0;let E4:=aV (iv.l c.X) i.A.toNat 0;let T1:Tree ((bn×kZ)):=.lv (Zhn i.Op E4 E3) λ(x1:Bool)=>.br x1 (.lf ({X:=c.X,Pc:=wrap u32 (c.Pc+wrap u32 (4*wrap u32 i.bw)),C3:=c.C3},{C2:=0,D8:=0,F8:=0,Value:=0})) (.lf (E2,{C2:=0,D8:=0,F8:=0,Value:=0}));.br (i.Op==40) T1 (.br (i.Op==41) T1 (.br (i.Op==42) T1 (.br (i.Op==43) T1 (.br (i.Op==44) T1 (.br (i.Op==45) T1 (.br (i.Op==48) (.an (Hm c i.A (wrap u32 (c.Pc+4))) (.lv (uc c i.A (wrap u32 (c.Pc+4))) λ(x7:bn)=>.lf ({X:=x7.X,Pc:=wrap u32 (x7.Pc+wrap u32 (4*wrap u32 i.bw)),C3:=x7.C3},{C2:=0,D8:=0,F8:=0,Value:=0}))) (.br (i.Op==49) (.an (Hm c i.A (wrap u32 (c.Pc+4))) (.lv (uc c i.A (wrap u32 (c.Pc+4))) λ(x8:bn)=>.lf ({X:=x8.X,Pc:=wrap u32 (aV (iv.l c.X) i.B.toNat 0+wrap u32 i.bw),C3:=x8.C3},{C2:=0,D8:=0,F8:=0,Value:=0}))) (.br (i.Op==56) (.lv (pT c 7 0) λ(x9:bn)=>.lf (x9,{C2:=0,D8:=0,F8:=0,Value:=0})) (.br (i.Op==57) (.lv (KD c) λ(mi:bn)=>.lf (mi,{C2:=0,D8:=0,F8:=0,Value:=0})) (.br (i.Op==58) (.cn (bN 0 1&&decide (0<=i.bw/\i.bw<(↑8:Int))) (let E5:=aV (A8.l c.C3) i.bw.toNat 0;.an (Hm c i.A E5) (.lv (uc c i.A E5) λ(na:bn)=>.lf ({X:=na.X,Pc:=wrap u32 (c.Pc+4),C3:=na.C3},{C2:=0,D8:=0,F8:=0,Value:=0})))) (.br (i.Op==59) (.an (Qwf c (wrap i64 i.bw) E4) (.lv (Zj2 c (wrap i64 i.bw) E4) λ(pL:bn)=>.lf ({X:=pL.X,Pc:=wrap u32 (c.Pc+4),C3:=pL.C3},{C2:=0,D8:=0,F8:=0,Value:=0}))) (.br (i.Op==60) (.lf (E2,{C2:=1,D8:=wrap i64 i.bw,F8:=i.A,Value:=0})) (.br (i.Op==61) (.lf (E2,{C2:=2,D8:=wrap i64 i.bw,F8:=0,Value:=aV (iv.l c.X) i.A.toNat 0})) (.br (i.Op==62) (.lf (E2,{C2:=3,D8:=0,F8:=0,Value:=0})) (.br (i.Op==63) (.lf (E2,{C2:=5,D8:=0,F8:=0,Value:=0})) (.br (i.Op==64) (.lf (E2,{C2:=4,D8:=0,F8:=0,Value:=0})) (.cn (bN 0 1&&decide (0<=i.C/\i.C<(↑16:Int))) (.br (decide (i.Op>=16)) (.an (Qun i.Op E3 (wrap u32 i.bw)) (.lv (nz i.Op E3 (wrap u32 i.bw)) λ(Ar:Int×Bool)=>.an (Hm c i.A Ar.1) (.lv (uc c i.A Ar.1) λ(Fv:bn)=>.lf ({X:=Fv.X,Pc:=wrap u32 (c.Pc+4),C3:=Fv.C3},{C2:=0,D8:=0,F8:=0,Value:=0})))) (let E6:=aV (iv.l c.X) i.C.toNat 0;.an (Qun i.Op E3 E6) (.lv (nz i.Op E3 E6) λ(x15:Int×Bool)=>.an (Hm c i.A x15.1) (.lv (uc c i.A x15.1) λ(Fw:bn)=>.lf ({X:=Fw.X,Pc:=wrap u32 (c.Pc+4),C3:=Fw.C3},{C2:=0,D8:=0,F8:=0,Value:=0})))))))))))))))))))))))))
def WV c i:=(Em c i).m
abbrev Qsg c i:=(Em c i).p
def Zd4:ba:=mT 194 [] true [.agg bn.sig,.agg gr.sig] [] (λa r=>Em (bn.of (aC a 0)) (gr.of (aC a 1))) (λX=>.dw [.agg (bn.cells (X.1)),.agg (kZ.cells (X.2))]) (λX=>[])
theorem Z8o:bm pG Zd4:=oT (.cons Zas (.cons Zhb (.cons Rk (.cons Zeo (.cons Zjd (.cons Zr6 (.nil))))))) Tryz.func194 Tryz.call194 [] [] 2
def En(c:bn)(m:List Int):Tree (bn×(List Int)×kZ):=
.an (Qx2 c m) (.lv (SX c m) λ(x0:Int×List Int×Int)=>.br (x0.2.2 !=0) (.lv (pT c x0.2.2 c.Pc) λ(x1:bn)=>.lf (x1,x0.2.1,{C2:=0,D8:=0,F8:=0,Value:=0})) (.an (Qu x0.1) (.lv (NF x0.1) λ(x2:gr×Bool)=>.br (!x2.2) (.lv (pT c 1 x0.1) λ(x3:bn)=>.lf (x3,x0.2.1,{C2:=0,D8:=0,F8:=0,Value:=0})) (.lv (NB x2.1.Op) λ(x4:Bool)=>let T1:Tree ((bn×(List Int)×kZ)):=let T2:Tree ((bn×(List Int)×kZ)):=.an (Z0v c x0.2.1 x2.1) (.lv (tj c x0.2.1 x2.1) λ(x7:bn×List Int)=>.lf (x7.1,x7.2,{C2:=0,D8:=0,F8:=0,Value:=0}));.br (x2.1.Op==32) T2 (.br (x2.1.Op==33) T2 (.br (x2.1.Op==34) T2 (let T3:Tree ((bn×(List Int)×kZ)):=.an (Qvw c x0.2.1 x2.1) (.lv (BR c x0.2.1 x2.1) λ(mi:bn×List Int)=>.lf (mi.1,mi.2,{C2:=0,D8:=0,F8:=0,Value:=0}));.br (x2.1.Op==35) T3 (.br (x2.1.Op==36) T3 (.an (Qsg c x2.1) (.lv (WV c x2.1) λ(pL:bn×kZ)=>.lf (pL.1,x0.2.1,pL.2)))))));.br x4 (.lv (Is c) λ(x5:Bool)=>.br (!x5) (.lv (pT c 2 x0.1) λ(x6:bn)=>.lf (x6,x0.2.1,{C2:=0,D8:=0,F8:=0,Value:=0})) T1) T1))))
def BS c m:=(En c m).m
abbrev Z0x c m:=(En c m).p
def Zs7:ba:=mT 137 [] true [.agg bn.sig,.one (.ints .u32)] [] (λa r=>En (bn.of (aC a 0)) (dh .u32 a 1)) (λX=>.dw [.agg (bn.cells (X.1)),.all 0,.agg (kZ.cells (X.2.2))]) (λX=>[⟨false,25,1,.ints .u32 (X.2.1)⟩])
theorem Znt:bm pG Zs7:=oT (.cons Zii (.cons Rk (.cons Zel (.cons Z0r (.cons Qw7 (.cons Zng (.cons Zim (.cons Z8o (.nil))))))))) Tryz.func137 Tryz.call137 [.row 25 1 (.ints .u32)] [] 2
end
noncomputable section
def JD:List UInt8:=[(0:UInt8),1,2,2,3,3,3,3,4,4,4,4,4,4,4,4,5,5,5,5,5,5,5,5,5,5,5,5,5,5,5,5,6,6,6,6,6,6,6,6,6,6,6,6,6,6,6,6,6,6,6,6,6,6,6,6,6,6,6,6,6,6,6,6]
def Rm:List UInt8:=[(7:UInt8),7,7,7,7,7,7,7,7,7,7,7,7,7,7,7,7,7,7,7,7,7,7,7,7,7,7,7,7,7,7,7,7,7,7,7,7,7,7,7,7,7,7,7,7,7,7,7,7,7,7,7,7,7,7,7,7,7,7,7,7,7,7,7]
def DM:List UInt8:=[(8:UInt8),8,8,8,8,8,8,8,8,8,8,8,8,8,8,8,8,8,8,8,8,8,8,8,8,8,8,8,8,8,8,8,8,8,8,8,8,8,8,8,8,8,8,8,8,8,8,8,8,8,8,8,8,8,8,8,8,8,8,8,8,8,8,8]
def UY:List UInt8:=[(1:UInt8),2,2,3,3,3,3,4,4,4,4,4,4,4,4,5,5,5,5,5,5,5,5,5,5,5,5,5,5,5,5,6,6,6,6,6,6,6,6,6,6,6,6,6,6,6,6,6,6,6,6,6,6,6,6,6,6,6,6,6,6,6,6]
def JE:List UInt8:=[(0:UInt8),1,1,2,1,2,2,3,1,2,2,3,2,3,3,4,1,2,2,3,2,3,3,4,2,3,3,4,3,4,4,5,1,2,2,3,2,3,3,4,2,3,3,4,3,4,4,5,2,3,3,4,3,4,4,5,3,4,4,5,4,5,5,6]
def DN:List UInt8:=[(1:UInt8),2,2,3,2,3,3,4,2,3,3,4,3,4,4,5,2,3,3,4,3,4,4,5,3,4,4,5,4,5,5,6,2,3,3,4,3,4,4,5,3,4,4,5,4,5,5,6,3,4,4,5,4,5,5,6,4,5,5,6,5,6,6,7]
def Rn:List UInt8:=[(2:UInt8),3,3,4,3,4,4,5,3,4,4,5,4,5,5,6,3,4,4,5,4,5,5,6,4,5,5,6,5,6,6,7,3,4,4,5,4,5,5,6,4,5,5,6,5,6,6,7,4,5,5,6,5,6,6,7,5,6,6,7,6,7,7,8]
def UZ:List UInt8:=[(1:UInt8),1,2,1,2,2,3,1,2,2,3,2,3,3,4,1,2,2,3,2,3,3,4,2,3,3,4,3,4,4,5,1,2,2,3,2,3,3,4,2,3,3,4,3,4,4,5,2,3,3,4,3,4,4,5,3,4,4,5,4,5,5,6]
def Qw(c:iK):Tree Bool:=
.lf (decide ((c.D9.length:Int)<=(16:Int)))
def AD c:=(Qw c).m
def Zcs:ba:=mS 151 [] true [.agg iK.sig] [] (λa r=>Qw (iK.of (aC a 0))) (λX=>.bool X) (λX=>[])
theorem Za2:bm pG Zcs:=oS (.nil) Tryz.func151 Tryz.call151 [] [] 2
def SA(t:iS):Tree Bool:=
.br t.F1 (.br (!t.E0) (.lf (t.D3 !=0)) (.lf false)) (.br t.E0 (.lf true) (.lf (t.D3==0)))
def AE t:=(SA t).m
def Znc:ba:=mS 152 [] true [.agg iS.sig] [] (λa r=>SA (iS.of (aC a 0))) (λX=>.bool X) (λX=>[])
theorem Zl4:bm pG Znc:=oS (.nil) Tryz.func152 Tryz.call152 [] [] 2
def Np(d0:fu):Tree Bool:=
.br (d0.F6==1) (.lf (decide (d0.C9=[]))) (.br (d0.F6==2) (.lf ((d0.C9.length:Int)==(128:Int))) (.lf false))
def Sy d0:=(Np d0).m
def Z01:ba:=mS 208 [] true [.agg fu.sig] [] (λa r=>Np (fu.of (aC a 0))) (λX=>.bool X) (λX=>[])
theorem Qwo:bm pG Z01:=oS (.nil) Tryz.func208 Tryz.call208 [] [] 2
def Ej(d0:fu)(bj:Int):Tree Bool:=
.br (decide (d0.ab>64)) (.lf false) (let T1:Tree (Bool):=.br (d0.F6==0) (.br (d0.C5==0) (.br (d0.C6==0) (.lf (decide (d0.C9=[]))) (.lf false)) (.lf false)) (.lf false);.br (d0.C7==0) T1 (.br (d0.C7==2) T1 (.br (d0.C7==3) T1 (.br (d0.C7==1) (.lv (Sy d0) λ(x0:Bool)=>.br x0 (.br (decide (d0.C5<d0.ab)) (.lf (decide (wrap i64 d0.C6<bj))) (.lf false)) (.lf false)) (.lf false)))))
def pS d0 bj:=(Ej d0 bj).m
def Zsq:ba:=mS 153 [] true [.agg fu.sig,.one (.int .i64)] [] (λa r=>Ej (fu.of (aC a 0)) (au a 1)) (λX=>.bool X) (λX=>[])
theorem Znu:bm pG Zsq:=oS (.cons Qwo (.nil)) Tryz.func153 Tryz.call153 [] [] 2
def Nq(n:gw)(bj:Int):Tree Bool:=
let T1:Tree (Bool):=let T2:Tree (Bool):=.br n.C4 (.br (decide (n.F9>=1)) (.lf (decide (n.F9<=128))) (.lf false)) (.lf (n.F9==0));.br n.D1 (.br (decide (wrap i64 n.D4>=bj)) (.lf false) T2) (.br (n.D4 !=0) (.lf false) T2);.br n.D1 (.br n.C4 (.lf false) T1) T1
def uZ n bj:=(Nq n bj).m
def vC:ba:=mS 154 [] true [.agg gw.sig,.one (.int .i64)] [] (λa r=>Nq (gw.of (aC a 0)) (au a 1)) (λX=>.bool X) (λX=>[])
theorem Zsu:bm pG vC:=oS (.nil) Tryz.func154 Tryz.call154 [] [] 2
def Dn(x:Int):Tree Int:=
let E1:=(↑(dF (cP (cP JD Rm) (cP DM DM))):Int);.br (decide (x>=65536)) (.br (decide (bc u32 x (16:Int)>=(256:Int))) (.cn (decide (0<=wrap u8 (bc u32 (bc u32 x 16) 8)/\wrap u8 (bc u32 (bc u32 x 16) 8)<E1)) (.lf (wrap i64 (wrap i64 ((16:Int)+(8:Int))+wrap i64 (↑(hY (aV ((0:UInt8)::(UY++Rm++(DM++DM))) (dA (wrap u8 (bc u32 (bc u32 x 16) 8))) (0:UInt8))):Int))))) (.cn (decide (0<=wrap u8 (bc u32 x 16)/\wrap u8 (bc u32 x 16)<E1)) (.lf (wrap i64 (16+wrap i64 (↑(hY (aV ((0:UInt8)::(UY++Rm++(DM++DM))) (dA (wrap u8 (bc u32 x 16))) (0:UInt8))):Int)))))) (.br (decide (x>=256)) (.cn (decide (0<=wrap u8 (bc u32 x 8)/\wrap u8 (bc u32 x 8)<E1)) (.lf (wrap i64 (wrap i64 ((0:Int)+(8:Int))+wrap i64 (↑(hY (aV ((0:UInt8)::(UY++Rm++(DM++DM))) (dA (wrap u8 (bc u32 x 8))) (0:UInt8))):Int))))) (.cn (decide (0<=wrap u8 x/\wrap u8 x<E1)) (.lf (wrap i64 (0+wrap i64 (↑(hY (aV ((0:UInt8)::(UY++Rm++(DM++DM))) (dA (wrap u8 x)) (0:UInt8))):Int))))))
def u0 x:=(Dn x).m
abbrev Qkv x:=(Dn x).p
def Qyq:ba:=mT 209 [] true [.one (.int .u32)] [] (λa r=>Dn (au a 0)) (λX=>.int .i64 X) (λX=>[])
theorem Qxn:bm pG Qyq:=oT (.nil) Tryz.func209 Tryz.call209 [] [] 2
def H8(b:gb)(bj:Int):Tree Bool:=
.an (Qkv b.D0) (.lv (u0 b.D0) λ(x0:Int)=>.lf (decide (x0<=if 0>bj then 0 else bj)))
def AF b bj:=(H8 b bj).m
abbrev Qko b bj:=(H8 b bj).p
def Zfe:ba:=mT 155 [] true [.agg gb.sig,.one (.int .i64)] [] (λa r=>H8 (gb.of (aC a 0)) (au a 1)) (λX=>.bool X) (λX=>[])
theorem Za0:bm pG Zfe:=oT (.cons Qxn (.nil)) Tryz.func155 Tryz.call155 [] [] 2
def Gi(m:bd):Tree Bool:=
.lv (jK m.Mem) λ(x0:Int)=>.lv (AD m.B1) λ(x1:Bool)=>.br x1 (.lv (AE m.B8) λ(x2:Bool)=>.br x2 (.lv (pS m.B7 x0) λ(x3:Bool)=>.br x3 (.lv (uZ m.D2 x0) λ(x4:Bool)=>.br x4 (.an (Qko m.A6 x0) (.lv (AF m.A6 x0) λ(x5:Bool)=>.lf x5)) (.lf false)) (.lf false)) (.lf false)) (.lf false)
def uY m:=(Gi m).m
abbrev US m:=(Gi m).p
def Qtm:ba:=mT 115 [] true [.agg bd.sig] [] (λa r=>Gi (bd.of (aC a 0))) (λX=>.bool X) (λX=>[])
theorem Qr9:bm pG Qtm:=oT (.cons Q2 (.cons Za2 (.cons Zl4 (.cons Znu (.cons Zsu (.cons Za0 (.nil))))))) Tryz.func115 Tryz.call115 [] [] 2
def Jp(m:bd):Tree Bool:=
.lv (jK m.Mem) λ(x0:Int)=>.br (x0==0) (.lf false) (.br (m.B4.X.a0 !=0) (.lf false) (.br (decide (m.B4.C3.a0>31)) (.lf false) (.br (decide (m.B4.C3.a7>31)) (.lf false) (.br (decide (m.B4.C3.a6>255)) (.lf false) (.br (cZ m.B4.C3.a1 (4:Int) !=(0:Int)) (.lf false) (.br (decide (m.B6>1152921504606846976)) (.lf false) (.br m.B2 (.br m.B5 (.lf false) (.an (US m) (.lv (uY m) λ(x1:Bool)=>.lf x1))) (.an (US m) (.lv (uY m) λ(x2:Bool)=>.lf x2)))))))))
def AG m:=(Jp m).m
abbrev UR m:=(Jp m).p
def Ze3:ba:=mT 68 [] true [.agg bd.sig] [] (λa r=>Jp (bd.of (aC a 0))) (λX=>.bool X) (λX=>[])
theorem Qud:bm pG Ze3:=oT (.cons Q2 (.cons Qr9 (.nil))) Tryz.func68 Tryz.call68 [] [] 2
def Qry(t:iS):Tree Bool:=
.lf t.E0
def Xm t:=(Qry t).m
def Z5e:ba:=mS 266 [] true [.agg iS.sig] [] (λa r=>Qry (iS.of (aC a 0))) (λX=>.bool X) (λX=>[])
theorem Z2b:bm pG Z5e:=oS (.nil) Tryz.func266 Tryz.call266 [] [] 2
def Qnl(c:iK):Tree Bool:=
.lf (!decide (c.D9=[]))
def S2 c:=(Qnl c).m
def Qz3:ba:=mS 267 [] true [.agg iK.sig] [] (λa r=>Qnl (iK.of (aC a 0))) (λX=>.bool X) (λX=>[])
theorem Qwh:bm pG Qz3:=oS (.nil) Tryz.func267 Tryz.call267 [] [] 2
def Wp(d0:fu):Tree Bool:=
.br (d0.C7==2) (.lf true) (.lf (d0.C7==3))
def Kv d0:=(Wp d0).m
def Z8t:ba:=mS 251 [] true [.agg fu.sig] [] (λa r=>Wp (fu.of (aC a 0))) (λX=>.bool X) (λX=>[])
theorem Qqs:bm pG Z8t:=oS (.nil) Tryz.func251 Tryz.call251 [] [] 2
def Qxu(n:gw):Tree Bool:=
.lf n.C4
def Xn n:=(Qxu n).m
def Zek:ba:=mS 268 [] true [.agg gw.sig] [] (λa r=>Qxu (gw.of (aC a 0))) (λX=>.bool X) (λX=>[])
theorem Z94:bm pG Zek:=oS (.nil) Tryz.func268 Tryz.call268 [] [] 2
def QL(x:Int):Tree Int:=
let E1:=(↑(dF (cP (cP JE DN) (cP DN Rn))):Int);.cn (decide (0<=bc u32 x 24/\bc u32 x 24<E1)) (.cn (decide (0<=bb u32 (bc u32 x 16) 255/\bb u32 (bc u32 x 16) 255<E1)) (.cn (decide (0<=bb u32 (bc u32 x 8) 255/\bb u32 (bc u32 x 8) 255<E1)) (.cn (decide (0<=bb u32 x 255/\bb u32 x 255<E1)) (.lf (wrap i64 (wrap u8 (wrap u8 (wrap u8 ((↑(hY (aV ((0:UInt8)::(UZ++DN++(DN++Rn))) (dA (bc u32 x 24)) (0:UInt8))):Int)+(↑(hY (aV ((0:UInt8)::(UZ++DN++(DN++Rn))) (dA (bb u32 (bc u32 x 16) 255)) (0:UInt8))):Int))+(↑(hY (aV ((0:UInt8)::(UZ++DN++(DN++Rn))) (dA (bb u32 (bc u32 x 8) 255)) (0:UInt8))):Int))+(↑(hY (aV ((0:UInt8)::(UZ++DN++(DN++Rn))) (dA (bb u32 x 255)) (0:UInt8))):Int))))))))
def Xf x:=(QL x).m
abbrev Qbf x:=(QL x).p
def Qo0:ba:=mT 279 [] true [.one (.int .u32)] [] (λa r=>QL (au a 0)) (λX=>.int .i64 X) (λX=>[])
theorem Qnj:bm pG Qo0:=oT (.nil) Tryz.func279 Tryz.call279 [] [] 2
def QM(b:gb):Tree Int:=
.an (Qbf b.D0) (.lv (Xf b.D0) λ(x0:Int)=>.lf x0)
def Qe b:=(QM b).m
abbrev Qf4 b:=(QM b).p
def Z7f:ba:=mT 249 [] true [.agg gb.sig] [] (λa r=>QM (gb.of (aC a 0))) (λX=>.int .i64 X) (λX=>[])
theorem Qpq:bm pG Z7f:=oT (.cons Qnj (.nil)) Tryz.func249 Tryz.call249 [] [] 2
def K9(b:gb):Tree Bool:=
.an (Qf4 b) (.lv (Qe b) λ(x0:Int)=>.lf (wrap u32 x0 !=b.A2))
def N1 b:=(K9 b).m
abbrev Qk9 b:=(K9 b).p
def Z0l:ba:=mT 269 [] true [.agg gb.sig] [] (λa r=>K9 (gb.of (aC a 0))) (λX=>.bool X) (λX=>[])
theorem Qy:bm pG Z0l:=oT (.cons Qpq (.nil)) Tryz.func269 Tryz.call269 [] [] 2
def Qj4(m:bd)(z:(Int)×(Int)):Nat:=(5-z.2).toNat
def Lg(m:bd):Tree Int:=
.lv (Xm m.B8) λ(x0:Bool)=>.lv (S2 m.B1) λ(x1:Bool)=>.lv (Kv m.B7) λ(x2:Bool)=>.lv (Xn m.D2) λ(x3:Bool)=>.an (Qk9 m.A6) (.lv (N1 m.A6) λ(x4:Bool)=>.lp inferInstance (Qj4 m (0,0)+1) ((rE (0:Int)/\(rE (x0:Bool)/\rE (x1:Bool)/\rE (x2:Bool)/\rE (x3:Bool)/\rE (x4:Bool)/\True)/\rE (0:Int)/\True)/\True) (0,0) λ(v0:Int×Int)=>.br (decide (v0.2<5)) (.cn (bX 1 1&&(bX 5 5&&decide (0<=v0.2/\v0.2<(↑5:Int)))) (.br (aV [x0,x1,x2,x3,x4] v0.2.toNat false) (.cn (decide (0<=v0.2)) (.nx ((rE ((iG u32 v0.1 (eu u32 1 v0.2)):Int)/\(rE (x0:Bool)/\rE (x1:Bool)/\rE (x2:Bool)/\rE (x3:Bool)/\rE (x4:Bool)/\True)/\rE ((wrap i64 (v0.2+1)):Int)/\True)/\True) (Sum.inl (iG u32 v0.1 (eu u32 1 v0.2),wrap i64 (v0.2+1))))) (.nx ((rE v0.1/\(rE (x0:Bool)/\rE (x1:Bool)/\rE (x2:Bool)/\rE (x3:Bool)/\rE (x4:Bool)/\True)/\rE ((wrap i64 (v0.2+1)):Int)/\True)/\True) (Sum.inl (v0.1,wrap i64 (v0.2+1)))))) (.lf (Sum.inr v0.1)))
def S8 m:=(Lg m).m
abbrev Qng m:=(Lg m).p
def Z2k:cg:={
 α:=(Int)×(Int)
 F:=λst a=>([(4,.int u32 a.1),(23,(lk st 23)),(24,.int i64 a.2)],[])
 a0:=λst=>((lk st 4).toInt,(lk st 24).toInt)
 ji:=λst=>[]++[]}
def Qvu:List (Nat×cg):=[(4,Z2k)]
def Z6k:ba:=mT 234 [] true [.agg bd.sig] [] (λa r=>Lg (bd.of (aC a 0))) (λX=>.int .u32 X) (λX=>[])
theorem Z2f:bm pG Z6k:=oT (.cons Z2b (.cons Qwh (.cons Qqs (.cons Z94 (.cons Qy (.nil)))))) Tryz.func234 Tryz.call234 [] Qvu 3
def Li(m:bd):Tree Int:=
.an (Qng m) (.lv (S8 m) λ(x0:Int)=>.lf (bb u32 x0 m.B4.C3.a7))
def Lh m:=(Li m).m
abbrev Qci m:=(Li m).p
def Z0g:ba:=mT 186 [] true [.agg bd.sig] [] (λa r=>Li (bd.of (aC a 0))) (λX=>.int .u32 X) (λX=>[])
theorem Qlb:bm pG Z0g:=oT (.cons Z2f (.nil)) Tryz.func186 Tryz.call186 [] [] 2
def Lk(m:bd):Tree Bool:=
.br m.B2 (.an (Qci m) (.lv (Lh m) λ(x0:Int)=>.lf (x0==0))) (.lf false)
def SG m:=(Lk m).m
abbrev Qpi m:=(Lk m).p
def Z8y:ba:=mT 185 [] true [.agg bd.sig] [] (λa r=>Lk (bd.of (aC a 0))) (λX=>.bool X) (λX=>[])
theorem Z40:bm pG Z8y:=oT (.cons Qlb (.nil)) Tryz.func185 Tryz.call185 [] [] 2

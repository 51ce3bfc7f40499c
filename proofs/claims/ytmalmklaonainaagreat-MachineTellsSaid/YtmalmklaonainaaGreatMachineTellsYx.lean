import Derived.Test.YtmalmklaonainaaGreatMachineTellsBase
open Int renaming tmod->dF, tdiv->eZ, toNat->dG
open Nat renaming beq->bS, blt->bT
open List renaming set->dH, getD->aK, length->dL, append->cS
open UInt8 renaming toNat->fB
set_option maxRecDepth 100000
set_option linter.all false
namespace Go.Proofs.YtmalmklaonainaaGreat
open Go Go.GD Go.IntKind
noncomputable section
def Q03(s:List Int):(List Int):=
s
def Q06(s:List Int):Prop:=
s.length<=35184372088832
def Q3g(s:List Int):List D:=[.sl 1 (.ints .u32 s) false]
def Q2g(s:List Int):List Row:=[]
def Q1k(X:List Int):D:= .all 0
def Q1j(X:List Int):List Row:=[⟨false,25,1, .ints .u32 X⟩]
def Qdt:List Dir:=[.row 25 1 (.ints .u32)]
def Q72:List PT:=[.one (.ints .u32)]
def Q6r:List RT:=[]
def Qf9(args:List D)(rows:List Row):(List Int):=Q03 (argL .u32 args 0)
def Qea(args:List D)(rows:List Row):Prop:=Q06 (argL .u32 args 0)
def Qg8:Q0b:=mkP 129 [] true Q72 Q6r Qea Qf9 Q1k Q1j
def Q4o(s:List Int)(Leaf:(List Int)->Prop):Prop:=
(s=[]->Leaf [])/\cand (decide ((4:Nat)*((0:Nat)+s.length)<=(140737488355328:Nat))) (Leaf s)
set_option maxRecDepth 100000 in
theorem Qfc(s:List Int)(Q:D->List Row->Prop):(fnVC tab [] (LL tab [] Tryz.f129.ntmps 0 [] 2) Tryz.f129 (Q3g s) (Q2g s) λd R=>Qb7 (Q2g s).length Qdt d R Q)=Q4o s (λX=>Q (Q1k X) (Q1j X)):=by kernel_rfl
theorem Qdx(s:List Int)(Leaf:(List Int)->Prop)(hw:Q06 s)(h:Leaf (Q03 s)):
Q4o s Leaf:=by
 delta Q4o
 refine⟨λe=>by rw[e]at h;exact h,?_⟩
 rw[Q05]
 refine⟨dY ?_,h⟩
 have:s.length<=35184372088832:=hw
 omega
set_option maxRecDepth 100000 in
theorem Qd4(s:List Int)(hw:Q06 s):Q4c pG 129 (Q3g s) (Q2g s) (Q1k (Q03 s)) (Q1j (Q03 s)):=
 have hG:Q71 pG []:= .nil
 FnOK.calls drawn Q0g hG Tryz.func129 (rf:=none) (λ_ _=>trivial) (LL_ok drawn Q0g hG (.inl rfl) 2 (invs:=[])) (FnOK.of (Qfc s _) (Qdx s (λX=>Q1k X=Q1k (Q03 s)/\Q1j X=Q1j (Q03 s)) hw ⟨rfl,rfl⟩))
set_option maxRecDepth 100000 in
theorem Qdh(args:List D)(rows:List Row):Qek Q72 args 0=Q3g (argL .u32 args 0):=by kernel_rfl
set_option maxRecDepth 100000 in
theorem Qd5(args:List D)(rows:List Row):Q5f Q6r rows 0=Q2g (argL .u32 args 0):=by kernel_rfl
set_option maxRecDepth 100000 in
theorem Qfo(X:List Int):(ffB (Q1k X)&&ffBR (Q1j X))=true:=by kernel_rfl
theorem Q1m:Q04 pG Qg8:=Zfi Tryz.call129 (λargs rows hp=>by rw[Qdh args rows,Qd5 args rows];exact Qd4 (argL .u32 args 0) hp) (λ_ X=>Qfo X)
def Q82(m:List Int):Tree Int:=
.br (dF (m.length:Int) (32:Int) !=(0:Int)) (.lf 0) (.br (decide ((m.length:Int)>(1024:Int))) (.lf 0) (.lf (wrap i64 (eZ (m.length:Int) 32))))
def Q0q m:=(Q82 m).m
def Z60:Q0b:=mS 43 [] true [.one (.ints .u32)] [] (λa r=>Q82 (argL .u32 a 0)) (λX=> .int .i64 X) (λX=>[])
theorem Q3y:Q04 pG Z60:=oS (.nil) Tryz.func43 Tryz.call43 [] [] 2
def Q2w(m:List Int)(addr size:Int):Tree Bool:=
let T1:Tree (Bool):= .cn (decide (wrap u32 size≠0)) (.br (dF addr (wrap u32 size) !=0) (.lf false) (.lv (Q0q m) λ(x0:Int)=> .lf (decide (wrap u64 (wrap u64 addr+wrap u64 size)<=wrap u64 (wrap u64 x0*128))))); .br (size !=1) (.br (size !=4) (.lf false) T1) T1
def Qg m addr size:=(Q2w m addr size).m
abbrev Q9v m addr size:=(Q2w m addr size).p
def Z2y:Q0b:=mT 275 [] true [.one (.ints .u32), .one (.int .u32), .one (.int .i64)] [] (λa r=>Q2w (argL .u32 a 0) (argI a 1) (argI a 2)) (λX=> .bool X) (λX=>[])
theorem Qmx:Q04 pG Z2y:=oT (.cons Q3y (.nil)) Tryz.func275 Tryz.call275 [] [] 2
def Qay(n:Int):Tree Int:=
.br (decide (n>=32)) (.lf 4294967295) (.cn (decide (0<=wrap u64 n)) (.lf (wrap u32 (ishl u32 1 (wrap u64 n)-1))))
def Z2b n:=(Qay n).m
abbrev Qgb n:=(Qay n).p
def Zh8:Q0b:=mT 276 [] true [.one (.int .i64)] [] (λa r=>Qay (argI a 0)) (λX=> .int .u32 X) (λX=>[])
theorem Qxs:Q04 pG Zh8:=oT (.nil) Tryz.func276 Tryz.call276 [] [] 2
def Q8p(w low n:Int):Tree Int:=
.br (decide (low<0)) (.lf 0) (.br (decide (low>31)) (.lf 0) (.br (decide (n<1)) (.lf 0) (.cn (decide (0<=wrap u64 low)) (.an (Qgb n) (.lv (Z2b n) λ(x0:Int)=> .lf (iand u32 (ishr u32 w (wrap u64 low)) x0))))))
def Q2q w low n:=(Q8p w low n).m
abbrev Q4w w low n:=(Q8p w low n).p
def Zdz:Q0b:=mT 233 [] true [.one (.int .u32), .one (.int .i64), .one (.int .i64)] [] (λa r=>Q8p (argI a 0) (argI a 1) (argI a 2)) (λX=> .int .u32 X) (λX=>[])
theorem Ql7:Q04 pG Zdz:=oT (.cons Qxs (.nil)) Tryz.func233 Tryz.call233 [] [] 2
def Q8k(w low n v:Int):Tree Int:=
.br (decide (low<0)) (.lf w) (.br (decide (low>31)) (.lf w) (.br (decide (n<1)) (.lf w) (.an (Qgb n) (.lv (Z2b n) λ(x0:Int)=> .cn (decide (0<=wrap u64 low)) (.cn (decide (0<=wrap u64 low)) (.lf (ior u32 (Qg7 u32 w (ishl u32 x0 (wrap u64 low))) (ishl u32 (iand u32 v x0) (wrap u64 low)))))))))
def Q7d w low n v:=(Q8k w low n v).m
abbrev Qk8 w low n v:=(Q8k w low n v).p
def Z0z:Q0b:=mT 278 [] true [.one (.int .u32), .one (.int .i64), .one (.int .i64), .one (.int .u32)] [] (λa r=>Q8k (argI a 0) (argI a 1) (argI a 2) (argI a 3)) (λX=> .int .u32 X) (λX=>[])
theorem Qyl:Q04 pG Z0z:=oT (.cons Qxs (.nil)) Tryz.func278 Tryz.call278 [] [] 2
def Q7z(m:List Int)(addr size v:Int):Tree ((List Int)×Bool):=
.an (Q06 m) (.lv (Q03 m) λ(x0:List Int)=> .an (Q9v m addr size) (.lv (Qg m addr size) λ(x1:Bool)=> .br (!x1) (.lf (x0,false)) (let E1:=bS 1 1&&bT 0 1&&decide (0<=wrap u32 (eZ addr 4)/\wrap u32 (eZ addr 4)<(x0.length:Int));let E2:=dG (wrap u32 (eZ addr 4)); .br (size==1) (.cn E1 (let E3:=wrap i64 (wrap i64 (dF addr 4)*8); .an (Qk8 (x0.getD E2 0) E3 8 v) (.lv (Q7d (x0.getD E2 0) E3 8 v) λ(x2:Int)=> .cn E1 (.lf (dH x0 E2 x2,true))))) (.cn E1 (.lf (dH x0 E2 v,true))))))
def Q8o m addr size v:=(Q7z m addr size v).m
abbrev Qat m addr size v:=(Q7z m addr size v).p
def Z5w:Q0b:=mT 239 [] true [.one (.ints .u32), .one (.int .u32), .one (.int .i64), .one (.int .u32)] [] (λa r=>Q7z (argL .u32 a 0) (argI a 1) (argI a 2) (argI a 3)) (λX=> .tup [.all 0, .bool (X.2)]) (λX=>[⟨false,25,1, .ints .u32 (X.1)⟩])
theorem Qng:Q04 pG Z5w:=oT (.cons Q1m (.cons Qmx (.cons Qyl (.nil)))) Tryz.func239 Tryz.call239 [.row 25 1 (.ints .u32)] [] 2
def Zem(op:Int):Tree (Q8h×Bool):=
.br (op==1) (.lf ({a:=true,b:=true,c:=true,low:=0,D5:=0},true)) (.br (op==2) (.lf ({a:=true,b:=true,c:=true,low:=0,D5:=0},true)) (.br (op==3) (.lf ({a:=true,b:=true,c:=true,low:=0,D5:=0},true)) (.br (op==4) (.lf ({a:=true,b:=true,c:=true,low:=0,D5:=0},true)) (.br (op==5) (.lf ({a:=true,b:=true,c:=true,low:=0,D5:=0},true)) (.br (op==6) (.lf ({a:=true,b:=true,c:=true,low:=0,D5:=0},true)) (.br (op==7) (.lf ({a:=true,b:=true,c:=true,low:=0,D5:=0},true)) (.br (op==8) (.lf ({a:=true,b:=true,c:=true,low:=0,D5:=0},true)) (.br (op==9) (.lf ({a:=true,b:=true,c:=true,low:=0,D5:=0},true)) (.br (op==10) (.lf ({a:=true,b:=true,c:=true,low:=0,D5:=0},true)) (.br (op==11) (.lf ({a:=true,b:=true,c:=true,low:=0,D5:=0},true)) (.br (op==12) (.lf ({a:=true,b:=true,c:=true,low:=0,D5:=0},true)) (.br (op==13) (.lf ({a:=true,b:=true,c:=true,low:=0,D5:=0},true)) (.br (op==16) (.lf ({a:=true,b:=true,c:=false,low:=(-32768),D5:=32767},true)) (.br (op==23) (.lf ({a:=true,b:=true,c:=false,low:=(-32768),D5:=32767},true)) (.br (op==32) (.lf ({a:=true,b:=true,c:=false,low:=(-32768),D5:=32767},true)) (.br (op==33) (.lf ({a:=true,b:=true,c:=false,low:=(-32768),D5:=32767},true)) (.br (op==34) (.lf ({a:=true,b:=true,c:=false,low:=(-32768),D5:=32767},true)) (.br (op==35) (.lf ({a:=true,b:=true,c:=false,low:=(-32768),D5:=32767},true)) (.br (op==36) (.lf ({a:=true,b:=true,c:=false,low:=(-32768),D5:=32767},true)) (.br (op==40) (.lf ({a:=true,b:=true,c:=false,low:=(-32768),D5:=32767},true)) (.br (op==41) (.lf ({a:=true,b:=true,c:=false,low:=(-32768),D5:=32767},true)) (.br (op==42) (.lf ({a:=true,b:=true,c:=false,low:=(-32768),D5:=32767},true)) (.br (op==43) (.lf ({a:=true,b:=true,c:=false,low:=(-32768),D5:=32767},true)) (.br (op==44) (.lf ({a:=true,b:=true,c:=false,low:=(-32768),D5:=32767},true)) (.br (op==45) (.lf ({a:=true,b:=true,c:=false,low:=(-32768),D5:=32767},true)) (.br (op==49) (.lf ({a:=true,b:=true,c:=false,low:=(-32768),D5:=32767},true)) (.br (op==17) (.lf ({a:=true,b:=true,c:=false,low:=0,D5:=65535},true)) (.br (op==18) (.lf ({a:=true,b:=true,c:=false,low:=0,D5:=65535},true)) (.br (op==19) (.lf ({a:=true,b:=true,c:=false,low:=0,D5:=65535},true)) (.br (op==20) (.lf ({a:=true,b:=true,c:=false,low:=0,D5:=31},true)) (.br (op==21) (.lf ({a:=true,b:=true,c:=false,low:=0,D5:=31},true)) (.br (op==22) (.lf ({a:=true,b:=true,c:=false,low:=0,D5:=31},true)) (.br (op==24) (.lf ({a:=true,b:=false,c:=false,low:=0,D5:=65535},true)) (.br (op==48) (.lf ({a:=true,b:=false,c:=false,low:=(-32768),D5:=32767},true)) (.br (op==58) (.lf ({a:=true,b:=false,c:=false,low:=0,D5:=7},true)) (.br (op==59) (.lf ({a:=true,b:=false,c:=false,low:=0,D5:=7},true)) (.br (op==60) (.lf ({a:=true,b:=false,c:=false,low:=0,D5:=11},true)) (.br (op==61) (.lf ({a:=true,b:=false,c:=false,low:=0,D5:=11},true)) (.br (op==56) (.lf ({a:=false,b:=false,c:=false,low:=0,D5:=0},true)) (.br (op==57) (.lf ({a:=false,b:=false,c:=false,low:=0,D5:=0},true)) (.br (op==62) (.lf ({a:=false,b:=false,c:=false,low:=0,D5:=0},true)) (.br (op==63) (.lf ({a:=false,b:=false,c:=false,low:=0,D5:=0},true)) (.br (op==64) (.lf ({a:=false,b:=false,c:=false,low:=0,D5:=0},true)) (.lf ({a:=false,b:=false,c:=false,low:=0,D5:=0},false)))))))))))))))))))))))))))))))))))))))))))))
def Z2m op:=(Zem op).m
def yA:Q0b:=mS 234 [] true [.one (.int .i64)] [] (λa r=>Zem (argI a 0)) (λX=> .tup [.agg (Q8h.cells (X.1)), .bool (X.2)]) (λX=>[])
theorem Z8k:Q04 pG yA:=oS (.nil) Tryz.func234 Tryz.call234 [] [] 2
def Q6y(x n:Int):Tree Int:=
.br (decide (n<1)) (.lf 0) (.br (decide (n>=32)) (.lf x) (let E1:=decide (0<=wrap u64 (wrap i64 (32-n))); .cn E1 (.cn E1 (.lf (wrap u32 (ishr i32 (wrap i32 (ishl u32 x (wrap u64 (wrap i64 (32-n))))) (wrap u64 (wrap i64 (32-n)))))))))
def Q2b x n:=(Q6y x n).m
abbrev Qb2 x n:=(Q6y x n).p
def Qwg:Q0b:=mT 235 [] true [.one (.int .u32), .one (.int .i64)] [] (λa r=>Q6y (argI a 0) (argI a 1)) (λX=> .int .u32 X) (λX=>[])
theorem Qja:Q04 pG Qwg:=oT (.nil) Tryz.func235 Tryz.call235 [] [] 2
def Qe2(r:Int)(used:Bool):Tree Bool:=
.br used (.br (decide (r>=0)) (.lf (decide (r<=15))) (.lf false)) (.lf (r==0))
def Q8y r used:=(Qe2 r used).m
def Z47:Q0b:=mS 277 [] true [.one (.int .i64), .one (.bool)] [] (λa r=>Qe2 (argI a 0) (argB a 1)) (λX=> .bool X) (λX=>[])
theorem Z2d:Q04 pG Z47:=oS (.nil) Tryz.func277 Tryz.call277 [] [] 2
def Qgy(i:Q0h):Tree Bool:=
.lv (Z2m i.Op) λ(x0:Q8h×Bool)=> .br x0.2 (.lv (Q8y i.A x0.1.a) λ(x1:Bool)=> .br x1 (.lv (Q8y i.B x0.1.b) λ(x2:Bool)=> .br x2 (.lv (Q8y i.C x0.1.c) λ(x3:Bool)=> .br x3 (.br (decide (i.Imm>=x0.1.low)) (.lf (decide (i.Imm<=x0.1.D5))) (.lf false)) (.lf false)) (.lf false)) (.lf false)) (.lf false)
def Qee i:=(Qgy i).m
def Zje:Q0b:=mS 236 [] true [.agg Q0h.sig] [] (λa r=>Qgy (Q0h.of (aC a 0))) (λX=> .bool X) (λX=>[])
theorem Zgm:Q04 pG Zje:=oS (.cons Z8k (.cons Z2d (.nil))) Tryz.func236 Tryz.call236 [] [] 2
def Q73(w:Int):Tree (Q0h×Bool):=
.an (Q4w w 24 8) (.lv (Q2q w 24 8) λ(x0:Int)=> .an (Q4w w 20 4) (.lv (Q2q w 20 4) λ(x1:Int)=> .an (Q4w w 16 4) (.lv (Q2q w 16 4) λ(x2:Int)=> .lv (Z2m (wrap i64 x0)) λ(x3:Q8h×Bool)=>let E1:=({Op:=0,A:=0,B:=0,C:=0,Imm:=0}:Q0h); .br (!x3.2) (.lf (E1,false)) (.an (Q4w w 0 16) (.lv (Q2q w 0 16) λ(x4:Int)=> .br x3.1.c (let E2:=({Op:=wrap i64 x0,A:=wrap i64 x1,B:=wrap i64 x2,C:=wrap i64 x4,Imm:=0}:Q0h); .lv (Qee E2) λ(x5:Bool)=> .br (!x5) (.lf (E1,false)) (.lf (E2,true))) (.br (decide (x3.1.low<0)) (.an (Qb2 x4 16) (.lv (Q2b x4 16) λ(x6:Int)=>let E3:=({Op:=wrap i64 x0,A:=wrap i64 x1,B:=wrap i64 x2,C:=0,Imm:=wrap i32 x6}:Q0h); .lv (Qee E3) λ(x7:Bool)=> .br (!x7) (.lf (E1,false)) (.lf (E3,true)))) (let E4:=({Op:=wrap i64 x0,A:=wrap i64 x1,B:=wrap i64 x2,C:=0,Imm:=wrap i32 x4}:Q0h); .lv (Qee E4) λ(x8:Bool)=> .br (!x8) (.lf (E1,false)) (.lf (E4,true)))))))))
def Qgq w:=(Q73 w).m
abbrev Qjz w:=(Q73 w).p
def Zfa:Q0b:=mT 180 [] true [.one (.int .u32)] [] (λa r=>Q73 (argI a 0)) (λX=> .tup [.agg (Q0h.cells (X.1)), .bool (X.2)]) (λX=>[])
theorem Zbj:Q04 pG Zfa:=oT (.cons Ql7 (.cons Z8k (.cons Qja (.cons Zgm (.nil))))) Tryz.func180 Tryz.call180 [] [] 2
def Q9s(a b:Int):Tree (Int×Int):=
.br (b==0) (.lf (4294967295,a)) (let T1:Tree ((Int×Int)):= .cn (decide (wrap i32 b≠0)) (.cn (decide (wrap i32 b≠0)) (.lf (wrap u32 (wrap i32 (eZ (wrap i32 a) (wrap i32 b))),wrap u32 (dF (wrap i32 a) (wrap i32 b))))); .br (a==2147483648) (.br (b==4294967295) (.lf (a,0)) T1) T1)
def Qaz a b:=(Q9s a b).m
abbrev Qid a b:=(Q9s a b).p
def Zbh:Q0b:=mT 279 [] true [.one (.int .u32), .one (.int .u32)] [] (λa r=>Q9s (argI a 0) (argI a 1)) (λX=> .tup [.int .u32 (X.1), .int .u32 (X.2)]) (λX=>[])
theorem Z45:Q04 pG Zbh:=oT (.nil) Tryz.func279 Tryz.call279 [] [] 2
def Z1k(b:Bool):Tree Int:=
.br b (.lf 1) (.lf 0)
def Qnr b:=(Z1k b).m
def Zj8:Q0b:=mS 280 [] true [.one (.bool)] [] (λa r=>Z1k (argB a 0)) (λX=> .int .u32 X) (λX=>[])
theorem Zcd:Q04 pG Zj8:=oS (.nil) Tryz.func280 Tryz.call280 [] [] 2
def Qok(op a b:Int):Tree (Int×Bool):=
.br (op==2) (.lf (wrap u32 (a+wrap u32 (0-b)),true)) (.br (op==1) (.lf (wrap u32 (a+b),true)) (.br (op==16) (.lf (wrap u32 (a+b),true)) (.br (op==3) (.lf (iand u32 a b,true)) (.br (op==17) (.lf (iand u32 a b,true)) (.br (op==4) (.lf (ior u32 a b,true)) (.br (op==18) (.lf (ior u32 a b,true)) (.br (op==5) (.lf (ixor u32 a b,true)) (.br (op==19) (.lf (ixor u32 a b,true)) (.br (op==6) (.lf (ishl u32 a (iand u32 b 31),true)) (.br (op==20) (.lf (ishl u32 a (iand u32 b 31),true)) (.br (op==7) (.lf (ishr u32 a (iand u32 b 31),true)) (.br (op==21) (.lf (ishr u32 a (iand u32 b 31),true)) (let E1:=(wrap u32 (ishr i32 (wrap i32 a) (iand u32 b 31)),true); .br (op==8) (.lf E1) (.br (op==22) (.lf E1) (.br (op==9) (.lf (wrap u32 (a*b),true)) (.br (op==10) (.an (Qid a b) (.lv (Qaz a b) λ(x0:Int×Int)=> .lf (x0.1,true))) (.br (op==11) (.an (Qid a b) (.lv (Qaz a b) λ(x1:Int×Int)=> .lf (x1.2,true))) (.br (op==12) (.lv (Qnr (decide (wrap i32 a<wrap i32 b))) λ(x2:Int)=> .lf (x2,true)) (.br (op==23) (.lv (Qnr (decide (wrap i32 a<wrap i32 b))) λ(x3:Int)=> .lf (x3,true)) (.br (op==13) (.lv (Qnr (decide (a<b))) λ(x4:Int)=> .lf (x4,true)) (.lf (0,false))))))))))))))))))))))
def Q42 op a b:=(Qok op a b).m
abbrev Qrk op a b:=(Qok op a b).p
def vA:Q0b:=mT 243 [] true [.one (.int .i64), .one (.int .u32), .one (.int .u32)] [] (λa r=>Qok (argI a 0) (argI a 1) (argI a 2)) (λX=> .tup [.int .u32 (X.1), .bool (X.2)]) (λX=>[])
theorem Zma:Q04 pG vA:=oT (.cons Z45 (.cons Zcd (.nil))) Tryz.func243 Tryz.call243 [] [] 2
end
noncomputable section
def Qpg(status from0 to:Int):Tree Int:=
.br (iand u32 status from0 !=0) (.lf (ior u32 status to)) (.lf (Qg7 u32 status to))
def Q8i status from0 to:=(Qpg status from0 to).m
def Zmg:Q0b:=mS 230 [] true [.one (.int .u32), .one (.int .u32), .one (.int .u32)] [] (λa r=>Qpg (argI a 0) (argI a 1) (argI a 2)) (λX=> .int .u32 X) (λX=>[])
theorem Z2q:Q04 pG Zmg:=oS (.nil) Tryz.func230 Tryz.call230 [] [] 2
def Ql1(c:Q02)(cause bad:Int):Tree Q02:=
.lv (Q8i c.B4.a0 1 8) λ(x0:Int)=> .lv (Q8i x0 2 16) λ(x1:Int)=> .lf ({X:=c.X,Pc:=c.B4.a1,B4:={a0:=Qg7 u32 (ior u32 x1 1) 2,a1:=c.B4.a1,a2:=c.Pc,a3:=wrap u32 cause,a4:=bad,a5:=c.B4.a5,a6:=c.B4.a6,a7:=c.B4.a7}})
def Q47 c cause bad:=(Ql1 c cause bad).m
def Zoa:Q0b:=mS 178 [] true [.agg Q02.sig, .one (.int .i64), .one (.int .u32)] [] (λa r=>Ql1 (Q02.of (aC a 0)) (argI a 1) (argI a 2)) (λX=> .agg (Q02.cells X)) (λX=>[])
theorem Qif:Q04 pG Zoa:=oS (.cons Z2q (.nil)) Tryz.func178 Tryz.call178 [] [] 2
def Qu5(access:Int):Tree (Int×Bool):=
.br (access==1) (.lf (4,true)) (.br (access==2) (.lf (5,true)) (.br (access==3) (.lf (6,true)) (.lf (5,false))))
def Qs8 access:=(Qu5 access).m
def Z9d:Q0b:=mS 272 [] true [.one (.int .i64)] [] (λa r=>Qu5 (argI a 0)) (λX=> .tup [.int .i64 (X.1), .bool (X.2)]) (λX=>[])
theorem Z50:Q04 pG Z9d:=oS (.nil) Tryz.func272 Tryz.call272 [] [] 2
def Qx7(c:Q02):Tree Bool:=
.lf (iand u32 c.B4.a0 (1:Int) !=(0:Int))
def Q9p c:=(Qx7 c).m
def Zgb:Q0b:=mS 182 [] true [.agg Q02.sig] [] (λa r=>Qx7 (Q02.of (aC a 0))) (λX=> .bool X) (λX=>[])
theorem Qso:Q04 pG Zgb:=oS (.nil) Tryz.func182 Tryz.call182 [] [] 2
def Qmj(access:Int):Tree (Int×Bool):=
.br (access==1) (.lf (4,true)) (.br (access==2) (.lf (5,true)) (.br (access==3) (.lf (6,true)) (.lf (5,false))))
def Qjx access:=(Qmj access).m
def Qzj:Q0b:=mS 306 [] true [.one (.int .i64)] [] (λa r=>Qmj (argI a 0)) (λX=> .tup [.int .i64 (X.1), .bool (X.2)]) (λX=>[])
theorem Qw6:Q04 pG Qzj:=oS (.nil) Tryz.func306 Tryz.call306 [] [] 2
def Qhk(m:List Int)(frame:Int):Tree Bool:=
.lv (Q0q m) λ(x0:Int)=> .lf (decide (wrap u64 frame<wrap u64 x0))
def Qa0 m frame:=(Qhk m frame).m
def Z0i:Q0b:=mS 307 [] true [.one (.ints .u32), .one (.int .u32)] [] (λa r=>Qhk (argL .u32 a 0) (argI a 1)) (λX=> .bool X) (λX=>[])
theorem Qys:Q04 pG Z0i:=oS (.cons Q3y (.nil)) Tryz.func307 Tryz.call307 [] [] 2
def Q5x(m:List Int)(addr size:Int):Tree (Int×Bool):=
.an (Q9v m addr size) (.lv (Qg m addr size) λ(x0:Bool)=> .br (!x0) (.lf (0,false)) (.cn (bS 1 1&&bT 0 1&&decide (0<=wrap u32 (eZ addr 4)/\wrap u32 (eZ addr 4)<(m.length:Int))) (let E1:=dG (wrap u32 (eZ addr 4)); .br (size==1) (let E2:=wrap i64 (wrap i64 (dF addr 4)*8); .an (Q4w (m.getD E1 0) E2 8) (.lv (Q2q (m.getD E1 0) E2 8) λ(x1:Int)=> .lf (x1,true))) (.lf (m.getD E1 0,true)))))
def Q4g m addr size:=(Q5x m addr size).m
abbrev Q35 m addr size:=(Q5x m addr size).p
def Zbg:Q0b:=mT 232 [] true [.one (.ints .u32), .one (.int .u32), .one (.int .i64)] [] (λa r=>Q5x (argL .u32 a 0) (argI a 1) (argI a 2)) (λX=> .tup [.int .u32 (X.1), .bool (X.2)]) (λX=>[])
theorem Qag:Q04 pG Zbg:=oT (.cons Qmx (.cons Ql7 (.nil))) Tryz.func232 Tryz.call232 [] [] 2
def Qmm(pte access:Int):Tree Bool:=
.br (iand u32 pte (1:Int)==(0:Int)) (.lf false) (.br (access==3) (.lf (iand u32 pte (2:Int) !=(0:Int))) (.br (access==1) (.lf (iand u32 pte (4:Int) !=(0:Int))) (.lf true)))
def Qai pte access:=(Qmm pte access).m
def Qyy:Q0b:=mS 308 [] true [.one (.int .u32), .one (.int .i64)] [] (λa r=>Qmm (argI a 0) (argI a 1)) (λX=> .bool X) (λX=>[])
theorem Qwf:Q04 pG Qyy:=oS (.nil) Tryz.func308 Tryz.call308 [] [] 2
def Q7o(pte:Int):Tree Int:=
.an (Q4w pte 8 8) (.lv (Q2q pte 8 8) λ(x0:Int)=> .lf x0)
def Qe7 pte:=(Q7o pte).m
abbrev Qcq pte:=(Q7o pte).p
def Qzc:Q0b:=mT 309 [] true [.one (.int .u32)] [] (λa r=>Q7o (argI a 0)) (λX=> .int .u32 X) (λX=>[])
theorem Qw9:Q04 pG Qzc:=oT (.cons Ql7 (.nil)) Tryz.func309 Tryz.call309 [] [] 2
def Q9y(m:List Int)(root va access:Int):Tree Q0z:=
.lv (Qjx access) λ(x0:Int×Bool)=>let E1:=({Addr:=0,F0:=0,E0:=x0.1}:Q0z); .br (!x0.2) (.lf (E1)) (.br (decide (va>=4096)) (.lf (E1)) (.lv (Qa0 m root) λ(x1:Bool)=> .br (!x1) (.lf (E1)) (let E2:=wrap u32 (root*128)+wrap u32 (4*wrap u32 (eZ va 128)); .an (Q35 m (wrap u32 E2) 4) (.lv (Q4g m (wrap u32 E2) 4) λ(x2:Int×Bool)=> .br (!x2.2) (.lf (E1)) (.lv (Qai x2.1 access) λ(x3:Bool)=> .br (!x3) (.lf (E1)) (.an (Qcq x2.1) (.lv (Qe7 x2.1) λ(x4:Int)=> .lv (Qa0 m x4) λ(x5:Bool)=> .br (!x5) (.lf (E1)) (.an (Qcq x2.1) (.lv (Qe7 x2.1) λ(x6:Int)=> .lf ({Addr:=wrap u32 (wrap u32 (x6*128)+dF va 128),F0:=wrap u32 E2,E0:=0}))))))))))
def Qin m root va access:=(Q9y m root va access).m
abbrev Qhq m root va access:=(Q9y m root va access).p
def Za5:Q0b:=mT 273 [] true [.one (.ints .u32), .one (.int .u32), .one (.int .u32), .one (.int .i64)] [] (λa r=>Q9y (argL .u32 a 0) (argI a 1) (argI a 2) (argI a 3)) (λX=> .agg (Q0z.cells X)) (λX=>[])
theorem Z4l:Q04 pG Za5:=oT (.cons Qw6 (.cons Qys (.cons Qag (.cons Qwf (.cons Qw9 (.nil)))))) Tryz.func273 Tryz.call273 [] [] 2
def Q7y(m:List Int)(entry access:Int):Tree (List Int):=
.an (Q35 m entry 4) (.lv (Q4g m entry 4) λ(x0:Int×Bool)=> .br (!x0.2) (.an (Q06 m) (.lv (Q03 m) λ(x1:List Int)=> .lf x1)) (.br (access==3) (.an (Qat m entry 4 (ior u32 (ior u32 x0.1 8) 16)) (.lv (Q8o m entry 4 (ior u32 (ior u32 x0.1 8) 16)) λ(x2:List Int×Bool)=> .lf x2.1)) (.an (Qat m entry 4 (ior u32 x0.1 8)) (.lv (Q8o m entry 4 (ior u32 x0.1 8)) λ(x3:List Int×Bool)=> .lf x3.1))))
def Qbk m entry access:=(Q7y m entry access).m
abbrev Qfi m entry access:=(Q7y m entry access).p
def Z5s:Q0b:=mT 274 [] true [.one (.ints .u32), .one (.int .u32), .one (.int .i64)] [] (λa r=>Q7y (argL .u32 a 0) (argI a 1) (argI a 2)) (λX=> .all 0) (λX=>[⟨false,25,1, .ints .u32 X⟩])
theorem Z1w:Q04 pG Z5s:=oT (.cons Qag (.cons Q1m (.cons Qng (.nil)))) Tryz.func274 Tryz.call274 [.row 25 1 (.ints .u32)] [] 2
def Q5y(c:Q02)(m:List Int)(va size access:Int):Tree (Int×(List Int)×Int):=
.lv (Qs8 access) λ(x0:Int×Bool)=>let T3:Tree ((Int×(List Int)×Int)):= .an (Q06 m) (.lv (Q03 m) λ(x1:List Int)=> .lf (0,x1,5)); .br (!x0.2) T3 (let T1:Tree ((Int×(List Int)×Int)):= .cn (decide (wrap u32 size≠0)) (.br (dF va (wrap u32 size) !=0) (.an (Q06 m) (.lv (Q03 m) λ(x3:List Int)=> .lf (0,x3,3))) (.lv (Q9p c) λ(x4:Bool)=>let T2:Tree ((Int×(List Int)×Int)):= .an (Q35 m va size) (.lv (Q4g m va size) λ(x8:Int×Bool)=> .br (!x8.2) (.an (Q06 m) (.lv (Q03 m) λ(x9:List Int)=> .lf (0,x9,x0.1))) (.an (Q06 m) (.lv (Q03 m) λ(x10:List Int)=> .lf (va,x10,0)))); .br (!x4) (.br (iand u32 c.B4.a0 (4:Int) !=(0:Int)) (.an (Qhq m c.B4.a6 va access) (.lv (Qin m c.B4.a6 va access) λ(x5:Q0z)=> .br (x5.E0 !=0) (.an (Q06 m) (.lv (Q03 m) λ(x6:List Int)=> .lf (0,x6,x5.E0))) (.an (Qfi m x5.F0 access) (.lv (Qbk m x5.F0 access) λ(x7:List Int)=> .lf (x5.Addr,x7,0))))) T2) T2)); .br (size !=1) (.br (size !=4) T3 T1) T1)
def Q1z c m va size access:=(Q5y c m va size access).m
abbrev Q8m c m va size access:=(Q5y c m va size access).p
def Z9l:Q0b:=mT 231 [] true [.agg Q02.sig, .one (.ints .u32), .one (.int .u32), .one (.int .i64), .one (.int .i64)] [] (λa r=>Q5y (Q02.of (aC a 0)) (argL .u32 a 1) (argI a 2) (argI a 3) (argI a 4)) (λX=> .tup [.int .u32 (X.1), .all 0, .int .i64 (X.2.2)]) (λX=>[⟨false,25,1, .ints .u32 (X.2.1)⟩])
theorem Qjw:Q04 pG Z9l:=oT (.cons Z50 (.cons Q1m (.cons Qso (.cons Z4l (.cons Z1w (.cons Qag (.nil))))))) Tryz.func231 Tryz.call231 [.row 25 1 (.ints .u32)] [] 2
def Qb6(c:Q02)(m:List Int):Tree (Int×(List Int)×Int):=
.an (Q8m c m c.Pc 4 1) (.lv (Q1z c m c.Pc 4 1) λ(x0:Int×List Int×Int)=> .br (x0.2.2 !=0) (.lf (0,x0.2.1,x0.2.2)) (.an (Q35 x0.2.1 x0.1 4) (.lv (Q4g x0.2.1 x0.1 4) λ(x1:Int×Bool)=> .lf (x1.1,x0.2.1,0))))
def Qnw c m:=(Qb6 c m).m
abbrev Qlx c m:=(Qb6 c m).p
def Zio:Q0b:=mT 179 [] true [.agg Q02.sig, .one (.ints .u32)] [] (λa r=>Qb6 (Q02.of (aC a 0)) (argL .u32 a 1)) (λX=> .tup [.int .u32 (X.1), .all 0, .int .i64 (X.2.2)]) (λX=>[⟨false,25,1, .ints .u32 (X.2.1)⟩])
theorem Zc6:Q04 pG Zio:=oT (.cons Qjw (.cons Qag (.nil))) Tryz.func179 Tryz.call179 [.row 25 1 (.ints .u32)] [] 2
def Qmo(op:Int):Tree Bool:=
.br (op==57) (.lf true) (.br (op==58) (.lf true) (.br (op==59) (.lf true) (.br (op==60) (.lf true) (.br (op==61) (.lf true) (.br (op==62) (.lf true) (.br (op==63) (.lf true) (.br (op==64) (.lf true) (.lf false))))))))
def Q84 op:=(Qmo op).m
def Qyj:Q0b:=mS 181 [] true [.one (.int .i64)] [] (λa r=>Qmo (argI a 0)) (λX=> .bool X) (λX=>[])
theorem Qvf:Q04 pG Qyj:=oS (.nil) Tryz.func181 Tryz.call181 [] [] 2
def Qs7(op:Int):Tree Int:=
.br (op==32) (.lf 4) (.br (op==35) (.lf 4) (.lf 1))
def Qed op:=(Qs7 op).m
def Zhr:Q0b:=mS 237 [] true [.one (.int .i64)] [] (λa r=>Qs7 (argI a 0)) (λX=> .int .i64 X) (λX=>[])
theorem Qxn:Q04 pG Zhr:=oS (.nil) Tryz.func237 Tryz.call237 [] [] 2
def Qcy(c:Q02)(register v:Int):Tree Q02:=
.br (register !=0) (.cn (bT 0 1&&decide (0<=register/\register<(↑16:Int))) (.lf ({X:=A16.of 0 (dH (A16.l c.X) register.toNat v),Pc:=c.Pc,B4:=c.B4}))) (.lf c)
def Qa7 c register v:=(Qcy c register v).m
abbrev Q7a c register v:=(Qcy c register v).p
def qB:Q0b:=mT 238 [] true [.agg Q02.sig, .one (.int .i64), .one (.int .u32)] [] (λa r=>Qcy (Q02.of (aC a 0)) (argI a 1) (argI a 2)) (λX=> .agg (Q02.cells X)) (λX=>[])
theorem Z6n:Q04 pG qB:=oT (.nil) Tryz.func238 Tryz.call238 [] [] 2
def Qdb(c:Q02)(m:List Int)(i:Q0h):Tree (Q02×(List Int)):=
.cn (bT 0 1&&decide (0<=i.B/\i.B<(↑16:Int))) (.lv (Qed i.Op) λ(x0:Int)=>let E1:=wrap u32 (aK (A16.l c.X) i.B.toNat 0+wrap u32 i.Imm); .an (Q8m c m E1 x0 2) (.lv (Q1z c m E1 x0 2) λ(x1:Int×List Int×Int)=> .br (x1.2.2 !=0) (.lv (Q47 c x1.2.2 E1) λ(x2:Q02)=> .lf (x2,x1.2.1)) (.lv (Qed i.Op) λ(x3:Int)=> .an (Q35 x1.2.1 x1.1 x3) (.lv (Q4g x1.2.1 x1.1 x3) λ(x4:Int×Bool)=> .br (i.Op==33) (.an (Qb2 x4.1 8) (.lv (Q2b x4.1 8) λ(x5:Int)=> .an (Q7a c i.A x5) (.lv (Qa7 c i.A x5) λ(x6:Q02)=> .lf ({X:=x6.X,Pc:=wrap u32 (x6.Pc+4),B4:=x6.B4},x1.2.1)))) (.an (Q7a c i.A x4.1) (.lv (Qa7 c i.A x4.1) λ(x7:Q02)=> .lf ({X:=x7.X,Pc:=wrap u32 (x7.Pc+4),B4:=x7.B4},x1.2.1)))))))
def Q5n c m i:=(Qdb c m i).m
abbrev Qxv c m i:=(Qdb c m i).p
def Zoj:Q0b:=mT 183 [] true [.agg Q02.sig, .one (.ints .u32), .agg Q0h.sig] [] (λa r=>Qdb (Q02.of (aC a 0)) (argL .u32 a 1) (Q0h.of (aC a 2))) (λX=> .tup [.agg (Q02.cells (X.1)), .all 0]) (λX=>[⟨false,25,1, .ints .u32 (X.2)⟩])
theorem Zjf:Q04 pG Zoj:=oT (.cons Qjw (.cons Qxn (.cons Qif (.cons Qag (.cons Qja (.cons Z6n (.nil))))))) Tryz.func183 Tryz.call183 [.row 25 1 (.ints .u32)] [] 2
def Qb9(c:Q02)(m:List Int)(i:Q0h):Tree (Q02×(List Int)):=
.cn (bT 0 1&&decide (0<=i.B/\i.B<(↑16:Int))) (.lv (Qed i.Op) λ(x0:Int)=>let E1:=wrap u32 (aK (A16.l c.X) i.B.toNat 0+wrap u32 i.Imm); .an (Q8m c m E1 x0 3) (.lv (Q1z c m E1 x0 3) λ(x1:Int×List Int×Int)=> .br (x1.2.2 !=0) (.lv (Q47 c x1.2.2 E1) λ(x2:Q02)=> .lf (x2,x1.2.1)) (.lv (Qed i.Op) λ(x3:Int)=> .cn (bT 0 1&&decide (0<=i.A/\i.A<(↑16:Int))) (let E2:=aK (A16.l c.X) i.A.toNat 0; .an (Qat x1.2.1 x1.1 x3 E2) (.lv (Q8o x1.2.1 x1.1 x3 E2) λ(x4:List Int×Bool)=> .lf ({X:=c.X,Pc:=wrap u32 (c.Pc+4),B4:=c.B4},x4.1))))))
def Q7r c m i:=(Qb9 c m i).m
abbrev Quk c m i:=(Qb9 c m i).p
def Zh0:Q0b:=mT 184 [] true [.agg Q02.sig, .one (.ints .u32), .agg Q0h.sig] [] (λa r=>Qb9 (Q02.of (aC a 0)) (argL .u32 a 1) (Q0h.of (aC a 2))) (λX=> .tup [.agg (Q02.cells (X.1)), .all 0]) (λX=>[⟨false,25,1, .ints .u32 (X.2)⟩])
theorem Zdl:Q04 pG Zh0:=oT (.cons Qjw (.cons Qxn (.cons Qif (.cons Qng (.nil))))) Tryz.func184 Tryz.call184 [.row 25 1 (.ints .u32)] [] 2
def Z2h(op a b:Int):Tree Bool:=
.br (op==40) (.lf (a==b)) (.br (op==41) (.lf (a !=b)) (.br (op==42) (.lf (decide (wrap i32 a<wrap i32 b))) (.br (op==43) (.lf (decide (wrap i32 a>=wrap i32 b))) (.br (op==44) (.lf (decide (a<b))) (.lf (decide (a>=b)))))))
def Zg6 op a b:=(Z2h op a b).m
def Zgv:Q0b:=mS 240 [] true [.one (.int .i64), .one (.int .u32), .one (.int .u32)] [] (λa r=>Z2h (argI a 0) (argI a 1) (argI a 2)) (λX=> .bool X) (λX=>[])
theorem Ze3:Q04 pG Zgv:=oS (.nil) Tryz.func240 Tryz.call240 [] [] 2
def Qf4(c:Q02):Tree Q02:=
.lv (Q8i c.B4.a0 8 1) λ(x0:Int)=> .lv (Q8i x0 16 2) λ(x1:Int)=> .lf ({X:=c.X,Pc:=c.B4.a2,B4:={a0:=x1,a1:=c.B4.a1,a2:=c.B4.a2,a3:=c.B4.a3,a4:=c.B4.a4,a5:=c.B4.a5,a6:=c.B4.a6,a7:=c.B4.a7}})
def Qdi c:=(Qf4 c).m
def Zek:Q0b:=mS 241 [] true [.agg Q02.sig] [] (λa r=>Qf4 (Q02.of (aC a 0))) (λX=> .agg (Q02.cells X)) (λX=>[])
theorem Z9a:Q04 pG Zek:=oS (.cons Z2q (.nil)) Tryz.func241 Tryz.call241 [] [] 2
def Qb(c:Q02)(csr v:Int):Tree Q02:=
let E4:=bT 0 1&&decide (0<=csr/\csr<(↑8:Int));let T2:Tree (Q02):= .cn E4 (.lf ({X:=c.X,Pc:=c.Pc,B4:=A8.of 0 (dH (A8.l c.B4) csr.toNat (iand u32 v 31))})); .br (csr==0) T2 (.br (csr==7) T2 (.br (csr==6) (.cn E4 (.lf ({X:=c.X,Pc:=c.Pc,B4:=A8.of 0 (dH (A8.l c.B4) csr.toNat (iand u32 v 255))}))) (let T3:Tree (Q02):= .cn E4 (.lf ({X:=c.X,Pc:=c.Pc,B4:=A8.of 0 (dH (A8.l c.B4) csr.toNat (Qg7 u32 v 3))})); .br (csr==1) T3 (.br (csr==2) T3 (let T1:Tree (Q02):= .cn E4 (.lf ({X:=c.X,Pc:=c.Pc,B4:=A8.of 0 (dH (A8.l c.B4) csr.toNat v)})); .br (csr==3) T1 (.br (csr==4) T1 (.br (csr==5) T1 (.lf c))))))))
def Zfe c csr v:=(Qb c csr v).m
abbrev Qse c csr v:=(Qb c csr v).p
def Zhz:Q0b:=mT 242 [] true [.agg Q02.sig, .one (.int .i64), .one (.int .u32)] [] (λa r=>Qb (Q02.of (aC a 0)) (argI a 1) (argI a 2)) (λX=> .agg (Q02.cells X)) (λX=>[])
theorem Zdg:Q04 pG Zhz:=oT (.nil) Tryz.func242 Tryz.call242 [] [] 2
def Q4q(c:Q02)(i:Q0h):Tree (Q02×Q0w):=
.cn (bT 0 1&&decide (0<=i.A/\i.A<(↑16:Int))) (.cn (bT 0 1&&decide (0<=i.B/\i.B<(↑16:Int))) (.br (i.Op==24) (.an (Q7a c i.A (ishl u32 (wrap u32 i.Imm) 16)) (.lv (Qa7 c i.A (ishl u32 (wrap u32 i.Imm) 16)) λ(x0:Q02)=> .lf ({X:=x0.X,Pc:=wrap u32 (c.Pc+4),B4:=x0.B4},{C3:=0,C7:=0,D7:=0,Value:=0}))) (let E2:=({X:=c.X,Pc:=wrap u32 (c.Pc+4),B4:=c.B4}:Q02);let E3:=aK (A16.l c.X) i.B.toNat 0;let E4:=aK (A16.l c.X) i.A.toNat 0;let T1:Tree ((Q02×Q0w)):= .lv (Zg6 i.Op E4 E3) λ(x1:Bool)=> .br x1 (.lf ({X:=c.X,Pc:=wrap u32 (c.Pc+wrap u32 (4*wrap u32 i.Imm)),B4:=c.B4},{C3:=0,C7:=0,D7:=0,Value:=0})) (.lf (E2,{C3:=0,C7:=0,D7:=0,Value:=0})); .br (i.Op==40) T1 (.br (i.Op==41) T1 (.br (i.Op==42) T1 (.br (i.Op==43) T1 (.br (i.Op==44) T1 (.br (i.Op==45) T1 (.br (i.Op==48) (.an (Q7a c i.A (wrap u32 (c.Pc+4))) (.lv (Qa7 c i.A (wrap u32 (c.Pc+4))) λ(x7:Q02)=> .lf ({X:=x7.X,Pc:=wrap u32 (x7.Pc+wrap u32 (4*wrap u32 i.Imm)),B4:=x7.B4},{C3:=0,C7:=0,D7:=0,Value:=0}))) (.br (i.Op==49) (.an (Q7a c i.A (wrap u32 (c.Pc+4))) (.lv (Qa7 c i.A (wrap u32 (c.Pc+4))) λ(x8:Q02)=> .lf ({X:=x8.X,Pc:=wrap u32 (aK (A16.l c.X) i.B.toNat 0+wrap u32 i.Imm),B4:=x8.B4},{C3:=0,C7:=0,D7:=0,Value:=0}))) (.br (i.Op==56) (.lv (Q47 c 7 0) λ(x9:Q02)=> .lf (x9,{C3:=0,C7:=0,D7:=0,Value:=0})) (.br (i.Op==57) (.lv (Qdi c) λ(x10:Q02)=> .lf (x10,{C3:=0,C7:=0,D7:=0,Value:=0})) (.br (i.Op==58) (.cn (bT 0 1&&decide (0<=i.Imm/\i.Imm<(↑8:Int))) (let E5:=aK (A8.l c.B4) i.Imm.toNat 0; .an (Q7a c i.A E5) (.lv (Qa7 c i.A E5) λ(x11:Q02)=> .lf ({X:=x11.X,Pc:=wrap u32 (c.Pc+4),B4:=x11.B4},{C3:=0,C7:=0,D7:=0,Value:=0})))) (.br (i.Op==59) (.an (Qse c (wrap i64 i.Imm) E4) (.lv (Zfe c (wrap i64 i.Imm) E4) λ(x12:Q02)=> .lf ({X:=x12.X,Pc:=wrap u32 (c.Pc+4),B4:=x12.B4},{C3:=0,C7:=0,D7:=0,Value:=0}))) (.br (i.Op==60) (.lf (E2,{C3:=1,C7:=wrap i64 i.Imm,D7:=i.A,Value:=0})) (.br (i.Op==61) (.lf (E2,{C3:=2,C7:=wrap i64 i.Imm,D7:=0,Value:=aK (A16.l c.X) i.A.toNat 0})) (.br (i.Op==62) (.lf (E2,{C3:=3,C7:=0,D7:=0,Value:=0})) (.br (i.Op==63) (.lf (E2,{C3:=5,C7:=0,D7:=0,Value:=0})) (.br (i.Op==64) (.lf (E2,{C3:=4,C7:=0,D7:=0,Value:=0})) (.cn (bT 0 1&&decide (0<=i.C/\i.C<(↑16:Int))) (.br (decide (i.Op>=16)) (.an (Qrk i.Op E3 (wrap u32 i.Imm)) (.lv (Q42 i.Op E3 (wrap u32 i.Imm)) λ(x13:Int×Bool)=> .an (Q7a c i.A x13.1) (.lv (Qa7 c i.A x13.1) λ(x14:Q02)=> .lf ({X:=x14.X,Pc:=wrap u32 (c.Pc+4),B4:=x14.B4},{C3:=0,C7:=0,D7:=0,Value:=0})))) (let E6:=aK (A16.l c.X) i.C.toNat 0; .an (Qrk i.Op E3 E6) (.lv (Q42 i.Op E3 E6) λ(x15:Int×Bool)=> .an (Q7a c i.A x15.1) (.lv (Qa7 c i.A x15.1) λ(x16:Q02)=> .lf ({X:=x16.X,Pc:=wrap u32 (c.Pc+4),B4:=x16.B4},{C3:=0,C7:=0,D7:=0,Value:=0})))))))))))))))))))))))))
def Qm5 c i:=(Q4q c i).m
abbrev Qne c i:=(Q4q c i).p
def Zar:Q0b:=mT 185 [] true [.agg Q02.sig, .agg Q0h.sig] [] (λa r=>Q4q (Q02.of (aC a 0)) (Q0h.of (aC a 1))) (λX=> .tup [.agg (Q02.cells (X.1)), .agg (Q0w.cells (X.2))]) (λX=>[])
theorem Z4q:Q04 pG Zar:=oT (.cons Z6n (.cons Ze3 (.cons Qif (.cons Z9a (.cons Zdg (.cons Zma (.nil))))))) Tryz.func185 Tryz.call185 [] [] 2
def Q6p(c:Q02)(m:List Int):Tree (Q02×(List Int)×Q0w):=
.an (Qlx c m) (.lv (Qnw c m) λ(x0:Int×List Int×Int)=> .br (x0.2.2 !=0) (.lv (Q47 c x0.2.2 c.Pc) λ(x1:Q02)=> .lf (x1,x0.2.1,{C3:=0,C7:=0,D7:=0,Value:=0})) (.an (Qjz x0.1) (.lv (Qgq x0.1) λ(x2:Q0h×Bool)=> .br (!x2.2) (.lv (Q47 c 1 x0.1) λ(x3:Q02)=> .lf (x3,x0.2.1,{C3:=0,C7:=0,D7:=0,Value:=0})) (.lv (Q84 x2.1.Op) λ(x4:Bool)=>let T1:Tree ((Q02×(List Int)×Q0w)):=let T2:Tree ((Q02×(List Int)×Q0w)):= .an (Qxv c x0.2.1 x2.1) (.lv (Q5n c x0.2.1 x2.1) λ(x7:Q02×List Int)=> .lf (x7.1,x7.2,{C3:=0,C7:=0,D7:=0,Value:=0})); .br (x2.1.Op==32) T2 (.br (x2.1.Op==33) T2 (.br (x2.1.Op==34) T2 (let T3:Tree ((Q02×(List Int)×Q0w)):= .an (Quk c x0.2.1 x2.1) (.lv (Q7r c x0.2.1 x2.1) λ(x10:Q02×List Int)=> .lf (x10.1,x10.2,{C3:=0,C7:=0,D7:=0,Value:=0})); .br (x2.1.Op==35) T3 (.br (x2.1.Op==36) T3 (.an (Qne c x2.1) (.lv (Qm5 c x2.1) λ(x12:Q02×Q0w)=> .lf (x12.1,x0.2.1,x12.2))))))); .br x4 (.lv (Q9p c) λ(x5:Bool)=> .br (!x5) (.lv (Q47 c 2 x0.1) λ(x6:Q02)=> .lf (x6,x0.2.1,{C3:=0,C7:=0,D7:=0,Value:=0})) T1) T1))))
def Q6j c m:=(Q6p c m).m
abbrev Qeb c m:=(Q6p c m).p
def Zof:Q0b:=mT 114 [] true [.agg Q02.sig, .one (.ints .u32)] [] (λa r=>Q6p (Q02.of (aC a 0)) (argL .u32 a 1)) (λX=> .tup [.agg (Q02.cells (X.1)), .all 0, .agg (Q0w.cells (X.2.2))]) (λX=>[⟨false,25,1, .ints .u32 (X.2.1)⟩])
theorem Z1r:Q04 pG Zof:=oT (.cons Zc6 (.cons Qif (.cons Zbj (.cons Qvf (.cons Qso (.cons Zjf (.cons Zdl (.cons Z4q (.nil))))))))) Tryz.func114 Tryz.call114 [.row 25 1 (.ints .u32)] [] 2
end
noncomputable section
def tblYc0:List UInt8:=[(0:UInt8),1,2,2,3,3,3,3,4,4,4,4,4,4,4,4,5,5,5,5,5,5,5,5,5,5,5,5,5,5,5,5,6,6,6,6,6,6,6,6,6,6,6,6,6,6,6,6,6,6,6,6,6,6,6,6,6,6,6,6,6,6,6,6]
def Zd5:List UInt8:=[(7:UInt8),7,7,7,7,7,7,7,7,7,7,7,7,7,7,7,7,7,7,7,7,7,7,7,7,7,7,7,7,7,7,7,7,7,7,7,7,7,7,7,7,7,7,7,7,7,7,7,7,7,7,7,7,7,7,7,7,7,7,7,7,7,7,7]
def Qqx:List UInt8:=[(8:UInt8),8,8,8,8,8,8,8,8,8,8,8,8,8,8,8,8,8,8,8,8,8,8,8,8,8,8,8,8,8,8,8,8,8,8,8,8,8,8,8,8,8,8,8,8,8,8,8,8,8,8,8,8,8,8,8,8,8,8,8,8,8,8,8]
def Zke:List UInt8:=[(1:UInt8),2,2,3,3,3,3,4,4,4,4,4,4,4,4,5,5,5,5,5,5,5,5,5,5,5,5,5,5,5,5,6,6,6,6,6,6,6,6,6,6,6,6,6,6,6,6,6,6,6,6,6,6,6,6,6,6,6,6,6,6,6,6]
def tblYc4:List UInt8:=[(0:UInt8),1,1,2,1,2,2,3,1,2,2,3,2,3,3,4,1,2,2,3,2,3,3,4,2,3,3,4,3,4,4,5,1,2,2,3,2,3,3,4,2,3,3,4,3,4,4,5,2,3,3,4,3,4,4,5,3,4,4,5,4,5,5,6]
def Qrc:List UInt8:=[(1:UInt8),2,2,3,2,3,3,4,2,3,3,4,3,4,4,5,2,3,3,4,3,4,4,5,3,4,4,5,4,5,5,6,2,3,3,4,3,4,4,5,3,4,4,5,4,5,5,6,3,4,4,5,4,5,5,6,4,5,5,6,5,6,6,7]
def Ze:List UInt8:=[(2:UInt8),3,3,4,3,4,4,5,3,4,4,5,4,5,5,6,3,4,4,5,4,5,5,6,4,5,5,6,5,6,6,7,3,4,4,5,4,5,5,6,4,5,5,6,5,6,6,7,4,5,5,6,5,6,6,7,5,6,6,7,6,7,7,8]
def Zku:List UInt8:=[(1:UInt8),1,2,1,2,2,3,1,2,2,3,2,3,3,4,1,2,2,3,2,3,3,4,2,3,3,4,3,4,4,5,1,2,2,3,2,3,3,4,2,3,3,4,3,4,4,5,2,3,3,4,3,4,4,5,3,4,4,5,4,5,5,6]
def Qto(c:Q0c):Tree Bool:=
.lf (decide ((c.D0.length:Int)<=(16:Int)))
def Q2c c:=(Qto c).m
def Z9r:Q0b:=mS 171 [] true [.agg Q0c.sig] [] (λa r=>Qto (Q0c.of (aC a 0))) (λX=> .bool X) (λX=>[])
theorem Z4g:Q04 pG Z9r:=oS (.nil) Tryz.func171 Tryz.call171 [] [] 2
def Qlu(t:Q0i):Tree Bool:=
.br t.D2 (.br (!t.D1) (.lf (t.C4 !=0)) (.lf false)) (.br t.D1 (.lf true) (.lf (t.C4==0)))
def Q3w t:=(Qlu t).m
def Zi1:Q0b:=mS 172 [] true [.agg Q0i.sig] [] (λa r=>Qlu (Q0i.of (aC a 0))) (λX=> .bool X) (λX=>[])
theorem Zc7:Q04 pG Zi1:=oS (.nil) Tryz.func172 Tryz.call172 [] [] 2
def Q3e(d0:Q0d):Tree Bool:=
.br (d0.D4==1) (.lf (decide (d0.B7=[]))) (.br (d0.D4==2) (.lf ((d0.B7.length:Int)==(128:Int))) (.lf false))
def Q6u d0:=(Q3e d0).m
def Qvp:Q0b:=mS 227 [] true [.agg Q0d.sig] [] (λa r=>Q3e (Q0d.of (aC a 0))) (λX=> .bool X) (λX=>[])
theorem Qua:Q04 pG Qvp:=oS (.nil) Tryz.func227 Tryz.call227 [] [] 2
def Q4d(d0:Q0d)(pages:Int):Tree Bool:=
.br (decide (d0.Blocks>64)) (.lf false) (let T1:Tree (Bool):= .br (d0.D4==0) (.br (d0.B5==0) (.br (d0.B2==0) (.lf (decide (d0.B7=[]))) (.lf false)) (.lf false)) (.lf false); .br (d0.B8==0) T1 (.br (d0.B8==2) T1 (.br (d0.B8==3) T1 (.br (d0.B8==1) (.lv (Q6u d0) λ(x0:Bool)=> .br x0 (.br (decide (d0.B5<d0.Blocks)) (.lf (decide (wrap i64 d0.B2<pages))) (.lf false)) (.lf false)) (.lf false)))))
def Q18 d0 pages:=(Q4d d0 pages).m
def Zo6:Q0b:=mS 173 [] true [.agg Q0d.sig, .one (.int .i64)] [] (λa r=>Q4d (Q0d.of (aC a 0)) (argI a 1)) (λX=> .bool X) (λX=>[])
theorem Zi5:Q04 pG Zo6:=oS (.cons Qua (.nil)) Tryz.func173 Tryz.call173 [] [] 2
def Qkj(n:Q0n)(pages:Int):Tree Bool:=
let T1:Tree (Bool):=let T2:Tree (Bool):= .br n.B6 (.br (decide (n.D9>=1)) (.lf (decide (n.D9<=128))) (.lf false)) (.lf (n.D9==0)); .br n.C5 (.br (decide (wrap i64 n.C0>=pages)) (.lf false) T2) (.br (n.C0 !=0) (.lf false) T2); .br n.C5 (.br n.B6 (.lf false) T1) T1
def Q5g n pages:=(Qkj n pages).m
def xB:Q0b:=mS 174 [] true [.agg Q0n.sig, .one (.int .i64)] [] (λa r=>Qkj (Q0n.of (aC a 0)) (argI a 1)) (λX=> .bool X) (λX=>[])
theorem Zoh:Q04 pG xB:=oS (.nil) Tryz.func174 Tryz.call174 [] [] 2
def Q1n(x:Int):Tree Int:=
let E1:=(↑(dL (cS (cS tblYc0 Zd5) (cS Qqx Qqx))):Int); .br (decide (x>=65536)) (.br (decide (ishr u32 x (16:Int)>=(256:Int))) (.cn (decide (0<=wrap u8 (ishr u32 (ishr u32 x 16) 8)/\wrap u8 (ishr u32 (ishr u32 x 16) 8)<E1)) (.lf (wrap i64 (wrap i64 ((16:Int)+(8:Int))+wrap i64 (↑(fB (aK ((0:UInt8)::(Zke++Zd5++(Qqx++Qqx))) (dG (wrap u8 (ishr u32 (ishr u32 x 16) 8))) (0:UInt8))):Int))))) (.cn (decide (0<=wrap u8 (ishr u32 x 16)/\wrap u8 (ishr u32 x 16)<E1)) (.lf (wrap i64 (16+wrap i64 (↑(fB (aK ((0:UInt8)::(Zke++Zd5++(Qqx++Qqx))) (dG (wrap u8 (ishr u32 x 16))) (0:UInt8))):Int)))))) (.br (decide (x>=256)) (.cn (decide (0<=wrap u8 (ishr u32 x 8)/\wrap u8 (ishr u32 x 8)<E1)) (.lf (wrap i64 (wrap i64 ((0:Int)+(8:Int))+wrap i64 (↑(fB (aK ((0:UInt8)::(Zke++Zd5++(Qqx++Qqx))) (dG (wrap u8 (ishr u32 x 8))) (0:UInt8))):Int))))) (.cn (decide (0<=wrap u8 x/\wrap u8 x<E1)) (.lf (wrap i64 (0+wrap i64 (↑(fB (aK ((0:UInt8)::(Zke++Zd5++(Qqx++Qqx))) (dG (wrap u8 x)) (0:UInt8))):Int))))))
def Q1g x:=(Q1n x).m
abbrev Qbd x:=(Q1n x).p
def Qwi:Q0b:=mT 228 [] true [.one (.int .u32)] [] (λa r=>Q1n (argI a 0)) (λX=> .int .i64 X) (λX=>[])
theorem Qtm:Q04 pG Qwi:=oT (.nil) Tryz.func228 Tryz.call228 [] [] 2
def Q3r(b:Q07)(pages:Int):Tree Bool:=
.an (Qbd b.C2) (.lv (Q1g b.C2) λ(x0:Int)=> .lf (decide (x0<=if 0>pages then 0 else pages)))
def Q2j b pages:=(Q3r b pages).m
abbrev Qcv b pages:=(Q3r b pages).p
def Z9g:Q0b:=mT 175 [] true [.agg Q07.sig, .one (.int .i64)] [] (λa r=>Q3r (Q07.of (aC a 0)) (argI a 1)) (λX=> .bool X) (λX=>[])
theorem Z4w:Q04 pG Z9g:=oT (.cons Qtm (.nil)) Tryz.func175 Tryz.call175 [] [] 2
def Q11(m:Q00):Tree Bool:=
.lv (Q0q m.Mem) λ(x0:Int)=> .lv (Q2c m.A2) λ(x1:Bool)=> .br x1 (.lv (Q3w m.A7) λ(x2:Bool)=> .br x2 (.lv (Q18 m.A9 x0) λ(x3:Bool)=> .br x3 (.lv (Q5g m.B9 x0) λ(x4:Bool)=> .br x4 (.an (Qcv m.A1 x0) (.lv (Q2j m.A1 x0) λ(x5:Bool)=> .lf x5)) (.lf false)) (.lf false)) (.lf false)) (.lf false)
def Q0r m:=(Q11 m).m
abbrev Q2k m:=(Q11 m).p
def Qq8:Q0b:=mT 92 [] true [.agg Q00.sig] [] (λa r=>Q11 (Q00.of (aC a 0))) (λX=> .bool X) (λX=>[])
theorem Qoy:Q04 pG Qq8:=oT (.cons Q3y (.cons Z4g (.cons Zc7 (.cons Zi5 (.cons Zoh (.cons Z4w (.nil))))))) Tryz.func92 Tryz.call92 [] [] 2
def Q4n(m:Q00):Tree Bool:=
.lv (Q0q m.Mem) λ(x0:Int)=> .br (x0==0) (.lf false) (.br (m.B1.X.a0 !=0) (.lf false) (.br (decide (m.B1.B4.a0>31)) (.lf false) (.br (decide (m.B1.B4.a7>31)) (.lf false) (.br (decide (m.B1.B4.a6>255)) (.lf false) (.br (dF m.B1.B4.a1 (4:Int) !=(0:Int)) (.lf false) (.br (decide (m.A4>1152921504606846976)) (.lf false) (.br m.A3 (.br m.A6 (.lf false) (.an (Q2k m) (.lv (Q0r m) λ(x1:Bool)=> .lf x1))) (.an (Q2k m) (.lv (Q0r m) λ(x2:Bool)=> .lf x2)))))))))
def Q14 m:=(Q4n m).m
abbrev Q40 m:=(Q4n m).p
def Zak:Q0b:=mT 24 [] true [.agg Q00.sig] [] (λa r=>Q4n (Q00.of (aC a 0))) (λX=> .bool X) (λX=>[])
theorem Qjq:Q04 pG Zak:=oT (.cons Q3y (.cons Qoy (.nil))) Tryz.func24 Tryz.call24 [] [] 2
def Qob(t:Q0i):Tree Bool:=
.lf t.D1
def Qg6 t:=(Qob t).m
def Z3s:Q0b:=mS 99 [] true [.agg Q0i.sig] [] (λa r=>Qob (Q0i.of (aC a 0))) (λX=> .bool X) (λX=>[])
theorem Qyv:Q04 pG Z3s:=oS (.nil) Tryz.func99 Tryz.call99 [] [] 2
def Ql3(c:Q0c):Tree Bool:=
.lf (!decide (c.D0=[]))
def Q9e c:=(Ql3 c).m
def Qw1:Q0b:=mS 100 [] true [.agg Q0c.sig] [] (λa r=>Ql3 (Q0c.of (aC a 0))) (λX=> .bool X) (λX=>[])
theorem Qu8:Q04 pG Qw1:=oS (.nil) Tryz.func100 Tryz.call100 [] [] 2
def Qjt(d0:Q0d):Tree Bool:=
.br (d0.B8==2) (.lf true) (.lf (d0.B8==3))
def Q8s d0:=(Qjt d0).m
def Z5p:Q0b:=mS 101 [] true [.agg Q0d.sig] [] (λa r=>Qjt (Q0d.of (aC a 0))) (λX=> .bool X) (λX=>[])
theorem Qp9:Q04 pG Z5p:=oS (.nil) Tryz.func101 Tryz.call101 [] [] 2
def Qtv(n:Q0n):Tree Bool:=
.lf n.B6
def Qmd n:=(Qtv n).m
def Zbd:Q0b:=mS 102 [] true [.agg Q0n.sig] [] (λa r=>Qtv (Q0n.of (aC a 0))) (λX=> .bool X) (λX=>[])
theorem Z4n:Q04 pG Zbd:=oS (.nil) Tryz.func102 Tryz.call102 [] [] 2
def Q2v(x:Int):Tree Int:=
let E1:=(↑(dL (cS (cS tblYc4 Qrc) (cS Qrc Ze))):Int); .cn (decide (0<=ishr u32 x 24/\ishr u32 x 24<E1)) (.cn (decide (0<=iand u32 (ishr u32 x 16) 255/\iand u32 (ishr u32 x 16) 255<E1)) (.cn (decide (0<=iand u32 (ishr u32 x 8) 255/\iand u32 (ishr u32 x 8) 255<E1)) (.cn (decide (0<=iand u32 x 255/\iand u32 x 255<E1)) (.lf (wrap i64 (wrap u8 (wrap u8 (wrap u8 ((↑(fB (aK ((0:UInt8)::(Zku++Qrc++(Qrc++Ze))) (dG (ishr u32 x 24)) (0:UInt8))):Int)+(↑(fB (aK ((0:UInt8)::(Zku++Qrc++(Qrc++Ze))) (dG (iand u32 (ishr u32 x 16) 255)) (0:UInt8))):Int))+(↑(fB (aK ((0:UInt8)::(Zku++Qrc++(Qrc++Ze))) (dG (iand u32 (ishr u32 x 8) 255)) (0:UInt8))):Int))+(↑(fB (aK ((0:UInt8)::(Zku++Qrc++(Qrc++Ze))) (dG (iand u32 x 255)) (0:UInt8))):Int))))))))
def Q61 x:=(Q2v x).m
abbrev Qab x:=(Q2v x).p
def Qls:Q0b:=mT 229 [] true [.one (.int .u32)] [] (λa r=>Q2v (argI a 0)) (λX=> .int .i64 X) (λX=>[])
theorem Qko:Q04 pG Qls:=oT (.nil) Tryz.func229 Tryz.call229 [] [] 2
def Q97(b:Q07):Tree Int:=
.an (Qab b.C2) (.lv (Q61 b.C2) λ(x0:Int)=> .lf x0)
def Qcc b:=(Q97 b).m
abbrev Qdl b:=(Q97 b).p
def Z39:Q0b:=mT 176 [] true [.agg Q07.sig] [] (λa r=>Q97 (Q07.of (aC a 0))) (λX=> .int .i64 X) (λX=>[])
theorem Qmy:Q04 pG Z39:=oT (.cons Qko (.nil)) Tryz.func176 Tryz.call176 [] [] 2
def Q4y(b:Q07):Tree Bool:=
.an (Qdl b) (.lv (Qcc b) λ(x0:Int)=> .lf (wrap u32 x0 !=b.C6))
def Q6l b:=(Q4y b).m
abbrev Qi3 b:=(Q4y b).p
def Qwd:Q0b:=mT 103 [] true [.agg Q07.sig] [] (λa r=>Q4y (Q07.of (aC a 0))) (λX=> .bool X) (λX=>[])
theorem Qub:Q04 pG Qwd:=oT (.cons Qmy (.nil)) Tryz.func103 Tryz.call103 [] [] 2
def Qht(m:Q00)(z:(Int)×(Int)):Nat:=(5-z.2).toNat
def Q6x(m:Q00):Tree Int:=
.lv (Qg6 m.A7) λ(x0:Bool)=> .lv (Q9e m.A2) λ(x1:Bool)=> .lv (Q8s m.A9) λ(x2:Bool)=> .lv (Qmd m.B9) λ(x3:Bool)=> .an (Qi3 m.A1) (.lv (Q6l m.A1) λ(x4:Bool)=> .lp inferInstance (Qht m (0,0)+1) ((rE (0:Int)/\(rE (x0:Bool)/\rE (x1:Bool)/\rE (x2:Bool)/\rE (x3:Bool)/\rE (x4:Bool)/\True)/\rE (0:Int)/\True)/\True) (0,0) λ(v0:Int×Int)=> .br (decide (v0.2<5)) (.cn (bS 1 1&&(bS 5 5&&decide (0<=v0.2/\v0.2<(↑5:Int)))) (.br (aK [x0,x1,x2,x3,x4] v0.2.toNat false) (.cn (decide (0<=v0.2)) (.nx ((rE ((ior u32 v0.1 (ishl u32 1 v0.2)):Int)/\(rE (x0:Bool)/\rE (x1:Bool)/\rE (x2:Bool)/\rE (x3:Bool)/\rE (x4:Bool)/\True)/\rE ((wrap i64 (v0.2+1)):Int)/\True)/\True) (Sum.inl (ior u32 v0.1 (ishl u32 1 v0.2),wrap i64 (v0.2+1))))) (.nx ((rE v0.1/\(rE (x0:Bool)/\rE (x1:Bool)/\rE (x2:Bool)/\rE (x3:Bool)/\rE (x4:Bool)/\True)/\rE ((wrap i64 (v0.2+1)):Int)/\True)/\True) (Sum.inl (v0.1,wrap i64 (v0.2+1)))))) (.lf (Sum.inr v0.1)))
def Q9t m:=(Q6x m).m
abbrev Qdr m:=(Q6x m).p
def Qz1:LInv:={
 α:=(Int)×(Int)
 F:=λst a=>([(4, .int u32 a.1),(23,(lk st 23)),(24, .int i64 a.2)],[])
 a0:=λst=>((lk st 4).toInt,(lk st 24).toInt)
 ex0:=λst=>[]++[]}
def Qss:List (Nat×LInv):=[(4,Qz1)]
def Z3k:Q0b:=mT 26 [] true [.agg Q00.sig] [] (λa r=>Q6x (Q00.of (aC a 0))) (λX=> .int .u32 X) (λX=>[])
theorem Qmh:Q04 pG Z3k:=oT (.cons Qyv (.cons Qu8 (.cons Qp9 (.cons Z4n (.cons Qub (.nil)))))) Tryz.func26 Tryz.call26 [] Qss 3
def Q4z(m:Q00):Tree Int:=
.an (Qdr m) (.lv (Q9t m) λ(x0:Int)=> .lf (iand u32 x0 m.B1.B4.a7))
def Q55 m:=(Q4z m).m
abbrev Qb5 m:=(Q4z m).p
def Qw:Q0b:=mT 110 [] true [.agg Q00.sig] [] (λa r=>Q4z (Q00.of (aC a 0))) (λX=> .int .u32 X) (λX=>[])
theorem Qj7:Q04 pG Qw:=oT (.cons Qmh (.nil)) Tryz.func110 Tryz.call110 [] [] 2
def Q2u(m:Q00):Tree Bool:=
.br m.A3 (.an (Qb5 m) (.lv (Q55 m) λ(x0:Int)=> .lf (x0==0))) (.lf false)
def Qbi m:=(Q2u m).m
abbrev Q7x m:=(Q2u m).p
def Z4v:Q0b:=mT 28 [] true [.agg Q00.sig] [] (λa r=>Q2u (Q00.of (aC a 0))) (λX=> .bool X) (λX=>[])
theorem Qnz:Q04 pG Z4v:=oT (.cons Qj7 (.nil)) Tryz.func28 Tryz.call28 [] [] 2

import Derived.Test.YthjfindbamdacaaGreatDoorPostNeedsBase
open Int renaming tmod->dA,tdiv->eN,toNat->dB
open Nat renaming beq->bT,blt->bJ
open List renaming set->dC,getD->aK,length->dG,append->cN
open UInt8 renaming toNat->eQ
set_option maxRecDepth 100000
set_option linter.all false
namespace Go.Proofs.YthjfindbamdacaaGreatDoor
open Go Go.GD Go.IntKind
noncomputable section
def Q02(s:List Int):(List Int):=
s
def Q07(s:List Int):Prop:=
s.length<=35184372088832
def Q48(s:List Int):List D:=[.sl 1 (.ints .u32 s) false]
def Q2v(s:List Int):List Row:=[]
def Q1q(X:List Int):D:=.all 0
def Q1s(X:List Int):List Row:=[⟨false,23,1,.ints .u32 X⟩]
def Qcs:List Dir:=[.row 23 1 (.ints .u32)]
def Q7n:List PT:=[.one (.ints .u32)]
def Q76:List RT:=[]
def Qek(args:List D)(rows:List Row):(List Int):=Q02 (argL .u32 args 0)
def Qed(args:List D)(rows:List Row):Prop:=Q07 (argL .u32 args 0)
def Qfm:Q0a:=mkP 59 [] true Q7n Q76 Qed Qek Q1q Q1s
def Q52(s:List Int)(Leaf:(List Int)->Prop):Prop:=
(s=[]->Leaf [])/\cand (decide ((4:Nat)*((0:Nat)+s.length)<=(140737488355328:Nat))) (Leaf s)
set_option maxRecDepth 100000 in
theorem Qf0(s:List Int)(Q:D->List Row->Prop):(fnVC tab [] (LL tab [] Tryz.f59.ntmps 0 [] 2) Tryz.f59 (Q48 s) (Q2v s) λd R=>Qcz (Q2v s).length Qcs d R Q)=Q52 s (λX=>Q (Q1q X) (Q1s X)):=by kernel_rfl
theorem Qdb(s:List Int)(Leaf:(List Int)->Prop)(hw:Q07 s)(h:Leaf (Q02 s)):
Q52 s Leaf:=by
 delta Q52
 refine⟨λe=>by rw[e]at h;exact h,?_⟩
 rw[Q05]
 refine⟨dY ?_,h⟩
 have:s.length<=35184372088832:=hw
 omega
set_option maxRecDepth 100000 in
theorem Qcn(s:List Int)(hw:Q07 s):Q40 pG 59 (Q48 s) (Q2v s) (Q1q (Q02 s)) (Q1s (Q02 s)):=
 have hG:Q80 pG []:=.nil
 FnOK.calls drawn Q0h hG Tryz.func59 (rf:=none) (λ_ _=>trivial) (LL_ok drawn Q0h hG (.inl rfl) 2 (invs:=[])) (FnOK.of (Qf0 s _) (Qdb s (λX=>Q1q X=Q1q (Q02 s)/\Q1s X=Q1s (Q02 s)) hw ⟨rfl,rfl⟩))
set_option maxRecDepth 100000 in
theorem Qd6(args:List D)(rows:List Row):Qmp Q7n args 0=Q48 (argL .u32 args 0):=by kernel_rfl
set_option maxRecDepth 100000 in
theorem Qco(args:List D)(rows:List Row):Qaw Q76 rows 0=Q2v (argL .u32 args 0):=by kernel_rfl
set_option maxRecDepth 100000 in
theorem Qfa(X:List Int):(ffB (Q1q X)&&ffBR (Q1s X))=true:=by kernel_rfl
theorem Q1h:Q04 pG Qfm:=Qzh Tryz.call59 (λargs rows hp=>by rw[Qd6 args rows,Qco args rows];exact Qcn (argL .u32 args 0) hp) (λ_ X=>Qfa X)
def Q8k(m:List Int):Tree Int:=
.br (dA (m.length:Int) (32:Int) !=(0:Int)) (.lf 0) (.br (decide ((m.length:Int)>(1024:Int))) (.lf 0) (.lf (wrap i64 (eN (m.length:Int) 32))))
def Q0u m:=(Q8k m).m
def Z2n:Q0a:=mS 14 [] true [.one (.ints .u32)] [] (λa r=>Q8k (argL .u32 a 0)) (λX=>.int .i64 X) (λX=>[])
theorem Q2b:Q04 pG Z2n:=oS (.nil) Tryz.func14 Tryz.call14 [] [] 2
def Q5o(m:List Int)(addr size:Int):Tree Bool:=
let T1:Tree (Bool):=.cn (decide (wrap u32 size≠0)) (.br (dA addr (wrap u32 size) !=0) (.lf false) (.lv (Q0u m) λ(x0:Int)=>.lf (decide (wrap u64 (wrap u64 addr+wrap u64 size)<=wrap u64 (wrap u64 x0*128)))));.br (size !=1) (.br (size !=4) (.lf false) T1) T1
def Q26 m addr size:=(Q5o m addr size).m
abbrev Qdg m addr size:=(Q5o m addr size).p
def Qzm:Q0a:=mT 247 [] true [.one (.ints .u32),.one (.int .u32),.one (.int .i64)] [] (λa r=>Q5o (argL .u32 a 0) (argI a 1) (argI a 2)) (λX=>.bool X) (λX=>[])
theorem Qls:Q04 pG Qzm:=oT (.cons Q2b (.nil)) Tryz.func247 Tryz.call247 [] [] 2
def Qgz(n:Int):Tree Int:=
.br (decide (n>=32)) (.lf 4294967295) (.cn (decide (0<=wrap u64 n)) (.lf (wrap u32 (ishl u32 1 (wrap u64 n)-1))))
def Z25 n:=(Qgz n).m
abbrev Ql8 n:=(Qgz n).p
def Zgs:Q0a:=mT 248 [] true [.one (.int .i64)] [] (λa r=>Qgz (argI a 0)) (λX=>.int .u32 X) (λX=>[])
theorem Qw9:Q04 pG Zgs:=oT (.nil) Tryz.func248 Tryz.call248 [] [] 2
def Qep(w low n:Int):Tree Int:=
.br (decide (low<0)) (.lf 0) (.br (decide (low>31)) (.lf 0) (.br (decide (n<1)) (.lf 0) (.cn (decide (0<=wrap u64 low)) (.an (Ql8 n) (.lv (Z25 n) λ(x0:Int)=>.lf (iand u32 (ishr u32 w (wrap u64 low)) x0))))))
def Q3 w low n:=(Qep w low n).m
abbrev Q6p w low n:=(Qep w low n).p
def Zay:Q0a:=mT 179 [] true [.one (.int .u32),.one (.int .i64),.one (.int .i64)] [] (λa r=>Qep (argI a 0) (argI a 1) (argI a 2)) (λX=>.int .u32 X) (λX=>[])
theorem Qlh:Q04 pG Zay:=oT (.cons Qw9 (.nil)) Tryz.func179 Tryz.call179 [] [] 2
def Q9c(w low n v:Int):Tree Int:=
.br (decide (low<0)) (.lf w) (.br (decide (low>31)) (.lf w) (.br (decide (n<1)) (.lf w) (.an (Ql8 n) (.lv (Z25 n) λ(x0:Int)=>.cn (decide (0<=wrap u64 low)) (.cn (decide (0<=wrap u64 low)) (.lf (ior u32 (Q7j u32 w (ishl u32 x0 (wrap u64 low))) (ishl u32 (iand u32 v x0) (wrap u64 low)))))))))
def Q6a w low n v:=(Q9c w low n v).m
abbrev Qjv w low n v:=(Q9c w low n v).p
def Qz:Q0a:=mT 250 [] true [.one (.int .u32),.one (.int .i64),.one (.int .i64),.one (.int .u32)] [] (λa r=>Q9c (argI a 0) (argI a 1) (argI a 2) (argI a 3)) (λX=>.int .u32 X) (λX=>[])
theorem Qxr:Q04 pG Qz:=oT (.cons Qw9 (.nil)) Tryz.func250 Tryz.call250 [] [] 2
def Q8g(m:List Int)(addr size v:Int):Tree ((List Int)×Bool):=
.an (Q07 m) (.lv (Q02 m) λ(x0:List Int)=>.an (Qdg m addr size) (.lv (Q26 m addr size) λ(x1:Bool)=>.br (!x1) (.lf (x0,false)) (let E1:=bT 1 1&&bJ 0 1&&decide (0<=wrap u32 (eN addr 4)/\wrap u32 (eN addr 4)<(x0.length:Int));let E2:=dB (wrap u32 (eN addr 4));.br (size==1) (.cn E1 (let E3:=wrap i64 (wrap i64 (dA addr 4)*8);.an (Qjv (x0.getD E2 0) E3 8 v) (.lv (Q6a (x0.getD E2 0) E3 8 v) λ(x2:Int)=>.cn E1 (.lf (dC x0 E2 x2,true))))) (.cn E1 (.lf (dC x0 E2 v,true))))))
def Q1w m addr size v:=(Q8g m addr size v).m
abbrev Qb2 m addr size v:=(Q8g m addr size v).p
def Z3h:Q0a:=mT 186 [] true [.one (.ints .u32),.one (.int .u32),.one (.int .i64),.one (.int .u32)] [] (λa r=>Q8g (argL .u32 a 0) (argI a 1) (argI a 2) (argI a 3)) (λX=>.tup [.all 0,.bool (X.2)]) (λX=>[⟨false,23,1,.ints .u32 (X.1)⟩])
theorem Qmv:Q04 pG Z3h:=oT (.cons Q1h (.cons Qls (.cons Qxr (.nil)))) Tryz.func186 Tryz.call186 [.row 23 1 (.ints .u32)] [] 2
def Zab(op:Int):Tree (Q8q×Bool):=
.br (op==1) (.lf ({a:=true,b:=true,c:=true,low:=0,D1:=0},true)) (.br (op==2) (.lf ({a:=true,b:=true,c:=true,low:=0,D1:=0},true)) (.br (op==3) (.lf ({a:=true,b:=true,c:=true,low:=0,D1:=0},true)) (.br (op==4) (.lf ({a:=true,b:=true,c:=true,low:=0,D1:=0},true)) (.br (op==5) (.lf ({a:=true,b:=true,c:=true,low:=0,D1:=0},true)) (.br (op==6) (.lf ({a:=true,b:=true,c:=true,low:=0,D1:=0},true)) (.br (op==7) (.lf ({a:=true,b:=true,c:=true,low:=0,D1:=0},true)) (.br (op==8) (.lf ({a:=true,b:=true,c:=true,low:=0,D1:=0},true)) (.br (op==9) (.lf ({a:=true,b:=true,c:=true,low:=0,D1:=0},true)) (.br (op==10) (.lf ({a:=true,b:=true,c:=true,low:=0,D1:=0},true)) (.br (op==11) (.lf ({a:=true,b:=true,c:=true,low:=0,D1:=0},true)) (.br (op==12) (.lf ({a:=true,b:=true,c:=true,low:=0,D1:=0},true)) (.br (op==13) (.lf ({a:=true,b:=true,c:=true,low:=0,D1:=0},true)) (.br (op==16) (.lf ({a:=true,b:=true,c:=false,low:=(-32768),D1:=32767},true)) (.br (op==23) (.lf ({a:=true,b:=true,c:=false,low:=(-32768),D1:=32767},true)) (.br (op==32) (.lf ({a:=true,b:=true,c:=false,low:=(-32768),D1:=32767},true)) (.br (op==33) (.lf ({a:=true,b:=true,c:=false,low:=(-32768),D1:=32767},true)) (.br (op==34) (.lf ({a:=true,b:=true,c:=false,low:=(-32768),D1:=32767},true)) (.br (op==35) (.lf ({a:=true,b:=true,c:=false,low:=(-32768),D1:=32767},true)) (.br (op==36) (.lf ({a:=true,b:=true,c:=false,low:=(-32768),D1:=32767},true)) (.br (op==40) (.lf ({a:=true,b:=true,c:=false,low:=(-32768),D1:=32767},true)) (.br (op==41) (.lf ({a:=true,b:=true,c:=false,low:=(-32768),D1:=32767},true)) (.br (op==42) (.lf ({a:=true,b:=true,c:=false,low:=(-32768),D1:=32767},true)) (.br (op==43) (.lf ({a:=true,b:=true,c:=false,low:=(-32768),D1:=32767},true)) (.br (op==44) (.lf ({a:=true,b:=true,c:=false,low:=(-32768),D1:=32767},true)) (.br (op==45) (.lf ({a:=true,b:=true,c:=false,low:=(-32768),D1:=32767},true)) (.br (op==49) (.lf ({a:=true,b:=true,c:=false,low:=(-32768),D1:=32767},true)) (.br (op==17) (.lf ({a:=true,b:=true,c:=false,low:=0,D1:=65535},true)) (.br (op==18) (.lf ({a:=true,b:=true,c:=false,low:=0,D1:=65535},true)) (.br (op==19) (.lf ({a:=true,b:=true,c:=false,low:=0,D1:=65535},true)) (.br (op==20) (.lf ({a:=true,b:=true,c:=false,low:=0,D1:=31},true)) (.br (op==21) (.lf ({a:=true,b:=true,c:=false,low:=0,D1:=31},true)) (.br (op==22) (.lf ({a:=true,b:=true,c:=false,low:=0,D1:=31},true)) (.br (op==24) (.lf ({a:=true,b:=false,c:=false,low:=0,D1:=65535},true)) (.br (op==48) (.lf ({a:=true,b:=false,c:=false,low:=(-32768),D1:=32767},true)) (.br (op==58) (.lf ({a:=true,b:=false,c:=false,low:=0,D1:=7},true)) (.br (op==59) (.lf ({a:=true,b:=false,c:=false,low:=0,D1:=7},true)) (.br (op==60) (.lf ({a:=true,b:=false,c:=false,low:=0,D1:=11},true)) (.br (op==61) (.lf ({a:=true,b:=false,c:=false,low:=0,D1:=11},true)) (.br (op==56) (.lf ({a:=false,b:=false,c:=false,low:=0,D1:=0},true)) (.br (op==57) (.lf ({a:=false,b:=false,c:=false,low:=0,D1:=0},true)) (.br (op==62) (.lf ({a:=false,b:=false,c:=false,low:=0,D1:=0},true)) (.br (op==63) (.lf ({a:=false,b:=false,c:=false,low:=0,D1:=0},true)) (.br (op==64) (.lf ({a:=false,b:=false,c:=false,low:=0,D1:=0},true)) (.lf ({a:=false,b:=false,c:=false,low:=0,D1:=0},false)))))))))))))))))))))))))))))))))))))))))))))
def Z0j op:=(Zab op).m
def vv:Q0a:=mS 180 [] true [.one (.int .i64)] [] (λa r=>Zab (argI a 0)) (λX=>.tup [.agg (Q8q.cells (X.1)),.bool (X.2)]) (λX=>[])
theorem Z4q:Q04 pG vv:=oS (.nil) Tryz.func180 Tryz.call180 [] [] 2
def Q77(x n:Int):Tree Int:=
.br (decide (n<1)) (.lf 0) (.br (decide (n>=32)) (.lf x) (let E1:=decide (0<=wrap u64 (wrap i64 (32-n)));.cn E1 (.cn E1 (.lf (wrap u32 (ishr i32 (wrap i32 (ishl u32 x (wrap u64 (wrap i64 (32-n))))) (wrap u64 (wrap i64 (32-n)))))))))
def Q2l x n:=(Q77 x n).m
abbrev Qb8 x n:=(Q77 x n).p
def Qu1:Q0a:=mT 181 [] true [.one (.int .u32),.one (.int .i64)] [] (λa r=>Q77 (argI a 0) (argI a 1)) (λX=>.int .u32 X) (λX=>[])
theorem Qin:Q04 pG Qu1:=oT (.nil) Tryz.func181 Tryz.call181 [] [] 2
def Qdv(r:Int)(used:Bool):Tree Bool:=
.br used (.br (decide (r>=0)) (.lf (decide (r<=15))) (.lf false)) (.lf (r==0))
def Q94 r used:=(Qdv r used).m
def Z3p:Q0a:=mS 249 [] true [.one (.int .i64),.one (.bool)] [] (λa r=>Qdv (argI a 0) (argB a 1)) (λX=>.bool X) (λX=>[])
theorem Z26:Q04 pG Z3p:=oS (.nil) Tryz.func249 Tryz.call249 [] [] 2
def Qgh(i:Q0f):Tree Bool:=
.lv (Z0j i.Op) λ(x0:Q8q×Bool)=>.br x0.2 (.lv (Q94 i.A x0.1.a) λ(x1:Bool)=>.br x1 (.lv (Q94 i.B x0.1.b) λ(x2:Bool)=>.br x2 (.lv (Q94 i.C x0.1.c) λ(x3:Bool)=>.br x3 (.br (decide (i.Imm>=x0.1.low)) (.lf (decide (i.Imm<=x0.1.D1))) (.lf false)) (.lf false)) (.lf false)) (.lf false)) (.lf false)
def Qec i:=(Qgh i).m
def Zey:Q0a:=mS 182 [] true [.agg Q0f.sig] [] (λa r=>Qgh (Q0f.of (aC a 0))) (λX=>.bool X) (λX=>[])
theorem Zak:Q04 pG Zey:=oS (.cons Z4q (.cons Z26 (.nil))) Tryz.func182 Tryz.call182 [] [] 2
def Qbm(w:Int):Tree (Q0f×Bool):=
.an (Q6p w 24 8) (.lv (Q3 w 24 8) λ(x0:Int)=>.an (Q6p w 20 4) (.lv (Q3 w 20 4) λ(x1:Int)=>.an (Q6p w 16 4) (.lv (Q3 w 16 4) λ(x2:Int)=>.lv (Z0j (wrap i64 x0)) λ(x3:Q8q×Bool)=>let E1:=({Op:=0,A:=0,B:=0,C:=0,Imm:=0}:Q0f);.br (!x3.2) (.lf (E1,false)) (.an (Q6p w 0 16) (.lv (Q3 w 0 16) λ(x4:Int)=>.br x3.1.c (let E2:=({Op:=wrap i64 x0,A:=wrap i64 x1,B:=wrap i64 x2,C:=wrap i64 x4,Imm:=0}:Q0f);.lv (Qec E2) λ(x5:Bool)=>.br (!x5) (.lf (E1,false)) (.lf (E2,true))) (.br (decide (x3.1.low<0)) (.an (Qb8 x4 16) (.lv (Q2l x4 16) λ(x6:Int)=>let E3:=({Op:=wrap i64 x0,A:=wrap i64 x1,B:=wrap i64 x2,C:=0,Imm:=wrap i32 x6}:Q0f);.lv (Qec E3) λ(x7:Bool)=>.br (!x7) (.lf (E1,false)) (.lf (E3,true)))) (let E4:=({Op:=wrap i64 x0,A:=wrap i64 x1,B:=wrap i64 x2,C:=0,Imm:=wrap i32 x4}:Q0f);.lv (Qec E4) λ(x8:Bool)=>.br (!x8) (.lf (E1,false)) (.lf (E4,true)))))))))
def Q18 w:=(Qbm w).m
abbrev Qas w:=(Qbm w).p
def Zbj:Q0a:=mT 112 [] true [.one (.int .u32)] [] (λa r=>Qbm (argI a 0)) (λX=>.tup [.agg (Q0f.cells (X.1)),.bool (X.2)]) (λX=>[])
theorem Qs4:Q04 pG Zbj:=oT (.cons Qlh (.cons Z4q (.cons Qin (.cons Zak (.nil))))) Tryz.func112 Tryz.call112 [] [] 2
def Qa3(a b:Int):Tree (Int×Int):=
.br (b==0) (.lf (4294967295,a)) (let T1:Tree ((Int×Int)):=.cn (decide (wrap i32 b≠0)) (.cn (decide (wrap i32 b≠0)) (.lf (wrap u32 (wrap i32 (eN (wrap i32 a) (wrap i32 b))),wrap u32 (dA (wrap i32 a) (wrap i32 b)))));.br (a==2147483648) (.br (b==4294967295) (.lf (a,0)) T1) T1)
def Qb5 a b:=(Qa3 a b).m
abbrev Qhd a b:=(Qa3 a b).p
def Z7:Q0a:=mT 251 [] true [.one (.int .u32),.one (.int .u32)] [] (λa r=>Qa3 (argI a 0) (argI a 1)) (λX=>.tup [.int .u32 (X.1),.int .u32 (X.2)]) (λX=>[])
theorem Z3i:Q04 pG Z7:=oT (.nil) Tryz.func251 Tryz.call251 [] [] 2
def Z1z(b:Bool):Tree Int:=
.br b (.lf 1) (.lf 0)
def Qnr b:=(Z1z b).m
def Zhc:Q0a:=mS 252 [] true [.one (.bool)] [] (λa r=>Z1z (argB a 0)) (λX=>.int .u32 X) (λX=>[])
theorem Zdo:Q04 pG Zhc:=oS (.nil) Tryz.func252 Tryz.call252 [] [] 2
def Qmg(op a b:Int):Tree (Int×Bool):=
.br (op==2) (.lf (wrap u32 (a+wrap u32 (0-b)),true)) (.br (op==1) (.lf (wrap u32 (a+b),true)) (.br (op==16) (.lf (wrap u32 (a+b),true)) (.br (op==3) (.lf (iand u32 a b,true)) (.br (op==17) (.lf (iand u32 a b,true)) (.br (op==4) (.lf (ior u32 a b,true)) (.br (op==18) (.lf (ior u32 a b,true)) (.br (op==5) (.lf (ixor u32 a b,true)) (.br (op==19) (.lf (ixor u32 a b,true)) (.br (op==6) (.lf (ishl u32 a (iand u32 b 31),true)) (.br (op==20) (.lf (ishl u32 a (iand u32 b 31),true)) (.br (op==7) (.lf (ishr u32 a (iand u32 b 31),true)) (.br (op==21) (.lf (ishr u32 a (iand u32 b 31),true)) (let E1:=(wrap u32 (ishr i32 (wrap i32 a) (iand u32 b 31)),true);.br (op==8) (.lf E1) (.br (op==22) (.lf E1) (.br (op==9) (.lf (wrap u32 (a*b),true)) (.br (op==10) (.an (Qhd a b) (.lv (Qb5 a b) λ(x0:Int×Int)=>.lf (x0.1,true))) (.br (op==11) (.an (Qhd a b) (.lv (Qb5 a b) λ(x1:Int×Int)=>.lf (x1.2,true))) (.br (op==12) (.lv (Qnr (decide (wrap i32 a<wrap i32 b))) λ(x2:Int)=>.lf (x2,true)) (.br (op==23) (.lv (Qnr (decide (wrap i32 a<wrap i32 b))) λ(x3:Int)=>.lf (x3,true)) (.br (op==13) (.lv (Qnr (decide (a<b))) λ(x4:Int)=>.lf (x4,true)) (.lf (0,false))))))))))))))))))))))
def Q4m op a b:=(Qmg op a b).m
abbrev Qqc op a b:=(Qmg op a b).p
def qw:Q0a:=mT 190 [] true [.one (.int .i64),.one (.int .u32),.one (.int .u32)] [] (λa r=>Qmg (argI a 0) (argI a 1) (argI a 2)) (λX=>.tup [.int .u32 (X.1),.bool (X.2)]) (λX=>[])
theorem Zjp:Q04 pG qw:=oT (.cons Z3i (.cons Zdo (.nil))) Tryz.func190 Tryz.call190 [] [] 2
end
noncomputable section
def Qo7(status from0 to:Int):Tree Int:=
.br (iand u32 status from0 !=0) (.lf (ior u32 status to)) (.lf (Q7j u32 status to))
def Q8s status from0 to:=(Qo7 status from0 to).m
def Zlc:Q0a:=mS 175 [] true [.one (.int .u32),.one (.int .u32),.one (.int .u32)] [] (λa r=>Qo7 (argI a 0) (argI a 1) (argI a 2)) (λX=>.int .u32 X) (λX=>[])
theorem Z1j:Q04 pG Zlc:=oS (.nil) Tryz.func175 Tryz.call175 [] [] 2
def Qjm(c:Q01)(cause bad:Int):Tree Q01:=
.lv (Q8s c.B3.a0 1 8) λ(x0:Int)=>.lv (Q8s x0 2 16) λ(x1:Int)=>.lf ({X:=c.X,Pc:=c.B3.a1,B3:={a0:=Q7j u32 (ior u32 x1 1) 2,a1:=c.B3.a1,a2:=c.Pc,a3:=wrap u32 cause,a4:=bad,a5:=c.B3.a5,a6:=c.B3.a6,a7:=c.B3.a7}})
def Q2z c cause bad:=(Qjm c cause bad).m
def Zk:Q0a:=mS 109 [] true [.agg Q01.sig,.one (.int .i64),.one (.int .u32)] [] (λa r=>Qjm (Q01.of (aC a 0)) (argI a 1) (argI a 2)) (λX=>.agg (Q01.cells X)) (λX=>[])
theorem Qd:Q04 pG Zk:=oS (.cons Z1j (.nil)) Tryz.func109 Tryz.call109 [] [] 2
def Qlg(access:Int):Tree (Int×Bool):=
.br (access==1) (.lf (4,true)) (.br (access==2) (.lf (5,true)) (.br (access==3) (.lf (6,true)) (.lf (5,false))))
def Qbd access:=(Qlg access).m
def Z8g:Q0a:=mS 245 [] true [.one (.int .i64)] [] (λa r=>Qlg (argI a 0)) (λX=>.tup [.int .i64 (X.1),.bool (X.2)]) (λX=>[])
theorem Z4e:Q04 pG Z8g:=oS (.nil) Tryz.func245 Tryz.call245 [] [] 2
def Qwo(c:Q01):Tree Bool:=
.lf (iand u32 c.B3.a0 (1:Int) !=(0:Int))
def Q5a c:=(Qwo c).m
def Zal:Q0a:=mS 118 [] true [.agg Q01.sig] [] (λa r=>Qwo (Q01.of (aC a 0))) (λX=>.bool X) (λX=>[])
theorem Qs3:Q04 pG Zal:=oS (.nil) Tryz.func118 Tryz.call118 [] [] 2
def Qf6(access:Int):Tree (Int×Bool):=
.br (access==1) (.lf (4,true)) (.br (access==2) (.lf (5,true)) (.br (access==3) (.lf (6,true)) (.lf (5,false))))
def Q13 access:=(Qf6 access).m
def Qxq:Q0a:=mS 241 [] true [.one (.int .i64)] [] (λa r=>Qf6 (argI a 0)) (λX=>.tup [.int .i64 (X.1),.bool (X.2)]) (λX=>[])
theorem Quq:Q04 pG Qxq:=oS (.nil) Tryz.func241 Tryz.call241 [] [] 2
def Qgx(m:List Int)(frame:Int):Tree Bool:=
.lv (Q0u m) λ(x0:Int)=>.lf (decide (wrap u64 frame<wrap u64 x0))
def Q1i m frame:=(Qgx m frame).m
def Z2b:Q0a:=mS 242 [] true [.one (.ints .u32),.one (.int .u32)] [] (λa r=>Qgx (argL .u32 a 0) (argI a 1)) (λX=>.bool X) (λX=>[])
theorem Qxf:Q04 pG Z2b:=oS (.cons Q2b (.nil)) Tryz.func242 Tryz.call242 [] [] 2
def Q9s(m:List Int)(addr size:Int):Tree (Int×Bool):=
.an (Qdg m addr size) (.lv (Q26 m addr size) λ(x0:Bool)=>.br (!x0) (.lf (0,false)) (.cn (bT 1 1&&bJ 0 1&&decide (0<=wrap u32 (eN addr 4)/\wrap u32 (eN addr 4)<(m.length:Int))) (let E1:=dB (wrap u32 (eN addr 4));.br (size==1) (let E2:=wrap i64 (wrap i64 (dA addr 4)*8);.an (Q6p (m.getD E1 0) E2 8) (.lv (Q3 (m.getD E1 0) E2 8) λ(x1:Int)=>.lf (x1,true))) (.lf (m.getD E1 0,true)))))
def Q0y m addr size:=(Q9s m addr size).m
abbrev Q4k m addr size:=(Q9s m addr size).p
def Z7u:Q0a:=mT 178 [] true [.one (.ints .u32),.one (.int .u32),.one (.int .i64)] [] (λa r=>Q9s (argL .u32 a 0) (argI a 1) (argI a 2)) (λX=>.tup [.int .u32 (X.1),.bool (X.2)]) (λX=>[])
theorem Qax:Q04 pG Z7u:=oT (.cons Qls (.cons Qlh (.nil))) Tryz.func178 Tryz.call178 [] [] 2
def Qlu(pte access:Int):Tree Bool:=
.br (iand u32 pte (1:Int)==(0:Int)) (.lf false) (.br (access==3) (.lf (iand u32 pte (2:Int) !=(0:Int))) (.br (access==1) (.lf (iand u32 pte (4:Int) !=(0:Int))) (.lf true)))
def Q2s pte access:=(Qlu pte access).m
def Qx9:Q0a:=mS 243 [] true [.one (.int .u32),.one (.int .i64)] [] (λa r=>Qlu (argI a 0) (argI a 1)) (λX=>.bool X) (λX=>[])
theorem Qu5:Q04 pG Qx9:=oS (.nil) Tryz.func243 Tryz.call243 [] [] 2
def Q83(pte:Int):Tree Int:=
.an (Q6p pte 8 8) (.lv (Q3 pte 8 8) λ(x0:Int)=>.lf x0)
def Q1v pte:=(Q83 pte).m
abbrev Qcc pte:=(Q83 pte).p
def Qxi:Q0a:=mT 244 [] true [.one (.int .u32)] [] (λa r=>Q83 (argI a 0)) (λX=>.int .u32 X) (λX=>[])
theorem Quh:Q04 pG Qxi:=oT (.cons Qlh (.nil)) Tryz.func244 Tryz.call244 [] [] 2
def Q9z(m:List Int)(root va access:Int):Tree Q14:=
.lv (Q13 access) λ(x0:Int×Bool)=>let E1:=({Addr:=0,D9:=0,D0:=x0.1}:Q14);.br (!x0.2) (.lf (E1)) (.br (decide (va>=4096)) (.lf (E1)) (.lv (Q1i m root) λ(x1:Bool)=>.br (!x1) (.lf (E1)) (let E2:=wrap u32 (root*128)+wrap u32 (4*wrap u32 (eN va 128));.an (Q4k m (wrap u32 E2) 4) (.lv (Q0y m (wrap u32 E2) 4) λ(x2:Int×Bool)=>.br (!x2.2) (.lf (E1)) (.lv (Q2s x2.1 access) λ(x3:Bool)=>.br (!x3) (.lf (E1)) (.an (Qcc x2.1) (.lv (Q1v x2.1) λ(x4:Int)=>.lv (Q1i m x4) λ(x5:Bool)=>.br (!x5) (.lf (E1)) (.an (Qcc x2.1) (.lv (Q1v x2.1) λ(x6:Int)=>.lf ({Addr:=wrap u32 (wrap u32 (x6*128)+dA va 128),D9:=wrap u32 E2,D0:=0}))))))))))
def Q0z m root va access:=(Q9z m root va access).m
abbrev Qc5 m root va access:=(Q9z m root va access).p
def Z74:Q0a:=mT 176 [] true [.one (.ints .u32),.one (.int .u32),.one (.int .u32),.one (.int .i64)] [] (λa r=>Q9z (argL .u32 a 0) (argI a 1) (argI a 2) (argI a 3)) (λX=>.agg (Q14.cells X)) (λX=>[])
theorem Qpx:Q04 pG Z74:=oT (.cons Quq (.cons Qxf (.cons Qax (.cons Qu5 (.cons Quh (.nil)))))) Tryz.func176 Tryz.call176 [] [] 2
def Q8h(m:List Int)(entry access:Int):Tree (List Int):=
.an (Q4k m entry 4) (.lv (Q0y m entry 4) λ(x0:Int×Bool)=>.br (!x0.2) (.an (Q07 m) (.lv (Q02 m) λ(x1:List Int)=>.lf x1)) (.br (access==3) (.an (Qb2 m entry 4 (ior u32 (ior u32 x0.1 8) 16)) (.lv (Q1w m entry 4 (ior u32 (ior u32 x0.1 8) 16)) λ(x2:List Int×Bool)=>.lf x2.1)) (.an (Qb2 m entry 4 (ior u32 x0.1 8)) (.lv (Q1w m entry 4 (ior u32 x0.1 8)) λ(x3:List Int×Bool)=>.lf x3.1))))
def Q2f m entry access:=(Q8h m entry access).m
abbrev Qfd m entry access:=(Q8h m entry access).p
def Z42:Q0a:=mT 246 [] true [.one (.ints .u32),.one (.int .u32),.one (.int .i64)] [] (λa r=>Q8h (argL .u32 a 0) (argI a 1) (argI a 2)) (λX=>.all 0) (λX=>[⟨false,23,1,.ints .u32 X⟩])
theorem Qz3:Q04 pG Z42:=oT (.cons Qax (.cons Q1h (.cons Qmv (.nil)))) Tryz.func246 Tryz.call246 [.row 23 1 (.ints .u32)] [] 2
def Qa1(c:Q01)(m:List Int)(va size access:Int):Tree (Int×(List Int)×Int):=
.lv (Qbd access) λ(x0:Int×Bool)=>let T3:Tree ((Int×(List Int)×Int)):=.an (Q07 m) (.lv (Q02 m) λ(x1:List Int)=>.lf (0,x1,5));.br (!x0.2) T3 (let T1:Tree ((Int×(List Int)×Int)):=.cn (decide (wrap u32 size≠0)) (.br (dA va (wrap u32 size) !=0) (.an (Q07 m) (.lv (Q02 m) λ(x3:List Int)=>.lf (0,x3,3))) (.lv (Q5a c) λ(x4:Bool)=>let T2:Tree ((Int×(List Int)×Int)):=.an (Q4k m va size) (.lv (Q0y m va size) λ(x8:Int×Bool)=>.br (!x8.2) (.an (Q07 m) (.lv (Q02 m) λ(x9:List Int)=>.lf (0,x9,x0.1))) (.an (Q07 m) (.lv (Q02 m) λ(x10:List Int)=>.lf (va,x10,0))));.br (!x4) (.br (iand u32 c.B3.a0 (4:Int) !=(0:Int)) (.an (Qc5 m c.B3.a6 va access) (.lv (Q0z m c.B3.a6 va access) λ(x5:Q14)=>.br (x5.D0 !=0) (.an (Q07 m) (.lv (Q02 m) λ(x6:List Int)=>.lf (0,x6,x5.D0))) (.an (Qfd m x5.D9 access) (.lv (Q2f m x5.D9 access) λ(x7:List Int)=>.lf (x5.Addr,x7,0))))) T2) T2));.br (size !=1) (.br (size !=4) T3 T1) T1)
def Q0t c m va size access:=(Qa1 c m va size access).m
abbrev Qbu c m va size access:=(Qa1 c m va size access).p
def Z8u:Q0a:=mT 177 [] true [.agg Q01.sig,.one (.ints .u32),.one (.int .u32),.one (.int .i64),.one (.int .i64)] [] (λa r=>Qa1 (Q01.of (aC a 0)) (argL .u32 a 1) (argI a 2) (argI a 3) (argI a 4)) (λX=>.tup [.int .u32 (X.1),.all 0,.int .i64 (X.2.2)]) (λX=>[⟨false,23,1,.ints .u32 (X.2.1)⟩])
theorem Qjf:Q04 pG Z8u:=oT (.cons Z4e (.cons Q1h (.cons Qs3 (.cons Qpx (.cons Qz3 (.cons Qax (.nil))))))) Tryz.func177 Tryz.call177 [.row 23 1 (.ints .u32)] [] 2
def Qgf(c:Q01)(m:List Int):Tree (Int×(List Int)×Int):=
.an (Qbu c m c.Pc 4 1) (.lv (Q0t c m c.Pc 4 1) λ(x0:Int×List Int×Int)=>.br (x0.2.2 !=0) (.lf (0,x0.2.1,x0.2.2)) (.an (Q4k x0.2.1 x0.1 4) (.lv (Q0y x0.2.1 x0.1 4) λ(x1:Int×Bool)=>.lf (x1.1,x0.2.1,0))))
def Q0p c m:=(Qgf c m).m
abbrev Qbw c m:=(Qgf c m).p
def Zfe:Q0a:=mT 111 [] true [.agg Q01.sig,.one (.ints .u32)] [] (λa r=>Qgf (Q01.of (aC a 0)) (argL .u32 a 1)) (λX=>.tup [.int .u32 (X.1),.all 0,.int .i64 (X.2.2)]) (λX=>[⟨false,23,1,.ints .u32 (X.2.1)⟩])
theorem Qwg:Q04 pG Zfe:=oT (.cons Qjf (.cons Qax (.nil))) Tryz.func111 Tryz.call111 [.row 23 1 (.ints .u32)] [] 2
def Qlx(op:Int):Tree Bool:=
.br (op==57) (.lf true) (.br (op==58) (.lf true) (.br (op==59) (.lf true) (.br (op==60) (.lf true) (.br (op==61) (.lf true) (.br (op==62) (.lf true) (.br (op==63) (.lf true) (.br (op==64) (.lf true) (.lf false))))))))
def Q2c op:=(Qlx op).m
def Qy7:Q0a:=mS 114 [] true [.one (.int .i64)] [] (λa r=>Qlx (argI a 0)) (λX=>.bool X) (λX=>[])
theorem Qk6:Q04 pG Qy7:=oS (.nil) Tryz.func114 Tryz.call114 [] [] 2
def Qr(op:Int):Tree Int:=
.br (op==32) (.lf 4) (.br (op==35) (.lf 4) (.lf 1))
def Qes op:=(Qr op).m
def Zg6:Q0a:=mS 184 [] true [.one (.int .i64)] [] (λa r=>Qr (argI a 0)) (λX=>.int .i64 X) (λX=>[])
theorem Qw3:Q04 pG Zg6:=oS (.nil) Tryz.func184 Tryz.call184 [] [] 2
def Qbv(c:Q01)(register v:Int):Tree Q01:=
.br (register !=0) (.cn (bJ 0 1&&decide (0<=register/\register<(↑16:Int))) (.lf ({X:=A16.of 0 (dC (A16.l c.X) register.toNat v),Pc:=c.Pc,B3:=c.B3}))) (.lf c)
def Qaf c register v:=(Qbv c register v).m
abbrev Q7u c register v:=(Qbv c register v).p
def xw:Q0a:=mT 185 [] true [.agg Q01.sig,.one (.int .i64),.one (.int .u32)] [] (λa r=>Qbv (Q01.of (aC a 0)) (argI a 1) (argI a 2)) (λX=>.agg (Q01.cells X)) (λX=>[])
theorem Z58:Q04 pG xw:=oT (.nil) Tryz.func185 Tryz.call185 [] [] 2
def Qdq(c:Q01)(m:List Int)(i:Q0f):Tree (Q01×(List Int)):=
.cn (bJ 0 1&&decide (0<=i.B/\i.B<(↑16:Int))) (.lv (Qes i.Op) λ(x0:Int)=>let E1:=wrap u32 (aK (A16.l c.X) i.B.toNat 0+wrap u32 i.Imm);.an (Qbu c m E1 x0 2) (.lv (Q0t c m E1 x0 2) λ(x1:Int×List Int×Int)=>.br (x1.2.2 !=0) (.lv (Q2z c x1.2.2 E1) λ(x2:Q01)=>.lf (x2,x1.2.1)) (.lv (Qes i.Op) λ(x3:Int)=>.an (Q4k x1.2.1 x1.1 x3) (.lv (Q0y x1.2.1 x1.1 x3) λ(x4:Int×Bool)=>.br (i.Op==33) (.an (Qb8 x4.1 8) (.lv (Q2l x4.1 8) λ(x5:Int)=>.an (Q7u c i.A x5) (.lv (Qaf c i.A x5) λ(x6:Q01)=>.lf ({X:=x6.X,Pc:=wrap u32 (x6.Pc+4),B3:=x6.B3},x1.2.1)))) (.an (Q7u c i.A x4.1) (.lv (Qaf c i.A x4.1) λ(x7:Q01)=>.lf ({X:=x7.X,Pc:=wrap u32 (x7.Pc+4),B3:=x7.B3},x1.2.1)))))))
def Q2i c m i:=(Qdq c m i).m
abbrev Qwh c m i:=(Qdq c m i).p
def Zl0:Q0a:=mT 119 [] true [.agg Q01.sig,.one (.ints .u32),.agg Q0f.sig] [] (λa r=>Qdq (Q01.of (aC a 0)) (argL .u32 a 1) (Q0f.of (aC a 2))) (λX=>.tup [.agg (Q01.cells (X.1)),.all 0]) (λX=>[⟨false,23,1,.ints .u32 (X.2)⟩])
theorem Zge:Q04 pG Zl0:=oT (.cons Qjf (.cons Qw3 (.cons Qd (.cons Qax (.cons Qin (.cons Z58 (.nil))))))) Tryz.func119 Tryz.call119 [.row 23 1 (.ints .u32)] [] 2
def Qbc(c:Q01)(m:List Int)(i:Q0f):Tree (Q01×(List Int)):=
.cn (bJ 0 1&&decide (0<=i.B/\i.B<(↑16:Int))) (.lv (Qes i.Op) λ(x0:Int)=>let E1:=wrap u32 (aK (A16.l c.X) i.B.toNat 0+wrap u32 i.Imm);.an (Qbu c m E1 x0 3) (.lv (Q0t c m E1 x0 3) λ(x1:Int×List Int×Int)=>.br (x1.2.2 !=0) (.lv (Q2z c x1.2.2 E1) λ(x2:Q01)=>.lf (x2,x1.2.1)) (.lv (Qes i.Op) λ(x3:Int)=>.cn (bJ 0 1&&decide (0<=i.A/\i.A<(↑16:Int))) (let E2:=aK (A16.l c.X) i.A.toNat 0;.an (Qb2 x1.2.1 x1.1 x3 E2) (.lv (Q1w x1.2.1 x1.1 x3 E2) λ(x4:List Int×Bool)=>.lf ({X:=c.X,Pc:=wrap u32 (c.Pc+4),B3:=c.B3},x4.1))))))
def Q3a c m i:=(Qbc c m i).m
abbrev Qtb c m i:=(Qbc c m i).p
def Zgl:Q0a:=mT 120 [] true [.agg Q01.sig,.one (.ints .u32),.agg Q0f.sig] [] (λa r=>Qbc (Q01.of (aC a 0)) (argL .u32 a 1) (Q0f.of (aC a 2))) (λX=>.tup [.agg (Q01.cells (X.1)),.all 0]) (λX=>[⟨false,23,1,.ints .u32 (X.2)⟩])
theorem Zax:Q04 pG Zgl:=oT (.cons Qjf (.cons Qw3 (.cons Qd (.cons Qmv (.nil))))) Tryz.func120 Tryz.call120 [.row 23 1 (.ints .u32)] [] 2
def Z0(op a b:Int):Tree Bool:=
.br (op==40) (.lf (a==b)) (.br (op==41) (.lf (a !=b)) (.br (op==42) (.lf (decide (wrap i32 a<wrap i32 b))) (.br (op==43) (.lf (decide (wrap i32 a>=wrap i32 b))) (.br (op==44) (.lf (decide (a<b))) (.lf (decide (a>=b)))))))
def Zbi op a b:=(Z0 op a b).m
def Zfq:Q0a:=mS 187 [] true [.one (.int .i64),.one (.int .u32),.one (.int .u32)] [] (λa r=>Z0 (argI a 0) (argI a 1) (argI a 2)) (λX=>.bool X) (λX=>[])
theorem Zb1:Q04 pG Zfq:=oS (.nil) Tryz.func187 Tryz.call187 [] [] 2
def Qet(c:Q01):Tree Q01:=
.lv (Q8s c.B3.a0 8 1) λ(x0:Int)=>.lv (Q8s x0 16 2) λ(x1:Int)=>.lf ({X:=c.X,Pc:=c.B3.a2,B3:={a0:=x1,a1:=c.B3.a1,a2:=c.B3.a2,a3:=c.B3.a3,a4:=c.B3.a4,a5:=c.B3.a5,a6:=c.B3.a6,a7:=c.B3.a7}})
def Qcx c:=(Qet c).m
def Zbd:Q0a:=mS 188 [] true [.agg Q01.sig] [] (λa r=>Qet (Q01.of (aC a 0))) (λX=>.agg (Q01.cells X)) (λX=>[])
theorem Za5:Q04 pG Zbd:=oS (.cons Z1j (.nil)) Tryz.func188 Tryz.call188 [] [] 2
def Qba(c:Q01)(csr v:Int):Tree Q01:=
let E4:=bJ 0 1&&decide (0<=csr/\csr<(↑8:Int));let T2:Tree (Q01):=.cn E4 (.lf ({X:=c.X,Pc:=c.Pc,B3:=A8.of 0 (dC (A8.l c.B3) csr.toNat (iand u32 v 31))}));.br (csr==0) T2 (.br (csr==7) T2 (.br (csr==6) (.cn E4 (.lf ({X:=c.X,Pc:=c.Pc,B3:=A8.of 0 (dC (A8.l c.B3) csr.toNat (iand u32 v 255))}))) (let T3:Tree (Q01):=.cn E4 (.lf ({X:=c.X,Pc:=c.Pc,B3:=A8.of 0 (dC (A8.l c.B3) csr.toNat (Q7j u32 v 3))}));.br (csr==1) T3 (.br (csr==2) T3 (let T1:Tree (Q01):=.cn E4 (.lf ({X:=c.X,Pc:=c.Pc,B3:=A8.of 0 (dC (A8.l c.B3) csr.toNat v)}));.br (csr==3) T1 (.br (csr==4) T1 (.br (csr==5) T1 (.lf c))))))))
def Zbx c csr v:=(Qba c csr v).m
abbrev Qrh c csr v:=(Qba c csr v).p
def Zfp:Q0a:=mT 189 [] true [.agg Q01.sig,.one (.int .i64),.one (.int .u32)] [] (λa r=>Qba (Q01.of (aC a 0)) (argI a 1) (argI a 2)) (λX=>.agg (Q01.cells X)) (λX=>[])
theorem Zce:Q04 pG Zfp:=oT (.nil) Tryz.func189 Tryz.call189 [] [] 2
def Q3g(c:Q01)(i:Q0f):Tree (Q01×Q1b):=
.cn (bJ 0 1&&decide (0<=i.A/\i.A<(↑16:Int))) (.cn (bJ 0 1&&decide (0<=i.B/\i.B<(↑16:Int))) (.br (i.Op==24) (.an (Q7u c i.A (ishl u32 (wrap u32 i.Imm) 16)) (.lv (Qaf c i.A (ishl u32 (wrap u32 i.Imm) 16)) λ(x0:Q01)=>.lf ({X:=x0.X,Pc:=wrap u32 (c.Pc+4),B3:=x0.B3},{C1:=0,C5:=0,D7:=0,Value:=0}))) (let E2:=({X:=c.X,Pc:=wrap u32 (c.Pc+4),B3:=c.B3}:Q01);let E3:=aK (A16.l c.X) i.B.toNat 0;let E4:=aK (A16.l c.X) i.A.toNat 0;let T1:Tree ((Q01×Q1b)):=.lv (Zbi i.Op E4 E3) λ(x1:Bool)=>.br x1 (.lf ({X:=c.X,Pc:=wrap u32 (c.Pc+wrap u32 (4*wrap u32 i.Imm)),B3:=c.B3},{C1:=0,C5:=0,D7:=0,Value:=0})) (.lf (E2,{C1:=0,C5:=0,D7:=0,Value:=0}));.br (i.Op==40) T1 (.br (i.Op==41) T1 (.br (i.Op==42) T1 (.br (i.Op==43) T1 (.br (i.Op==44) T1 (.br (i.Op==45) T1 (.br (i.Op==48) (.an (Q7u c i.A (wrap u32 (c.Pc+4))) (.lv (Qaf c i.A (wrap u32 (c.Pc+4))) λ(x7:Q01)=>.lf ({X:=x7.X,Pc:=wrap u32 (x7.Pc+wrap u32 (4*wrap u32 i.Imm)),B3:=x7.B3},{C1:=0,C5:=0,D7:=0,Value:=0}))) (.br (i.Op==49) (.an (Q7u c i.A (wrap u32 (c.Pc+4))) (.lv (Qaf c i.A (wrap u32 (c.Pc+4))) λ(x8:Q01)=>.lf ({X:=x8.X,Pc:=wrap u32 (aK (A16.l c.X) i.B.toNat 0+wrap u32 i.Imm),B3:=x8.B3},{C1:=0,C5:=0,D7:=0,Value:=0}))) (.br (i.Op==56) (.lv (Q2z c 7 0) λ(x9:Q01)=>.lf (x9,{C1:=0,C5:=0,D7:=0,Value:=0})) (.br (i.Op==57) (.lv (Qcx c) λ(x10:Q01)=>.lf (x10,{C1:=0,C5:=0,D7:=0,Value:=0})) (.br (i.Op==58) (.cn (bJ 0 1&&decide (0<=i.Imm/\i.Imm<(↑8:Int))) (let E5:=aK (A8.l c.B3) i.Imm.toNat 0;.an (Q7u c i.A E5) (.lv (Qaf c i.A E5) λ(x11:Q01)=>.lf ({X:=x11.X,Pc:=wrap u32 (c.Pc+4),B3:=x11.B3},{C1:=0,C5:=0,D7:=0,Value:=0})))) (.br (i.Op==59) (.an (Qrh c (wrap i64 i.Imm) E4) (.lv (Zbx c (wrap i64 i.Imm) E4) λ(x12:Q01)=>.lf ({X:=x12.X,Pc:=wrap u32 (c.Pc+4),B3:=x12.B3},{C1:=0,C5:=0,D7:=0,Value:=0}))) (.br (i.Op==60) (.lf (E2,{C1:=1,C5:=wrap i64 i.Imm,D7:=i.A,Value:=0})) (.br (i.Op==61) (.lf (E2,{C1:=2,C5:=wrap i64 i.Imm,D7:=0,Value:=aK (A16.l c.X) i.A.toNat 0})) (.br (i.Op==62) (.lf (E2,{C1:=3,C5:=0,D7:=0,Value:=0})) (.br (i.Op==63) (.lf (E2,{C1:=5,C5:=0,D7:=0,Value:=0})) (.br (i.Op==64) (.lf (E2,{C1:=4,C5:=0,D7:=0,Value:=0})) (.cn (bJ 0 1&&decide (0<=i.C/\i.C<(↑16:Int))) (.br (decide (i.Op>=16)) (.an (Qqc i.Op E3 (wrap u32 i.Imm)) (.lv (Q4m i.Op E3 (wrap u32 i.Imm)) λ(x13:Int×Bool)=>.an (Q7u c i.A x13.1) (.lv (Qaf c i.A x13.1) λ(x14:Q01)=>.lf ({X:=x14.X,Pc:=wrap u32 (c.Pc+4),B3:=x14.B3},{C1:=0,C5:=0,D7:=0,Value:=0})))) (let E6:=aK (A16.l c.X) i.C.toNat 0;.an (Qqc i.Op E3 E6) (.lv (Q4m i.Op E3 E6) λ(x15:Int×Bool)=>.an (Q7u c i.A x15.1) (.lv (Qaf c i.A x15.1) λ(x16:Q01)=>.lf ({X:=x16.X,Pc:=wrap u32 (c.Pc+4),B3:=x16.B3},{C1:=0,C5:=0,D7:=0,Value:=0})))))))))))))))))))))))))
def Q4x c i:=(Q3g c i).m
abbrev Qmo c i:=(Q3g c i).p
def Z91:Q0a:=mT 121 [] true [.agg Q01.sig,.agg Q0f.sig] [] (λa r=>Q3g (Q01.of (aC a 0)) (Q0f.of (aC a 1))) (λX=>.tup [.agg (Q01.cells (X.1)),.agg (Q1b.cells (X.2))]) (λX=>[])
theorem Z3n:Q04 pG Z91:=oT (.cons Z58 (.cons Zb1 (.cons Qd (.cons Za5 (.cons Zce (.cons Zjp (.nil))))))) Tryz.func121 Tryz.call121 [] [] 2
def Qa(c:Q01)(m:List Int):Tree (Q01×(List Int)×Q1b):=
.an (Qbw c m) (.lv (Q0p c m) λ(x0:Int×List Int×Int)=>.br (x0.2.2 !=0) (.lv (Q2z c x0.2.2 c.Pc) λ(x1:Q01)=>.lf (x1,x0.2.1,{C1:=0,C5:=0,D7:=0,Value:=0})) (.an (Qas x0.1) (.lv (Q18 x0.1) λ(x2:Q0f×Bool)=>.br (!x2.2) (.lv (Q2z c 1 x0.1) λ(x3:Q01)=>.lf (x3,x0.2.1,{C1:=0,C5:=0,D7:=0,Value:=0})) (.lv (Q2c x2.1.Op) λ(x4:Bool)=>let T1:Tree ((Q01×(List Int)×Q1b)):=let T2:Tree ((Q01×(List Int)×Q1b)):=.an (Qwh c x0.2.1 x2.1) (.lv (Q2i c x0.2.1 x2.1) λ(x7:Q01×List Int)=>.lf (x7.1,x7.2,{C1:=0,C5:=0,D7:=0,Value:=0}));.br (x2.1.Op==32) T2 (.br (x2.1.Op==33) T2 (.br (x2.1.Op==34) T2 (let T3:Tree ((Q01×(List Int)×Q1b)):=.an (Qtb c x0.2.1 x2.1) (.lv (Q3a c x0.2.1 x2.1) λ(x10:Q01×List Int)=>.lf (x10.1,x10.2,{C1:=0,C5:=0,D7:=0,Value:=0}));.br (x2.1.Op==35) T3 (.br (x2.1.Op==36) T3 (.an (Qmo c x2.1) (.lv (Q4x c x2.1) λ(x12:Q01×Q1b)=>.lf (x12.1,x0.2.1,x12.2)))))));.br x4 (.lv (Q5a c) λ(x5:Bool)=>.br (!x5) (.lv (Q2z c 2 x0.1) λ(x6:Q01)=>.lf (x6,x0.2.1,{C1:=0,C5:=0,D7:=0,Value:=0})) T1) T1))))
def Q2j c m:=(Qa c m).m
abbrev Qvw c m:=(Qa c m).p
def Zkg:Q0a:=mT 63 [] true [.agg Q01.sig,.one (.ints .u32)] [] (λa r=>Qa (Q01.of (aC a 0)) (argL .u32 a 1)) (λX=>.tup [.agg (Q01.cells (X.1)),.all 0,.agg (Q1b.cells (X.2.2))]) (λX=>[⟨false,23,1,.ints .u32 (X.2.1)⟩])
theorem Zfy:Q04 pG Zkg:=oT (.cons Qwg (.cons Qd (.cons Qs4 (.cons Qk6 (.cons Qs3 (.cons Zge (.cons Zax (.cons Z3n (.nil))))))))) Tryz.func63 Tryz.call63 [.row 23 1 (.ints .u32)] [] 2
end
noncomputable section
def tblYc0:List UInt8:=[(0:UInt8),1,2,2,3,3,3,3,4,4,4,4,4,4,4,4,5,5,5,5,5,5,5,5,5,5,5,5,5,5,5,5,6,6,6,6,6,6,6,6,6,6,6,6,6,6,6,6,6,6,6,6,6,6,6,6,6,6,6,6,6,6,6,6]
def Zcj:List UInt8:=[(7:UInt8),7,7,7,7,7,7,7,7,7,7,7,7,7,7,7,7,7,7,7,7,7,7,7,7,7,7,7,7,7,7,7,7,7,7,7,7,7,7,7,7,7,7,7,7,7,7,7,7,7,7,7,7,7,7,7,7,7,7,7,7,7,7,7]
def Qpk:List UInt8:=[(8:UInt8),8,8,8,8,8,8,8,8,8,8,8,8,8,8,8,8,8,8,8,8,8,8,8,8,8,8,8,8,8,8,8,8,8,8,8,8,8,8,8,8,8,8,8,8,8,8,8,8,8,8,8,8,8,8,8,8,8,8,8,8,8,8,8]
def Zj2:List UInt8:=[(1:UInt8),2,2,3,3,3,3,4,4,4,4,4,4,4,4,5,5,5,5,5,5,5,5,5,5,5,5,5,5,5,5,6,6,6,6,6,6,6,6,6,6,6,6,6,6,6,6,6,6,6,6,6,6,6,6,6,6,6,6,6,6,6,6]
def tblYc4:List UInt8:=[(0:UInt8),1,1,2,1,2,2,3,1,2,2,3,2,3,3,4,1,2,2,3,2,3,3,4,2,3,3,4,3,4,4,5,1,2,2,3,2,3,3,4,2,3,3,4,3,4,4,5,2,3,3,4,3,4,4,5,3,4,4,5,4,5,5,6]
def Qpb:List UInt8:=[(1:UInt8),2,2,3,2,3,3,4,2,3,3,4,3,4,4,5,2,3,3,4,3,4,4,5,3,4,4,5,4,5,5,6,2,3,3,4,3,4,4,5,3,4,4,5,4,5,5,6,3,4,4,5,4,5,5,6,4,5,5,6,5,6,6,7]
def Zdi:List UInt8:=[(2:UInt8),3,3,4,3,4,4,5,3,4,4,5,4,5,5,6,3,4,4,5,4,5,5,6,4,5,5,6,5,6,6,7,3,4,4,5,4,5,5,6,4,5,5,6,5,6,6,7,4,5,5,6,5,6,6,7,5,6,6,7,6,7,7,8]
def Zhg:List UInt8:=[(1:UInt8),1,2,1,2,2,3,1,2,2,3,2,3,3,4,1,2,2,3,2,3,3,4,2,3,3,4,3,4,4,5,1,2,2,3,2,3,3,4,2,3,3,4,3,4,4,5,2,3,3,4,3,4,4,5,3,4,4,5,4,5,5,6]
def Qr9(c:Q0e):Tree Bool:=
.lf (decide ((c.C9.length:Int)<=(16:Int)))
def Q2p c:=(Qr9 c).m
def Z9r:Q0a:=mS 195 [] true [.agg Q0e.sig] [] (λa r=>Qr9 (Q0e.of (aC a 0))) (λX=>.bool X) (λX=>[])
theorem Z39:Q04 pG Z9r:=oS (.nil) Tryz.func195 Tryz.call195 [] [] 2
def Ql(t:Q0l):Tree Bool:=
.br t.D4 (.br (!t.D3) (.lf (t.C6 !=0)) (.lf false)) (.br t.D3 (.lf true) (.lf (t.C6==0)))
def Q4f t:=(Ql t).m
def Zgj:Q0a:=mS 196 [] true [.agg Q0l.sig] [] (λa r=>Ql (Q0l.of (aC a 0))) (λX=>.bool X) (λX=>[])
theorem Zd6:Q04 pG Zgj:=oS (.nil) Tryz.func196 Tryz.call196 [] [] 2
def Q72(d0:Q0d):Tree Bool:=
.br (d0.D6==1) (.lf (decide (d0.C0=[]))) (.br (d0.D6==2) (.lf ((d0.C0.length:Int)==(128:Int))) (.lf false))
def Q9e d0:=(Q72 d0).m
def Qtl:Q0a:=mS 260 [] true [.agg Q0d.sig] [] (λa r=>Q72 (Q0d.of (aC a 0))) (λX=>.bool X) (λX=>[])
theorem Qr8:Q04 pG Qtl:=oS (.nil) Tryz.func260 Tryz.call260 [] [] 2
def Q5z(d0:Q0d)(pages:Int):Tree Bool:=
.br (decide (d0.Blocks>64)) (.lf false) (let T1:Tree (Bool):=.br (d0.D6==0) (.br (d0.B4==0) (.br (d0.B1==0) (.lf (decide (d0.C0=[]))) (.lf false)) (.lf false)) (.lf false);.br (d0.B7==0) T1 (.br (d0.B7==2) T1 (.br (d0.B7==3) T1 (.br (d0.B7==1) (.lv (Q9e d0) λ(x0:Bool)=>.br x0 (.br (decide (d0.B4<d0.Blocks)) (.lf (decide (wrap i64 d0.B1<pages))) (.lf false)) (.lf false)) (.lf false)))))
def Q1j d0 pages:=(Q5z d0 pages).m
def Zlr:Q0a:=mS 197 [] true [.agg Q0d.sig,.one (.int .i64)] [] (λa r=>Q5z (Q0d.of (aC a 0)) (argI a 1)) (λX=>.bool X) (λX=>[])
theorem Zfk:Q04 pG Zlr:=oS (.cons Qr8 (.nil)) Tryz.func197 Tryz.call197 [] [] 2
def Qkc(n:Q0w)(pages:Int):Tree Bool:=
let T1:Tree (Bool):=let T2:Tree (Bool):=.br n.B5 (.br (decide (n.E0>=1)) (.lf (decide (n.E0<=128))) (.lf false)) (.lf (n.E0==0));.br n.C3 (.br (decide (wrap i64 n.B6>=pages)) (.lf false) T2) (.br (n.B6 !=0) (.lf false) T2);.br n.C3 (.br n.B5 (.lf false) T1) T1
def Q5w n pages:=(Qkc n pages).m
def zw:Q0a:=mS 198 [] true [.agg Q0w.sig,.one (.int .i64)] [] (λa r=>Qkc (Q0w.of (aC a 0)) (argI a 1)) (λX=>.bool X) (λX=>[])
theorem Zkl:Q04 pG zw:=oS (.nil) Tryz.func198 Tryz.call198 [] [] 2
def Q2e(x:Int):Tree Int:=
let E1:=(↑(dG (cN (cN tblYc0 Zcj) (cN Qpk Qpk))):Int);.br (decide (x>=65536)) (.br (decide (ishr u32 x (16:Int)>=(256:Int))) (.cn (decide (0<=wrap u8 (ishr u32 (ishr u32 x 16) 8)/\wrap u8 (ishr u32 (ishr u32 x 16) 8)<E1)) (.lf (wrap i64 (wrap i64 ((16:Int)+(8:Int))+wrap i64 (↑(eQ (aK ((0:UInt8)::(Zj2++Zcj++(Qpk++Qpk))) (dB (wrap u8 (ishr u32 (ishr u32 x 16) 8))) (0:UInt8))):Int))))) (.cn (decide (0<=wrap u8 (ishr u32 x 16)/\wrap u8 (ishr u32 x 16)<E1)) (.lf (wrap i64 (16+wrap i64 (↑(eQ (aK ((0:UInt8)::(Zj2++Zcj++(Qpk++Qpk))) (dB (wrap u8 (ishr u32 x 16))) (0:UInt8))):Int)))))) (.br (decide (x>=256)) (.cn (decide (0<=wrap u8 (ishr u32 x 8)/\wrap u8 (ishr u32 x 8)<E1)) (.lf (wrap i64 (wrap i64 ((0:Int)+(8:Int))+wrap i64 (↑(eQ (aK ((0:UInt8)::(Zj2++Zcj++(Qpk++Qpk))) (dB (wrap u8 (ishr u32 x 8))) (0:UInt8))):Int))))) (.cn (decide (0<=wrap u8 x/\wrap u8 x<E1)) (.lf (wrap i64 (0+wrap i64 (↑(eQ (aK ((0:UInt8)::(Zj2++Zcj++(Qpk++Qpk))) (dB (wrap u8 x)) (0:UInt8))):Int))))))
def Q1m x:=(Q2e x).m
abbrev Qhl x:=(Q2e x).p
def Qv8:Q0a:=mT 261 [] true [.one (.int .u32)] [] (λa r=>Q2e (argI a 0)) (λX=>.int .i64 X) (λX=>[])
theorem Qru:Q04 pG Qv8:=oT (.nil) Tryz.func261 Tryz.call261 [] [] 2
def Q66(b:Q06)(pages:Int):Tree Bool:=
.an (Qhl b.B9) (.lv (Q1m b.B9) λ(x0:Int)=>.lf (decide (x0<=if 0>pages then 0 else pages)))
def Q2w b pages:=(Q66 b pages).m
abbrev Qhj b pages:=(Q66 b pages).p
def Z7n:Q0a:=mT 199 [] true [.agg Q06.sig,.one (.int .i64)] [] (λa r=>Q66 (Q06.of (aC a 0)) (argI a 1)) (λX=>.bool X) (λX=>[])
theorem Z3y:Q04 pG Z7n:=oT (.cons Qru (.nil)) Tryz.func199 Tryz.call199 [] [] 2
def Q1z(m:Q00):Tree Bool:=
.lv (Q0u m.Mem) λ(x0:Int)=>.lv (Q2p m.A2) λ(x1:Bool)=>.br x1 (.lv (Q4f m.A9) λ(x2:Bool)=>.br x2 (.lv (Q1j m.A7 x0) λ(x3:Bool)=>.br x3 (.lv (Q5w m.C2 x0) λ(x4:Bool)=>.br x4 (.an (Qhj m.A0 x0) (.lv (Q2w m.A0 x0) λ(x5:Bool)=>.lf x5)) (.lf false)) (.lf false)) (.lf false)) (.lf false)
def Q1 m:=(Q1z m).m
abbrev Q3z m:=(Q1z m).p
def Qp7:Q0a:=mT 131 [] true [.agg Q00.sig] [] (λa r=>Q1z (Q00.of (aC a 0))) (λX=>.bool X) (λX=>[])
theorem Qnt:Q04 pG Qp7:=oT (.cons Q2b (.cons Z39 (.cons Zd6 (.cons Zfk (.cons Zkl (.cons Z3y (.nil))))))) Tryz.func131 Tryz.call131 [] [] 2
def Q65(m:Q00):Tree Bool:=
.lv (Q0u m.Mem) λ(x0:Int)=>.br (x0==0) (.lf false) (.br (m.B2.X.a0 !=0) (.lf false) (.br (decide (m.B2.B3.a0>31)) (.lf false) (.br (decide (m.B2.B3.a7>31)) (.lf false) (.br (decide (m.B2.B3.a6>255)) (.lf false) (.br (dA m.B2.B3.a1 (4:Int) !=(0:Int)) (.lf false) (.br (decide (m.A3>1152921504606846976)) (.lf false) (.br m.A4 (.br m.A6 (.lf false) (.an (Q3z m) (.lv (Q1 m) λ(x1:Bool)=>.lf x1))) (.an (Q3z m) (.lv (Q1 m) λ(x2:Bool)=>.lf x2)))))))))
def Q10 m:=(Q65 m).m
abbrev Q4h m:=(Q65 m).p
def Z98:Q0a:=mT 68 [] true [.agg Q00.sig] [] (λa r=>Q65 (Q00.of (aC a 0))) (λX=>.bool X) (λX=>[])
theorem Qdz:Q04 pG Z98:=oT (.cons Q2b (.cons Qnt (.nil))) Tryz.func68 Tryz.call68 [] [] 2
def Qnb(t:Q0l):Tree Bool:=
.lf t.D3
def Qfn t:=(Qnb t).m
def Qz2:Q0a:=mS 170 [] true [.agg Q0l.sig] [] (λa r=>Qnb (Q0l.of (aC a 0))) (λX=>.bool X) (λX=>[])
theorem Qx5:Q04 pG Qz2:=oS (.nil) Tryz.func170 Tryz.call170 [] [] 2
def Qjx(c:Q0e):Tree Bool:=
.lf (!decide (c.C9=[]))
def Q96 c:=(Qjx c).m
def Quv:Q0a:=mS 171 [] true [.agg Q0e.sig] [] (λa r=>Qjx (Q0e.of (aC a 0))) (λX=>.bool X) (λX=>[])
theorem Qrt:Q04 pG Quv:=oS (.nil) Tryz.func171 Tryz.call171 [] [] 2
def Qj3(d0:Q0d):Tree Bool:=
.br (d0.B7==2) (.lf true) (.lf (d0.B7==3))
def Q97 d0:=(Qj3 d0).m
def Z45:Q0a:=mS 172 [] true [.agg Q0d.sig] [] (λa r=>Qj3 (Q0d.of (aC a 0))) (λX=>.bool X) (λX=>[])
theorem Qmk:Q04 pG Z45:=oS (.nil) Tryz.func172 Tryz.call172 [] [] 2
def Qtk(n:Q0w):Tree Bool:=
.lf n.B5
def Ql9 n:=(Qtk n).m
def Z9m:Q0a:=mS 173 [] true [.agg Q0w.sig] [] (λa r=>Qtk (Q0w.of (aC a 0))) (λX=>.bool X) (λX=>[])
theorem Z43:Q04 pG Z9m:=oS (.nil) Tryz.func173 Tryz.call173 [] [] 2
def Q3i(x:Int):Tree Int:=
let E1:=(↑(dG (cN (cN tblYc4 Qpb) (cN Qpb Zdi))):Int);.cn (decide (0<=ishr u32 x 24/\ishr u32 x 24<E1)) (.cn (decide (0<=iand u32 (ishr u32 x 16) 255/\iand u32 (ishr u32 x 16) 255<E1)) (.cn (decide (0<=iand u32 (ishr u32 x 8) 255/\iand u32 (ishr u32 x 8) 255<E1)) (.cn (decide (0<=iand u32 x 255/\iand u32 x 255<E1)) (.lf (wrap i64 (wrap u8 (wrap u8 (wrap u8 ((↑(eQ (aK ((0:UInt8)::(Zhg++Qpb++(Qpb++Zdi))) (dB (ishr u32 x 24)) (0:UInt8))):Int)+(↑(eQ (aK ((0:UInt8)::(Zhg++Qpb++(Qpb++Zdi))) (dB (iand u32 (ishr u32 x 16) 255)) (0:UInt8))):Int))+(↑(eQ (aK ((0:UInt8)::(Zhg++Qpb++(Qpb++Zdi))) (dB (iand u32 (ishr u32 x 8) 255)) (0:UInt8))):Int))+(↑(eQ (aK ((0:UInt8)::(Zhg++Qpb++(Qpb++Zdi))) (dB (iand u32 x 255)) (0:UInt8))):Int))))))))
def Q6b x:=(Q3i x).m
abbrev Qal x:=(Q3i x).p
def Qkm:Q0a:=mT 253 [] true [.one (.int .u32)] [] (λa r=>Q3i (argI a 0)) (λX=>.int .i64 X) (λX=>[])
theorem Qjs:Q04 pG Qkm:=oT (.nil) Tryz.func253 Tryz.call253 [] [] 2
def Q9f(b:Q06):Tree Int:=
.an (Qal b.B9) (.lv (Q6b b.B9) λ(x0:Int)=>.lf x0)
def Qbs b:=(Q9f b).m
abbrev Qdd b:=(Q9f b).p
def Qzw:Q0a:=mT 191 [] true [.agg Q06.sig] [] (λa r=>Q9f (Q06.of (aC a 0))) (λX=>.int .i64 X) (λX=>[])
theorem Qly:Q04 pG Qzw:=oT (.cons Qjs (.nil)) Tryz.func191 Tryz.call191 [] [] 2
def Q5b(b:Q06):Tree Bool:=
.an (Qdd b) (.lv (Qbs b) λ(x0:Int)=>.lf (wrap u32 x0 !=b.C4))
def Q7c b:=(Q5b b).m
abbrev Qhe b:=(Q5b b).p
def Qup:Q0a:=mT 174 [] true [.agg Q06.sig] [] (λa r=>Q5b (Q06.of (aC a 0))) (λX=>.bool X) (λX=>[])
theorem Qs6:Q04 pG Qup:=oT (.cons Qly (.nil)) Tryz.func174 Tryz.call174 [] [] 2
def Qh6(m:Q00)(z:(Int)×(Int)):Nat:=(5-z.2).toNat
def Q7e(m:Q00):Tree Int:=
.lv (Qfn m.A9) λ(x0:Bool)=>.lv (Q96 m.A2) λ(x1:Bool)=>.lv (Q97 m.A7) λ(x2:Bool)=>.lv (Ql9 m.C2) λ(x3:Bool)=>.an (Qhe m.A0) (.lv (Q7c m.A0) λ(x4:Bool)=>.lp inferInstance (Qh6 m (0,0)+1) ((rE (0:Int)/\(rE (x0:Bool)/\rE (x1:Bool)/\rE (x2:Bool)/\rE (x3:Bool)/\rE (x4:Bool)/\True)/\rE (0:Int)/\True)/\True) (0,0) λ(v0:Int×Int)=>.br (decide (v0.2<5)) (.cn (bT 1 1&&(bT 5 5&&decide (0<=v0.2/\v0.2<(↑5:Int)))) (.br (aK [x0,x1,x2,x3,x4] v0.2.toNat false) (.cn (decide (0<=v0.2)) (.nx ((rE ((ior u32 v0.1 (ishl u32 1 v0.2)):Int)/\(rE (x0:Bool)/\rE (x1:Bool)/\rE (x2:Bool)/\rE (x3:Bool)/\rE (x4:Bool)/\True)/\rE ((wrap i64 (v0.2+1)):Int)/\True)/\True) (Sum.inl (ior u32 v0.1 (ishl u32 1 v0.2),wrap i64 (v0.2+1))))) (.nx ((rE v0.1/\(rE (x0:Bool)/\rE (x1:Bool)/\rE (x2:Bool)/\rE (x3:Bool)/\rE (x4:Bool)/\True)/\rE ((wrap i64 (v0.2+1)):Int)/\True)/\True) (Sum.inl (v0.1,wrap i64 (v0.2+1)))))) (.lf (Sum.inr v0.1)))
def Q31 m:=(Q7e m).m
abbrev Qdm m:=(Q7e m).p
def Qxb:LInv:={
 α:=(Int)×(Int)
 F:=λst a=>([(4,.int u32 a.1),(23,(lk st 23)),(24,.int i64 a.2)],[])
 a0:=λst=>((lk st 4).toInt,(lk st 24).toInt)
 ex0:=λst=>[]++[]}
def Qti:List (Nat×LInv):=[(4,Qxb)]
def Z22:Q0a:=mT 108 [] true [.agg Q00.sig] [] (λa r=>Q7e (Q00.of (aC a 0))) (λX=>.int .u32 X) (λX=>[])
theorem Qlo:Q04 pG Z22:=oT (.cons Qx5 (.cons Qrt (.cons Qmk (.cons Z43 (.cons Qs6 (.nil)))))) Tryz.func108 Tryz.call108 [] Qti 3
def Q39(m:Q00):Tree Int:=
.an (Qdm m) (.lv (Q31 m) λ(x0:Int)=>.lf (iand u32 x0 m.B2.B3.a7))
def Q5p m:=(Q39 m).m
abbrev Qb9 m:=(Q39 m).p
def Qua:Q0a:=mT 117 [] true [.agg Q00.sig] [] (λa r=>Q39 (Q00.of (aC a 0))) (λX=>.int .u32 X) (λX=>[])
theorem Qif:Q04 pG Qua:=oT (.cons Qlo (.nil)) Tryz.func117 Tryz.call117 [] [] 2
def Q56(m:Q00):Tree Bool:=
.br m.A4 (.an (Qb9 m) (.lv (Q5p m) λ(x0:Int)=>.lf (x0==0))) (.lf false)
def Q4p m:=(Q56 m).m
abbrev Qaz m:=(Q56 m).p
def Z2u:Q0a:=mT 107 [] true [.agg Q00.sig] [] (λa r=>Q56 (Q00.of (aC a 0))) (λX=>.bool X) (λX=>[])
theorem Qnw:Q04 pG Z2u:=oT (.cons Qif (.nil)) Tryz.func107 Tryz.call107 [] [] 2

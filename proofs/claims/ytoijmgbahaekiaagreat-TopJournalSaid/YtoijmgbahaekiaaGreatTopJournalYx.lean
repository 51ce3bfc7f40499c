import Derived.Test.YtoijmgbahaekiaaGreatTopJournalBase
open Int renaming tmod->hZ,tdiv->iA,toNat->dM
open Nat renaming beq->bV,blt->bK
open List renaming set->fF,getD->aK,length->dR,append->iB
open UInt8 renaming toNat->iC
set_option maxRecDepth 100000
set_option linter.all false
namespace Go.Proofs.YtoijmgbahaekiaaGreat
open Go Go.GD Go.IntKind
noncomputable section
def Q0b(s:List Int):(List Int):=
s
def Q08(s:List Int):Prop:=
s.length<=35184372088832
def Q30(s:List Int):List D:=[.sl 1 (.ints .u32 s) false]
def Q26(s:List Int):List Row:=[]
def Q1g(X:List Int):D:=.all 0
def Q1i(X:List Int):List Row:=[⟨false,25,1,.ints .u32 X⟩]
def Qbd:List Dir:=[.row 25 1 (.ints .u32)]
def Q5q:List PT:=[.one (.ints .u32)]
def Q59:List RT:=[]
def Qc7(args:List D)(rows:List Row):(List Int):=Q0b (argL .u32 args 0)
def Qcd(args:List D)(rows:List Row):Prop:=Q08 (argL .u32 args 0)
def Qdf:Q09:=mkP 125 [] true Q5q Q59 Qcd Qc7 Q1g Q1i
def Q3t(s:List Int)(Leaf:(List Int)->Prop):Prop:=
(s=[]->Leaf [])/\cand (decide ((4:Nat)*((0:Nat)+s.length)<=(140737488355328:Nat))) (Leaf s)
set_option maxRecDepth 100000 in
theorem Qcr(s:List Int)(Q:D->List Row->Prop):(fnVC tab [] (LL tab [] Tryz.f125.ntmps 0 [] 2) Tryz.f125 (Q30 s) (Q26 s) λd R=>Q7p (Q26 s).length Qbd d R Q)=Q3t s (λX=>Q (Q1g X) (Q1i X)):=by kernel_rfl
theorem Qbo(s:List Int)(Leaf:(List Int)->Prop)(hw:Q08 s)(h:Leaf (Q0b s)):
Q3t s Leaf:=by
 delta Q3t
 refine⟨λe=>by rw[e]at h;exact h,?_⟩
 rw[Q02]
 refine⟨dY ?_,h⟩
 have:s.length<=35184372088832:=hw
 omega
set_option maxRecDepth 100000 in
theorem Qay(s:List Int)(hw:Q08 s):Q2f pG 125 (Q30 s) (Q26 s) (Q1g (Q0b s)) (Q1i (Q0b s)):=
 have hG:Q57 pG []:=.nil
 FnOK.calls drawn Q0k hG Tryz.func125 (rf:=none) (λ_ _=>trivial) (Z8e drawn Q0k hG (.inl rfl) 2 (invs:=[])) (FnOK.of (Qcr s _) (Qbo s (λX=>Q1g X=Q1g (Q0b s)/\Q1i X=Q1i (Q0b s)) hw ⟨rfl,rfl⟩))
set_option maxRecDepth 100000 in
theorem Qbh(args:List D)(rows:List Row):Qc8 Q5q args 0=Q30 (argL .u32 args 0):=by kernel_rfl
set_option maxRecDepth 100000 in
theorem Qax(args:List D)(rows:List Row):Q4d Q59 rows 0=Q26 (argL .u32 args 0):=by kernel_rfl
set_option maxRecDepth 100000 in
theorem Qci(X:List Int):(ffB (Q1g X)&&ffBR (Q1i X))=true:=by kernel_rfl
theorem Q0s:Q05 pG Qdf:=Qxh Tryz.call125 (λargs rows hp=>by rw[Qbh args rows,Qax args rows];exact Qay (argL .u32 args 0) hp) (λ_ X=>Qci X)
def Qls(m:List Int):Tree Int:=
.br (hZ (m.length:Int) (32:Int) !=(0:Int)) (.lf 0) (.br (decide ((m.length:Int)>(1024:Int))) (.lf 0) (.lf (wrap i64 (iA (m.length:Int) 32))))
def Q4x m:=(Qls m).m
def Qyn:Q09:=mS 131 [] true [.one (.ints .u32)] [] (λa r=>Qls (argL .u32 a 0)) (λX=>.int .i64 X) (λX=>[])
theorem Q3a:Q05 pG Qyn:=oS (.nil) Tryz.func131 Tryz.call131 [] [] 2
def Q7q(m:List Int)(addr size:Int):Tree Bool:=
let T1:Tree (Bool):=.cn (decide (wrap u32 size≠0)) (.br (hZ addr (wrap u32 size) !=0) (.lf false) (.lv (Q4x m) λ(x0:Int)=>.lf (decide (wrap u64 (wrap u64 addr+wrap u64 size)<=wrap u64 (wrap u64 x0*128)))));.br (size !=1) (.br (size !=4) (.lf false) T1) T1
def Qht m addr size:=(Q7q m addr size).m
abbrev Q85 m addr size:=(Q7q m addr size).p
def Qu4:Q09:=mT 383 [] true [.one (.ints .u32),.one (.int .u32),.one (.int .i64)] [] (λa r=>Q7q (argL .u32 a 0) (argI a 1) (argI a 2)) (λX=>.bool X) (λX=>[])
theorem Qil:Q05 pG Qu4:=oT (.cons Q3a (.nil)) Tryz.func383 Tryz.call383 [] [] 2
def Qdy(n:Int):Tree Int:=
.br (decide (n>=32)) (.lf 4294967295) (.cn (decide (0<=wrap u64 n)) (.lf (wrap u32 (ishl u32 1 (wrap u64 n)-1))))
def Qvi n:=(Qdy n).m
abbrev Qd7 n:=(Qdy n).p
def Z6x:Q09:=mT 384 [] true [.one (.int .i64)] [] (λa r=>Qdy (argI a 0)) (λX=>.int .u32 X) (λX=>[])
theorem Qrd:Q05 pG Z6x:=oT (.nil) Tryz.func384 Tryz.call384 [] [] 2
def Qcg(w low n:Int):Tree Int:=
.br (decide (low<0)) (.lf 0) (.br (decide (low>31)) (.lf 0) (.br (decide (n<1)) (.lf 0) (.cn (decide (0<=wrap u64 low)) (.an (Qd7 n) (.lv (Qvi n) λ(x0:Int)=>.lf (iand u32 (ishr u32 w (wrap u64 low)) x0))))))
def Qb8 w low n:=(Qcg w low n).m
abbrev Q3v w low n:=(Qcg w low n).p
def Z4i:Q09:=mT 317 [] true [.one (.int .u32),.one (.int .i64),.one (.int .i64)] [] (λa r=>Qcg (argI a 0) (argI a 1) (argI a 2)) (λX=>.int .u32 X) (λX=>[])
theorem Qho:Q05 pG Z4i:=oT (.cons Qrd (.nil)) Tryz.func317 Tryz.call317 [] [] 2
def Q7s(w low n v:Int):Tree Int:=
.br (decide (low<0)) (.lf w) (.br (decide (low>31)) (.lf w) (.br (decide (n<1)) (.lf w) (.an (Qd7 n) (.lv (Qvi n) λ(x0:Int)=>.cn (decide (0<=wrap u64 low)) (.cn (decide (0<=wrap u64 low)) (.lf (ior u32 (Zbq u32 w (ishl u32 x0 (wrap u64 low))) (ishl u32 (iand u32 v x0) (wrap u64 low)))))))))
def Qoi w low n v:=(Q7s w low n v).m
abbrev Qb3 w low n v:=(Q7s w low n v).p
def Quy:Q09:=mT 386 [] true [.one (.int .u32),.one (.int .i64),.one (.int .i64),.one (.int .u32)] [] (λa r=>Q7s (argI a 0) (argI a 1) (argI a 2) (argI a 3)) (λX=>.int .u32 X) (λX=>[])
theorem Qs9:Q05 pG Quy:=oT (.cons Qrd (.nil)) Tryz.func386 Tryz.call386 [] [] 2
def Q95(m:List Int)(addr size v:Int):Tree ((List Int)×Bool):=
.an (Q08 m) (.lv (Q0b m) λ(x0:List Int)=>.an (Q85 m addr size) (.lv (Qht m addr size) λ(x1:Bool)=>.br (!x1) (.lf (x0,false)) (let E1:=bV 1 1&&bK 0 1&&decide (0<=wrap u32 (iA addr 4)/\wrap u32 (iA addr 4)<(x0.length:Int));let E2:=dM (wrap u32 (iA addr 4));.br (size==1) (.cn E1 (let E3:=wrap i64 (wrap i64 (hZ addr 4)*8);.an (Qb3 (x0.getD E2 0) E3 8 v) (.lv (Qoi (x0.getD E2 0) E3 8 v) λ(x2:Int)=>.cn E1 (.lf (fF x0 E2 x2,true))))) (.cn E1 (.lf (fF x0 E2 v,true))))))
def Qfk m addr size v:=(Q95 m addr size v).m
abbrev Q6c m addr size v:=(Q95 m addr size v).p
def Qxu:Q09:=mT 323 [] true [.one (.ints .u32),.one (.int .u32),.one (.int .i64),.one (.int .u32)] [] (λa r=>Q95 (argL .u32 a 0) (argI a 1) (argI a 2) (argI a 3)) (λX=>.tup [.all 0,.bool (X.2)]) (λX=>[⟨false,25,1,.ints .u32 (X.1)⟩])
theorem Qjn:Q05 pG Qxu:=oT (.cons Q0s (.cons Qil (.cons Qs9 (.nil)))) Tryz.func323 Tryz.call323 [.row 25 1 (.ints .u32)] [] 2
def Z3s(op:Int):Tree (Qa7×Bool):=
.br (op==1) (.lf ({a:=true,b:=true,c:=true,low:=0,D7:=0},true)) (.br (op==2) (.lf ({a:=true,b:=true,c:=true,low:=0,D7:=0},true)) (.br (op==3) (.lf ({a:=true,b:=true,c:=true,low:=0,D7:=0},true)) (.br (op==4) (.lf ({a:=true,b:=true,c:=true,low:=0,D7:=0},true)) (.br (op==5) (.lf ({a:=true,b:=true,c:=true,low:=0,D7:=0},true)) (.br (op==6) (.lf ({a:=true,b:=true,c:=true,low:=0,D7:=0},true)) (.br (op==7) (.lf ({a:=true,b:=true,c:=true,low:=0,D7:=0},true)) (.br (op==8) (.lf ({a:=true,b:=true,c:=true,low:=0,D7:=0},true)) (.br (op==9) (.lf ({a:=true,b:=true,c:=true,low:=0,D7:=0},true)) (.br (op==10) (.lf ({a:=true,b:=true,c:=true,low:=0,D7:=0},true)) (.br (op==11) (.lf ({a:=true,b:=true,c:=true,low:=0,D7:=0},true)) (.br (op==12) (.lf ({a:=true,b:=true,c:=true,low:=0,D7:=0},true)) (.br (op==13) (.lf ({a:=true,b:=true,c:=true,low:=0,D7:=0},true)) (.br (op==16) (.lf ({a:=true,b:=true,c:=false,low:=(-32768),D7:=32767},true)) (.br (op==23) (.lf ({a:=true,b:=true,c:=false,low:=(-32768),D7:=32767},true)) (.br (op==32) (.lf ({a:=true,b:=true,c:=false,low:=(-32768),D7:=32767},true)) (.br (op==33) (.lf ({a:=true,b:=true,c:=false,low:=(-32768),D7:=32767},true)) (.br (op==34) (.lf ({a:=true,b:=true,c:=false,low:=(-32768),D7:=32767},true)) (.br (op==35) (.lf ({a:=true,b:=true,c:=false,low:=(-32768),D7:=32767},true)) (.br (op==36) (.lf ({a:=true,b:=true,c:=false,low:=(-32768),D7:=32767},true)) (.br (op==40) (.lf ({a:=true,b:=true,c:=false,low:=(-32768),D7:=32767},true)) (.br (op==41) (.lf ({a:=true,b:=true,c:=false,low:=(-32768),D7:=32767},true)) (.br (op==42) (.lf ({a:=true,b:=true,c:=false,low:=(-32768),D7:=32767},true)) (.br (op==43) (.lf ({a:=true,b:=true,c:=false,low:=(-32768),D7:=32767},true)) (.br (op==44) (.lf ({a:=true,b:=true,c:=false,low:=(-32768),D7:=32767},true)) (.br (op==45) (.lf ({a:=true,b:=true,c:=false,low:=(-32768),D7:=32767},true)) (.br (op==49) (.lf ({a:=true,b:=true,c:=false,low:=(-32768),D7:=32767},true)) (.br (op==17) (.lf ({a:=true,b:=true,c:=false,low:=0,D7:=65535},true)) (.br (op==18) (.lf ({a:=true,b:=true,c:=false,low:=0,D7:=65535},true)) (.br (op==19) (.lf ({a:=true,b:=true,c:=false,low:=0,D7:=65535},true)) (.br (op==20) (.lf ({a:=true,b:=true,c:=false,low:=0,D7:=31},true)) (.br (op==21) (.lf ({a:=true,b:=true,c:=false,low:=0,D7:=31},true)) (.br (op==22) (.lf ({a:=true,b:=true,c:=false,low:=0,D7:=31},true)) (.br (op==24) (.lf ({a:=true,b:=false,c:=false,low:=0,D7:=65535},true)) (.br (op==48) (.lf ({a:=true,b:=false,c:=false,low:=(-32768),D7:=32767},true)) (.br (op==58) (.lf ({a:=true,b:=false,c:=false,low:=0,D7:=7},true)) (.br (op==59) (.lf ({a:=true,b:=false,c:=false,low:=0,D7:=7},true)) (.br (op==60) (.lf ({a:=true,b:=false,c:=false,low:=0,D7:=11},true)) (.br (op==61) (.lf ({a:=true,b:=false,c:=false,low:=0,D7:=11},true)) (.br (op==56) (.lf ({a:=false,b:=false,c:=false,low:=0,D7:=0},true)) (.br (op==57) (.lf ({a:=false,b:=false,c:=false,low:=0,D7:=0},true)) (.br (op==62) (.lf ({a:=false,b:=false,c:=false,low:=0,D7:=0},true)) (.br (op==63) (.lf ({a:=false,b:=false,c:=false,low:=0,D7:=0},true)) (.br (op==64) (.lf ({a:=false,b:=false,c:=false,low:=0,D7:=0},true)) (.lf ({a:=false,b:=false,c:=false,low:=0,D7:=0},false)))))))))))))))))))))))))))))))))))))))))))))
def Z79 op:=(Z3s op).m
def zr:Q09:=mS 318 [] true [.one (.int .i64)] [] (λa r=>Z3s (argI a 0)) (λX=>.tup [.agg (Qa7.cells (X.1)),.bool (X.2)]) (λX=>[])
theorem Qzf:Q05 pG zr:=oS (.nil) Tryz.func318 Tryz.call318 [] [] 2
def Q5g(x n:Int):Tree Int:=
.br (decide (n<1)) (.lf 0) (.br (decide (n>=32)) (.lf x) (let E1:=decide (0<=wrap u64 (wrap i64 (32-n)));.cn E1 (.cn E1 (.lf (wrap u32 (ishr i32 (wrap i32 (ishl u32 x (wrap u64 (wrap i64 (32-n))))) (wrap u64 (wrap i64 (32-n)))))))))
def Qey x n:=(Q5g x n).m
abbrev Q6 x n:=(Q5g x n).p
def Qpu:Q09:=mT 319 [] true [.one (.int .u32),.one (.int .i64)] [] (λa r=>Q5g (argI a 0) (argI a 1)) (λX=>.int .u32 X) (λX=>[])
theorem Qfa:Q05 pG Qpu:=oT (.nil) Tryz.func319 Tryz.call319 [] [] 2
def Qll(r:Int)(used:Bool):Tree Bool:=
.br used (.br (decide (r>=0)) (.lf (decide (r<=15))) (.lf false)) (.lf (r==0))
def Qf7 r used:=(Qll r used).m
def Qyj:Q09:=mS 385 [] true [.one (.int .i64),.one (.bool)] [] (λa r=>Qll (argI a 0) (argB a 1)) (λX=>.bool X) (λX=>[])
theorem Qwv:Q05 pG Qyj:=oS (.nil) Tryz.func385 Tryz.call385 [] [] 2
def Qvn(i:Q10):Tree Bool:=
.lv (Z79 i.Op) λ(x0:Qa7×Bool)=>.br x0.2 (.lv (Qf7 i.A x0.1.a) λ(x1:Bool)=>.br x1 (.lv (Qf7 i.B x0.1.b) λ(x2:Bool)=>.br x2 (.lv (Qf7 i.C x0.1.c) λ(x3:Bool)=>.br x3 (.br (decide (i.F3>=x0.1.low)) (.lf (decide (i.F3<=x0.1.D7))) (.lf false)) (.lf false)) (.lf false)) (.lf false)) (.lf false)
def Qnz i:=(Qvn i).m
def Z7y:Q09:=mS 320 [] true [.agg Q10.sig] [] (λa r=>Qvn (Q10.of (aC a 0))) (λX=>.bool X) (λX=>[])
theorem Z6c:Q05 pG Z7y:=oS (.cons Qzf (.cons Qwv (.nil))) Tryz.func320 Tryz.call320 [] [] 2
def Qc2(w:Int):Tree (Q10×Bool):=
.an (Q3v w 24 8) (.lv (Qb8 w 24 8) λ(x0:Int)=>.an (Q3v w 20 4) (.lv (Qb8 w 20 4) λ(x1:Int)=>.an (Q3v w 16 4) (.lv (Qb8 w 16 4) λ(x2:Int)=>.lv (Z79 (wrap i64 x0)) λ(x3:Qa7×Bool)=>let E1:=({Op:=0,A:=0,B:=0,C:=0,F3:=0}:Q10);.br (!x3.2) (.lf (E1,false)) (.an (Q3v w 0 16) (.lv (Qb8 w 0 16) λ(x4:Int)=>.br x3.1.c (let E2:=({Op:=wrap i64 x0,A:=wrap i64 x1,B:=wrap i64 x2,C:=wrap i64 x4,F3:=0}:Q10);.lv (Qnz E2) λ(x5:Bool)=>.br (!x5) (.lf (E1,false)) (.lf (E2,true))) (.br (decide (x3.1.low<0)) (.an (Q6 x4 16) (.lv (Qey x4 16) λ(x6:Int)=>let E3:=({Op:=wrap i64 x0,A:=wrap i64 x1,B:=wrap i64 x2,C:=0,F3:=wrap i32 x6}:Q10);.lv (Qnz E3) λ(x7:Bool)=>.br (!x7) (.lf (E1,false)) (.lf (E3,true)))) (let E4:=({Op:=wrap i64 x0,A:=wrap i64 x1,B:=wrap i64 x2,C:=0,F3:=wrap i32 x4}:Q10);.lv (Qnz E4) λ(x8:Bool)=>.br (!x8) (.lf (E1,false)) (.lf (E4,true)))))))))
def Z0a w:=(Qc2 w).m
abbrev Qfx w:=(Qc2 w).p
def Z56:Q09:=mT 223 [] true [.one (.int .u32)] [] (λa r=>Qc2 (argI a 0)) (λX=>.tup [.agg (Q10.cells (X.1)),.bool (X.2)]) (λX=>[])
theorem Z1k:Q05 pG Z56:=oT (.cons Qho (.cons Qzf (.cons Qfa (.cons Z6c (.nil))))) Tryz.func223 Tryz.call223 [] [] 2
def Qan(a b:Int):Tree (Int×Int):=
.br (b==0) (.lf (4294967295,a)) (let T1:Tree ((Int×Int)):=.cn (decide (wrap i32 b≠0)) (.cn (decide (wrap i32 b≠0)) (.lf (wrap u32 (wrap i32 (iA (wrap i32 a) (wrap i32 b))),wrap u32 (hZ (wrap i32 a) (wrap i32 b)))));.br (a==2147483648) (.br (b==4294967295) (.lf (a,0)) T1) T1)
def Qm4 a b:=(Qan a b).m
abbrev Qad a b:=(Qan a b).p
def Z1j:Q09:=mT 387 [] true [.one (.int .u32),.one (.int .u32)] [] (λa r=>Qan (argI a 0) (argI a 1)) (λX=>.tup [.int .u32 (X.1),.int .u32 (X.2)]) (λX=>[])
theorem Qy7:Q05 pG Z1j:=oT (.nil) Tryz.func387 Tryz.call387 [] [] 2
def Quo(b:Bool):Tree Int:=
.br b (.lf 1) (.lf 0)
def Qmw b:=(Quo b).m
def Z7r:Q09:=mS 388 [] true [.one (.bool)] [] (λa r=>Quo (argB a 0)) (λX=>.int .u32 X) (λX=>[])
theorem Z57:Q05 pG Z7r:=oS (.nil) Tryz.func388 Tryz.call388 [] [] 2
def Qj6(op a b:Int):Tree (Int×Bool):=
.br (op==2) (.lf (wrap u32 (a+wrap u32 (0-b)),true)) (.br (op==1) (.lf (wrap u32 (a+b),true)) (.br (op==16) (.lf (wrap u32 (a+b),true)) (.br (op==3) (.lf (iand u32 a b,true)) (.br (op==17) (.lf (iand u32 a b,true)) (.br (op==4) (.lf (ior u32 a b,true)) (.br (op==18) (.lf (ior u32 a b,true)) (.br (op==5) (.lf (ixor u32 a b,true)) (.br (op==19) (.lf (ixor u32 a b,true)) (.br (op==6) (.lf (ishl u32 a (iand u32 b 31),true)) (.br (op==20) (.lf (ishl u32 a (iand u32 b 31),true)) (.br (op==7) (.lf (ishr u32 a (iand u32 b 31),true)) (.br (op==21) (.lf (ishr u32 a (iand u32 b 31),true)) (let E1:=(wrap u32 (ishr i32 (wrap i32 a) (iand u32 b 31)),true);.br (op==8) (.lf E1) (.br (op==22) (.lf E1) (.br (op==9) (.lf (wrap u32 (a*b),true)) (.br (op==10) (.an (Qad a b) (.lv (Qm4 a b) λ(x0:Int×Int)=>.lf (x0.1,true))) (.br (op==11) (.an (Qad a b) (.lv (Qm4 a b) λ(x1:Int×Int)=>.lf (x1.2,true))) (.br (op==12) (.lv (Qmw (decide (wrap i32 a<wrap i32 b))) λ(x2:Int)=>.lf (x2,true)) (.br (op==23) (.lv (Qmw (decide (wrap i32 a<wrap i32 b))) λ(x3:Int)=>.lf (x3,true)) (.br (op==13) (.lv (Qmw (decide (a<b))) λ(x4:Int)=>.lf (x4,true)) (.lf (0,false))))))))))))))))))))))
def Z7q op a b:=(Qj6 op a b).m
abbrev Qhr op a b:=(Qj6 op a b).p
def yr:Q09:=mT 327 [] true [.one (.int .i64),.one (.int .u32),.one (.int .u32)] [] (λa r=>Qj6 (argI a 0) (argI a 1) (argI a 2)) (λX=>.tup [.int .u32 (X.1),.bool (X.2)]) (λX=>[])
theorem Zba:Q05 pG yr:=oT (.cons Qy7 (.cons Z57 (.nil))) Tryz.func327 Tryz.call327 [] [] 2
end
noncomputable section
def Z0k(status from0 to:Int):Tree Int:=
.br (iand u32 status from0 !=0) (.lf (ior u32 status to)) (.lf (Zbq u32 status to))
def Qnr status from0 to:=(Z0k status from0 to).m
def Zbt:Q09:=mS 314 [] true [.one (.int .u32),.one (.int .u32),.one (.int .u32)] [] (λa r=>Z0k (argI a 0) (argI a 1) (argI a 2)) (λX=>.int .u32 X) (λX=>[])
theorem Qw0:Q05 pG Zbt:=oS (.nil) Tryz.func314 Tryz.call314 [] [] 2
def Z03(c:Q0e)(cause bad:Int):Tree Q0e:=
.lv (Qnr c.C6.a0 1 8) λ(x0:Int)=>.lv (Qnr x0 2 16) λ(x1:Int)=>.lf ({X:=c.X,Pc:=c.C6.a1,C6:={a0:=Zbq u32 (ior u32 x1 1) 2,a1:=c.C6.a1,a2:=c.Pc,a3:=wrap u32 cause,a4:=bad,a5:=c.C6.a5,a6:=c.C6.a6,a7:=c.C6.a7}})
def Qfu c cause bad:=(Z03 c cause bad).m
def Zay:Q09:=mS 221 [] true [.agg Q0e.sig,.one (.int .i64),.one (.int .u32)] [] (λa r=>Z03 (Q0e.of (aC a 0)) (argI a 1) (argI a 2)) (λX=>.agg (Q0e.cells X)) (λX=>[])
theorem Qem:Q05 pG Zay:=oS (.cons Qw0 (.nil)) Tryz.func221 Tryz.call221 [] [] 2
def Qn3(access:Int):Tree (Int×Bool):=
.br (access==1) (.lf (4,true)) (.br (access==2) (.lf (5,true)) (.br (access==3) (.lf (6,true)) (.lf (5,false))))
def Quj access:=(Qn3 access).m
def Z2l:Q09:=mS 380 [] true [.one (.int .i64)] [] (λa r=>Qn3 (argI a 0)) (λX=>.tup [.int .i64 (X.1),.bool (X.2)]) (λX=>[])
theorem Qyl:Q05 pG Z2l:=oS (.nil) Tryz.func380 Tryz.call380 [] [] 2
def Qs0(c:Q0e):Tree Bool:=
.lf (iand u32 c.C6.a0 (1:Int) !=(0:Int))
def Qql c:=(Qs0 c).m
def Z54:Q09:=mS 225 [] true [.agg Q0e.sig] [] (λa r=>Qs0 (Q0e.of (aC a 0))) (λX=>.bool X) (λX=>[])
theorem Qn4:Q05 pG Z54:=oS (.nil) Tryz.func225 Tryz.call225 [] [] 2
def Qid(access:Int):Tree (Int×Bool):=
.br (access==1) (.lf (4,true)) (.br (access==2) (.lf (5,true)) (.br (access==3) (.lf (6,true)) (.lf (5,false))))
def Qlf access:=(Qid access).m
def Qt6:Q09:=mS 404 [] true [.one (.int .i64)] [] (λa r=>Qid (argI a 0)) (λX=>.tup [.int .i64 (X.1),.bool (X.2)]) (λX=>[])
theorem Qp9:Q05 pG Qt6:=oS (.nil) Tryz.func404 Tryz.call404 [] [] 2
def Qir(m:List Int)(frame:Int):Tree Bool:=
.lv (Q4x m) λ(x0:Int)=>.lf (decide (wrap u64 frame<wrap u64 x0))
def Qhx m frame:=(Qir m frame).m
def Qx2:Q09:=mS 405 [] true [.one (.ints .u32),.one (.int .u32)] [] (λa r=>Qir (argL .u32 a 0) (argI a 1)) (λX=>.bool X) (λX=>[])
theorem Qt3:Q05 pG Qx2:=oS (.cons Q3a (.nil)) Tryz.func405 Tryz.call405 [] [] 2
def Qap(m:List Int)(addr size:Int):Tree (Int×Bool):=
.an (Q85 m addr size) (.lv (Qht m addr size) λ(x0:Bool)=>.br (!x0) (.lf (0,false)) (.cn (bV 1 1&&bK 0 1&&decide (0<=wrap u32 (iA addr 4)/\wrap u32 (iA addr 4)<(m.length:Int))) (let E1:=dM (wrap u32 (iA addr 4));.br (size==1) (let E2:=wrap i64 (wrap i64 (hZ addr 4)*8);.an (Q3v (m.getD E1 0) E2 8) (.lv (Qb8 (m.getD E1 0) E2 8) λ(x1:Int)=>.lf (x1,true))) (.lf (m.getD E1 0,true)))))
def Qaz m addr size:=(Qap m addr size).m
abbrev Q48 m addr size:=(Qap m addr size).p
def Z2c:Q09:=mT 316 [] true [.one (.ints .u32),.one (.int .u32),.one (.int .i64)] [] (λa r=>Qap (argL .u32 a 0) (argI a 1) (argI a 2)) (λX=>.tup [.int .u32 (X.1),.bool (X.2)]) (λX=>[])
theorem Q99:Q05 pG Z2c:=oT (.cons Qil (.cons Qho (.nil))) Tryz.func316 Tryz.call316 [] [] 2
def Qim(pte access:Int):Tree Bool:=
.br (iand u32 pte (1:Int)==(0:Int)) (.lf false) (.br (access==3) (.lf (iand u32 pte (2:Int) !=(0:Int))) (.br (access==1) (.lf (iand u32 pte (4:Int) !=(0:Int))) (.lf true)))
def Qlb pte access:=(Qim pte access).m
def Qsm:Q09:=mS 406 [] true [.one (.int .u32),.one (.int .i64)] [] (λa r=>Qim (argI a 0) (argI a 1)) (λX=>.bool X) (λX=>[])
theorem Qqs:Q05 pG Qsm:=oS (.nil) Tryz.func406 Tryz.call406 [] [] 2
def Q6b(pte:Int):Tree Int:=
.an (Q3v pte 8 8) (.lv (Qb8 pte 8 8) λ(x0:Int)=>.lf x0)
def Qfw pte:=(Q6b pte).m
abbrev Q7 pte:=(Q6b pte).p
def Qt5:Q09:=mT 407 [] true [.one (.int .u32)] [] (λa r=>Q6b (argI a 0)) (λX=>.int .u32 X) (λX=>[])
theorem Qpj:Q05 pG Qt5:=oT (.cons Qho (.nil)) Tryz.func407 Tryz.call407 [] [] 2
def Qal(m:List Int)(root va access:Int):Tree Q2c:=
.lv (Qlf access) λ(x0:Int×Bool)=>let E1:=({Addr:=0,Entry:=0,Cause:=x0.1}:Q2c);.br (!x0.2) (.lf (E1)) (.br (decide (va>=4096)) (.lf (E1)) (.lv (Qhx m root) λ(x1:Bool)=>.br (!x1) (.lf (E1)) (let E2:=wrap u32 (root*128)+wrap u32 (4*wrap u32 (iA va 128));.an (Q48 m (wrap u32 E2) 4) (.lv (Qaz m (wrap u32 E2) 4) λ(x2:Int×Bool)=>.br (!x2.2) (.lf (E1)) (.lv (Qlb x2.1 access) λ(x3:Bool)=>.br (!x3) (.lf (E1)) (.an (Q7 x2.1) (.lv (Qfw x2.1) λ(x4:Int)=>.lv (Qhx m x4) λ(x5:Bool)=>.br (!x5) (.lf (E1)) (.an (Q7 x2.1) (.lv (Qfw x2.1) λ(x6:Int)=>.lf ({Addr:=wrap u32 (wrap u32 (x6*128)+hZ va 128),Entry:=wrap u32 E2,Cause:=0}))))))))))
def Qwy m root va access:=(Qal m root va access).m
abbrev Qej m root va access:=(Qal m root va access).p
def Z2b:Q09:=mT 381 [] true [.one (.ints .u32),.one (.int .u32),.one (.int .u32),.one (.int .i64)] [] (λa r=>Qal (argL .u32 a 0) (argI a 1) (argI a 2) (argI a 3)) (λX=>.agg (Q2c.cells X)) (λX=>[])
theorem Qyh:Q05 pG Z2b:=oT (.cons Qp9 (.cons Qt3 (.cons Q99 (.cons Qqs (.cons Qpj (.nil)))))) Tryz.func381 Tryz.call381 [] [] 2
def Q90(m:List Int)(entry access:Int):Tree (List Int):=
.an (Q48 m entry 4) (.lv (Qaz m entry 4) λ(x0:Int×Bool)=>.br (!x0.2) (.an (Q08 m) (.lv (Q0b m) λ(x1:List Int)=>.lf x1)) (.br (access==3) (.an (Q6c m entry 4 (ior u32 (ior u32 x0.1 8) 16)) (.lv (Qfk m entry 4 (ior u32 (ior u32 x0.1 8) 16)) λ(x2:List Int×Bool)=>.lf x2.1)) (.an (Q6c m entry 4 (ior u32 x0.1 8)) (.lv (Qfk m entry 4 (ior u32 x0.1 8)) λ(x3:List Int×Bool)=>.lf x3.1))))
def Qrv m entry access:=(Q90 m entry access).m
abbrev Qcn m entry access:=(Q90 m entry access).p
def Qxx:Q09:=mT 382 [] true [.one (.ints .u32),.one (.int .u32),.one (.int .i64)] [] (λa r=>Q90 (argL .u32 a 0) (argI a 1) (argI a 2)) (λX=>.all 0) (λX=>[⟨false,25,1,.ints .u32 X⟩])
theorem Qvz:Q05 pG Qxx:=oT (.cons Q99 (.cons Q0s (.cons Qjn (.nil)))) Tryz.func382 Tryz.call382 [.row 25 1 (.ints .u32)] [] 2
def Qar(c:Q0e)(m:List Int)(va size access:Int):Tree (Int×(List Int)×Int):=
.lv (Quj access) λ(x0:Int×Bool)=>let T3:Tree ((Int×(List Int)×Int)):=.an (Q08 m) (.lv (Q0b m) λ(x1:List Int)=>.lf (0,x1,5));.br (!x0.2) T3 (let T1:Tree ((Int×(List Int)×Int)):=.cn (decide (wrap u32 size≠0)) (.br (hZ va (wrap u32 size) !=0) (.an (Q08 m) (.lv (Q0b m) λ(x3:List Int)=>.lf (0,x3,3))) (.lv (Qql c) λ(x4:Bool)=>let T2:Tree ((Int×(List Int)×Int)):=.an (Q48 m va size) (.lv (Qaz m va size) λ(x8:Int×Bool)=>.br (!x8.2) (.an (Q08 m) (.lv (Q0b m) λ(x9:List Int)=>.lf (0,x9,x0.1))) (.an (Q08 m) (.lv (Q0b m) λ(x10:List Int)=>.lf (va,x10,0))));.br (!x4) (.br (iand u32 c.C6.a0 (4:Int) !=(0:Int)) (.an (Qej m c.C6.a6 va access) (.lv (Qwy m c.C6.a6 va access) λ(x5:Q2c)=>.br (x5.Cause !=0) (.an (Q08 m) (.lv (Q0b m) λ(x6:List Int)=>.lf (0,x6,x5.Cause))) (.an (Qcn m x5.Entry access) (.lv (Qrv m x5.Entry access) λ(x7:List Int)=>.lf (x5.Addr,x7,0))))) T2) T2));.br (size !=1) (.br (size !=4) T3 T1) T1)
def Qhp c m va size access:=(Qar c m va size access).m
abbrev Q78 c m va size access:=(Qar c m va size access).p
def Z13:Q09:=mT 315 [] true [.agg Q0e.sig,.one (.ints .u32),.one (.int .u32),.one (.int .i64),.one (.int .i64)] [] (λa r=>Qar (Q0e.of (aC a 0)) (argL .u32 a 1) (argI a 2) (argI a 3) (argI a 4)) (λX=>.tup [.int .u32 (X.1),.all 0,.int .i64 (X.2.2)]) (λX=>[⟨false,25,1,.ints .u32 (X.2.1)⟩])
theorem Qg9:Q05 pG Z13:=oT (.cons Qyl (.cons Q0s (.cons Qn4 (.cons Qyh (.cons Qvz (.cons Q99 (.nil))))))) Tryz.func315 Tryz.call315 [.row 25 1 (.ints .u32)] [] 2
def Qdo(c:Q0e)(m:List Int):Tree (Int×(List Int)×Int):=
.an (Q78 c m c.Pc 4 1) (.lv (Qhp c m c.Pc 4 1) λ(x0:Int×List Int×Int)=>.br (x0.2.2 !=0) (.lf (0,x0.2.1,x0.2.2)) (.an (Q48 x0.2.1 x0.1 4) (.lv (Qaz x0.2.1 x0.1 4) λ(x1:Int×Bool)=>.lf (x1.1,x0.2.1,0))))
def Z4u c m:=(Qdo c m).m
abbrev Qhq c m:=(Qdo c m).p
def Z82:Q09:=mT 222 [] true [.agg Q0e.sig,.one (.ints .u32)] [] (λa r=>Qdo (Q0e.of (aC a 0)) (argL .u32 a 1)) (λX=>.tup [.int .u32 (X.1),.all 0,.int .i64 (X.2.2)]) (λX=>[⟨false,25,1,.ints .u32 (X.2.1)⟩])
theorem Z59:Q05 pG Z82:=oT (.cons Qg9 (.cons Q99 (.nil))) Tryz.func222 Tryz.call222 [.row 25 1 (.ints .u32)] [] 2
def Qi0(op:Int):Tree Bool:=
.br (op==57) (.lf true) (.br (op==58) (.lf true) (.br (op==59) (.lf true) (.br (op==60) (.lf true) (.br (op==61) (.lf true) (.br (op==62) (.lf true) (.br (op==63) (.lf true) (.br (op==64) (.lf true) (.lf false))))))))
def Qlh op:=(Qi0 op).m
def Qta:Q09:=mS 224 [] true [.one (.int .i64)] [] (λa r=>Qi0 (argI a 0)) (λX=>.bool X) (λX=>[])
theorem Qq9:Q05 pG Qta:=oS (.nil) Tryz.func224 Tryz.call224 [] [] 2
def Qwh(op:Int):Tree Int:=
.br (op==32) (.lf 4) (.br (op==35) (.lf 4) (.lf 1))
def Qjt op:=(Qwh op).m
def Z73:Q09:=mS 321 [] true [.one (.int .i64)] [] (λa r=>Qwh (argI a 0)) (λX=>.int .i64 X) (λX=>[])
theorem Qrt:Q05 pG Z73:=oS (.nil) Tryz.func321 Tryz.call321 [] [] 2
def Qiy(c:Q0e)(register v:Int):Tree Q0e:=
.br (register !=0) (.cn (bK 0 1&&decide (0<=register/\register<(↑16:Int))) (.lf ({X:=A16.of 0 (fF (A16.l c.X) register.toNat v),Pc:=c.Pc,C6:=c.C6}))) (.lf c)
def Qh5 c register v:=(Qiy c register v).m
abbrev Q54 c register v:=(Qiy c register v).p
def vr:Q09:=mT 322 [] true [.agg Q0e.sig,.one (.int .i64),.one (.int .u32)] [] (λa r=>Qiy (Q0e.of (aC a 0)) (argI a 1) (argI a 2)) (λX=>.agg (Q0e.cells X)) (λX=>[])
theorem Qz6:Q05 pG vr:=oT (.nil) Tryz.func322 Tryz.call322 [] [] 2
def Qge(c:Q0e)(m:List Int)(i:Q10):Tree (Q0e×(List Int)):=
.cn (bK 0 1&&decide (0<=i.B/\i.B<(↑16:Int))) (.lv (Qjt i.Op) λ(x0:Int)=>let E1:=wrap u32 (aK (A16.l c.X) i.B.toNat 0+wrap u32 i.F3);.an (Q78 c m E1 x0 2) (.lv (Qhp c m E1 x0 2) λ(x1:Int×List Int×Int)=>.br (x1.2.2 !=0) (.lv (Qfu c x1.2.2 E1) λ(x2:Q0e)=>.lf (x2,x1.2.1)) (.lv (Qjt i.Op) λ(x3:Int)=>.an (Q48 x1.2.1 x1.1 x3) (.lv (Qaz x1.2.1 x1.1 x3) λ(x4:Int×Bool)=>.br (i.Op==33) (.an (Q6 x4.1 8) (.lv (Qey x4.1 8) λ(x5:Int)=>.an (Q54 c i.A x5) (.lv (Qh5 c i.A x5) λ(x6:Q0e)=>.lf ({X:=x6.X,Pc:=wrap u32 (x6.Pc+4),C6:=x6.C6},x1.2.1)))) (.an (Q54 c i.A x4.1) (.lv (Qh5 c i.A x4.1) λ(x7:Q0e)=>.lf ({X:=x7.X,Pc:=wrap u32 (x7.Pc+4),C6:=x7.C6},x1.2.1)))))))
def Z9f c m i:=(Qge c m i).m
abbrev Qji c m i:=(Qge c m i).p
def Zax:Q09:=mT 226 [] true [.agg Q0e.sig,.one (.ints .u32),.agg Q10.sig] [] (λa r=>Qge (Q0e.of (aC a 0)) (argL .u32 a 1) (Q10.of (aC a 2))) (λX=>.tup [.agg (Q0e.cells (X.1)),.all 0]) (λX=>[⟨false,25,1,.ints .u32 (X.2)⟩])
theorem Z88:Q05 pG Zax:=oT (.cons Qg9 (.cons Qrt (.cons Qem (.cons Q99 (.cons Qfa (.cons Qz6 (.nil))))))) Tryz.func226 Tryz.call226 [.row 25 1 (.ints .u32)] [] 2
def Qee(c:Q0e)(m:List Int)(i:Q10):Tree (Q0e×(List Int)):=
.cn (bK 0 1&&decide (0<=i.B/\i.B<(↑16:Int))) (.lv (Qjt i.Op) λ(x0:Int)=>let E1:=wrap u32 (aK (A16.l c.X) i.B.toNat 0+wrap u32 i.F3);.an (Q78 c m E1 x0 3) (.lv (Qhp c m E1 x0 3) λ(x1:Int×List Int×Int)=>.br (x1.2.2 !=0) (.lv (Qfu c x1.2.2 E1) λ(x2:Q0e)=>.lf (x2,x1.2.1)) (.lv (Qjt i.Op) λ(x3:Int)=>.cn (bK 0 1&&decide (0<=i.A/\i.A<(↑16:Int))) (let E2:=aK (A16.l c.X) i.A.toNat 0;.an (Q6c x1.2.1 x1.1 x3 E2) (.lv (Qfk x1.2.1 x1.1 x3 E2) λ(x4:List Int×Bool)=>.lf ({X:=c.X,Pc:=wrap u32 (c.Pc+4),C6:=c.C6},x4.1))))))
def Z44 c m i:=(Qee c m i).m
abbrev Qhg c m i:=(Qee c m i).p
def Z7d:Q09:=mT 227 [] true [.agg Q0e.sig,.one (.ints .u32),.agg Q10.sig] [] (λa r=>Qee (Q0e.of (aC a 0)) (argL .u32 a 1) (Q10.of (aC a 2))) (λX=>.tup [.agg (Q0e.cells (X.1)),.all 0]) (λX=>[⟨false,25,1,.ints .u32 (X.2)⟩])
theorem Z5d:Q05 pG Z7d:=oT (.cons Qg9 (.cons Qrt (.cons Qem (.cons Qjn (.nil))))) Tryz.func227 Tryz.call227 [.row 25 1 (.ints .u32)] [] 2
def Qty(op a b:Int):Tree Bool:=
.br (op==40) (.lf (a==b)) (.br (op==41) (.lf (a !=b)) (.br (op==42) (.lf (decide (wrap i32 a<wrap i32 b))) (.br (op==43) (.lf (decide (wrap i32 a>=wrap i32 b))) (.br (op==44) (.lf (decide (a<b))) (.lf (decide (a>=b)))))))
def Z6 op a b:=(Qty op a b).m
def Z75:Q09:=mS 324 [] true [.one (.int .i64),.one (.int .u32),.one (.int .u32)] [] (λa r=>Qty (argI a 0) (argI a 1) (argI a 2)) (λX=>.bool X) (λX=>[])
theorem Z5v:Q05 pG Z75:=oS (.nil) Tryz.func324 Tryz.call324 [] [] 2
def Qro(c:Q0e):Tree Q0e:=
.lv (Qnr c.C6.a0 8 1) λ(x0:Int)=>.lv (Qnr x0 16 2) λ(x1:Int)=>.lf ({X:=c.X,Pc:=c.C6.a2,C6:={a0:=x1,a1:=c.C6.a1,a2:=c.C6.a2,a3:=c.C6.a3,a4:=c.C6.a4,a5:=c.C6.a5,a6:=c.C6.a6,a7:=c.C6.a7}})
def Qz9 c:=(Qro c).m
def Z51:Q09:=mS 325 [] true [.agg Q0e.sig] [] (λa r=>Qro (Q0e.of (aC a 0))) (λX=>.agg (Q0e.cells X)) (λX=>[])
theorem Z3j:Q05 pG Z51:=oS (.cons Qw0 (.nil)) Tryz.func325 Tryz.call325 [] [] 2
def Qdz(c:Q0e)(csr v:Int):Tree Q0e:=
let E4:=bK 0 1&&decide (0<=csr/\csr<(↑8:Int));let T2:Tree (Q0e):=.cn E4 (.lf ({X:=c.X,Pc:=c.Pc,C6:=A8.of 0 (fF (A8.l c.C6) csr.toNat (iand u32 v 31))}));.br (csr==0) T2 (.br (csr==7) T2 (.br (csr==6) (.cn E4 (.lf ({X:=c.X,Pc:=c.Pc,C6:=A8.of 0 (fF (A8.l c.C6) csr.toNat (iand u32 v 255))}))) (let T3:Tree (Q0e):=.cn E4 (.lf ({X:=c.X,Pc:=c.Pc,C6:=A8.of 0 (fF (A8.l c.C6) csr.toNat (Zbq u32 v 3))}));.br (csr==1) T3 (.br (csr==2) T3 (let T1:Tree (Q0e):=.cn E4 (.lf ({X:=c.X,Pc:=c.Pc,C6:=A8.of 0 (fF (A8.l c.C6) csr.toNat v)}));.br (csr==3) T1 (.br (csr==4) T1 (.br (csr==5) T1 (.lf c))))))))
def Z5p c csr v:=(Qdz c csr v).m
abbrev Qhy c csr v:=(Qdz c csr v).p
def Z83:Q09:=mT 326 [] true [.agg Q0e.sig,.one (.int .i64),.one (.int .u32)] [] (λa r=>Qdz (Q0e.of (aC a 0)) (argI a 1) (argI a 2)) (λX=>.agg (Q0e.cells X)) (λX=>[])
theorem Z62:Q05 pG Z83:=oT (.nil) Tryz.func326 Tryz.call326 [] [] 2
def Qaf(c:Q0e)(i:Q10):Tree (Q0e×Q2r):=
.cn (bK 0 1&&decide (0<=i.A/\i.A<(↑16:Int))) (.cn (bK 0 1&&decide (0<=i.B/\i.B<(↑16:Int))) (.br (i.Op==24) (.an (Q54 c i.A (ishl u32 (wrap u32 i.F3) 16)) (.lv (Qh5 c i.A (ishl u32 (wrap u32 i.F3) 16)) λ(x0:Q0e)=>.lf ({X:=x0.X,Pc:=wrap u32 (c.Pc+4),C6:=x0.C6},{C5:=0,F4:=0,Reg:=0,Value:=0}))) (let E2:=({X:=c.X,Pc:=wrap u32 (c.Pc+4),C6:=c.C6}:Q0e);let E3:=aK (A16.l c.X) i.B.toNat 0;let E4:=aK (A16.l c.X) i.A.toNat 0;let T1:Tree ((Q0e×Q2r)):=.lv (Z6 i.Op E4 E3) λ(x1:Bool)=>.br x1 (.lf ({X:=c.X,Pc:=wrap u32 (c.Pc+wrap u32 (4*wrap u32 i.F3)),C6:=c.C6},{C5:=0,F4:=0,Reg:=0,Value:=0})) (.lf (E2,{C5:=0,F4:=0,Reg:=0,Value:=0}));.br (i.Op==40) T1 (.br (i.Op==41) T1 (.br (i.Op==42) T1 (.br (i.Op==43) T1 (.br (i.Op==44) T1 (.br (i.Op==45) T1 (.br (i.Op==48) (.an (Q54 c i.A (wrap u32 (c.Pc+4))) (.lv (Qh5 c i.A (wrap u32 (c.Pc+4))) λ(x7:Q0e)=>.lf ({X:=x7.X,Pc:=wrap u32 (x7.Pc+wrap u32 (4*wrap u32 i.F3)),C6:=x7.C6},{C5:=0,F4:=0,Reg:=0,Value:=0}))) (.br (i.Op==49) (.an (Q54 c i.A (wrap u32 (c.Pc+4))) (.lv (Qh5 c i.A (wrap u32 (c.Pc+4))) λ(x8:Q0e)=>.lf ({X:=x8.X,Pc:=wrap u32 (aK (A16.l c.X) i.B.toNat 0+wrap u32 i.F3),C6:=x8.C6},{C5:=0,F4:=0,Reg:=0,Value:=0}))) (.br (i.Op==56) (.lv (Qfu c 7 0) λ(x9:Q0e)=>.lf (x9,{C5:=0,F4:=0,Reg:=0,Value:=0})) (.br (i.Op==57) (.lv (Qz9 c) λ(x10:Q0e)=>.lf (x10,{C5:=0,F4:=0,Reg:=0,Value:=0})) (.br (i.Op==58) (.cn (bK 0 1&&decide (0<=i.F3/\i.F3<(↑8:Int))) (let E5:=aK (A8.l c.C6) i.F3.toNat 0;.an (Q54 c i.A E5) (.lv (Qh5 c i.A E5) λ(x11:Q0e)=>.lf ({X:=x11.X,Pc:=wrap u32 (c.Pc+4),C6:=x11.C6},{C5:=0,F4:=0,Reg:=0,Value:=0})))) (.br (i.Op==59) (.an (Qhy c (wrap i64 i.F3) E4) (.lv (Z5p c (wrap i64 i.F3) E4) λ(x12:Q0e)=>.lf ({X:=x12.X,Pc:=wrap u32 (c.Pc+4),C6:=x12.C6},{C5:=0,F4:=0,Reg:=0,Value:=0}))) (.br (i.Op==60) (.lf (E2,{C5:=1,F4:=wrap i64 i.F3,Reg:=i.A,Value:=0})) (.br (i.Op==61) (.lf (E2,{C5:=2,F4:=wrap i64 i.F3,Reg:=0,Value:=aK (A16.l c.X) i.A.toNat 0})) (.br (i.Op==62) (.lf (E2,{C5:=3,F4:=0,Reg:=0,Value:=0})) (.br (i.Op==63) (.lf (E2,{C5:=5,F4:=0,Reg:=0,Value:=0})) (.br (i.Op==64) (.lf (E2,{C5:=4,F4:=0,Reg:=0,Value:=0})) (.cn (bK 0 1&&decide (0<=i.C/\i.C<(↑16:Int))) (.br (decide (i.Op>=16)) (.an (Qhr i.Op E3 (wrap u32 i.F3)) (.lv (Z7q i.Op E3 (wrap u32 i.F3)) λ(x13:Int×Bool)=>.an (Q54 c i.A x13.1) (.lv (Qh5 c i.A x13.1) λ(x14:Q0e)=>.lf ({X:=x14.X,Pc:=wrap u32 (c.Pc+4),C6:=x14.C6},{C5:=0,F4:=0,Reg:=0,Value:=0})))) (let E6:=aK (A16.l c.X) i.C.toNat 0;.an (Qhr i.Op E3 E6) (.lv (Z7q i.Op E3 E6) λ(x15:Int×Bool)=>.an (Q54 c i.A x15.1) (.lv (Qh5 c i.A x15.1) λ(x16:Q0e)=>.lf ({X:=x16.X,Pc:=wrap u32 (c.Pc+4),C6:=x16.C6},{C5:=0,F4:=0,Reg:=0,Value:=0})))))))))))))))))))))))))
def Qu6 c i:=(Qaf c i).m
abbrev Qed c i:=(Qaf c i).p
def Z1c:Q09:=mT 228 [] true [.agg Q0e.sig,.agg Q10.sig] [] (λa r=>Qaf (Q0e.of (aC a 0)) (Q10.of (aC a 1))) (λX=>.tup [.agg (Q0e.cells (X.1)),.agg (Q2r.cells (X.2))]) (λX=>[])
theorem Qy6:Q05 pG Z1c:=oT (.cons Qz6 (.cons Z5v (.cons Qem (.cons Z3j (.cons Z62 (.cons Zba (.nil))))))) Tryz.func228 Tryz.call228 [] [] 2
def Qgo(c:Q0e)(m:List Int):Tree (Q0e×(List Int)×Q2r):=
.an (Qhq c m) (.lv (Z4u c m) λ(x0:Int×List Int×Int)=>.br (x0.2.2 !=0) (.lv (Qfu c x0.2.2 c.Pc) λ(x1:Q0e)=>.lf (x1,x0.2.1,{C5:=0,F4:=0,Reg:=0,Value:=0})) (.an (Qfx x0.1) (.lv (Z0a x0.1) λ(x2:Q10×Bool)=>.br (!x2.2) (.lv (Qfu c 1 x0.1) λ(x3:Q0e)=>.lf (x3,x0.2.1,{C5:=0,F4:=0,Reg:=0,Value:=0})) (.lv (Qlh x2.1.Op) λ(x4:Bool)=>let T1:Tree ((Q0e×(List Int)×Q2r)):=let T2:Tree ((Q0e×(List Int)×Q2r)):=.an (Qji c x0.2.1 x2.1) (.lv (Z9f c x0.2.1 x2.1) λ(x7:Q0e×List Int)=>.lf (x7.1,x7.2,{C5:=0,F4:=0,Reg:=0,Value:=0}));.br (x2.1.Op==32) T2 (.br (x2.1.Op==33) T2 (.br (x2.1.Op==34) T2 (let T3:Tree ((Q0e×(List Int)×Q2r)):=.an (Qhg c x0.2.1 x2.1) (.lv (Z44 c x0.2.1 x2.1) λ(x10:Q0e×List Int)=>.lf (x10.1,x10.2,{C5:=0,F4:=0,Reg:=0,Value:=0}));.br (x2.1.Op==35) T3 (.br (x2.1.Op==36) T3 (.an (Qed c x2.1) (.lv (Qu6 c x2.1) λ(x12:Q0e×Q2r)=>.lf (x12.1,x0.2.1,x12.2)))))));.br x4 (.lv (Qql c) λ(x5:Bool)=>.br (!x5) (.lv (Qfu c 2 x0.1) λ(x6:Q0e)=>.lf (x6,x0.2.1,{C5:=0,F4:=0,Reg:=0,Value:=0})) T1) T1))))
def Z2k c m:=(Qgo c m).m
abbrev Qfg c m:=(Qgo c m).p
def Zbj:Q09:=mT 128 [] true [.agg Q0e.sig,.one (.ints .u32)] [] (λa r=>Qgo (Q0e.of (aC a 0)) (argL .u32 a 1)) (λX=>.tup [.agg (Q0e.cells (X.1)),.all 0,.agg (Q2r.cells (X.2.2))]) (λX=>[⟨false,25,1,.ints .u32 (X.2.1)⟩])
theorem Qxd:Q05 pG Zbj:=oT (.cons Z59 (.cons Qem (.cons Z1k (.cons Qq9 (.cons Qn4 (.cons Z88 (.cons Z5d (.cons Qy6 (.nil))))))))) Tryz.func128 Tryz.call128 [.row 25 1 (.ints .u32)] [] 2
end
noncomputable section
def tblYc0:List UInt8:=[(0:UInt8),1,2,2,3,3,3,3,4,4,4,4,4,4,4,4,5,5,5,5,5,5,5,5,5,5,5,5,5,5,5,5,6,6,6,6,6,6,6,6,6,6,6,6,6,6,6,6,6,6,6,6,6,6,6,6,6,6,6,6,6,6,6,6]
def Z3q:List UInt8:=[(7:UInt8),7,7,7,7,7,7,7,7,7,7,7,7,7,7,7,7,7,7,7,7,7,7,7,7,7,7,7,7,7,7,7,7,7,7,7,7,7,7,7,7,7,7,7,7,7,7,7,7,7,7,7,7,7,7,7,7,7,7,7,7,7,7,7]
def Qle:List UInt8:=[(8:UInt8),8,8,8,8,8,8,8,8,8,8,8,8,8,8,8,8,8,8,8,8,8,8,8,8,8,8,8,8,8,8,8,8,8,8,8,8,8,8,8,8,8,8,8,8,8,8,8,8,8,8,8,8,8,8,8,8,8,8,8,8,8,8,8]
def Z8r:List UInt8:=[(1:UInt8),2,2,3,3,3,3,4,4,4,4,4,4,4,4,5,5,5,5,5,5,5,5,5,5,5,5,5,5,5,5,6,6,6,6,6,6,6,6,6,6,6,6,6,6,6,6,6,6,6,6,6,6,6,6,6,6,6,6,6,6,6,6]
def tblYc4:List UInt8:=[(0:UInt8),1,1,2,1,2,2,3,1,2,2,3,2,3,3,4,1,2,2,3,2,3,3,4,2,3,3,4,3,4,4,5,1,2,2,3,2,3,3,4,2,3,3,4,3,4,4,5,2,3,3,4,3,4,4,5,3,4,4,5,4,5,5,6]
def Qlw:List UInt8:=[(1:UInt8),2,2,3,2,3,3,4,2,3,3,4,3,4,4,5,2,3,3,4,3,4,4,5,3,4,4,5,4,5,5,6,2,3,3,4,3,4,4,5,3,4,4,5,4,5,5,6,3,4,4,5,4,5,5,6,4,5,5,6,5,6,6,7]
def Z5l:List UInt8:=[(2:UInt8),3,3,4,3,4,4,5,3,4,4,5,4,5,5,6,3,4,4,5,4,5,5,6,4,5,5,6,5,6,6,7,3,4,4,5,4,5,5,6,4,5,5,6,5,6,6,7,4,5,5,6,5,6,6,7,5,6,6,7,6,7,7,8]
def Z92:List UInt8:=[(1:UInt8),1,2,1,2,2,3,1,2,2,3,2,3,3,4,1,2,2,3,2,3,3,4,2,3,3,4,3,4,4,5,1,2,2,3,2,3,3,4,2,3,3,4,3,4,4,5,2,3,3,4,3,4,4,5,3,4,4,5,4,5,5,6]
def Qnl(c:Q0m):Tree Bool:=
.lf (decide ((c.F0.length:Int)<=(16:Int)))
def Qv2 c:=(Qnl c).m
def Z2s:Q09:=mS 244 [] true [.agg Q0m.sig] [] (λa r=>Qnl (Q0m.of (aC a 0))) (λX=>.bool X) (λX=>[])
theorem Qyp:Q05 pG Z2s:=oS (.nil) Tryz.func244 Tryz.call244 [] [] 2
def Qv4(t:Q14):Tree Bool:=
.br t.F5 (.br (!t.F1) (.lf (t.D1 !=0)) (.lf false)) (.br t.F1 (.lf true) (.lf (t.D1==0)))
def Z3z t:=(Qv4 t).m
def Z8c:Q09:=mS 245 [] true [.agg Q14.sig] [] (λa r=>Qv4 (Q14.of (aC a 0))) (λX=>.bool X) (λX=>[])
theorem Z4y:Q05 pG Z8c:=oS (.nil) Tryz.func245 Tryz.call245 [] [] 2
def Qgh(d0:Q0l):Tree Bool:=
.br (d0.Cmd==1) (.lf (decide (d0.D0=[]))) (.br (d0.Cmd==2) (.lf ((d0.D0.length:Int)==(128:Int))) (.lf false))
def Qjg d0:=(Qgh d0).m
def Qpr:Q09:=mS 335 [] true [.agg Q0l.sig] [] (λa r=>Qgh (Q0l.of (aC a 0))) (λX=>.bool X) (λX=>[])
theorem Qn9:Q05 pG Qpr:=oS (.nil) Tryz.func335 Tryz.call335 [] [] 2
def Qzn(d0:Q0l)(pages:Int):Tree Bool:=
.br (decide (d0.Blocks>64)) (.lf false) (let T1:Tree (Bool):=.br (d0.Cmd==0) (.br (d0.C4==0) (.br (d0.C3==0) (.lf (decide (d0.D0=[]))) (.lf false)) (.lf false)) (.lf false);.br (d0.D5==0) T1 (.br (d0.D5==2) T1 (.br (d0.D5==3) T1 (.br (d0.D5==1) (.lv (Qjg d0) λ(x0:Bool)=>.br x0 (.br (decide (d0.C4<d0.Blocks)) (.lf (decide (wrap i64 d0.C3<pages))) (.lf false)) (.lf false)) (.lf false)))))
def Z9n d0 pages:=(Qzn d0 pages).m
def Zby:Q09:=mS 246 [] true [.agg Q0l.sig,.one (.int .i64)] [] (λa r=>Qzn (Q0l.of (aC a 0)) (argI a 1)) (λX=>.bool X) (λX=>[])
theorem Z86:Q05 pG Zby:=oS (.cons Qn9 (.nil)) Tryz.func246 Tryz.call246 [] [] 2
def Z4d(n:Q1f)(pages:Int):Tree Bool:=
let T1:Tree (Bool):=let T2:Tree (Bool):=.br n.C2 (.br (decide (n.Got>=1)) (.lf (decide (n.Got<=128))) (.lf false)) (.lf (n.Got==0));.br n.D4 (.br (decide (wrap i64 n.D2>=pages)) (.lf false) T2) (.br (n.D2 !=0) (.lf false) T2);.br n.D4 (.br n.C2 (.lf false) T1) T1
def qt n pages:=(Z4d n pages).m
def xt:Q09:=mS 247 [] true [.agg Q1f.sig,.one (.int .i64)] [] (λa r=>Z4d (Q1f.of (aC a 0)) (argI a 1)) (λX=>.bool X) (λX=>[])
theorem Zbr:Q05 pG xt:=oS (.nil) Tryz.func247 Tryz.call247 [] [] 2
def Q5c(x:Int):Tree Int:=
let E1:=(↑(dR (iB (iB tblYc0 Z3q) (iB Qle Qle))):Int);.br (decide (x>=65536)) (.br (decide (ishr u32 x (16:Int)>=(256:Int))) (.cn (decide (0<=wrap u8 (ishr u32 (ishr u32 x 16) 8)/\wrap u8 (ishr u32 (ishr u32 x 16) 8)<E1)) (.lf (wrap i64 (wrap i64 ((16:Int)+(8:Int))+wrap i64 (↑(iC (aK ((0:UInt8)::(Z8r++Z3q++(Qle++Qle))) (dM (wrap u8 (ishr u32 (ishr u32 x 16) 8))) (0:UInt8))):Int))))) (.cn (decide (0<=wrap u8 (ishr u32 x 16)/\wrap u8 (ishr u32 x 16)<E1)) (.lf (wrap i64 (16+wrap i64 (↑(iC (aK ((0:UInt8)::(Z8r++Z3q++(Qle++Qle))) (dM (wrap u8 (ishr u32 x 16))) (0:UInt8))):Int)))))) (.br (decide (x>=256)) (.cn (decide (0<=wrap u8 (ishr u32 x 8)/\wrap u8 (ishr u32 x 8)<E1)) (.lf (wrap i64 (wrap i64 ((0:Int)+(8:Int))+wrap i64 (↑(iC (aK ((0:UInt8)::(Z8r++Z3q++(Qle++Qle))) (dM (wrap u8 (ishr u32 x 8))) (0:UInt8))):Int))))) (.cn (decide (0<=wrap u8 x/\wrap u8 x<E1)) (.lf (wrap i64 (0+wrap i64 (↑(iC (aK ((0:UInt8)::(Z8r++Z3q++(Qle++Qle))) (dM (wrap u8 x)) (0:UInt8))):Int))))))
def Qja x:=(Q5c x).m
abbrev Q9k x:=(Q5c x).p
def Qqc:Q09:=mT 336 [] true [.one (.int .u32)] [] (λa r=>Q5c (argI a 0)) (λX=>.int .i64 X) (λX=>[])
theorem Qnc:Q05 pG Qqc:=oT (.nil) Tryz.func336 Tryz.call336 [] [] 2
def Qah(b:Q0f)(pages:Int):Tree Bool:=
.an (Q9k b.E0) (.lv (Qja b.E0) λ(x0:Int)=>.lf (decide (x0<=if 0>pages then 0 else pages)))
def Que b pages:=(Qah b pages).m
abbrev Qe7 b pages:=(Qah b pages).p
def Z2r:Q09:=mT 248 [] true [.agg Q0f.sig,.one (.int .i64)] [] (λa r=>Qah (Q0f.of (aC a 0)) (argI a 1)) (λX=>.bool X) (λX=>[])
theorem Qyr:Q05 pG Z2r:=oT (.cons Qnc (.nil)) Tryz.func248 Tryz.call248 [] [] 2
def Q3o(m:Q00):Tree Bool:=
.lv (Q4x m.Mem) λ(x0:Int)=>.lv (Qv2 m.B0) λ(x1:Bool)=>.br x1 (.lv (Z3z m.B7) λ(x2:Bool)=>.br x2 (.lv (Z9n m.B5 x0) λ(x3:Bool)=>.br x3 (.lv (qt m.D6 x0) λ(x4:Bool)=>.br x4 (.an (Qe7 m.A6 x0) (.lv (Que m.A6 x0) λ(x5:Bool)=>.lf x5)) (.lf false)) (.lf false)) (.lf false)) (.lf false)
def Qaa m:=(Q3o m).m
abbrev Q49 m:=(Q3o m).p
def Ql2:Q09:=mT 145 [] true [.agg Q00.sig] [] (λa r=>Q3o (Q00.of (aC a 0))) (λX=>.bool X) (λX=>[])
theorem Qjw:Q05 pG Ql2:=oT (.cons Q3a (.cons Qyp (.cons Z4y (.cons Z86 (.cons Zbr (.cons Qyr (.nil))))))) Tryz.func145 Tryz.call145 [] [] 2
def Qa3(m:Q00):Tree Bool:=
.lv (Q4x m.Mem) λ(x0:Int)=>.br (x0==0) (.lf false) (.br (m.A7.X.a0 !=0) (.lf false) (.br (decide (m.A7.C6.a0>31)) (.lf false) (.br (decide (m.A7.C6.a7>31)) (.lf false) (.br (decide (m.A7.C6.a6>255)) (.lf false) (.br (hZ m.A7.C6.a1 (4:Int) !=(0:Int)) (.lf false) (.br (decide (m.B6>1152921504606846976)) (.lf false) (.br m.B2 (.br m.B4 (.lf false) (.an (Q49 m) (.lv (Qaa m) λ(x1:Bool)=>.lf x1))) (.an (Q49 m) (.lv (Qaa m) λ(x2:Bool)=>.lf x2)))))))))
def Qe5 m:=(Qa3 m).m
abbrev Q5f m:=(Qa3 m).p
def Z1r:Q09:=mT 54 [] true [.agg Q00.sig] [] (λa r=>Qa3 (Q00.of (aC a 0))) (λX=>.bool X) (λX=>[])
theorem Qbs:Q05 pG Z1r:=oT (.cons Q3a (.cons Qjw (.nil))) Tryz.func54 Tryz.call54 [] [] 2
def Qka(t:Q14):Tree Bool:=
.lf t.F1
def Qok t:=(Qka t).m
def Qva:Q09:=mS 376 [] true [.agg Q14.sig] [] (λa r=>Qka (Q14.of (aC a 0))) (λX=>.bool X) (λX=>[])
theorem Qsn:Q05 pG Qva:=oS (.nil) Tryz.func376 Tryz.call376 [] [] 2
def Qgi(c:Q0m):Tree Bool:=
.lf (!decide (c.F0=[]))
def Qj3 c:=(Qgi c).m
def Qqr:Q09:=mS 377 [] true [.agg Q0m.sig] [] (λa r=>Qgi (Q0m.of (aC a 0))) (λX=>.bool X) (λX=>[])
theorem Qof:Q05 pG Qqr:=oS (.nil) Tryz.func377 Tryz.call377 [] [] 2
def Qln(d0:Q0l):Tree Bool:=
.br (d0.D5==2) (.lf true) (.lf (d0.D5==3))
def Qix d0:=(Qln d0).m
def Qy9:Q09:=mS 330 [] true [.agg Q0l.sig] [] (λa r=>Qln (Q0l.of (aC a 0))) (λX=>.bool X) (λX=>[])
theorem Qk8:Q05 pG Qy9:=oS (.nil) Tryz.func330 Tryz.call330 [] [] 2
def Qo3(n:Q1f):Tree Bool:=
.lf n.C2
def Qu9 n:=(Qo3 n).m
def Z1f:Q09:=mS 378 [] true [.agg Q1f.sig] [] (λa r=>Qo3 (Q1f.of (aC a 0))) (λX=>.bool X) (λX=>[])
theorem Qyo:Q05 pG Z1f:=oS (.nil) Tryz.func378 Tryz.call378 [] [] 2
def Q2s(x:Int):Tree Int:=
let E1:=(↑(dR (iB (iB tblYc4 Qlw) (iB Qlw Z5l))):Int);.cn (decide (0<=ishr u32 x 24/\ishr u32 x 24<E1)) (.cn (decide (0<=iand u32 (ishr u32 x 16) 255/\iand u32 (ishr u32 x 16) 255<E1)) (.cn (decide (0<=iand u32 (ishr u32 x 8) 255/\iand u32 (ishr u32 x 8) 255<E1)) (.cn (decide (0<=iand u32 x 255/\iand u32 x 255<E1)) (.lf (wrap i64 (wrap u8 (wrap u8 (wrap u8 ((↑(iC (aK ((0:UInt8)::(Z92++Qlw++(Qlw++Z5l))) (dM (ishr u32 x 24)) (0:UInt8))):Int)+(↑(iC (aK ((0:UInt8)::(Z92++Qlw++(Qlw++Z5l))) (dM (iand u32 (ishr u32 x 16) 255)) (0:UInt8))):Int))+(↑(iC (aK ((0:UInt8)::(Z92++Qlw++(Qlw++Z5l))) (dM (iand u32 (ishr u32 x 8) 255)) (0:UInt8))):Int))+(↑(iC (aK ((0:UInt8)::(Z92++Qlw++(Qlw++Z5l))) (dM (iand u32 x 255)) (0:UInt8))):Int))))))))
def Qbw x:=(Q2s x).m
abbrev Q52 x:=(Q2s x).p
def Qhh:Q09:=mT 389 [] true [.one (.int .u32)] [] (λa r=>Q2s (argI a 0)) (λX=>.int .i64 X) (λX=>[])
theorem Qgp:Q05 pG Qhh:=oT (.nil) Tryz.func389 Tryz.call389 [] [] 2
def Q7m(b:Q0f):Tree Int:=
.an (Q52 b.E0) (.lv (Qbw b.E0) λ(x0:Int)=>.lf x0)
def Qhd b:=(Q7m b).m
abbrev Q8h b:=(Q7m b).p
def Quq:Q09:=mT 328 [] true [.agg Q0f.sig] [] (λa r=>Q7m (Q0f.of (aC a 0))) (λX=>.int .i64 X) (λX=>[])
theorem Qi1:Q05 pG Quq:=oT (.cons Qgp (.nil)) Tryz.func328 Tryz.call328 [] [] 2
def Q5e(b:Q0f):Tree Bool:=
.an (Q8h b) (.lv (Qhd b) λ(x0:Int)=>.lf (wrap u32 x0 !=b.D9))
def Qj0 b:=(Q5e b).m
abbrev Q9u b:=(Q5e b).p
def Qq7:Q09:=mT 379 [] true [.agg Q0f.sig] [] (λa r=>Q5e (Q0f.of (aC a 0))) (λX=>.bool X) (λX=>[])
theorem Qn8:Q05 pG Qq7:=oT (.cons Qi1 (.nil)) Tryz.func379 Tryz.call379 [] [] 2
def Qmm(m:Q00)(z:(Int)×(Int)):Nat:=(5-z.2).toNat
def Q77(m:Q00):Tree Int:=
.lv (Qok m.B7) λ(x0:Bool)=>.lv (Qj3 m.B0) λ(x1:Bool)=>.lv (Qix m.B5) λ(x2:Bool)=>.lv (Qu9 m.D6) λ(x3:Bool)=>.an (Q9u m.A6) (.lv (Qj0 m.A6) λ(x4:Bool)=>.lp inferInstance (Qmm m (0,0)+1) ((rE (0:Int)/\(rE (x0:Bool)/\rE (x1:Bool)/\rE (x2:Bool)/\rE (x3:Bool)/\rE (x4:Bool)/\True)/\rE (0:Int)/\True)/\True) (0,0) λ(v0:Int×Int)=>.br (decide (v0.2<5)) (.cn (bV 1 1&&(bV 5 5&&decide (0<=v0.2/\v0.2<(↑5:Int)))) (.br (aK [x0,x1,x2,x3,x4] v0.2.toNat false) (.cn (decide (0<=v0.2)) (.nx ((rE ((ior u32 v0.1 (ishl u32 1 v0.2)):Int)/\(rE (x0:Bool)/\rE (x1:Bool)/\rE (x2:Bool)/\rE (x3:Bool)/\rE (x4:Bool)/\True)/\rE ((wrap i64 (v0.2+1)):Int)/\True)/\True) (Sum.inl (ior u32 v0.1 (ishl u32 1 v0.2),wrap i64 (v0.2+1))))) (.nx ((rE v0.1/\(rE (x0:Bool)/\rE (x1:Bool)/\rE (x2:Bool)/\rE (x3:Bool)/\rE (x4:Bool)/\True)/\rE ((wrap i64 (v0.2+1)):Int)/\True)/\True) (Sum.inl (v0.1,wrap i64 (v0.2+1)))))) (.lf (Sum.inr v0.1)))
def Qob m:=(Q77 m).m
abbrev Qbe m:=(Q77 m).p
def Qte:LInv:={
 α:=(Int)×(Int)
 F:=λst a=>([(4,.int u32 a.1),(23,(lk st 23)),(24,.int i64 a.2)],[])
 a0:=λst=>((lk st 4).toInt,(lk st 24).toInt)
 ex0:=λst=>[]++[]}
def Qo4:List (Nat×LInv):=[(4,Qte)]
def Qx7:Q09:=mT 313 [] true [.agg Q00.sig] [] (λa r=>Q77 (Q00.of (aC a 0))) (λX=>.int .u32 X) (λX=>[])
theorem Qs5:Q05 pG Qx7:=oT (.cons Qsn (.cons Qof (.cons Qk8 (.cons Qyo (.cons Qn8 (.nil)))))) Tryz.func313 Tryz.call313 [] Qo4 3
def Q5i(m:Q00):Tree Int:=
.an (Qbe m) (.lv (Qob m) λ(x0:Int)=>.lf (iand u32 x0 m.A7.C6.a7))
def Qe1 m:=(Q5i m).m
abbrev Q5y m:=(Q5i m).p
def Qpd:Q09:=mT 220 [] true [.agg Q00.sig] [] (λa r=>Q5i (Q00.of (aC a 0))) (λX=>.int .u32 X) (λX=>[])
theorem Qfb:Q05 pG Qpd:=oT (.cons Qs5 (.nil)) Tryz.func220 Tryz.call220 [] [] 2
def Q96(m:Q00):Tree Bool:=
.br m.B2 (.an (Q5y m) (.lv (Qe1 m) λ(x0:Int)=>.lf (x0==0))) (.lf false)
def Qjy m:=(Q96 m).m
abbrev Q9g m:=(Q96 m).p
def Qxs:Q09:=mT 143 [] true [.agg Q00.sig] [] (λa r=>Q96 (Q00.of (aC a 0))) (λX=>.bool X) (λX=>[])
theorem Qj4:Q05 pG Qxs:=oT (.cons Qfb (.nil)) Tryz.func143 Tryz.call143 [] [] 2

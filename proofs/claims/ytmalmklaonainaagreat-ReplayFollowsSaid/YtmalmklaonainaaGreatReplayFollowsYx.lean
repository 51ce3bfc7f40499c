import Derived.Test.YtmalmklaonainaaGreatReplayFollowsBase
open Int renaming tmod->dA, tdiv->eQ, toNat->dB
open Nat renaming beq->bS, blt->bT
open List renaming set->dC, getD->aK, length->dG, append->cM
open UInt8 renaming toNat->eS
set_option maxRecDepth 100000
set_option linter.all false
namespace Go.Proofs.YtmalmklaonainaaGreat
open Go Go.GD Go.IntKind
noncomputable section
def Q03(s:List Int):(List Int):=
s
def Q08(s:List Int):Prop:=
s.length<=35184372088832
def Q42(s:List Int):List D:=[.sl 1 (.ints .u32 s) false]
def Q2n(s:List Int):List Row:=[]
def Q1v(X:List Int):D:= .all 0
def Q1u(X:List Int):List Row:=[⟨false,25,1, .ints .u32 X⟩]
def Qei:List Dir:=[.row 25 1 (.ints .u32)]
def Q7z:List PT:=[.one (.ints .u32)]
def Q7i:List RT:=[]
def Qft(args:List D)(rows:List Row):(List Int):=Q03 (argL .u32 args 0)
def Qfr(args:List D)(rows:List Row):Prop:=Q08 (argL .u32 args 0)
def Qh6:Q0e:=mkP 129 [] true Q7z Q7i Qfr Qft Q1v Q1u
def Q5a(s:List Int)(Leaf:(List Int)->Prop):Prop:=
(s=[]->Leaf [])/\cand (decide ((4:Nat)*((0:Nat)+s.length)<=(140737488355328:Nat))) (Leaf s)
set_option maxRecDepth 100000 in
theorem Qgh(s:List Int)(Q:D->List Row->Prop):(fnVC tab [] (LL tab [] Tryz.f129.ntmps 0 [] 2) Tryz.f129 (Q42 s) (Q2n s) λd R=>Q9z (Q2n s).length Qei d R Q)=Q5a s (λX=>Q (Q1v X) (Q1u X)):=by kernel_rfl
theorem Qf1(s:List Int)(Leaf:(List Int)->Prop)(hw:Q08 s)(h:Leaf (Q03 s)):
Q5a s Leaf:=by
 delta Q5a
 refine⟨λe=>by rw[e]at h;exact h,?_⟩
 rw[Q07]
 refine⟨dY ?_,h⟩
 have:s.length<=35184372088832:=hw
 omega
set_option maxRecDepth 100000 in
theorem Qea(s:List Int)(hw:Q08 s):Q4f pG 129 (Q42 s) (Q2n s) (Q1v (Q03 s)) (Q1u (Q03 s)):=
 have hG:Q79 pG []:= .nil
 FnOK.calls drawn Q0l hG Tryz.func129 (rf:=none) (λ_ _=>trivial) (Znw drawn Q0l hG (.inl rfl) 2 (invs:=[])) (FnOK.of (Qgh s _) (Qf1 s (λX=>Q1v X=Q1v (Q03 s)/\Q1u X=Q1u (Q03 s)) hw ⟨rfl,rfl⟩))
set_option maxRecDepth 100000 in
theorem Qf(args:List D)(rows:List Row):Qg8 Q7z args 0=Q42 (argL .u32 args 0):=by kernel_rfl
set_option maxRecDepth 100000 in
theorem Qeb(args:List D)(rows:List Row):Q66 Q7i rows 0=Q2n (argL .u32 args 0):=by kernel_rfl
set_option maxRecDepth 100000 in
theorem Qgt(X:List Int):(ffB (Q1v X)&&ffBR (Q1u X))=true:=by kernel_rfl
theorem Q0w:Q06 pG Qh6:=Qyl Tryz.call129 (λargs rows hp=>by rw[Qf args rows,Qeb args rows];exact Qea (argL .u32 args 0) hp) (λ_ X=>Qgt X)
def Q8k(m:List Int):Tree Int:=
.br (dA (m.length:Int) (32:Int) !=(0:Int)) (.lf 0) (.br (decide ((m.length:Int)>(1024:Int))) (.lf 0) (.lf (wrap i64 (eQ (m.length:Int) 32))))
def Q1 m:=(Q8k m).m
def Z62:Q0e:=mS 43 [] true [.one (.ints .u32)] [] (λa r=>Q8k (argL .u32 a 0)) (λX=> .int .i64 X) (λX=>[])
theorem Q4b:Q06 pG Z62:=oS (.nil) Tryz.func43 Tryz.call43 [] [] 2
def Q3e(m:List Int)(addr size:Int):Tree Bool:=
let T1:Tree (Bool):= .cn (decide (wrap u32 size≠0)) (.br (dA addr (wrap u32 size) !=0) (.lf false) (.lv (Q1 m) λ(x0:Int)=> .lf (decide (wrap u64 (wrap u64 addr+wrap u64 size)<=wrap u64 (wrap u64 x0*128))))); .br (size !=1) (.br (size !=4) (.lf false) T1) T1
def Qh3 m addr size:=(Q3e m addr size).m
abbrev Qa3 m addr size:=(Q3e m addr size).p
def Z1m:Q0e:=mT 275 [] true [.one (.ints .u32), .one (.int .u32), .one (.int .i64)] [] (λa r=>Q3e (argL .u32 a 0) (argI a 1) (argI a 2)) (λX=> .bool X) (λX=>[])
theorem Qmw:Q06 pG Z1m:=oT (.cons Q4b (.nil)) Tryz.func275 Tryz.call275 [] [] 2
def Qc9(n:Int):Tree Int:=
.br (decide (n>=32)) (.lf 4294967295) (.cn (decide (0<=wrap u64 n)) (.lf (wrap u32 (ishl u32 1 (wrap u64 n)-1))))
def Z4 n:=(Qc9 n).m
abbrev Qh9 n:=(Qc9 n).p
def Zjn:Q0e:=mT 276 [] true [.one (.int .i64)] [] (λa r=>Qc9 (argI a 0)) (λX=> .int .u32 X) (λX=>[])
theorem Qy6:Q06 pG Zjn:=oT (.nil) Tryz.func276 Tryz.call276 [] [] 2
def Q9s(w low n:Int):Tree Int:=
.br (decide (low<0)) (.lf 0) (.br (decide (low>31)) (.lf 0) (.br (decide (n<1)) (.lf 0) (.cn (decide (0<=wrap u64 low)) (.an (Qh9 n) (.lv (Z4 n) λ(x0:Int)=> .lf (iand u32 (ishr u32 w (wrap u64 low)) x0))))))
def Q35 w low n:=(Q9s w low n).m
abbrev Q5j w low n:=(Q9s w low n).p
def Zf:Q0e:=mT 233 [] true [.one (.int .u32), .one (.int .i64), .one (.int .i64)] [] (λa r=>Q9s (argI a 0) (argI a 1) (argI a 2)) (λX=> .int .u32 X) (λX=>[])
theorem Qml:Q06 pG Zf:=oT (.cons Qy6 (.nil)) Tryz.func233 Tryz.call233 [] [] 2
def Q9q(w low n v:Int):Tree Int:=
.br (decide (low<0)) (.lf w) (.br (decide (low>31)) (.lf w) (.br (decide (n<1)) (.lf w) (.an (Qh9 n) (.lv (Z4 n) λ(x0:Int)=> .cn (decide (0<=wrap u64 low)) (.cn (decide (0<=wrap u64 low)) (.lf (ior u32 (Qhc u32 w (ishl u32 x0 (wrap u64 low))) (ishl u32 (iand u32 v x0) (wrap u64 low)))))))))
def Q88 w low n v:=(Q9q w low n v).m
abbrev Qld w low n v:=(Q9q w low n v).p
def Z14:Q0e:=mT 278 [] true [.one (.int .u32), .one (.int .i64), .one (.int .i64), .one (.int .u32)] [] (λa r=>Q9q (argI a 0) (argI a 1) (argI a 2) (argI a 3)) (λX=> .int .u32 X) (λX=>[])
theorem Qz7:Q06 pG Z14:=oT (.cons Qy6 (.nil)) Tryz.func278 Tryz.call278 [] [] 2
def Q8n(m:List Int)(addr size v:Int):Tree ((List Int)×Bool):=
.an (Q08 m) (.lv (Q03 m) λ(x0:List Int)=> .an (Qa3 m addr size) (.lv (Qh3 m addr size) λ(x1:Bool)=> .br (!x1) (.lf (x0,false)) (let E1:=bS 1 1&&bT 0 1&&decide (0<=wrap u32 (eQ addr 4)/\wrap u32 (eQ addr 4)<(x0.length:Int));let E2:=dB (wrap u32 (eQ addr 4)); .br (size==1) (.cn E1 (let E3:=wrap i64 (wrap i64 (dA addr 4)*8); .an (Qld (x0.getD E2 0) E3 8 v) (.lv (Q88 (x0.getD E2 0) E3 8 v) λ(x2:Int)=> .cn E1 (.lf (dC x0 E2 x2,true))))) (.cn E1 (.lf (dC x0 E2 v,true))))))
def Q9i m addr size v:=(Q8n m addr size v).m
abbrev Qbz m addr size v:=(Q8n m addr size v).p
def Z4y:Q0e:=mT 239 [] true [.one (.ints .u32), .one (.int .u32), .one (.int .i64), .one (.int .u32)] [] (λa r=>Q8n (argL .u32 a 0) (argI a 1) (argI a 2) (argI a 3)) (λX=> .tup [.all 0, .bool (X.2)]) (λX=>[⟨false,25,1, .ints .u32 (X.1)⟩])
theorem Qoo:Q06 pG Z4y:=oT (.cons Q0w (.cons Qmw (.cons Qz7 (.nil)))) Tryz.func239 Tryz.call239 [.row 25 1 (.ints .u32)] [] 2
def Zdq(op:Int):Tree (Q90×Bool):=
.br (op==1) (.lf ({a:=true,b:=true,c:=true,low:=0,D6:=0},true)) (.br (op==2) (.lf ({a:=true,b:=true,c:=true,low:=0,D6:=0},true)) (.br (op==3) (.lf ({a:=true,b:=true,c:=true,low:=0,D6:=0},true)) (.br (op==4) (.lf ({a:=true,b:=true,c:=true,low:=0,D6:=0},true)) (.br (op==5) (.lf ({a:=true,b:=true,c:=true,low:=0,D6:=0},true)) (.br (op==6) (.lf ({a:=true,b:=true,c:=true,low:=0,D6:=0},true)) (.br (op==7) (.lf ({a:=true,b:=true,c:=true,low:=0,D6:=0},true)) (.br (op==8) (.lf ({a:=true,b:=true,c:=true,low:=0,D6:=0},true)) (.br (op==9) (.lf ({a:=true,b:=true,c:=true,low:=0,D6:=0},true)) (.br (op==10) (.lf ({a:=true,b:=true,c:=true,low:=0,D6:=0},true)) (.br (op==11) (.lf ({a:=true,b:=true,c:=true,low:=0,D6:=0},true)) (.br (op==12) (.lf ({a:=true,b:=true,c:=true,low:=0,D6:=0},true)) (.br (op==13) (.lf ({a:=true,b:=true,c:=true,low:=0,D6:=0},true)) (.br (op==16) (.lf ({a:=true,b:=true,c:=false,low:=(-32768),D6:=32767},true)) (.br (op==23) (.lf ({a:=true,b:=true,c:=false,low:=(-32768),D6:=32767},true)) (.br (op==32) (.lf ({a:=true,b:=true,c:=false,low:=(-32768),D6:=32767},true)) (.br (op==33) (.lf ({a:=true,b:=true,c:=false,low:=(-32768),D6:=32767},true)) (.br (op==34) (.lf ({a:=true,b:=true,c:=false,low:=(-32768),D6:=32767},true)) (.br (op==35) (.lf ({a:=true,b:=true,c:=false,low:=(-32768),D6:=32767},true)) (.br (op==36) (.lf ({a:=true,b:=true,c:=false,low:=(-32768),D6:=32767},true)) (.br (op==40) (.lf ({a:=true,b:=true,c:=false,low:=(-32768),D6:=32767},true)) (.br (op==41) (.lf ({a:=true,b:=true,c:=false,low:=(-32768),D6:=32767},true)) (.br (op==42) (.lf ({a:=true,b:=true,c:=false,low:=(-32768),D6:=32767},true)) (.br (op==43) (.lf ({a:=true,b:=true,c:=false,low:=(-32768),D6:=32767},true)) (.br (op==44) (.lf ({a:=true,b:=true,c:=false,low:=(-32768),D6:=32767},true)) (.br (op==45) (.lf ({a:=true,b:=true,c:=false,low:=(-32768),D6:=32767},true)) (.br (op==49) (.lf ({a:=true,b:=true,c:=false,low:=(-32768),D6:=32767},true)) (.br (op==17) (.lf ({a:=true,b:=true,c:=false,low:=0,D6:=65535},true)) (.br (op==18) (.lf ({a:=true,b:=true,c:=false,low:=0,D6:=65535},true)) (.br (op==19) (.lf ({a:=true,b:=true,c:=false,low:=0,D6:=65535},true)) (.br (op==20) (.lf ({a:=true,b:=true,c:=false,low:=0,D6:=31},true)) (.br (op==21) (.lf ({a:=true,b:=true,c:=false,low:=0,D6:=31},true)) (.br (op==22) (.lf ({a:=true,b:=true,c:=false,low:=0,D6:=31},true)) (.br (op==24) (.lf ({a:=true,b:=false,c:=false,low:=0,D6:=65535},true)) (.br (op==48) (.lf ({a:=true,b:=false,c:=false,low:=(-32768),D6:=32767},true)) (.br (op==58) (.lf ({a:=true,b:=false,c:=false,low:=0,D6:=7},true)) (.br (op==59) (.lf ({a:=true,b:=false,c:=false,low:=0,D6:=7},true)) (.br (op==60) (.lf ({a:=true,b:=false,c:=false,low:=0,D6:=11},true)) (.br (op==61) (.lf ({a:=true,b:=false,c:=false,low:=0,D6:=11},true)) (.br (op==56) (.lf ({a:=false,b:=false,c:=false,low:=0,D6:=0},true)) (.br (op==57) (.lf ({a:=false,b:=false,c:=false,low:=0,D6:=0},true)) (.br (op==62) (.lf ({a:=false,b:=false,c:=false,low:=0,D6:=0},true)) (.br (op==63) (.lf ({a:=false,b:=false,c:=false,low:=0,D6:=0},true)) (.br (op==64) (.lf ({a:=false,b:=false,c:=false,low:=0,D6:=0},true)) (.lf ({a:=false,b:=false,c:=false,low:=0,D6:=0},false)))))))))))))))))))))))))))))))))))))))))))))
def Z2v op:=(Zdq op).m
def qA:Q0e:=mS 234 [] true [.one (.int .i64)] [] (λa r=>Zdq (argI a 0)) (λX=> .tup [.agg (Q90.cells (X.1)), .bool (X.2)]) (λX=>[])
theorem Z6m:Q06 pG qA:=oS (.nil) Tryz.func234 Tryz.call234 [] [] 2
def Q7k(x n:Int):Tree Int:=
.br (decide (n<1)) (.lf 0) (.br (decide (n>=32)) (.lf x) (let E1:=decide (0<=wrap u64 (wrap i64 (32-n))); .cn E1 (.cn E1 (.lf (wrap u32 (ishr i32 (wrap i32 (ishl u32 x (wrap u64 (wrap i64 (32-n))))) (wrap u64 (wrap i64 (32-n)))))))))
def Q2j x n:=(Q7k x n).m
abbrev Qco x n:=(Q7k x n).p
def Qwc:Q0e:=mT 235 [] true [.one (.int .u32), .one (.int .i64)] [] (λa r=>Q7k (argI a 0) (argI a 1)) (λX=> .int .u32 X) (λX=>[])
theorem Qjr:Q06 pG Qwc:=oT (.nil) Tryz.func235 Tryz.call235 [] [] 2
def Qfc(r:Int)(used:Bool):Tree Bool:=
.br used (.br (decide (r>=0)) (.lf (decide (r<=15))) (.lf false)) (.lf (r==0))
def Q9d r used:=(Qfc r used).m
def Z4r:Q0e:=mS 277 [] true [.one (.int .i64), .one (.bool)] [] (λa r=>Qfc (argI a 0) (argB a 1)) (λX=> .bool X) (λX=>[])
theorem Z3l:Q06 pG Z4r:=oS (.nil) Tryz.func277 Tryz.call277 [] [] 2
def Qi(i:Q0m):Tree Bool:=
.lv (Z2v i.Op) λ(x0:Q90×Bool)=> .br x0.2 (.lv (Q9d i.A x0.1.a) λ(x1:Bool)=> .br x1 (.lv (Q9d i.B x0.1.b) λ(x2:Bool)=> .br x2 (.lv (Q9d i.C x0.1.c) λ(x3:Bool)=> .br x3 (.br (decide (i.Imm>=x0.1.low)) (.lf (decide (i.Imm<=x0.1.D6))) (.lf false)) (.lf false)) (.lf false)) (.lf false)) (.lf false)
def Qg7 i:=(Qi i).m
def Zjd:Q0e:=mS 236 [] true [.agg Q0m.sig] [] (λa r=>Qi (Q0m.of (aC a 0))) (λX=> .bool X) (λX=>[])
theorem Zgp:Q06 pG Zjd:=oS (.cons Z6m (.cons Z3l (.nil))) Tryz.func236 Tryz.call236 [] [] 2
def Q7y(w:Int):Tree (Q0m×Bool):=
.an (Q5j w 24 8) (.lv (Q35 w 24 8) λ(x0:Int)=> .an (Q5j w 20 4) (.lv (Q35 w 20 4) λ(x1:Int)=> .an (Q5j w 16 4) (.lv (Q35 w 16 4) λ(x2:Int)=> .lv (Z2v (wrap i64 x0)) λ(x3:Q90×Bool)=>let E1:=({Op:=0,A:=0,B:=0,C:=0,Imm:=0}:Q0m); .br (!x3.2) (.lf (E1,false)) (.an (Q5j w 0 16) (.lv (Q35 w 0 16) λ(x4:Int)=> .br x3.1.c (let E2:=({Op:=wrap i64 x0,A:=wrap i64 x1,B:=wrap i64 x2,C:=wrap i64 x4,Imm:=0}:Q0m); .lv (Qg7 E2) λ(x5:Bool)=> .br (!x5) (.lf (E1,false)) (.lf (E2,true))) (.br (decide (x3.1.low<0)) (.an (Qco x4 16) (.lv (Q2j x4 16) λ(x6:Int)=>let E3:=({Op:=wrap i64 x0,A:=wrap i64 x1,B:=wrap i64 x2,C:=0,Imm:=wrap i32 x6}:Q0m); .lv (Qg7 E3) λ(x7:Bool)=> .br (!x7) (.lf (E1,false)) (.lf (E3,true)))) (let E4:=({Op:=wrap i64 x0,A:=wrap i64 x1,B:=wrap i64 x2,C:=0,Imm:=wrap i32 x4}:Q0m); .lv (Qg7 E4) λ(x8:Bool)=> .br (!x8) (.lf (E1,false)) (.lf (E4,true)))))))))
def Qhi w:=(Q7y w).m
abbrev Qki w:=(Q7y w).p
def Zgw:Q0e:=mT 180 [] true [.one (.int .u32)] [] (λa r=>Q7y (argI a 0)) (λX=> .tup [.agg (Q0m.cells (X.1)), .bool (X.2)]) (λX=>[])
theorem Zbi:Q06 pG Zgw:=oT (.cons Qml (.cons Z6m (.cons Qjr (.cons Zgp (.nil))))) Tryz.func180 Tryz.call180 [] [] 2
def Qaf(a b:Int):Tree (Int×Int):=
.br (b==0) (.lf (4294967295,a)) (let T1:Tree ((Int×Int)):= .cn (decide (wrap i32 b≠0)) (.cn (decide (wrap i32 b≠0)) (.lf (wrap u32 (wrap i32 (eQ (wrap i32 a) (wrap i32 b))),wrap u32 (dA (wrap i32 a) (wrap i32 b))))); .br (a==2147483648) (.br (b==4294967295) (.lf (a,0)) T1) T1)
def Qcb a b:=(Qaf a b).m
abbrev Qhx a b:=(Qaf a b).p
def Za:Q0e:=mT 279 [] true [.one (.int .u32), .one (.int .u32)] [] (λa r=>Qaf (argI a 0) (argI a 1)) (λX=> .tup [.int .u32 (X.1), .int .u32 (X.2)]) (λX=>[])
theorem Z4i:Q06 pG Za:=oT (.nil) Tryz.func279 Tryz.call279 [] [] 2
def Z25(b:Bool):Tree Int:=
.br b (.lf 1) (.lf 0)
def Qnp b:=(Z25 b).m
def Zhu:Q0e:=mS 280 [] true [.one (.bool)] [] (λa r=>Z25 (argB a 0)) (λX=> .int .u32 X) (λX=>[])
theorem Zg1:Q06 pG Zhu:=oS (.nil) Tryz.func280 Tryz.call280 [] [] 2
def Qnq(op a b:Int):Tree (Int×Bool):=
.br (op==2) (.lf (wrap u32 (a+wrap u32 (0-b)),true)) (.br (op==1) (.lf (wrap u32 (a+b),true)) (.br (op==16) (.lf (wrap u32 (a+b),true)) (.br (op==3) (.lf (iand u32 a b,true)) (.br (op==17) (.lf (iand u32 a b,true)) (.br (op==4) (.lf (ior u32 a b,true)) (.br (op==18) (.lf (ior u32 a b,true)) (.br (op==5) (.lf (ixor u32 a b,true)) (.br (op==19) (.lf (ixor u32 a b,true)) (.br (op==6) (.lf (ishl u32 a (iand u32 b 31),true)) (.br (op==20) (.lf (ishl u32 a (iand u32 b 31),true)) (.br (op==7) (.lf (ishr u32 a (iand u32 b 31),true)) (.br (op==21) (.lf (ishr u32 a (iand u32 b 31),true)) (let E1:=(wrap u32 (ishr i32 (wrap i32 a) (iand u32 b 31)),true); .br (op==8) (.lf E1) (.br (op==22) (.lf E1) (.br (op==9) (.lf (wrap u32 (a*b),true)) (.br (op==10) (.an (Qhx a b) (.lv (Qcb a b) λ(x0:Int×Int)=> .lf (x0.1,true))) (.br (op==11) (.an (Qhx a b) (.lv (Qcb a b) λ(x1:Int×Int)=> .lf (x1.2,true))) (.br (op==12) (.lv (Qnp (decide (wrap i32 a<wrap i32 b))) λ(x2:Int)=> .lf (x2,true)) (.br (op==23) (.lv (Qnp (decide (wrap i32 a<wrap i32 b))) λ(x3:Int)=> .lf (x3,true)) (.br (op==13) (.lv (Qnp (decide (a<b))) λ(x4:Int)=> .lf (x4,true)) (.lf (0,false))))))))))))))))))))))
def Q4a op a b:=(Qnq op a b).m
abbrev Qrd op a b:=(Qnq op a b).p
def xA:Q0e:=mT 243 [] true [.one (.int .i64), .one (.int .u32), .one (.int .u32)] [] (λa r=>Qnq (argI a 0) (argI a 1) (argI a 2)) (λX=> .tup [.int .u32 (X.1), .bool (X.2)]) (λX=>[])
theorem Zno:Q06 pG xA:=oT (.cons Z4i (.cons Zg1 (.nil))) Tryz.func243 Tryz.call243 [] [] 2
end
noncomputable section
def Qps(status from0 to:Int):Tree Int:=
.br (iand u32 status from0 !=0) (.lf (ior u32 status to)) (.lf (Qhc u32 status to))
def Q92 status from0 to:=(Qps status from0 to).m
def Znh:Q0e:=mS 230 [] true [.one (.int .u32), .one (.int .u32), .one (.int .u32)] [] (λa r=>Qps (argI a 0) (argI a 1) (argI a 2)) (λX=> .int .u32 X) (λX=>[])
theorem Z2q:Q06 pG Znh:=oS (.nil) Tryz.func230 Tryz.call230 [] [] 2
def Qlm(c:Q05)(cause bad:Int):Tree Q05:=
.lv (Q92 c.B5.a0 1 8) λ(x0:Int)=> .lv (Q92 x0 2 16) λ(x1:Int)=> .lf ({X:=c.X,Pc:=c.B5.a1,B5:={a0:=Qhc u32 (ior u32 x1 1) 2,a1:=c.B5.a1,a2:=c.Pc,a3:=wrap u32 cause,a4:=bad,a5:=c.B5.a5,a6:=c.B5.a6,a7:=c.B5.a7}})
def Q4s c cause bad:=(Qlm c cause bad).m
def Znl:Q0e:=mS 178 [] true [.agg Q05.sig, .one (.int .i64), .one (.int .u32)] [] (λa r=>Qlm (Q05.of (aC a 0)) (argI a 1) (argI a 2)) (λX=> .agg (Q05.cells X)) (λX=>[])
theorem Qiu:Q06 pG Znl:=oS (.cons Z2q (.nil)) Tryz.func178 Tryz.call178 [] [] 2
def Qsf(access:Int):Tree (Int×Bool):=
.br (access==1) (.lf (4,true)) (.br (access==2) (.lf (5,true)) (.br (access==3) (.lf (6,true)) (.lf (5,false))))
def Qsb access:=(Qsf access).m
def Zb7:Q0e:=mS 272 [] true [.one (.int .i64)] [] (λa r=>Qsf (argI a 0)) (λX=> .tup [.int .i64 (X.1), .bool (X.2)]) (λX=>[])
theorem Z55:Q06 pG Zb7:=oS (.nil) Tryz.func272 Tryz.call272 [] [] 2
def Qyb(c:Q05):Tree Bool:=
.lf (iand u32 c.B5.a0 (1:Int) !=(0:Int))
def Qa6 c:=(Qyb c).m
def Zcc:Q0e:=mS 182 [] true [.agg Q05.sig] [] (λa r=>Qyb (Q05.of (aC a 0))) (λX=> .bool X) (λX=>[])
theorem Quu:Q06 pG Zcc:=oS (.nil) Tryz.func182 Tryz.call182 [] [] 2
def Qmz(access:Int):Tree (Int×Bool):=
.br (access==1) (.lf (4,true)) (.br (access==2) (.lf (5,true)) (.br (access==3) (.lf (6,true)) (.lf (5,false))))
def Qkj access:=(Qmz access).m
def Qzm:Q0e:=mS 306 [] true [.one (.int .i64)] [] (λa r=>Qmz (argI a 0)) (λX=> .tup [.int .i64 (X.1), .bool (X.2)]) (λX=>[])
theorem Qvk:Q06 pG Qzm:=oS (.nil) Tryz.func306 Tryz.call306 [] [] 2
def Qje(m:List Int)(frame:Int):Tree Bool:=
.lv (Q1 m) λ(x0:Int)=> .lf (decide (wrap u64 frame<wrap u64 x0))
def Qah m frame:=(Qje m frame).m
def Z49:Q0e:=mS 307 [] true [.one (.ints .u32), .one (.int .u32)] [] (λa r=>Qje (argL .u32 a 0) (argI a 1)) (λX=> .bool X) (λX=>[])
theorem Qz:Q06 pG Z49:=oS (.cons Q4b (.nil)) Tryz.func307 Tryz.call307 [] [] 2
def Q6y(m:List Int)(addr size:Int):Tree (Int×Bool):=
.an (Qa3 m addr size) (.lv (Qh3 m addr size) λ(x0:Bool)=> .br (!x0) (.lf (0,false)) (.cn (bS 1 1&&bT 0 1&&decide (0<=wrap u32 (eQ addr 4)/\wrap u32 (eQ addr 4)<(m.length:Int))) (let E1:=dB (wrap u32 (eQ addr 4)); .br (size==1) (let E2:=wrap i64 (wrap i64 (dA addr 4)*8); .an (Q5j (m.getD E1 0) E2 8) (.lv (Q35 (m.getD E1 0) E2 8) λ(x1:Int)=> .lf (x1,true))) (.lf (m.getD E1 0,true)))))
def Q4z m addr size:=(Q6y m addr size).m
abbrev Q3f m addr size:=(Q6y m addr size).p
def Z97:Q0e:=mT 232 [] true [.one (.ints .u32), .one (.int .u32), .one (.int .i64)] [] (λa r=>Q6y (argL .u32 a 0) (argI a 1) (argI a 2)) (λX=> .tup [.int .u32 (X.1), .bool (X.2)]) (λX=>[])
theorem Qbn:Q06 pG Z97:=oT (.cons Qmw (.cons Qml (.nil))) Tryz.func232 Tryz.call232 [] [] 2
def Qn(pte access:Int):Tree Bool:=
.br (iand u32 pte (1:Int)==(0:Int)) (.lf false) (.br (access==3) (.lf (iand u32 pte (2:Int) !=(0:Int))) (.br (access==1) (.lf (iand u32 pte (4:Int) !=(0:Int))) (.lf true)))
def Qbe pte access:=(Qn pte access).m
def Qz2:Q0e:=mS 308 [] true [.one (.int .u32), .one (.int .i64)] [] (λa r=>Qn (argI a 0) (argI a 1)) (λX=> .bool X) (λX=>[])
theorem Qv6:Q06 pG Qz2:=oS (.nil) Tryz.func308 Tryz.call308 [] [] 2
def Q8i(pte:Int):Tree Int:=
.an (Q5j pte 8 8) (.lv (Q35 pte 8 8) λ(x0:Int)=> .lf x0)
def Qf5 pte:=(Q8i pte).m
abbrev Qdo pte:=(Q8i pte).p
def Qz5:Q0e:=mT 309 [] true [.one (.int .u32)] [] (λa r=>Q8i (argI a 0)) (λX=> .int .u32 X) (λX=>[])
theorem Qwe:Q06 pG Qz5:=oT (.cons Qml (.nil)) Tryz.func309 Tryz.call309 [] [] 2
def Qae(m:List Int)(root va access:Int):Tree Q1b:=
.lv (Qkj access) λ(x0:Int×Bool)=>let E1:=({Addr:=0,F3:=0,F0:=x0.1}:Q1b); .br (!x0.2) (.lf (E1)) (.br (decide (va>=4096)) (.lf (E1)) (.lv (Qah m root) λ(x1:Bool)=> .br (!x1) (.lf (E1)) (let E2:=wrap u32 (root*128)+wrap u32 (4*wrap u32 (eQ va 128)); .an (Q3f m (wrap u32 E2) 4) (.lv (Q4z m (wrap u32 E2) 4) λ(x2:Int×Bool)=> .br (!x2.2) (.lf (E1)) (.lv (Qbe x2.1 access) λ(x3:Bool)=> .br (!x3) (.lf (E1)) (.an (Qdo x2.1) (.lv (Qf5 x2.1) λ(x4:Int)=> .lv (Qah m x4) λ(x5:Bool)=> .br (!x5) (.lf (E1)) (.an (Qdo x2.1) (.lv (Qf5 x2.1) λ(x6:Int)=> .lf ({Addr:=wrap u32 (wrap u32 (x6*128)+dA va 128),F3:=wrap u32 E2,F0:=0}))))))))))
def Qij m root va access:=(Qae m root va access).m
abbrev Qi3 m root va access:=(Qae m root va access).p
def Zaq:Q0e:=mT 273 [] true [.one (.ints .u32), .one (.int .u32), .one (.int .u32), .one (.int .i64)] [] (λa r=>Qae (argL .u32 a 0) (argI a 1) (argI a 2) (argI a 3)) (λX=> .agg (Q1b.cells X)) (λX=>[])
theorem Z4o:Q06 pG Zaq:=oT (.cons Qvk (.cons Qz (.cons Qbn (.cons Qv6 (.cons Qwe (.nil)))))) Tryz.func273 Tryz.call273 [] [] 2
def Q8l(m:List Int)(entry access:Int):Tree (List Int):=
.an (Q3f m entry 4) (.lv (Q4z m entry 4) λ(x0:Int×Bool)=> .br (!x0.2) (.an (Q08 m) (.lv (Q03 m) λ(x1:List Int)=> .lf x1)) (.br (access==3) (.an (Qbz m entry 4 (ior u32 (ior u32 x0.1 8) 16)) (.lv (Q9i m entry 4 (ior u32 (ior u32 x0.1 8) 16)) λ(x2:List Int×Bool)=> .lf x2.1)) (.an (Qbz m entry 4 (ior u32 x0.1 8)) (.lv (Q9i m entry 4 (ior u32 x0.1 8)) λ(x3:List Int×Bool)=> .lf x3.1))))
def Qcz m entry access:=(Q8l m entry access).m
abbrev Qgf m entry access:=(Q8l m entry access).p
def Z4h:Q0e:=mT 274 [] true [.one (.ints .u32), .one (.int .u32), .one (.int .i64)] [] (λa r=>Q8l (argL .u32 a 0) (argI a 1) (argI a 2)) (λX=> .all 0) (λX=>[⟨false,25,1, .ints .u32 X⟩])
theorem Z32:Q06 pG Z4h:=oT (.cons Qbn (.cons Q0w (.cons Qoo (.nil)))) Tryz.func274 Tryz.call274 [.row 25 1 (.ints .u32)] [] 2
def Q6v(c:Q05)(m:List Int)(va size access:Int):Tree (Int×(List Int)×Int):=
.lv (Qsb access) λ(x0:Int×Bool)=>let T3:Tree ((Int×(List Int)×Int)):= .an (Q08 m) (.lv (Q03 m) λ(x1:List Int)=> .lf (0,x1,5)); .br (!x0.2) T3 (let T1:Tree ((Int×(List Int)×Int)):= .cn (decide (wrap u32 size≠0)) (.br (dA va (wrap u32 size) !=0) (.an (Q08 m) (.lv (Q03 m) λ(x3:List Int)=> .lf (0,x3,3))) (.lv (Qa6 c) λ(x4:Bool)=>let T2:Tree ((Int×(List Int)×Int)):= .an (Q3f m va size) (.lv (Q4z m va size) λ(x8:Int×Bool)=> .br (!x8.2) (.an (Q08 m) (.lv (Q03 m) λ(x9:List Int)=> .lf (0,x9,x0.1))) (.an (Q08 m) (.lv (Q03 m) λ(x10:List Int)=> .lf (va,x10,0)))); .br (!x4) (.br (iand u32 c.B5.a0 (4:Int) !=(0:Int)) (.an (Qi3 m c.B5.a6 va access) (.lv (Qij m c.B5.a6 va access) λ(x5:Q1b)=> .br (x5.F0 !=0) (.an (Q08 m) (.lv (Q03 m) λ(x6:List Int)=> .lf (0,x6,x5.F0))) (.an (Qgf m x5.F3 access) (.lv (Qcz m x5.F3 access) λ(x7:List Int)=> .lf (x5.Addr,x7,0))))) T2) T2)); .br (size !=1) (.br (size !=4) T3 T1) T1)
def Q2a c m va size access:=(Q6v c m va size access).m
abbrev Q95 c m va size access:=(Q6v c m va size access).p
def Zau:Q0e:=mT 231 [] true [.agg Q05.sig, .one (.ints .u32), .one (.int .u32), .one (.int .i64), .one (.int .i64)] [] (λa r=>Q6v (Q05.of (aC a 0)) (argL .u32 a 1) (argI a 2) (argI a 3) (argI a 4)) (λX=> .tup [.int .u32 (X.1), .all 0, .int .i64 (X.2.2)]) (λX=>[⟨false,25,1, .ints .u32 (X.2.1)⟩])
theorem Qkm:Q06 pG Zau:=oT (.cons Z55 (.cons Q0w (.cons Quu (.cons Z4o (.cons Z32 (.cons Qbn (.nil))))))) Tryz.func231 Tryz.call231 [.row 25 1 (.ints .u32)] [] 2
def Qcj(c:Q05)(m:List Int):Tree (Int×(List Int)×Int):=
.an (Q95 c m c.Pc 4 1) (.lv (Q2a c m c.Pc 4 1) λ(x0:Int×List Int×Int)=> .br (x0.2.2 !=0) (.lf (0,x0.2.1,x0.2.2)) (.an (Q3f x0.2.1 x0.1 4) (.lv (Q4z x0.2.1 x0.1 4) λ(x1:Int×Bool)=> .lf (x1.1,x0.2.1,0))))
def Qnj c m:=(Qcj c m).m
abbrev Qms c m:=(Qcj c m).p
def Zi8:Q0e:=mT 179 [] true [.agg Q05.sig, .one (.ints .u32)] [] (λa r=>Qcj (Q05.of (aC a 0)) (argL .u32 a 1)) (λX=> .tup [.int .u32 (X.1), .all 0, .int .i64 (X.2.2)]) (λX=>[⟨false,25,1, .ints .u32 (X.2.1)⟩])
theorem Zcn:Q06 pG Zi8:=oT (.cons Qkm (.cons Qbn (.nil))) Tryz.func179 Tryz.call179 [.row 25 1 (.ints .u32)] [] 2
def Qn4(op:Int):Tree Bool:=
.br (op==57) (.lf true) (.br (op==58) (.lf true) (.br (op==59) (.lf true) (.br (op==60) (.lf true) (.br (op==61) (.lf true) (.br (op==62) (.lf true) (.br (op==63) (.lf true) (.br (op==64) (.lf true) (.lf false))))))))
def Q8p op:=(Qn4 op).m
def Qz9:Q0e:=mS 181 [] true [.one (.int .i64)] [] (λa r=>Qn4 (argI a 0)) (λX=> .bool X) (λX=>[])
theorem Qvd:Q06 pG Qz9:=oS (.nil) Tryz.func181 Tryz.call181 [] [] 2
def Qrx(op:Int):Tree Int:=
.br (op==32) (.lf 4) (.br (op==35) (.lf 4) (.lf 1))
def Qfj op:=(Qrx op).m
def Zjz:Q0e:=mS 237 [] true [.one (.int .i64)] [] (λa r=>Qrx (argI a 0)) (λX=> .int .i64 X) (λX=>[])
theorem Qxz:Q06 pG Zjz:=oS (.nil) Tryz.func237 Tryz.call237 [] [] 2
def Qe3(c:Q05)(register v:Int):Tree Q05:=
.br (register !=0) (.cn (bT 0 1&&decide (0<=register/\register<(↑16:Int))) (.lf ({X:=A16.of 0 (dC (A16.l c.X) register.toNat v),Pc:=c.Pc,B5:=c.B5}))) (.lf c)
def Qb3 c register v:=(Qe3 c register v).m
abbrev Q89 c register v:=(Qe3 c register v).p
def zA:Q0e:=mT 238 [] true [.agg Q05.sig, .one (.int .i64), .one (.int .u32)] [] (λa r=>Qe3 (Q05.of (aC a 0)) (argI a 1) (argI a 2)) (λX=> .agg (Q05.cells X)) (λX=>[])
theorem Z6z:Q06 pG zA:=oT (.nil) Tryz.func238 Tryz.call238 [] [] 2
def Qex(c:Q05)(m:List Int)(i:Q0m):Tree (Q05×(List Int)):=
.cn (bT 0 1&&decide (0<=i.B/\i.B<(↑16:Int))) (.lv (Qfj i.Op) λ(x0:Int)=>let E1:=wrap u32 (aK (A16.l c.X) i.B.toNat 0+wrap u32 i.Imm); .an (Q95 c m E1 x0 2) (.lv (Q2a c m E1 x0 2) λ(x1:Int×List Int×Int)=> .br (x1.2.2 !=0) (.lv (Q4s c x1.2.2 E1) λ(x2:Q05)=> .lf (x2,x1.2.1)) (.lv (Qfj i.Op) λ(x3:Int)=> .an (Q3f x1.2.1 x1.1 x3) (.lv (Q4z x1.2.1 x1.1 x3) λ(x4:Int×Bool)=> .br (i.Op==33) (.an (Qco x4.1 8) (.lv (Q2j x4.1 8) λ(x5:Int)=> .an (Q89 c i.A x5) (.lv (Qb3 c i.A x5) λ(x6:Q05)=> .lf ({X:=x6.X,Pc:=wrap u32 (x6.Pc+4),B5:=x6.B5},x1.2.1)))) (.an (Q89 c i.A x4.1) (.lv (Qb3 c i.A x4.1) λ(x7:Q05)=> .lf ({X:=x7.X,Pc:=wrap u32 (x7.Pc+4),B5:=x7.B5},x1.2.1)))))))
def Q6z c m i:=(Qex c m i).m
abbrev Qxm c m i:=(Qex c m i).p
def Zm4:Q0e:=mT 183 [] true [.agg Q05.sig, .one (.ints .u32), .agg Q0m.sig] [] (λa r=>Qex (Q05.of (aC a 0)) (argL .u32 a 1) (Q0m.of (aC a 2))) (λX=> .tup [.agg (Q05.cells (X.1)), .all 0]) (λX=>[⟨false,25,1, .ints .u32 (X.2)⟩])
theorem Zhf:Q06 pG Zm4:=oT (.cons Qkm (.cons Qxz (.cons Qiu (.cons Qbn (.cons Qjr (.cons Z6z (.nil))))))) Tryz.func183 Tryz.call183 [.row 25 1 (.ints .u32)] [] 2
def Qc8(c:Q05)(m:List Int)(i:Q0m):Tree (Q05×(List Int)):=
.cn (bT 0 1&&decide (0<=i.B/\i.B<(↑16:Int))) (.lv (Qfj i.Op) λ(x0:Int)=>let E1:=wrap u32 (aK (A16.l c.X) i.B.toNat 0+wrap u32 i.Imm); .an (Q95 c m E1 x0 3) (.lv (Q2a c m E1 x0 3) λ(x1:Int×List Int×Int)=> .br (x1.2.2 !=0) (.lv (Q4s c x1.2.2 E1) λ(x2:Q05)=> .lf (x2,x1.2.1)) (.lv (Qfj i.Op) λ(x3:Int)=> .cn (bT 0 1&&decide (0<=i.A/\i.A<(↑16:Int))) (let E2:=aK (A16.l c.X) i.A.toNat 0; .an (Qbz x1.2.1 x1.1 x3 E2) (.lv (Q9i x1.2.1 x1.1 x3 E2) λ(x4:List Int×Bool)=> .lf ({X:=c.X,Pc:=wrap u32 (c.Pc+4),B5:=c.B5},x4.1))))))
def Q8j c m i:=(Qc8 c m i).m
abbrev Qsm c m i:=(Qc8 c m i).p
def Zj5:Q0e:=mT 184 [] true [.agg Q05.sig, .one (.ints .u32), .agg Q0m.sig] [] (λa r=>Qc8 (Q05.of (aC a 0)) (argL .u32 a 1) (Q0m.of (aC a 2))) (λX=> .tup [.agg (Q05.cells (X.1)), .all 0]) (λX=>[⟨false,25,1, .ints .u32 (X.2)⟩])
theorem Zc8:Q06 pG Zj5:=oT (.cons Qkm (.cons Qxz (.cons Qiu (.cons Qoo (.nil))))) Tryz.func184 Tryz.call184 [.row 25 1 (.ints .u32)] [] 2
def Z0w(op a b:Int):Tree Bool:=
.br (op==40) (.lf (a==b)) (.br (op==41) (.lf (a !=b)) (.br (op==42) (.lf (decide (wrap i32 a<wrap i32 b))) (.br (op==43) (.lf (decide (wrap i32 a>=wrap i32 b))) (.br (op==44) (.lf (decide (a<b))) (.lf (decide (a>=b)))))))
def Zf0 op a b:=(Z0w op a b).m
def Zip:Q0e:=mS 240 [] true [.one (.int .i64), .one (.int .u32), .one (.int .u32)] [] (λa r=>Z0w (argI a 0) (argI a 1) (argI a 2)) (λX=> .bool X) (λX=>[])
theorem Zci:Q06 pG Zip:=oS (.nil) Tryz.func240 Tryz.call240 [] [] 2
def Qfq(c:Q05):Tree Q05:=
.lv (Q92 c.B5.a0 8 1) λ(x0:Int)=> .lv (Q92 x0 16 2) λ(x1:Int)=> .lf ({X:=c.X,Pc:=c.B5.a2,B5:={a0:=x1,a1:=c.B5.a1,a2:=c.B5.a2,a3:=c.B5.a3,a4:=c.B5.a4,a5:=c.B5.a5,a6:=c.B5.a6,a7:=c.B5.a7}})
def Qes c:=(Qfq c).m
def Zcu:Q0e:=mS 241 [] true [.agg Q05.sig] [] (λa r=>Qfq (Q05.of (aC a 0))) (λX=> .agg (Q05.cells X)) (λX=>[])
theorem Zbc:Q06 pG Zcu:=oS (.cons Z2q (.nil)) Tryz.func241 Tryz.call241 [] [] 2
def Qcf(c:Q05)(csr v:Int):Tree Q05:=
let E4:=bT 0 1&&decide (0<=csr/\csr<(↑8:Int));let T2:Tree (Q05):= .cn E4 (.lf ({X:=c.X,Pc:=c.Pc,B5:=A8.of 0 (dC (A8.l c.B5) csr.toNat (iand u32 v 31))})); .br (csr==0) T2 (.br (csr==7) T2 (.br (csr==6) (.cn E4 (.lf ({X:=c.X,Pc:=c.Pc,B5:=A8.of 0 (dC (A8.l c.B5) csr.toNat (iand u32 v 255))}))) (let T3:Tree (Q05):= .cn E4 (.lf ({X:=c.X,Pc:=c.Pc,B5:=A8.of 0 (dC (A8.l c.B5) csr.toNat (Qhc u32 v 3))})); .br (csr==1) T3 (.br (csr==2) T3 (let T1:Tree (Q05):= .cn E4 (.lf ({X:=c.X,Pc:=c.Pc,B5:=A8.of 0 (dC (A8.l c.B5) csr.toNat v)})); .br (csr==3) T1 (.br (csr==4) T1 (.br (csr==5) T1 (.lf c))))))))
def Zfz c csr v:=(Qcf c csr v).m
abbrev Qsx c csr v:=(Qcf c csr v).p
def Zia:Q0e:=mT 242 [] true [.agg Q05.sig, .one (.int .i64), .one (.int .u32)] [] (λa r=>Qcf (Q05.of (aC a 0)) (argI a 1) (argI a 2)) (λX=> .agg (Q05.cells X)) (λX=>[])
theorem Zd5:Q06 pG Zia:=oT (.nil) Tryz.func242 Tryz.call242 [] [] 2
def Q56(c:Q05)(i:Q0m):Tree (Q05×Q18):=
.cn (bT 0 1&&decide (0<=i.A/\i.A<(↑16:Int))) (.cn (bT 0 1&&decide (0<=i.B/\i.B<(↑16:Int))) (.br (i.Op==24) (.an (Q89 c i.A (ishl u32 (wrap u32 i.Imm) 16)) (.lv (Qb3 c i.A (ishl u32 (wrap u32 i.Imm) 16)) λ(x0:Q05)=> .lf ({X:=x0.X,Pc:=wrap u32 (c.Pc+4),B5:=x0.B5},{B6:=0,D1:=0,D9:=0,Value:=0}))) (let E2:=({X:=c.X,Pc:=wrap u32 (c.Pc+4),B5:=c.B5}:Q05);let E3:=aK (A16.l c.X) i.B.toNat 0;let E4:=aK (A16.l c.X) i.A.toNat 0;let T1:Tree ((Q05×Q18)):= .lv (Zf0 i.Op E4 E3) λ(x1:Bool)=> .br x1 (.lf ({X:=c.X,Pc:=wrap u32 (c.Pc+wrap u32 (4*wrap u32 i.Imm)),B5:=c.B5},{B6:=0,D1:=0,D9:=0,Value:=0})) (.lf (E2,{B6:=0,D1:=0,D9:=0,Value:=0})); .br (i.Op==40) T1 (.br (i.Op==41) T1 (.br (i.Op==42) T1 (.br (i.Op==43) T1 (.br (i.Op==44) T1 (.br (i.Op==45) T1 (.br (i.Op==48) (.an (Q89 c i.A (wrap u32 (c.Pc+4))) (.lv (Qb3 c i.A (wrap u32 (c.Pc+4))) λ(x7:Q05)=> .lf ({X:=x7.X,Pc:=wrap u32 (x7.Pc+wrap u32 (4*wrap u32 i.Imm)),B5:=x7.B5},{B6:=0,D1:=0,D9:=0,Value:=0}))) (.br (i.Op==49) (.an (Q89 c i.A (wrap u32 (c.Pc+4))) (.lv (Qb3 c i.A (wrap u32 (c.Pc+4))) λ(x8:Q05)=> .lf ({X:=x8.X,Pc:=wrap u32 (aK (A16.l c.X) i.B.toNat 0+wrap u32 i.Imm),B5:=x8.B5},{B6:=0,D1:=0,D9:=0,Value:=0}))) (.br (i.Op==56) (.lv (Q4s c 7 0) λ(x9:Q05)=> .lf (x9,{B6:=0,D1:=0,D9:=0,Value:=0})) (.br (i.Op==57) (.lv (Qes c) λ(x10:Q05)=> .lf (x10,{B6:=0,D1:=0,D9:=0,Value:=0})) (.br (i.Op==58) (.cn (bT 0 1&&decide (0<=i.Imm/\i.Imm<(↑8:Int))) (let E5:=aK (A8.l c.B5) i.Imm.toNat 0; .an (Q89 c i.A E5) (.lv (Qb3 c i.A E5) λ(x11:Q05)=> .lf ({X:=x11.X,Pc:=wrap u32 (c.Pc+4),B5:=x11.B5},{B6:=0,D1:=0,D9:=0,Value:=0})))) (.br (i.Op==59) (.an (Qsx c (wrap i64 i.Imm) E4) (.lv (Zfz c (wrap i64 i.Imm) E4) λ(x12:Q05)=> .lf ({X:=x12.X,Pc:=wrap u32 (c.Pc+4),B5:=x12.B5},{B6:=0,D1:=0,D9:=0,Value:=0}))) (.br (i.Op==60) (.lf (E2,{B6:=1,D1:=wrap i64 i.Imm,D9:=i.A,Value:=0})) (.br (i.Op==61) (.lf (E2,{B6:=2,D1:=wrap i64 i.Imm,D9:=0,Value:=aK (A16.l c.X) i.A.toNat 0})) (.br (i.Op==62) (.lf (E2,{B6:=3,D1:=0,D9:=0,Value:=0})) (.br (i.Op==63) (.lf (E2,{B6:=5,D1:=0,D9:=0,Value:=0})) (.br (i.Op==64) (.lf (E2,{B6:=4,D1:=0,D9:=0,Value:=0})) (.cn (bT 0 1&&decide (0<=i.C/\i.C<(↑16:Int))) (.br (decide (i.Op>=16)) (.an (Qrd i.Op E3 (wrap u32 i.Imm)) (.lv (Q4a i.Op E3 (wrap u32 i.Imm)) λ(x13:Int×Bool)=> .an (Q89 c i.A x13.1) (.lv (Qb3 c i.A x13.1) λ(x14:Q05)=> .lf ({X:=x14.X,Pc:=wrap u32 (c.Pc+4),B5:=x14.B5},{B6:=0,D1:=0,D9:=0,Value:=0})))) (let E6:=aK (A16.l c.X) i.C.toNat 0; .an (Qrd i.Op E3 E6) (.lv (Q4a i.Op E3 E6) λ(x15:Int×Bool)=> .an (Q89 c i.A x15.1) (.lv (Qb3 c i.A x15.1) λ(x16:Q05)=> .lf ({X:=x16.X,Pc:=wrap u32 (c.Pc+4),B5:=x16.B5},{B6:=0,D1:=0,D9:=0,Value:=0})))))))))))))))))))))))))
def Qly c i:=(Q56 c i).m
abbrev Qp7 c i:=(Q56 c i).p
def Z9f:Q0e:=mT 185 [] true [.agg Q05.sig, .agg Q0m.sig] [] (λa r=>Q56 (Q05.of (aC a 0)) (Q0m.of (aC a 1))) (λX=> .tup [.agg (Q05.cells (X.1)), .agg (Q18.cells (X.2))]) (λX=>[])
theorem Z65:Q06 pG Z9f:=oT (.cons Z6z (.cons Zci (.cons Qiu (.cons Zbc (.cons Zd5 (.cons Zno (.nil))))))) Tryz.func185 Tryz.call185 [] [] 2
def Q7w(c:Q05)(m:List Int):Tree (Q05×(List Int)×Q18):=
.an (Qms c m) (.lv (Qnj c m) λ(x0:Int×List Int×Int)=> .br (x0.2.2 !=0) (.lv (Q4s c x0.2.2 c.Pc) λ(x1:Q05)=> .lf (x1,x0.2.1,{B6:=0,D1:=0,D9:=0,Value:=0})) (.an (Qki x0.1) (.lv (Qhi x0.1) λ(x2:Q0m×Bool)=> .br (!x2.2) (.lv (Q4s c 1 x0.1) λ(x3:Q05)=> .lf (x3,x0.2.1,{B6:=0,D1:=0,D9:=0,Value:=0})) (.lv (Q8p x2.1.Op) λ(x4:Bool)=>let T1:Tree ((Q05×(List Int)×Q18)):=let T2:Tree ((Q05×(List Int)×Q18)):= .an (Qxm c x0.2.1 x2.1) (.lv (Q6z c x0.2.1 x2.1) λ(x7:Q05×List Int)=> .lf (x7.1,x7.2,{B6:=0,D1:=0,D9:=0,Value:=0})); .br (x2.1.Op==32) T2 (.br (x2.1.Op==33) T2 (.br (x2.1.Op==34) T2 (let T3:Tree ((Q05×(List Int)×Q18)):= .an (Qsm c x0.2.1 x2.1) (.lv (Q8j c x0.2.1 x2.1) λ(x10:Q05×List Int)=> .lf (x10.1,x10.2,{B6:=0,D1:=0,D9:=0,Value:=0})); .br (x2.1.Op==35) T3 (.br (x2.1.Op==36) T3 (.an (Qp7 c x2.1) (.lv (Qly c x2.1) λ(x12:Q05×Q18)=> .lf (x12.1,x0.2.1,x12.2))))))); .br x4 (.lv (Qa6 c) λ(x5:Bool)=> .br (!x5) (.lv (Q4s c 2 x0.1) λ(x6:Q05)=> .lf (x6,x0.2.1,{B6:=0,D1:=0,D9:=0,Value:=0})) T1) T1))))
def Q57 c m:=(Q7w c m).m
abbrev Qk7 c m:=(Q7w c m).p
def Zm7:Q0e:=mT 114 [] true [.agg Q05.sig, .one (.ints .u32)] [] (λa r=>Q7w (Q05.of (aC a 0)) (argL .u32 a 1)) (λX=> .tup [.agg (Q05.cells (X.1)), .all 0, .agg (Q18.cells (X.2.2))]) (λX=>[⟨false,25,1, .ints .u32 (X.2.1)⟩])
theorem Z2:Q06 pG Zm7:=oT (.cons Zcn (.cons Qiu (.cons Zbi (.cons Qvd (.cons Quu (.cons Zhf (.cons Zc8 (.cons Z65 (.nil))))))))) Tryz.func114 Tryz.call114 [.row 25 1 (.ints .u32)] [] 2
end
noncomputable section
def tblYc0:List UInt8:=[(0:UInt8),1,2,2,3,3,3,3,4,4,4,4,4,4,4,4,5,5,5,5,5,5,5,5,5,5,5,5,5,5,5,5,6,6,6,6,6,6,6,6,6,6,6,6,6,6,6,6,6,6,6,6,6,6,6,6,6,6,6,6,6,6,6,6]
def Zel:List UInt8:=[(7:UInt8),7,7,7,7,7,7,7,7,7,7,7,7,7,7,7,7,7,7,7,7,7,7,7,7,7,7,7,7,7,7,7,7,7,7,7,7,7,7,7,7,7,7,7,7,7,7,7,7,7,7,7,7,7,7,7,7,7,7,7,7,7,7,7]
def Qr2:List UInt8:=[(8:UInt8),8,8,8,8,8,8,8,8,8,8,8,8,8,8,8,8,8,8,8,8,8,8,8,8,8,8,8,8,8,8,8,8,8,8,8,8,8,8,8,8,8,8,8,8,8,8,8,8,8,8,8,8,8,8,8,8,8,8,8,8,8,8,8]
def Zkx:List UInt8:=[(1:UInt8),2,2,3,3,3,3,4,4,4,4,4,4,4,4,5,5,5,5,5,5,5,5,5,5,5,5,5,5,5,5,6,6,6,6,6,6,6,6,6,6,6,6,6,6,6,6,6,6,6,6,6,6,6,6,6,6,6,6,6,6,6,6]
def tblYc4:List UInt8:=[(0:UInt8),1,1,2,1,2,2,3,1,2,2,3,2,3,3,4,1,2,2,3,2,3,3,4,2,3,3,4,3,4,4,5,1,2,2,3,2,3,3,4,2,3,3,4,3,4,4,5,2,3,3,4,3,4,4,5,3,4,4,5,4,5,5,6]
def Qr9:List UInt8:=[(1:UInt8),2,2,3,2,3,3,4,2,3,3,4,3,4,4,5,2,3,3,4,3,4,4,5,3,4,4,5,4,5,5,6,2,3,3,4,3,4,4,5,3,4,4,5,4,5,5,6,3,4,4,5,4,5,5,6,4,5,5,6,5,6,6,7]
def Zcg:List UInt8:=[(2:UInt8),3,3,4,3,4,4,5,3,4,4,5,4,5,5,6,3,4,4,5,4,5,5,6,4,5,5,6,5,6,6,7,3,4,4,5,4,5,5,6,4,5,5,6,5,6,6,7,4,5,5,6,5,6,6,7,5,6,6,7,6,7,7,8]
def Zke:List UInt8:=[(1:UInt8),1,2,1,2,2,3,1,2,2,3,2,3,3,4,1,2,2,3,2,3,3,4,2,3,3,4,3,4,4,5,1,2,2,3,2,3,3,4,2,3,3,4,3,4,4,5,2,3,3,4,3,4,4,5,3,4,4,5,4,5,5,6]
def Qul(c:Q0d):Tree Bool:=
.lf (decide ((c.D3.length:Int)<=(16:Int)))
def Q2l c:=(Qul c).m
def Z9w:Q0e:=mS 171 [] true [.agg Q0d.sig] [] (λa r=>Qul (Q0d.of (aC a 0))) (λX=> .bool X) (λX=>[])
theorem Z54:Q06 pG Z9w:=oS (.nil) Tryz.func171 Tryz.call171 [] [] 2
def Qm2(t:Q0i):Tree Bool:=
.br t.D2 (.br (!t.D5) (.lf (t.C8 !=0)) (.lf false)) (.br t.D5 (.lf true) (.lf (t.C8==0)))
def Q4h t:=(Qm2 t).m
def Zi3:Q0e:=mS 172 [] true [.agg Q0i.sig] [] (λa r=>Qm2 (Q0i.of (aC a 0))) (λX=> .bool X) (λX=>[])
theorem Zg:Q06 pG Zi3:=oS (.nil) Tryz.func172 Tryz.call172 [] [] 2
def Q7v(d0:Q0f):Tree Bool:=
.br (d0.D8==1) (.lf (decide (d0.C4=[]))) (.br (d0.D8==2) (.lf ((d0.C4.length:Int)==(128:Int))) (.lf false))
def Qa0 d0:=(Q7v d0).m
def Qvw:Q0e:=mS 227 [] true [.agg Q0f.sig] [] (λa r=>Q7v (Q0f.of (aC a 0))) (λX=> .bool X) (λX=>[])
theorem Qsn:Q06 pG Qvw:=oS (.nil) Tryz.func227 Tryz.call227 [] [] 2
def Q6b(d0:Q0f)(pages:Int):Tree Bool:=
.br (decide (d0.Blocks>64)) (.lf false) (let T1:Tree (Bool):= .br (d0.D8==0) (.br (d0.B7==0) (.br (d0.B3==0) (.lf (decide (d0.C4=[]))) (.lf false)) (.lf false)) (.lf false); .br (d0.C0==0) T1 (.br (d0.C0==2) T1 (.br (d0.C0==3) T1 (.br (d0.C0==1) (.lv (Qa0 d0) λ(x0:Bool)=> .br x0 (.br (decide (d0.B7<d0.Blocks)) (.lf (decide (wrap i64 d0.B3<pages))) (.lf false)) (.lf false)) (.lf false)))))
def Q1l d0 pages:=(Q6b d0 pages).m
def Znn:Q0e:=mS 173 [] true [.agg Q0f.sig, .one (.int .i64)] [] (λa r=>Q6b (Q0f.of (aC a 0)) (argI a 1)) (λX=> .bool X) (λX=>[])
theorem Zht:Q06 pG Znn:=oS (.cons Qsn (.nil)) Tryz.func173 Tryz.call173 [] [] 2
def Ql8(n:Q0q)(pages:Int):Tree Bool:=
let T1:Tree (Bool):=let T2:Tree (Bool):= .br n.B8 (.br (decide (n.F1>=1)) (.lf (decide (n.F1<=128))) (.lf false)) (.lf (n.F1==0)); .br n.C7 (.br (decide (wrap i64 n.B9>=pages)) (.lf false) T2) (.br (n.B9 !=0) (.lf false) T2); .br n.C7 (.br n.B8 (.lf false) T1) T1
def Q69 n pages:=(Ql8 n pages).m
def yA:Q0e:=mS 174 [] true [.agg Q0q.sig, .one (.int .i64)] [] (λa r=>Ql8 (Q0q.of (aC a 0)) (argI a 1)) (λX=> .bool X) (λX=>[])
theorem Zny:Q06 pG yA:=oS (.nil) Tryz.func174 Tryz.call174 [] [] 2
def Q1y(x:Int):Tree Int:=
let E1:=(↑(dG (cM (cM tblYc0 Zel) (cM Qr2 Qr2))):Int); .br (decide (x>=65536)) (.br (decide (ishr u32 x (16:Int)>=(256:Int))) (.cn (decide (0<=wrap u8 (ishr u32 (ishr u32 x 16) 8)/\wrap u8 (ishr u32 (ishr u32 x 16) 8)<E1)) (.lf (wrap i64 (wrap i64 ((16:Int)+(8:Int))+wrap i64 (↑(eS (aK ((0:UInt8)::(Zkx++Zel++(Qr2++Qr2))) (dB (wrap u8 (ishr u32 (ishr u32 x 16) 8))) (0:UInt8))):Int))))) (.cn (decide (0<=wrap u8 (ishr u32 x 16)/\wrap u8 (ishr u32 x 16)<E1)) (.lf (wrap i64 (16+wrap i64 (↑(eS (aK ((0:UInt8)::(Zkx++Zel++(Qr2++Qr2))) (dB (wrap u8 (ishr u32 x 16))) (0:UInt8))):Int)))))) (.br (decide (x>=256)) (.cn (decide (0<=wrap u8 (ishr u32 x 8)/\wrap u8 (ishr u32 x 8)<E1)) (.lf (wrap i64 (wrap i64 ((0:Int)+(8:Int))+wrap i64 (↑(eS (aK ((0:UInt8)::(Zkx++Zel++(Qr2++Qr2))) (dB (wrap u8 (ishr u32 x 8))) (0:UInt8))):Int))))) (.cn (decide (0<=wrap u8 x/\wrap u8 x<E1)) (.lf (wrap i64 (0+wrap i64 (↑(eS (aK ((0:UInt8)::(Zkx++Zel++(Qr2++Qr2))) (dB (wrap u8 x)) (0:UInt8))):Int))))))
def Q1p x:=(Q1y x).m
abbrev Qcc x:=(Q1y x).p
def Qws:Q0e:=mT 228 [] true [.one (.int .u32)] [] (λa r=>Q1y (argI a 0)) (λX=> .int .i64 X) (λX=>[])
theorem Qu0:Q06 pG Qws:=oT (.nil) Tryz.func228 Tryz.call228 [] [] 2
def Q46(b:Q09)(pages:Int):Tree Bool:=
.an (Qcc b.C3) (.lv (Q1p b.C3) λ(x0:Int)=> .lf (decide (x0<=if 0>pages then 0 else pages)))
def Q2w b pages:=(Q46 b pages).m
abbrev Qdi b pages:=(Q46 b pages).p
def Z91:Q0e:=mT 175 [] true [.agg Q09.sig, .one (.int .i64)] [] (λa r=>Q46 (Q09.of (aC a 0)) (argI a 1)) (λX=> .bool X) (λX=>[])
theorem Z4n:Q06 pG Z91:=oT (.cons Qu0 (.nil)) Tryz.func175 Tryz.call175 [] [] 2
def Q1w(m:Q00):Tree Bool:=
.lv (Q1 m.Mem) λ(x0:Int)=> .lv (Q2l m.A4) λ(x1:Bool)=> .br x1 (.lv (Q4h m.B0) λ(x2:Bool)=> .br x2 (.lv (Q1l m.B2 x0) λ(x3:Bool)=> .br x3 (.lv (Q69 m.C6 x0) λ(x4:Bool)=> .br x4 (.an (Qdi m.A2 x0) (.lv (Q2w m.A2 x0) λ(x5:Bool)=> .lf x5)) (.lf false)) (.lf false)) (.lf false)) (.lf false)
def Q10 m:=(Q1w m).m
abbrev Q2x m:=(Q1w m).p
def Qqh:Q0e:=mT 92 [] true [.agg Q00.sig] [] (λa r=>Q1w (Q00.of (aC a 0))) (λX=> .bool X) (λX=>[])
theorem Qp3:Q06 pG Qqh:=oT (.cons Q4b (.cons Z54 (.cons Zg (.cons Zht (.cons Zny (.cons Z4n (.nil))))))) Tryz.func92 Tryz.call92 [] [] 2
def Q58(m:Q00):Tree Bool:=
.lv (Q1 m.Mem) λ(x0:Int)=> .br (x0==0) (.lf false) (.br (m.B1.X.a0 !=0) (.lf false) (.br (decide (m.B1.B5.a0>31)) (.lf false) (.br (decide (m.B1.B5.a7>31)) (.lf false) (.br (decide (m.B1.B5.a6>255)) (.lf false) (.br (dA m.B1.B5.a1 (4:Int) !=(0:Int)) (.lf false) (.br (decide (m.A1>1152921504606846976)) (.lf false) (.br m.A7 (.br m.A9 (.lf false) (.an (Q2x m) (.lv (Q10 m) λ(x1:Bool)=> .lf x1))) (.an (Q2x m) (.lv (Q10 m) λ(x2:Bool)=> .lf x2)))))))))
def Q1a m:=(Q58 m).m
abbrev Q3g m:=(Q58 m).p
def Zaw:Q0e:=mT 24 [] true [.agg Q00.sig] [] (λa r=>Q58 (Q00.of (aC a 0))) (λX=> .bool X) (λX=>[])
theorem Q8o:Q06 pG Zaw:=oT (.cons Q4b (.cons Qp3 (.nil))) Tryz.func24 Tryz.call24 [] [] 2
def Qnz(t:Q0i):Tree Bool:=
.lf t.D5
def Qh0 t:=(Qnz t).m
def Z1n:Q0e:=mS 99 [] true [.agg Q0i.sig] [] (λa r=>Qnz (Q0i.of (aC a 0))) (λX=> .bool X) (λX=>[])
theorem Qzj:Q06 pG Z1n:=oS (.nil) Tryz.func99 Tryz.call99 [] [] 2
def Qlh(c:Q0d):Tree Bool:=
.lf (!decide (c.D3=[]))
def Q9m c:=(Qlh c).m
def Qv4:Q0e:=mS 100 [] true [.agg Q0d.sig] [] (λa r=>Qlh (Q0d.of (aC a 0))) (λX=> .bool X) (λX=>[])
theorem Qum:Q06 pG Qv4:=oS (.nil) Tryz.func100 Tryz.call100 [] [] 2
def Qkf(d0:Q0f):Tree Bool:=
.br (d0.C0==2) (.lf true) (.lf (d0.C0==3))
def Q9p d0:=(Qkf d0).m
def Z4j:Q0e:=mS 101 [] true [.agg Q0f.sig] [] (λa r=>Qkf (Q0f.of (aC a 0))) (λX=> .bool X) (λX=>[])
theorem Qp4:Q06 pG Z4j:=oS (.nil) Tryz.func101 Tryz.call101 [] [] 2
def Quk(n:Q0q):Tree Bool:=
.lf n.B8
def Qm n:=(Quk n).m
def Za0:Q0e:=mS 102 [] true [.agg Q0q.sig] [] (λa r=>Quk (Q0q.of (aC a 0))) (λX=> .bool X) (λX=>[])
theorem Z4m:Q06 pG Za0:=oS (.nil) Tryz.func102 Tryz.call102 [] [] 2
def Q3n(x:Int):Tree Int:=
let E1:=(↑(dG (cM (cM tblYc4 Qr9) (cM Qr9 Zcg))):Int); .cn (decide (0<=ishr u32 x 24/\ishr u32 x 24<E1)) (.cn (decide (0<=iand u32 (ishr u32 x 16) 255/\iand u32 (ishr u32 x 16) 255<E1)) (.cn (decide (0<=iand u32 (ishr u32 x 8) 255/\iand u32 (ishr u32 x 8) 255<E1)) (.cn (decide (0<=iand u32 x 255/\iand u32 x 255<E1)) (.lf (wrap i64 (wrap u8 (wrap u8 (wrap u8 ((↑(eS (aK ((0:UInt8)::(Zke++Qr9++(Qr9++Zcg))) (dB (ishr u32 x 24)) (0:UInt8))):Int)+(↑(eS (aK ((0:UInt8)::(Zke++Qr9++(Qr9++Zcg))) (dB (iand u32 (ishr u32 x 16) 255)) (0:UInt8))):Int))+(↑(eS (aK ((0:UInt8)::(Zke++Qr9++(Qr9++Zcg))) (dB (iand u32 (ishr u32 x 8) 255)) (0:UInt8))):Int))+(↑(eS (aK ((0:UInt8)::(Zke++Qr9++(Qr9++Zcg))) (dB (iand u32 x 255)) (0:UInt8))):Int))))))))
def Q7 x:=(Q3n x).m
abbrev Qbl x:=(Q3n x).p
def Qm8:Q0e:=mT 229 [] true [.one (.int .u32)] [] (λa r=>Q3n (argI a 0)) (λX=> .int .i64 X) (λX=>[])
theorem Ql1:Q06 pG Qm8:=oT (.nil) Tryz.func229 Tryz.call229 [] [] 2
def Q9c(b:Q09):Tree Int:=
.an (Qbl b.C3) (.lv (Q7 b.C3) λ(x0:Int)=> .lf x0)
def Qdf b:=(Q9c b).m
abbrev Qeq b:=(Q9c b).p
def Z1o:Q0e:=mT 176 [] true [.agg Q09.sig] [] (λa r=>Q9c (Q09.of (aC a 0))) (λX=> .int .i64 X) (λX=>[])
theorem Qna:Q06 pG Z1o:=oT (.cons Ql1 (.nil)) Tryz.func176 Tryz.call176 [] [] 2
def Q5n(b:Q09):Tree Bool:=
.an (Qeq b) (.lv (Qdf b) λ(x0:Int)=> .lf (wrap u32 x0 !=b.D0))
def Q7t b:=(Q5n b).m
abbrev Qj3 b:=(Q5n b).p
def Qux:Q0e:=mT 103 [] true [.agg Q09.sig] [] (λa r=>Q5n (Q09.of (aC a 0))) (λX=> .bool X) (λX=>[])
theorem Quh:Q06 pG Qux:=oT (.cons Qna (.nil)) Tryz.func103 Tryz.call103 [] [] 2
def Qi6(m:Q00)(z:(Int)×(Int)):Nat:=(5-z.2).toNat
def Q7p(m:Q00):Tree Int:=
.lv (Qh0 m.B0) λ(x0:Bool)=> .lv (Q9m m.A4) λ(x1:Bool)=> .lv (Q9p m.B2) λ(x2:Bool)=> .lv (Qm m.C6) λ(x3:Bool)=> .an (Qj3 m.A2) (.lv (Q7t m.A2) λ(x4:Bool)=> .lp inferInstance (Qi6 m (0,0)+1) ((rE (0:Int)/\(rE (x0:Bool)/\rE (x1:Bool)/\rE (x2:Bool)/\rE (x3:Bool)/\rE (x4:Bool)/\True)/\rE (0:Int)/\True)/\True) (0,0) λ(v0:Int×Int)=> .br (decide (v0.2<5)) (.cn (bS 1 1&&(bS 5 5&&decide (0<=v0.2/\v0.2<(↑5:Int)))) (.br (aK [x0,x1,x2,x3,x4] v0.2.toNat false) (.cn (decide (0<=v0.2)) (.nx ((rE ((ior u32 v0.1 (ishl u32 1 v0.2)):Int)/\(rE (x0:Bool)/\rE (x1:Bool)/\rE (x2:Bool)/\rE (x3:Bool)/\rE (x4:Bool)/\True)/\rE ((wrap i64 (v0.2+1)):Int)/\True)/\True) (Sum.inl (ior u32 v0.1 (ishl u32 1 v0.2),wrap i64 (v0.2+1))))) (.nx ((rE v0.1/\(rE (x0:Bool)/\rE (x1:Bool)/\rE (x2:Bool)/\rE (x3:Bool)/\rE (x4:Bool)/\True)/\rE ((wrap i64 (v0.2+1)):Int)/\True)/\True) (Sum.inl (v0.1,wrap i64 (v0.2+1)))))) (.lf (Sum.inr v0.1)))
def Qdb m:=(Q7p m).m
abbrev Qkr m:=(Q7p m).p
def Qzt:LInv:={
 α:=(Int)×(Int)
 F:=λst a=>([(4, .int u32 a.1),(23,(lk st 23)),(24, .int i64 a.2)],[])
 a0:=λst=>((lk st 4).toInt,(lk st 24).toInt)
 ex0:=λst=>[]++[]}
def Qtw:List (Nat×LInv):=[(4,Qzt)]
def Z1j:Q0e:=mT 26 [] true [.agg Q00.sig] [] (λa r=>Q7p (Q00.of (aC a 0))) (λX=> .int .u32 X) (λX=>[])
theorem Qz6:Q06 pG Z1j:=oT (.cons Qzj (.cons Qum (.cons Qp4 (.cons Z4m (.cons Quh (.nil)))))) Tryz.func26 Tryz.call26 [] Qtw 3
def Q38(m:Q00):Tree Int:=
.an (Qkr m) (.lv (Qdb m) λ(x0:Int)=> .lf (iand u32 x0 m.B1.B5.a7))
def Q5x m:=(Q38 m).m
abbrev Qcn m:=(Q38 m).p
def Qwn:Q0e:=mT 110 [] true [.agg Q00.sig] [] (λa r=>Q38 (Q00.of (aC a 0))) (λX=> .int .u32 X) (λX=>[])
theorem Qk:Q06 pG Qwn:=oT (.cons Qz6 (.nil)) Tryz.func110 Tryz.call110 [] [] 2
def Q3d(m:Q00):Tree Bool:=
.br m.A7 (.an (Qcn m) (.lv (Q5x m) λ(x0:Int)=> .lf (x0==0))) (.lf false)
def Q37 m:=(Q3d m).m
abbrev Q3q m:=(Q3d m).p
def Z5c:Q0e:=mT 28 [] true [.agg Q00.sig] [] (λa r=>Q3d (Q00.of (aC a 0))) (λX=> .bool X) (λX=>[])
theorem Qdy:Q06 pG Z5c:=oT (.cons Qk (.nil)) Tryz.func28 Tryz.call28 [] [] 2

import Derived.Test.YtmalmklaonainaaGreatMachineEncodesBase
open Int renaming tmod->dF, tdiv->eX, toNat->dG
open Nat renaming beq->bS, blt->bT
open List renaming set->dH, getD->aK, length->dL, append->cS
open UInt8 renaming toNat->eZ
set_option maxRecDepth 100000
set_option linter.all false
namespace Go.Proofs.YtmalmklaonainaaGreat
open Go Go.GD Go.IntKind
noncomputable section
def Q03(s:List Int):(List Int):=
s
def Q06(s:List Int):Prop:=
s.length<=35184372088832
def Q38(s:List Int):List D:=[.sl 1 (.ints .u32 s) false]
def Q28(s:List Int):List Row:=[]
def Q1g(X:List Int):D:= .all 0
def Q1h(X:List Int):List Row:=[⟨false,25,1, .ints .u32 X⟩]
def Qd0:List Dir:=[.row 25 1 (.ints .u32)]
def Q6s:List PT:=[.one (.ints .u32)]
def Q6o:List RT:=[]
def Qec(args:List D)(rows:List Row):(List Int):=Q03 (argL .u32 args 0)
def Qes(args:List D)(rows:List Row):Prop:=Q06 (argL .u32 args 0)
def Qg0:Q0b:=mkP 129 [] true Q6s Q6o Qes Qec Q1g Q1h
def Q4c(s:List Int)(Leaf:(List Int)->Prop):Prop:=
(s=[]->Leaf [])/\cand (decide ((4:Nat)*((0:Nat)+s.length)<=(140737488355328:Nat))) (Leaf s)
set_option maxRecDepth 100000 in
theorem Qf6(s:List Int)(Q:D->List Row->Prop):(fnVC tab [] (LL tab [] Tryz.f129.ntmps 0 [] 2) Tryz.f129 (Q38 s) (Q28 s) λd R=>Qar (Q28 s).length Qd0 d R Q)=Q4c s (λX=>Q (Q1g X) (Q1h X)):=by kernel_rfl
theorem Qdf(s:List Int)(Leaf:(List Int)->Prop)(hw:Q06 s)(h:Leaf (Q03 s)):
Q4c s Leaf:=by
 delta Q4c
 refine⟨λe=>by rw[e]at h;exact h,?_⟩
 rw[Q05]
 refine⟨dY ?_,h⟩
 have:s.length<=35184372088832:=hw
 omega
set_option maxRecDepth 100000 in
theorem Qcu(s:List Int)(hw:Q06 s):Q41 pG 129 (Q38 s) (Q28 s) (Q1g (Q03 s)) (Q1h (Q03 s)):=
 have hG:Q6r pG []:= .nil
 FnOK.calls drawn Q0g hG Tryz.func129 (rf:=none) (λ_ _=>trivial) (LL_ok drawn Q0g hG (.inl rfl) 2 (invs:=[])) (FnOK.of (Qf6 s _) (Qdf s (λX=>Q1g X=Q1g (Q03 s)/\Q1h X=Q1h (Q03 s)) hw ⟨rfl,rfl⟩))
set_option maxRecDepth 100000 in
theorem Qd9(args:List D)(rows:List Row):Qeh Q6s args 0=Q38 (argL .u32 args 0):=by kernel_rfl
set_option maxRecDepth 100000 in
theorem Qct(args:List D)(rows:List Row):Q58 Q6o rows 0=Q28 (argL .u32 args 0):=by kernel_rfl
set_option maxRecDepth 100000 in
theorem Qf8(X:List Int):(ffB (Q1g X)&&ffBR (Q1h X))=true:=by kernel_rfl
theorem Q1j:Q04 pG Qg0:=Zdb Tryz.call129 (λargs rows hp=>by rw[Qd9 args rows,Qct args rows];exact Qcu (argL .u32 args 0) hp) (λ_ X=>Qf8 X)
def Q7v(m:List Int):Tree Int:=
.br (dF (m.length:Int) (32:Int) !=(0:Int)) (.lf 0) (.br (decide ((m.length:Int)>(1024:Int))) (.lf 0) (.lf (wrap i64 (eX (m.length:Int) 32))))
def Q0o m:=(Q7v m).m
def Z4m:Q0b:=mS 43 [] true [.one (.ints .u32)] [] (λa r=>Q7v (argL .u32 a 0)) (λX=> .int .i64 X) (λX=>[])
theorem Q3o:Q04 pG Z4m:=oS (.nil) Tryz.func43 Tryz.call43 [] [] 2
def Q2s(m:List Int)(addr size:Int):Tree Bool:=
let T1:Tree (Bool):= .cn (decide (wrap u32 size≠0)) (.br (dF addr (wrap u32 size) !=0) (.lf false) (.lv (Q0o m) λ(x0:Int)=> .lf (decide (wrap u64 (wrap u64 addr+wrap u64 size)<=wrap u64 (wrap u64 x0*128))))); .br (size !=1) (.br (size !=4) (.lf false) T1) T1
def Qfp m addr size:=(Q2s m addr size).m
abbrev Q98 m addr size:=(Q2s m addr size).p
def Z2p:Q0b:=mT 275 [] true [.one (.ints .u32), .one (.int .u32), .one (.int .i64)] [] (λa r=>Q2s (argL .u32 a 0) (argI a 1) (argI a 2)) (λX=> .bool X) (λX=>[])
theorem Qm3:Q04 pG Z2p:=oT (.cons Q3o (.nil)) Tryz.func275 Tryz.call275 [] [] 2
def Qap(n:Int):Tree Int:=
.br (decide (n>=32)) (.lf 4294967295) (.cn (decide (0<=wrap u64 n)) (.lf (wrap u32 (ishl u32 1 (wrap u64 n)-1))))
def Z0g n:=(Qap n).m
abbrev Qfq n:=(Qap n).p
def Zgc:Q0b:=mT 276 [] true [.one (.int .i64)] [] (λa r=>Qap (argI a 0)) (λX=> .int .u32 X) (λX=>[])
theorem Qw1:Q04 pG Zgc:=oT (.nil) Tryz.func276 Tryz.call276 [] [] 2
def Q8g(w low n:Int):Tree Int:=
.br (decide (low<0)) (.lf 0) (.br (decide (low>31)) (.lf 0) (.br (decide (n<1)) (.lf 0) (.cn (decide (0<=wrap u64 low)) (.an (Qfq n) (.lv (Z0g n) λ(x0:Int)=> .lf (iand u32 (ishr u32 w (wrap u64 low)) x0))))))
def Q2i w low n:=(Q8g w low n).m
abbrev Q4n w low n:=(Q8g w low n).p
def Zcr:Q0b:=mT 233 [] true [.one (.int .u32), .one (.int .i64), .one (.int .i64)] [] (λa r=>Q8g (argI a 0) (argI a 1) (argI a 2)) (λX=> .int .u32 X) (λX=>[])
theorem Qld:Q04 pG Zcr:=oT (.cons Qw1 (.nil)) Tryz.func233 Tryz.call233 [] [] 2
def Q8z(w low n v:Int):Tree Int:=
.br (decide (low<0)) (.lf w) (.br (decide (low>31)) (.lf w) (.br (decide (n<1)) (.lf w) (.an (Qfq n) (.lv (Z0g n) λ(x0:Int)=> .cn (decide (0<=wrap u64 low)) (.cn (decide (0<=wrap u64 low)) (.lf (ior u32 (Qg u32 w (ishl u32 x0 (wrap u64 low))) (ishl u32 (iand u32 v x0) (wrap u64 low)))))))))
def Q6y w low n v:=(Q8z w low n v).m
abbrev Qk3 w low n v:=(Q8z w low n v).p
def Z0j:Q0b:=mT 278 [] true [.one (.int .u32), .one (.int .i64), .one (.int .i64), .one (.int .u32)] [] (λa r=>Q8z (argI a 0) (argI a 1) (argI a 2) (argI a 3)) (λX=> .int .u32 X) (λX=>[])
theorem Qxt:Q04 pG Z0j:=oT (.cons Qw1 (.nil)) Tryz.func278 Tryz.call278 [] [] 2
def Q7u(m:List Int)(addr size v:Int):Tree ((List Int)×Bool):=
.an (Q06 m) (.lv (Q03 m) λ(x0:List Int)=> .an (Q98 m addr size) (.lv (Qfp m addr size) λ(x1:Bool)=> .br (!x1) (.lf (x0,false)) (let E1:=bS 1 1&&bT 0 1&&decide (0<=wrap u32 (eX addr 4)/\wrap u32 (eX addr 4)<(x0.length:Int));let E2:=dG (wrap u32 (eX addr 4)); .br (size==1) (.cn E1 (let E3:=wrap i64 (wrap i64 (dF addr 4)*8); .an (Qk3 (x0.getD E2 0) E3 8 v) (.lv (Q6y (x0.getD E2 0) E3 8 v) λ(x2:Int)=> .cn E1 (.lf (dH x0 E2 x2,true))))) (.cn E1 (.lf (dH x0 E2 v,true))))))
def Q9 m addr size v:=(Q7u m addr size v).m
abbrev Qac m addr size v:=(Q7u m addr size v).p
def Z3l:Q0b:=mT 239 [] true [.one (.ints .u32), .one (.int .u32), .one (.int .i64), .one (.int .u32)] [] (λa r=>Q7u (argL .u32 a 0) (argI a 1) (argI a 2) (argI a 3)) (λX=> .tup [.all 0, .bool (X.2)]) (λX=>[⟨false,25,1, .ints .u32 (X.1)⟩])
theorem Qn8:Q04 pG Z3l:=oT (.cons Q1j (.cons Qm3 (.cons Qxt (.nil)))) Tryz.func239 Tryz.call239 [.row 25 1 (.ints .u32)] [] 2
def Zb5(op:Int):Tree (Q7x×Bool):=
.br (op==1) (.lf ({a:=true,b:=true,c:=true,low:=0,D5:=0},true)) (.br (op==2) (.lf ({a:=true,b:=true,c:=true,low:=0,D5:=0},true)) (.br (op==3) (.lf ({a:=true,b:=true,c:=true,low:=0,D5:=0},true)) (.br (op==4) (.lf ({a:=true,b:=true,c:=true,low:=0,D5:=0},true)) (.br (op==5) (.lf ({a:=true,b:=true,c:=true,low:=0,D5:=0},true)) (.br (op==6) (.lf ({a:=true,b:=true,c:=true,low:=0,D5:=0},true)) (.br (op==7) (.lf ({a:=true,b:=true,c:=true,low:=0,D5:=0},true)) (.br (op==8) (.lf ({a:=true,b:=true,c:=true,low:=0,D5:=0},true)) (.br (op==9) (.lf ({a:=true,b:=true,c:=true,low:=0,D5:=0},true)) (.br (op==10) (.lf ({a:=true,b:=true,c:=true,low:=0,D5:=0},true)) (.br (op==11) (.lf ({a:=true,b:=true,c:=true,low:=0,D5:=0},true)) (.br (op==12) (.lf ({a:=true,b:=true,c:=true,low:=0,D5:=0},true)) (.br (op==13) (.lf ({a:=true,b:=true,c:=true,low:=0,D5:=0},true)) (.br (op==16) (.lf ({a:=true,b:=true,c:=false,low:=(-32768),D5:=32767},true)) (.br (op==23) (.lf ({a:=true,b:=true,c:=false,low:=(-32768),D5:=32767},true)) (.br (op==32) (.lf ({a:=true,b:=true,c:=false,low:=(-32768),D5:=32767},true)) (.br (op==33) (.lf ({a:=true,b:=true,c:=false,low:=(-32768),D5:=32767},true)) (.br (op==34) (.lf ({a:=true,b:=true,c:=false,low:=(-32768),D5:=32767},true)) (.br (op==35) (.lf ({a:=true,b:=true,c:=false,low:=(-32768),D5:=32767},true)) (.br (op==36) (.lf ({a:=true,b:=true,c:=false,low:=(-32768),D5:=32767},true)) (.br (op==40) (.lf ({a:=true,b:=true,c:=false,low:=(-32768),D5:=32767},true)) (.br (op==41) (.lf ({a:=true,b:=true,c:=false,low:=(-32768),D5:=32767},true)) (.br (op==42) (.lf ({a:=true,b:=true,c:=false,low:=(-32768),D5:=32767},true)) (.br (op==43) (.lf ({a:=true,b:=true,c:=false,low:=(-32768),D5:=32767},true)) (.br (op==44) (.lf ({a:=true,b:=true,c:=false,low:=(-32768),D5:=32767},true)) (.br (op==45) (.lf ({a:=true,b:=true,c:=false,low:=(-32768),D5:=32767},true)) (.br (op==49) (.lf ({a:=true,b:=true,c:=false,low:=(-32768),D5:=32767},true)) (.br (op==17) (.lf ({a:=true,b:=true,c:=false,low:=0,D5:=65535},true)) (.br (op==18) (.lf ({a:=true,b:=true,c:=false,low:=0,D5:=65535},true)) (.br (op==19) (.lf ({a:=true,b:=true,c:=false,low:=0,D5:=65535},true)) (.br (op==20) (.lf ({a:=true,b:=true,c:=false,low:=0,D5:=31},true)) (.br (op==21) (.lf ({a:=true,b:=true,c:=false,low:=0,D5:=31},true)) (.br (op==22) (.lf ({a:=true,b:=true,c:=false,low:=0,D5:=31},true)) (.br (op==24) (.lf ({a:=true,b:=false,c:=false,low:=0,D5:=65535},true)) (.br (op==48) (.lf ({a:=true,b:=false,c:=false,low:=(-32768),D5:=32767},true)) (.br (op==58) (.lf ({a:=true,b:=false,c:=false,low:=0,D5:=7},true)) (.br (op==59) (.lf ({a:=true,b:=false,c:=false,low:=0,D5:=7},true)) (.br (op==60) (.lf ({a:=true,b:=false,c:=false,low:=0,D5:=11},true)) (.br (op==61) (.lf ({a:=true,b:=false,c:=false,low:=0,D5:=11},true)) (.br (op==56) (.lf ({a:=false,b:=false,c:=false,low:=0,D5:=0},true)) (.br (op==57) (.lf ({a:=false,b:=false,c:=false,low:=0,D5:=0},true)) (.br (op==62) (.lf ({a:=false,b:=false,c:=false,low:=0,D5:=0},true)) (.br (op==63) (.lf ({a:=false,b:=false,c:=false,low:=0,D5:=0},true)) (.br (op==64) (.lf ({a:=false,b:=false,c:=false,low:=0,D5:=0},true)) (.lf ({a:=false,b:=false,c:=false,low:=0,D5:=0},false)))))))))))))))))))))))))))))))))))))))))))))
def Z1m op:=(Zb5 op).m
def qz:Q0b:=mS 234 [] true [.one (.int .i64)] [] (λa r=>Zb5 (argI a 0)) (λX=> .tup [.agg (Q7x.cells (X.1)), .bool (X.2)]) (λX=>[])
theorem Z7g:Q04 pG qz:=oS (.nil) Tryz.func234 Tryz.call234 [] [] 2
def Q6d(x n:Int):Tree Int:=
.br (decide (n<1)) (.lf 0) (.br (decide (n>=32)) (.lf x) (let E1:=decide (0<=wrap u64 (wrap i64 (32-n))); .cn E1 (.cn E1 (.lf (wrap u32 (ishr i32 (wrap i32 (ishl u32 x (wrap u64 (wrap i64 (32-n))))) (wrap u64 (wrap i64 (32-n)))))))))
def Q26 x n:=(Q6d x n).m
abbrev Qb1 x n:=(Q6d x n).p
def Qu3:Q0b:=mT 235 [] true [.one (.int .u32), .one (.int .i64)] [] (λa r=>Q6d (argI a 0) (argI a 1)) (λX=> .int .u32 X) (λX=>[])
theorem Qix:Q04 pG Qu3:=oT (.nil) Tryz.func235 Tryz.call235 [] [] 2
def Qdp(r:Int)(used:Bool):Tree Bool:=
.br used (.br (decide (r>=0)) (.lf (decide (r<=15))) (.lf false)) (.lf (r==0))
def Q8e r used:=(Qdp r used).m
def Z3r:Q0b:=mS 277 [] true [.one (.int .i64), .one (.bool)] [] (λa r=>Qdp (argI a 0) (argB a 1)) (λX=> .bool X) (λX=>[])
theorem Qzw:Q04 pG Z3r:=oS (.nil) Tryz.func277 Tryz.call277 [] [] 2
def Qge(i:Q0i):Tree Bool:=
.lv (Z1m i.Op) λ(x0:Q7x×Bool)=> .br x0.2 (.lv (Q8e i.A x0.1.a) λ(x1:Bool)=> .br x1 (.lv (Q8e i.B x0.1.b) λ(x2:Bool)=> .br x2 (.lv (Q8e i.C x0.1.c) λ(x3:Bool)=> .br x3 (.br (decide (i.Imm>=x0.1.low)) (.lf (decide (i.Imm<=x0.1.D5))) (.lf false)) (.lf false)) (.lf false)) (.lf false)) (.lf false)
def Qe3 i:=(Qge i).m
def Zgf:Q0b:=mS 236 [] true [.agg Q0i.sig] [] (λa r=>Qge (Q0i.of (aC a 0))) (λX=> .bool X) (λX=>[])
theorem Zb6:Q04 pG Zgf:=oS (.cons Z7g (.cons Qzw (.nil))) Tryz.func236 Tryz.call236 [] [] 2
def Q6u(w:Int):Tree (Q0i×Bool):=
.an (Q4n w 24 8) (.lv (Q2i w 24 8) λ(x0:Int)=> .an (Q4n w 20 4) (.lv (Q2i w 20 4) λ(x1:Int)=> .an (Q4n w 16 4) (.lv (Q2i w 16 4) λ(x2:Int)=> .lv (Z1m (wrap i64 x0)) λ(x3:Q7x×Bool)=>let E1:=({Op:=0,A:=0,B:=0,C:=0,Imm:=0}:Q0i); .br (!x3.2) (.lf (E1,false)) (.an (Q4n w 0 16) (.lv (Q2i w 0 16) λ(x4:Int)=> .br x3.1.c (let E2:=({Op:=wrap i64 x0,A:=wrap i64 x1,B:=wrap i64 x2,C:=wrap i64 x4,Imm:=0}:Q0i); .lv (Qe3 E2) λ(x5:Bool)=> .br (!x5) (.lf (E1,false)) (.lf (E2,true))) (.br (decide (x3.1.low<0)) (.an (Qb1 x4 16) (.lv (Q26 x4 16) λ(x6:Int)=>let E3:=({Op:=wrap i64 x0,A:=wrap i64 x1,B:=wrap i64 x2,C:=0,Imm:=wrap i32 x6}:Q0i); .lv (Qe3 E3) λ(x7:Bool)=> .br (!x7) (.lf (E1,false)) (.lf (E3,true)))) (let E4:=({Op:=wrap i64 x0,A:=wrap i64 x1,B:=wrap i64 x2,C:=0,Imm:=wrap i32 x4}:Q0i); .lv (Qe3 E4) λ(x8:Bool)=> .br (!x8) (.lf (E1,false)) (.lf (E4,true)))))))))
def Qg7 w:=(Q6u w).m
abbrev Qj3 w:=(Q6u w).p
def Zbm:Q0b:=mT 180 [] true [.one (.int .u32)] [] (λa r=>Q6u (argI a 0)) (λX=> .tup [.agg (Q0i.cells (X.1)), .bool (X.2)]) (λX=>[])
theorem Z9u:Q04 pG Zbm:=oT (.cons Qld (.cons Z7g (.cons Qix (.cons Zb6 (.nil))))) Tryz.func180 Tryz.call180 [] [] 2
def Q97(a b:Int):Tree (Int×Int):=
.br (b==0) (.lf (4294967295,a)) (let T1:Tree ((Int×Int)):= .cn (decide (wrap i32 b≠0)) (.cn (decide (wrap i32 b≠0)) (.lf (wrap u32 (wrap i32 (eX (wrap i32 a) (wrap i32 b))),wrap u32 (dF (wrap i32 a) (wrap i32 b))))); .br (a==2147483648) (.br (b==4294967295) (.lf (a,0)) T1) T1)
def Qaq a b:=(Q97 a b).m
abbrev Qi a b:=(Q97 a b).p
def Z8o:Q0b:=mT 279 [] true [.one (.int .u32), .one (.int .u32)] [] (λa r=>Q97 (argI a 0) (argI a 1)) (λX=> .tup [.int .u32 (X.1), .int .u32 (X.2)]) (λX=>[])
theorem Z3u:Q04 pG Z8o:=oT (.nil) Tryz.func279 Tryz.call279 [] [] 2
def Z2(b:Bool):Tree Int:=
.br b (.lf 1) (.lf 0)
def Qmu b:=(Z2 b).m
def Zfk:Q0b:=mS 280 [] true [.one (.bool)] [] (λa r=>Z2 (argB a 0)) (λX=> .int .u32 X) (λX=>[])
theorem Zdm:Q04 pG Zfk:=oS (.nil) Tryz.func280 Tryz.call280 [] [] 2
def Qmy(op a b:Int):Tree (Int×Bool):=
.br (op==2) (.lf (wrap u32 (a+wrap u32 (0-b)),true)) (.br (op==1) (.lf (wrap u32 (a+b),true)) (.br (op==16) (.lf (wrap u32 (a+b),true)) (.br (op==3) (.lf (iand u32 a b,true)) (.br (op==17) (.lf (iand u32 a b,true)) (.br (op==4) (.lf (ior u32 a b,true)) (.br (op==18) (.lf (ior u32 a b,true)) (.br (op==5) (.lf (ixor u32 a b,true)) (.br (op==19) (.lf (ixor u32 a b,true)) (.br (op==6) (.lf (ishl u32 a (iand u32 b 31),true)) (.br (op==20) (.lf (ishl u32 a (iand u32 b 31),true)) (.br (op==7) (.lf (ishr u32 a (iand u32 b 31),true)) (.br (op==21) (.lf (ishr u32 a (iand u32 b 31),true)) (let E1:=(wrap u32 (ishr i32 (wrap i32 a) (iand u32 b 31)),true); .br (op==8) (.lf E1) (.br (op==22) (.lf E1) (.br (op==9) (.lf (wrap u32 (a*b),true)) (.br (op==10) (.an (Qi a b) (.lv (Qaq a b) λ(x0:Int×Int)=> .lf (x0.1,true))) (.br (op==11) (.an (Qi a b) (.lv (Qaq a b) λ(x1:Int×Int)=> .lf (x1.2,true))) (.br (op==12) (.lv (Qmu (decide (wrap i32 a<wrap i32 b))) λ(x2:Int)=> .lf (x2,true)) (.br (op==23) (.lv (Qmu (decide (wrap i32 a<wrap i32 b))) λ(x3:Int)=> .lf (x3,true)) (.br (op==13) (.lv (Qmu (decide (a<b))) λ(x4:Int)=> .lf (x4,true)) (.lf (0,false))))))))))))))))))))))
def Q3v op a b:=(Qmy op a b).m
abbrev Qr4 op a b:=(Qmy op a b).p
def xz:Q0b:=mT 243 [] true [.one (.int .i64), .one (.int .u32), .one (.int .u32)] [] (λa r=>Qmy (argI a 0) (argI a 1) (argI a 2)) (λX=> .tup [.int .u32 (X.1), .bool (X.2)]) (λX=>[])
theorem Zn8:Q04 pG xz:=oT (.cons Z3u (.cons Zdm (.nil))) Tryz.func243 Tryz.call243 [] [] 2
end
noncomputable section
def Qoz(status from0 to:Int):Tree Int:=
.br (iand u32 status from0 !=0) (.lf (ior u32 status to)) (.lf (Qg u32 status to))
def Q83 status from0 to:=(Qoz status from0 to).m
def Zkv:Q0b:=mS 230 [] true [.one (.int .u32), .one (.int .u32), .one (.int .u32)] [] (λa r=>Qoz (argI a 0) (argI a 1) (argI a 2)) (λX=> .int .u32 X) (λX=>[])
theorem Z12:Q04 pG Zkv:=oS (.nil) Tryz.func230 Tryz.call230 [] [] 2
def Qjv(c:Q02)(cause bad:Int):Tree Q02:=
.lv (Q83 c.B4.a0 1 8) λ(x0:Int)=> .lv (Q83 x0 2 16) λ(x1:Int)=> .lf ({X:=c.X,Pc:=c.B4.a1,B4:={a0:=Qg u32 (ior u32 x1 1) 2,a1:=c.B4.a1,a2:=c.Pc,a3:=wrap u32 cause,a4:=bad,a5:=c.B4.a5,a6:=c.B4.a6,a7:=c.B4.a7}})
def Q3z c cause bad:=(Qjv c cause bad).m
def Zlv:Q0b:=mS 178 [] true [.agg Q02.sig, .one (.int .i64), .one (.int .u32)] [] (λa r=>Qjv (Q02.of (aC a 0)) (argI a 1) (argI a 2)) (λX=> .agg (Q02.cells X)) (λX=>[])
theorem Qhz:Q04 pG Zlv:=oS (.cons Z12 (.nil)) Tryz.func178 Tryz.call178 [] [] 2
def Qrm(access:Int):Tree (Int×Bool):=
.br (access==1) (.lf (4,true)) (.br (access==2) (.lf (5,true)) (.br (access==3) (.lf (6,true)) (.lf (5,false))))
def Qqw access:=(Qrm access).m
def Z9g:Q0b:=mS 272 [] true [.one (.int .i64)] [] (λa r=>Qrm (argI a 0)) (λX=> .tup [.int .i64 (X.1), .bool (X.2)]) (λX=>[])
theorem Z52:Q04 pG Z9g:=oS (.nil) Tryz.func272 Tryz.call272 [] [] 2
def Qvu(c:Q02):Tree Bool:=
.lf (iand u32 c.B4.a0 (1:Int) !=(0:Int))
def Qb5 c:=(Qvu c).m
def Ze5:Q0b:=mS 182 [] true [.agg Q02.sig] [] (λa r=>Qvu (Q02.of (aC a 0))) (λX=> .bool X) (λX=>[])
theorem Qs1:Q04 pG Ze5:=oS (.nil) Tryz.func182 Tryz.call182 [] [] 2
def Qlw(access:Int):Tree (Int×Bool):=
.br (access==1) (.lf (4,true)) (.br (access==2) (.lf (5,true)) (.br (access==3) (.lf (6,true)) (.lf (5,false))))
def Qje access:=(Qlw access).m
def Qxq:Q0b:=mS 306 [] true [.one (.int .i64)] [] (λa r=>Qlw (argI a 0)) (λX=> .tup [.int .i64 (X.1), .bool (X.2)]) (λX=>[])
theorem Quw:Q04 pG Qxq:=oS (.nil) Tryz.func306 Tryz.call306 [] [] 2
def Qi9(m:List Int)(frame:Int):Tree Bool:=
.lv (Q0o m) λ(x0:Int)=> .lf (decide (wrap u64 frame<wrap u64 x0))
def Q9f m frame:=(Qi9 m frame).m
def Z1p:Q0b:=mS 307 [] true [.one (.ints .u32), .one (.int .u32)] [] (λa r=>Qi9 (argL .u32 a 0) (argI a 1)) (λX=> .bool X) (λX=>[])
theorem Qy8:Q04 pG Z1p:=oS (.cons Q3o (.nil)) Tryz.func307 Tryz.call307 [] [] 2
def Q5l(m:List Int)(addr size:Int):Tree (Int×Bool):=
.an (Q98 m addr size) (.lv (Qfp m addr size) λ(x0:Bool)=> .br (!x0) (.lf (0,false)) (.cn (bS 1 1&&bT 0 1&&decide (0<=wrap u32 (eX addr 4)/\wrap u32 (eX addr 4)<(m.length:Int))) (let E1:=dG (wrap u32 (eX addr 4)); .br (size==1) (let E2:=wrap i64 (wrap i64 (dF addr 4)*8); .an (Q4n (m.getD E1 0) E2 8) (.lv (Q2i (m.getD E1 0) E2 8) λ(x1:Int)=> .lf (x1,true))) (.lf (m.getD E1 0,true)))))
def Q47 m addr size:=(Q5l m addr size).m
abbrev Q2n m addr size:=(Q5l m addr size).p
def Z99:Q0b:=mT 232 [] true [.one (.ints .u32), .one (.int .u32), .one (.int .i64)] [] (λa r=>Q5l (argL .u32 a 0) (argI a 1) (argI a 2)) (λX=> .tup [.int .u32 (X.1), .bool (X.2)]) (λX=>[])
theorem Q9y:Q04 pG Z99:=oT (.cons Qm3 (.cons Qld (.nil))) Tryz.func232 Tryz.call232 [] [] 2
def Qlx(pte access:Int):Tree Bool:=
.br (iand u32 pte (1:Int)==(0:Int)) (.lf false) (.br (access==3) (.lf (iand u32 pte (2:Int) !=(0:Int))) (.br (access==1) (.lf (iand u32 pte (4:Int) !=(0:Int))) (.lf true)))
def Qa pte access:=(Qlx pte access).m
def Qyd:Q0b:=mS 308 [] true [.one (.int .u32), .one (.int .i64)] [] (λa r=>Qlx (argI a 0) (argI a 1)) (λX=> .bool X) (λX=>[])
theorem Qtt:Q04 pG Qyd:=oS (.nil) Tryz.func308 Tryz.call308 [] [] 2
def Q7g(pte:Int):Tree Int:=
.an (Q4n pte 8 8) (.lv (Q2i pte 8 8) λ(x0:Int)=> .lf x0)
def Qds pte:=(Q7g pte).m
abbrev Qcn pte:=(Q7g pte).p
def Qy6:Q0b:=mT 309 [] true [.one (.int .u32)] [] (λa r=>Q7g (argI a 0)) (λX=> .int .u32 X) (λX=>[])
theorem Qv9:Q04 pG Qy6:=oT (.cons Qld (.nil)) Tryz.func309 Tryz.call309 [] [] 2
def Q9e(m:List Int)(root va access:Int):Tree Q0x:=
.lv (Qje access) λ(x0:Int×Bool)=>let E1:=({Addr:=0,F0:=0,E0:=x0.1}:Q0x); .br (!x0.2) (.lf (E1)) (.br (decide (va>=4096)) (.lf (E1)) (.lv (Q9f m root) λ(x1:Bool)=> .br (!x1) (.lf (E1)) (let E2:=wrap u32 (root*128)+wrap u32 (4*wrap u32 (eX va 128)); .an (Q2n m (wrap u32 E2) 4) (.lv (Q47 m (wrap u32 E2) 4) λ(x2:Int×Bool)=> .br (!x2.2) (.lf (E1)) (.lv (Qa x2.1 access) λ(x3:Bool)=> .br (!x3) (.lf (E1)) (.an (Qcn x2.1) (.lv (Qds x2.1) λ(x4:Int)=> .lv (Q9f m x4) λ(x5:Bool)=> .br (!x5) (.lf (E1)) (.an (Qcn x2.1) (.lv (Qds x2.1) λ(x6:Int)=> .lf ({Addr:=wrap u32 (wrap u32 (x6*128)+dF va 128),F0:=wrap u32 E2,E0:=0}))))))))))
def Qhm m root va access:=(Q9e m root va access).m
abbrev Qh0 m root va access:=(Q9e m root va access).p
def Z9b:Q0b:=mT 273 [] true [.one (.ints .u32), .one (.int .u32), .one (.int .u32), .one (.int .i64)] [] (λa r=>Q9e (argL .u32 a 0) (argI a 1) (argI a 2) (argI a 3)) (λX=> .agg (Q0x.cells X)) (λX=>[])
theorem Z41:Q04 pG Z9b:=oT (.cons Quw (.cons Qy8 (.cons Q9y (.cons Qtt (.cons Qv9 (.nil)))))) Tryz.func273 Tryz.call273 [] [] 2
def Q7r(m:List Int)(entry access:Int):Tree (List Int):=
.an (Q2n m entry 4) (.lv (Q47 m entry 4) λ(x0:Int×Bool)=> .br (!x0.2) (.an (Q06 m) (.lv (Q03 m) λ(x1:List Int)=> .lf x1)) (.br (access==3) (.an (Qac m entry 4 (ior u32 (ior u32 x0.1 8) 16)) (.lv (Q9 m entry 4 (ior u32 (ior u32 x0.1 8) 16)) λ(x2:List Int×Bool)=> .lf x2.1)) (.an (Qac m entry 4 (ior u32 x0.1 8)) (.lv (Q9 m entry 4 (ior u32 x0.1 8)) λ(x3:List Int×Bool)=> .lf x3.1))))
def Qbh m entry access:=(Q7r m entry access).m
abbrev Qfc m entry access:=(Q7r m entry access).p
def Z42:Q0b:=mT 274 [] true [.one (.ints .u32), .one (.int .u32), .one (.int .i64)] [] (λa r=>Q7r (argL .u32 a 0) (argI a 1) (argI a 2)) (λX=> .all 0) (λX=>[⟨false,25,1, .ints .u32 X⟩])
theorem Z2m:Q04 pG Z42:=oT (.cons Q9y (.cons Q1j (.cons Qn8 (.nil)))) Tryz.func274 Tryz.call274 [.row 25 1 (.ints .u32)] [] 2
def Q5n(c:Q02)(m:List Int)(va size access:Int):Tree (Int×(List Int)×Int):=
.lv (Qqw access) λ(x0:Int×Bool)=>let T3:Tree ((Int×(List Int)×Int)):= .an (Q06 m) (.lv (Q03 m) λ(x1:List Int)=> .lf (0,x1,5)); .br (!x0.2) T3 (let T1:Tree ((Int×(List Int)×Int)):= .cn (decide (wrap u32 size≠0)) (.br (dF va (wrap u32 size) !=0) (.an (Q06 m) (.lv (Q03 m) λ(x3:List Int)=> .lf (0,x3,3))) (.lv (Qb5 c) λ(x4:Bool)=>let T2:Tree ((Int×(List Int)×Int)):= .an (Q2n m va size) (.lv (Q47 m va size) λ(x8:Int×Bool)=> .br (!x8.2) (.an (Q06 m) (.lv (Q03 m) λ(x9:List Int)=> .lf (0,x9,x0.1))) (.an (Q06 m) (.lv (Q03 m) λ(x10:List Int)=> .lf (va,x10,0)))); .br (!x4) (.br (iand u32 c.B4.a0 (4:Int) !=(0:Int)) (.an (Qh0 m c.B4.a6 va access) (.lv (Qhm m c.B4.a6 va access) λ(x5:Q0x)=> .br (x5.E0 !=0) (.an (Q06 m) (.lv (Q03 m) λ(x6:List Int)=> .lf (0,x6,x5.E0))) (.an (Qfc m x5.F0 access) (.lv (Qbh m x5.F0 access) λ(x7:List Int)=> .lf (x5.Addr,x7,0))))) T2) T2)); .br (size !=1) (.br (size !=4) T3 T1) T1)
def Q1u c m va size access:=(Q5n c m va size access).m
abbrev Q8k c m va size access:=(Q5n c m va size access).p
def Zak:Q0b:=mT 231 [] true [.agg Q02.sig, .one (.ints .u32), .one (.int .u32), .one (.int .i64), .one (.int .i64)] [] (λa r=>Q5n (Q02.of (aC a 0)) (argL .u32 a 1) (argI a 2) (argI a 3) (argI a 4)) (λX=> .tup [.int .u32 (X.1), .all 0, .int .i64 (X.2.2)]) (λX=>[⟨false,25,1, .ints .u32 (X.2.1)⟩])
theorem Qj7:Q04 pG Zak:=oT (.cons Z52 (.cons Q1j (.cons Qs1 (.cons Z41 (.cons Z2m (.cons Q9y (.nil))))))) Tryz.func231 Tryz.call231 [.row 25 1 (.ints .u32)] [] 2
def Qas(c:Q02)(m:List Int):Tree (Int×(List Int)×Int):=
.an (Q8k c m c.Pc 4 1) (.lv (Q1u c m c.Pc 4 1) λ(x0:Int×List Int×Int)=> .br (x0.2.2 !=0) (.lf (0,x0.2.1,x0.2.2)) (.an (Q2n x0.2.1 x0.1 4) (.lv (Q47 x0.2.1 x0.1 4) λ(x1:Int×Bool)=> .lf (x1.1,x0.2.1,0))))
def Qmm c m:=(Qas c m).m
abbrev Qku c m:=(Qas c m).p
def Zfl:Q0b:=mT 179 [] true [.agg Q02.sig, .one (.ints .u32)] [] (λa r=>Qas (Q02.of (aC a 0)) (argL .u32 a 1)) (λX=> .tup [.int .u32 (X.1), .all 0, .int .i64 (X.2.2)]) (λX=>[⟨false,25,1, .ints .u32 (X.2.1)⟩])
theorem Zeu:Q04 pG Zfl:=oT (.cons Qj7 (.cons Q9y (.nil))) Tryz.func179 Tryz.call179 [.row 25 1 (.ints .u32)] [] 2
def Qlq(op:Int):Tree Bool:=
.br (op==57) (.lf true) (.br (op==58) (.lf true) (.br (op==59) (.lf true) (.br (op==60) (.lf true) (.br (op==61) (.lf true) (.br (op==62) (.lf true) (.br (op==63) (.lf true) (.br (op==64) (.lf true) (.lf false))))))))
def Q7l op:=(Qlq op).m
def Qxg:Q0b:=mS 181 [] true [.one (.int .i64)] [] (λa r=>Qlq (argI a 0)) (λX=> .bool X) (λX=>[])
theorem Qv4:Q04 pG Qxg:=oS (.nil) Tryz.func181 Tryz.call181 [] [] 2
def Qr3(op:Int):Tree Int:=
.br (op==32) (.lf 4) (.br (op==35) (.lf 4) (.lf 1))
def Qeo op:=(Qr3 op).m
def Zga:Q0b:=mS 237 [] true [.one (.int .i64)] [] (λa r=>Qr3 (argI a 0)) (λX=> .int .i64 X) (λX=>[])
theorem Qwe:Q04 pG Zga:=oS (.nil) Tryz.func237 Tryz.call237 [] [] 2
def Qc5(c:Q02)(register v:Int):Tree Q02:=
.br (register !=0) (.cn (bT 0 1&&decide (0<=register/\register<(↑16:Int))) (.lf ({X:=A16.of 0 (dH (A16.l c.X) register.toNat v),Pc:=c.Pc,B4:=c.B4}))) (.lf c)
def Q9r c register v:=(Qc5 c register v).m
abbrev Q74 c register v:=(Qc5 c register v).p
def zz:Q0b:=mT 238 [] true [.agg Q02.sig, .one (.int .i64), .one (.int .u32)] [] (λa r=>Qc5 (Q02.of (aC a 0)) (argI a 1) (argI a 2)) (λX=> .agg (Q02.cells X)) (λX=>[])
theorem Z6l:Q04 pG zz:=oT (.nil) Tryz.func238 Tryz.call238 [] [] 2
def Qd1(c:Q02)(m:List Int)(i:Q0i):Tree (Q02×(List Int)):=
.cn (bT 0 1&&decide (0<=i.B/\i.B<(↑16:Int))) (.lv (Qeo i.Op) λ(x0:Int)=>let E1:=wrap u32 (aK (A16.l c.X) i.B.toNat 0+wrap u32 i.Imm); .an (Q8k c m E1 x0 2) (.lv (Q1u c m E1 x0 2) λ(x1:Int×List Int×Int)=> .br (x1.2.2 !=0) (.lv (Q3z c x1.2.2 E1) λ(x2:Q02)=> .lf (x2,x1.2.1)) (.lv (Qeo i.Op) λ(x3:Int)=> .an (Q2n x1.2.1 x1.1 x3) (.lv (Q47 x1.2.1 x1.1 x3) λ(x4:Int×Bool)=> .br (i.Op==33) (.an (Qb1 x4.1 8) (.lv (Q26 x4.1 8) λ(x5:Int)=> .an (Q74 c i.A x5) (.lv (Q9r c i.A x5) λ(x6:Q02)=> .lf ({X:=x6.X,Pc:=wrap u32 (x6.Pc+4),B4:=x6.B4},x1.2.1)))) (.an (Q74 c i.A x4.1) (.lv (Q9r c i.A x4.1) λ(x7:Q02)=> .lf ({X:=x7.X,Pc:=wrap u32 (x7.Pc+4),B4:=x7.B4},x1.2.1)))))))
def Q5m c m i:=(Qd1 c m i).m
abbrev Qwd c m i:=(Qd1 c m i).p
def Zlx:Q0b:=mT 183 [] true [.agg Q02.sig, .one (.ints .u32), .agg Q0i.sig] [] (λa r=>Qd1 (Q02.of (aC a 0)) (argL .u32 a 1) (Q0i.of (aC a 2))) (λX=> .tup [.agg (Q02.cells (X.1)), .all 0]) (λX=>[⟨false,25,1, .ints .u32 (X.2)⟩])
theorem Zgd:Q04 pG Zlx:=oT (.cons Qj7 (.cons Qwe (.cons Qhz (.cons Q9y (.cons Qix (.cons Z6l (.nil))))))) Tryz.func183 Tryz.call183 [.row 25 1 (.ints .u32)] [] 2
def Qaz(c:Q02)(m:List Int)(i:Q0i):Tree (Q02×(List Int)):=
.cn (bT 0 1&&decide (0<=i.B/\i.B<(↑16:Int))) (.lv (Qeo i.Op) λ(x0:Int)=>let E1:=wrap u32 (aK (A16.l c.X) i.B.toNat 0+wrap u32 i.Imm); .an (Q8k c m E1 x0 3) (.lv (Q1u c m E1 x0 3) λ(x1:Int×List Int×Int)=> .br (x1.2.2 !=0) (.lv (Q3z c x1.2.2 E1) λ(x2:Q02)=> .lf (x2,x1.2.1)) (.lv (Qeo i.Op) λ(x3:Int)=> .cn (bT 0 1&&decide (0<=i.A/\i.A<(↑16:Int))) (let E2:=aK (A16.l c.X) i.A.toNat 0; .an (Qac x1.2.1 x1.1 x3 E2) (.lv (Q9 x1.2.1 x1.1 x3 E2) λ(x4:List Int×Bool)=> .lf ({X:=c.X,Pc:=wrap u32 (c.Pc+4),B4:=c.B4},x4.1))))))
def Q7h c m i:=(Qaz c m i).m
abbrev Qrj c m i:=(Qaz c m i).p
def Zgz:Q0b:=mT 184 [] true [.agg Q02.sig, .one (.ints .u32), .agg Q0i.sig] [] (λa r=>Qaz (Q02.of (aC a 0)) (argL .u32 a 1) (Q0i.of (aC a 2))) (λX=> .tup [.agg (Q02.cells (X.1)), .all 0]) (λX=>[⟨false,25,1, .ints .u32 (X.2)⟩])
theorem Zbv:Q04 pG Zgz:=oT (.cons Qj7 (.cons Qwe (.cons Qhz (.cons Qn8 (.nil))))) Tryz.func184 Tryz.call184 [.row 25 1 (.ints .u32)] [] 2
def Qzm(op a b:Int):Tree Bool:=
.br (op==40) (.lf (a==b)) (.br (op==41) (.lf (a !=b)) (.br (op==42) (.lf (decide (wrap i32 a<wrap i32 b))) (.br (op==43) (.lf (decide (wrap i32 a>=wrap i32 b))) (.br (op==44) (.lf (decide (a<b))) (.lf (decide (a>=b)))))))
def Zf8 op a b:=(Qzm op a b).m
def Zhh:Q0b:=mS 240 [] true [.one (.int .i64), .one (.int .u32), .one (.int .u32)] [] (λa r=>Qzm (argI a 0) (argI a 1) (argI a 2)) (λX=> .bool X) (λX=>[])
theorem Zc8:Q04 pG Zhh:=oS (.nil) Tryz.func240 Tryz.call240 [] [] 2
def Qej(c:Q02):Tree Q02:=
.lv (Q83 c.B4.a0 8 1) λ(x0:Int)=> .lv (Q83 x0 16 2) λ(x1:Int)=> .lf ({X:=c.X,Pc:=c.B4.a2,B4:={a0:=x1,a1:=c.B4.a1,a2:=c.B4.a2,a3:=c.B4.a3,a4:=c.B4.a4,a5:=c.B4.a5,a6:=c.B4.a6,a7:=c.B4.a7}})
def Qd3 c:=(Qej c).m
def Zcl:Q0b:=mS 241 [] true [.agg Q02.sig] [] (λa r=>Qej (Q02.of (aC a 0))) (λX=> .agg (Q02.cells X)) (λX=>[])
theorem Z9j:Q04 pG Zcl:=oS (.cons Z12 (.nil)) Tryz.func241 Tryz.call241 [] [] 2
def Qb2(c:Q02)(csr v:Int):Tree Q02:=
let E4:=bT 0 1&&decide (0<=csr/\csr<(↑8:Int));let T2:Tree (Q02):= .cn E4 (.lf ({X:=c.X,Pc:=c.Pc,B4:=A8.of 0 (dH (A8.l c.B4) csr.toNat (iand u32 v 31))})); .br (csr==0) T2 (.br (csr==7) T2 (.br (csr==6) (.cn E4 (.lf ({X:=c.X,Pc:=c.Pc,B4:=A8.of 0 (dH (A8.l c.B4) csr.toNat (iand u32 v 255))}))) (let T3:Tree (Q02):= .cn E4 (.lf ({X:=c.X,Pc:=c.Pc,B4:=A8.of 0 (dH (A8.l c.B4) csr.toNat (Qg u32 v 3))})); .br (csr==1) T3 (.br (csr==2) T3 (let T1:Tree (Q02):= .cn E4 (.lf ({X:=c.X,Pc:=c.Pc,B4:=A8.of 0 (dH (A8.l c.B4) csr.toNat v)})); .br (csr==3) T1 (.br (csr==4) T1 (.br (csr==5) T1 (.lf c))))))))
def Zeb c csr v:=(Qb2 c csr v).m
abbrev Qsv c csr v:=(Qb2 c csr v).p
def Zh8:Q0b:=mT 242 [] true [.agg Q02.sig, .one (.int .i64), .one (.int .u32)] [] (λa r=>Qb2 (Q02.of (aC a 0)) (argI a 1) (argI a 2)) (λX=> .agg (Q02.cells X)) (λX=>[])
theorem Zee:Q04 pG Zh8:=oT (.nil) Tryz.func242 Tryz.call242 [] [] 2
def Q4d(c:Q02)(i:Q0i):Tree (Q02×Q0v):=
.cn (bT 0 1&&decide (0<=i.A/\i.A<(↑16:Int))) (.cn (bT 0 1&&decide (0<=i.B/\i.B<(↑16:Int))) (.br (i.Op==24) (.an (Q74 c i.A (ishl u32 (wrap u32 i.Imm) 16)) (.lv (Q9r c i.A (ishl u32 (wrap u32 i.Imm) 16)) λ(x0:Q02)=> .lf ({X:=x0.X,Pc:=wrap u32 (c.Pc+4),B4:=x0.B4},{C4:=0,C8:=0,D7:=0,Value:=0}))) (let E2:=({X:=c.X,Pc:=wrap u32 (c.Pc+4),B4:=c.B4}:Q02);let E3:=aK (A16.l c.X) i.B.toNat 0;let E4:=aK (A16.l c.X) i.A.toNat 0;let T1:Tree ((Q02×Q0v)):= .lv (Zf8 i.Op E4 E3) λ(x1:Bool)=> .br x1 (.lf ({X:=c.X,Pc:=wrap u32 (c.Pc+wrap u32 (4*wrap u32 i.Imm)),B4:=c.B4},{C4:=0,C8:=0,D7:=0,Value:=0})) (.lf (E2,{C4:=0,C8:=0,D7:=0,Value:=0})); .br (i.Op==40) T1 (.br (i.Op==41) T1 (.br (i.Op==42) T1 (.br (i.Op==43) T1 (.br (i.Op==44) T1 (.br (i.Op==45) T1 (.br (i.Op==48) (.an (Q74 c i.A (wrap u32 (c.Pc+4))) (.lv (Q9r c i.A (wrap u32 (c.Pc+4))) λ(x7:Q02)=> .lf ({X:=x7.X,Pc:=wrap u32 (x7.Pc+wrap u32 (4*wrap u32 i.Imm)),B4:=x7.B4},{C4:=0,C8:=0,D7:=0,Value:=0}))) (.br (i.Op==49) (.an (Q74 c i.A (wrap u32 (c.Pc+4))) (.lv (Q9r c i.A (wrap u32 (c.Pc+4))) λ(x8:Q02)=> .lf ({X:=x8.X,Pc:=wrap u32 (aK (A16.l c.X) i.B.toNat 0+wrap u32 i.Imm),B4:=x8.B4},{C4:=0,C8:=0,D7:=0,Value:=0}))) (.br (i.Op==56) (.lv (Q3z c 7 0) λ(x9:Q02)=> .lf (x9,{C4:=0,C8:=0,D7:=0,Value:=0})) (.br (i.Op==57) (.lv (Qd3 c) λ(x10:Q02)=> .lf (x10,{C4:=0,C8:=0,D7:=0,Value:=0})) (.br (i.Op==58) (.cn (bT 0 1&&decide (0<=i.Imm/\i.Imm<(↑8:Int))) (let E5:=aK (A8.l c.B4) i.Imm.toNat 0; .an (Q74 c i.A E5) (.lv (Q9r c i.A E5) λ(x11:Q02)=> .lf ({X:=x11.X,Pc:=wrap u32 (c.Pc+4),B4:=x11.B4},{C4:=0,C8:=0,D7:=0,Value:=0})))) (.br (i.Op==59) (.an (Qsv c (wrap i64 i.Imm) E4) (.lv (Zeb c (wrap i64 i.Imm) E4) λ(x12:Q02)=> .lf ({X:=x12.X,Pc:=wrap u32 (c.Pc+4),B4:=x12.B4},{C4:=0,C8:=0,D7:=0,Value:=0}))) (.br (i.Op==60) (.lf (E2,{C4:=1,C8:=wrap i64 i.Imm,D7:=i.A,Value:=0})) (.br (i.Op==61) (.lf (E2,{C4:=2,C8:=wrap i64 i.Imm,D7:=0,Value:=aK (A16.l c.X) i.A.toNat 0})) (.br (i.Op==62) (.lf (E2,{C4:=3,C8:=0,D7:=0,Value:=0})) (.br (i.Op==63) (.lf (E2,{C4:=5,C8:=0,D7:=0,Value:=0})) (.br (i.Op==64) (.lf (E2,{C4:=4,C8:=0,D7:=0,Value:=0})) (.cn (bT 0 1&&decide (0<=i.C/\i.C<(↑16:Int))) (.br (decide (i.Op>=16)) (.an (Qr4 i.Op E3 (wrap u32 i.Imm)) (.lv (Q3v i.Op E3 (wrap u32 i.Imm)) λ(x13:Int×Bool)=> .an (Q74 c i.A x13.1) (.lv (Q9r c i.A x13.1) λ(x14:Q02)=> .lf ({X:=x14.X,Pc:=wrap u32 (c.Pc+4),B4:=x14.B4},{C4:=0,C8:=0,D7:=0,Value:=0})))) (let E6:=aK (A16.l c.X) i.C.toNat 0; .an (Qr4 i.Op E3 E6) (.lv (Q3v i.Op E3 E6) λ(x15:Int×Bool)=> .an (Q74 c i.A x15.1) (.lv (Q9r c i.A x15.1) λ(x16:Q02)=> .lf ({X:=x16.X,Pc:=wrap u32 (c.Pc+4),B4:=x16.B4},{C4:=0,C8:=0,D7:=0,Value:=0})))))))))))))))))))))))))
def Qla c i:=(Q4d c i).m
abbrev Qms c i:=(Q4d c i).p
def Z8j:Q0b:=mT 185 [] true [.agg Q02.sig, .agg Q0i.sig] [] (λa r=>Q4d (Q02.of (aC a 0)) (Q0i.of (aC a 1))) (λX=> .tup [.agg (Q02.cells (X.1)), .agg (Q0v.cells (X.2))]) (λX=>[])
theorem Z50:Q04 pG Z8j:=oT (.cons Z6l (.cons Zc8 (.cons Qhz (.cons Z9j (.cons Zee (.cons Zn8 (.nil))))))) Tryz.func185 Tryz.call185 [] [] 2
def Q6f(c:Q02)(m:List Int):Tree (Q02×(List Int)×Q0v):=
.an (Qku c m) (.lv (Qmm c m) λ(x0:Int×List Int×Int)=> .br (x0.2.2 !=0) (.lv (Q3z c x0.2.2 c.Pc) λ(x1:Q02)=> .lf (x1,x0.2.1,{C4:=0,C8:=0,D7:=0,Value:=0})) (.an (Qj3 x0.1) (.lv (Qg7 x0.1) λ(x2:Q0i×Bool)=> .br (!x2.2) (.lv (Q3z c 1 x0.1) λ(x3:Q02)=> .lf (x3,x0.2.1,{C4:=0,C8:=0,D7:=0,Value:=0})) (.lv (Q7l x2.1.Op) λ(x4:Bool)=>let T1:Tree ((Q02×(List Int)×Q0v)):=let T2:Tree ((Q02×(List Int)×Q0v)):= .an (Qwd c x0.2.1 x2.1) (.lv (Q5m c x0.2.1 x2.1) λ(x7:Q02×List Int)=> .lf (x7.1,x7.2,{C4:=0,C8:=0,D7:=0,Value:=0})); .br (x2.1.Op==32) T2 (.br (x2.1.Op==33) T2 (.br (x2.1.Op==34) T2 (let T3:Tree ((Q02×(List Int)×Q0v)):= .an (Qrj c x0.2.1 x2.1) (.lv (Q7h c x0.2.1 x2.1) λ(x10:Q02×List Int)=> .lf (x10.1,x10.2,{C4:=0,C8:=0,D7:=0,Value:=0})); .br (x2.1.Op==35) T3 (.br (x2.1.Op==36) T3 (.an (Qms c x2.1) (.lv (Qla c x2.1) λ(x12:Q02×Q0v)=> .lf (x12.1,x0.2.1,x12.2))))))); .br x4 (.lv (Qb5 c) λ(x5:Bool)=> .br (!x5) (.lv (Q3z c 2 x0.1) λ(x6:Q02)=> .lf (x6,x0.2.1,{C4:=0,C8:=0,D7:=0,Value:=0})) T1) T1))))
def Q9h c m:=(Q6f c m).m
abbrev Qir c m:=(Q6f c m).p
def Zm9:Q0b:=mT 114 [] true [.agg Q02.sig, .one (.ints .u32)] [] (λa r=>Q6f (Q02.of (aC a 0)) (argL .u32 a 1)) (λX=> .tup [.agg (Q02.cells (X.1)), .all 0, .agg (Q0v.cells (X.2.2))]) (λX=>[⟨false,25,1, .ints .u32 (X.2.1)⟩])
theorem Zh0:Q04 pG Zm9:=oT (.cons Zeu (.cons Qhz (.cons Z9u (.cons Qv4 (.cons Qs1 (.cons Zgd (.cons Zbv (.cons Z50 (.nil))))))))) Tryz.func114 Tryz.call114 [.row 25 1 (.ints .u32)] [] 2
end
noncomputable section
def tblYc0:List UInt8:=[(0:UInt8),1,2,2,3,3,3,3,4,4,4,4,4,4,4,4,5,5,5,5,5,5,5,5,5,5,5,5,5,5,5,5,6,6,6,6,6,6,6,6,6,6,6,6,6,6,6,6,6,6,6,6,6,6,6,6,6,6,6,6,6,6,6,6]
def Zbh:List UInt8:=[(7:UInt8),7,7,7,7,7,7,7,7,7,7,7,7,7,7,7,7,7,7,7,7,7,7,7,7,7,7,7,7,7,7,7,7,7,7,7,7,7,7,7,7,7,7,7,7,7,7,7,7,7,7,7,7,7,7,7,7,7,7,7,7,7,7,7]
def Qpq:List UInt8:=[(8:UInt8),8,8,8,8,8,8,8,8,8,8,8,8,8,8,8,8,8,8,8,8,8,8,8,8,8,8,8,8,8,8,8,8,8,8,8,8,8,8,8,8,8,8,8,8,8,8,8,8,8,8,8,8,8,8,8,8,8,8,8,8,8,8,8]
def Zit:List UInt8:=[(1:UInt8),2,2,3,3,3,3,4,4,4,4,4,4,4,4,5,5,5,5,5,5,5,5,5,5,5,5,5,5,5,5,6,6,6,6,6,6,6,6,6,6,6,6,6,6,6,6,6,6,6,6,6,6,6,6,6,6,6,6,6,6,6,6]
def tblYc4:List UInt8:=[(0:UInt8),1,1,2,1,2,2,3,1,2,2,3,2,3,3,4,1,2,2,3,2,3,3,4,2,3,3,4,3,4,4,5,1,2,2,3,2,3,3,4,2,3,3,4,3,4,4,5,2,3,3,4,3,4,4,5,3,4,4,5,4,5,5,6]
def Qpn:List UInt8:=[(1:UInt8),2,2,3,2,3,3,4,2,3,3,4,3,4,4,5,2,3,3,4,3,4,4,5,3,4,4,5,4,5,5,6,2,3,3,4,3,4,4,5,3,4,4,5,4,5,5,6,3,4,4,5,4,5,5,6,4,5,5,6,5,6,6,7]
def Zf6:List UInt8:=[(2:UInt8),3,3,4,3,4,4,5,3,4,4,5,4,5,5,6,3,4,4,5,4,5,5,6,4,5,5,6,5,6,6,7,3,4,4,5,4,5,5,6,4,5,5,6,5,6,6,7,4,5,5,6,5,6,6,7,5,6,6,7,6,7,7,8]
def Ziy:List UInt8:=[(1:UInt8),1,2,1,2,2,3,1,2,2,3,2,3,3,4,1,2,2,3,2,3,3,4,2,3,3,4,3,4,4,5,1,2,2,3,2,3,3,4,2,3,3,4,3,4,4,5,2,3,3,4,3,4,4,5,3,4,4,5,4,5,5,6]
def Qs(c:Q0c):Tree Bool:=
.lf (decide ((c.D0.length:Int)<=(16:Int)))
def Q25 c:=(Qs c).m
def Za:Q0b:=mS 171 [] true [.agg Q0c.sig] [] (λa r=>Qs (Q0c.of (aC a 0))) (λX=> .bool X) (λX=>[])
theorem Z3b:Q04 pG Za:=oS (.nil) Tryz.func171 Tryz.call171 [] [] 2
def Ql1(t:Q0h):Tree Bool:=
.br t.D2 (.br (!t.D1) (.lf (t.C3 !=0)) (.lf false)) (.br t.D1 (.lf true) (.lf (t.C3==0)))
def Q3q t:=(Ql1 t).m
def Zhp:Q0b:=mS 172 [] true [.agg Q0h.sig] [] (λa r=>Ql1 (Q0h.of (aC a 0))) (λX=> .bool X) (λX=>[])
theorem Zf7:Q04 pG Zhp:=oS (.nil) Tryz.func172 Tryz.call172 [] [] 2
def Q3c(d0:Q0d):Tree Bool:=
.br (d0.D4==1) (.lf (decide (d0.B8=[]))) (.br (d0.D4==2) (.lf ((d0.B8.length:Int)==(128:Int))) (.lf false))
def Q6c d0:=(Q3c d0).m
def Qvg:Q0b:=mS 227 [] true [.agg Q0d.sig] [] (λa r=>Q3c (Q0d.of (aC a 0))) (λX=> .bool X) (λX=>[])
theorem Qrx:Q04 pG Qvg:=oS (.nil) Tryz.func227 Tryz.call227 [] [] 2
def Q3y(d0:Q0d)(pages:Int):Tree Bool:=
.br (decide (d0.Blocks>64)) (.lf false) (let T1:Tree (Bool):= .br (d0.D4==0) (.br (d0.B5==0) (.br (d0.B2==0) (.lf (decide (d0.B8=[]))) (.lf false)) (.lf false)) (.lf false); .br (d0.B7==0) T1 (.br (d0.B7==2) T1 (.br (d0.B7==3) T1 (.br (d0.B7==1) (.lv (Q6c d0) λ(x0:Bool)=> .br x0 (.br (decide (d0.B5<d0.Blocks)) (.lf (decide (wrap i64 d0.B2<pages))) (.lf false)) (.lf false)) (.lf false)))))
def Q15 d0 pages:=(Q3y d0 pages).m
def Zkt:Q0b:=mS 173 [] true [.agg Q0d.sig, .one (.int .i64)] [] (λa r=>Q3y (Q0d.of (aC a 0)) (argI a 1)) (λX=> .bool X) (λX=>[])
theorem Zgs:Q04 pG Zkt:=oS (.cons Qrx (.nil)) Tryz.func173 Tryz.call173 [] [] 2
def Qjp(n:Q0m)(pages:Int):Tree Bool:=
let T1:Tree (Bool):=let T2:Tree (Bool):= .br n.B6 (.br (decide (n.D9>=1)) (.lf (decide (n.D9<=128))) (.lf false)) (.lf (n.D9==0)); .br n.C5 (.br (decide (wrap i64 n.C0>=pages)) (.lf false) T2) (.br (n.C0 !=0) (.lf false) T2); .br n.C5 (.br n.B6 (.lf false) T1) T1
def Q5a n pages:=(Qjp n pages).m
def yz:Q0b:=mS 174 [] true [.agg Q0m.sig, .one (.int .i64)] [] (λa r=>Qjp (Q0m.of (aC a 0)) (argI a 1)) (λX=> .bool X) (λX=>[])
theorem Zlf:Q04 pG yz:=oS (.nil) Tryz.func174 Tryz.call174 [] [] 2
def Q1k(x:Int):Tree Int:=
let E1:=(↑(dL (cS (cS tblYc0 Zbh) (cS Qpq Qpq))):Int); .br (decide (x>=65536)) (.br (decide (ishr u32 x (16:Int)>=(256:Int))) (.cn (decide (0<=wrap u8 (ishr u32 (ishr u32 x 16) 8)/\wrap u8 (ishr u32 (ishr u32 x 16) 8)<E1)) (.lf (wrap i64 (wrap i64 ((16:Int)+(8:Int))+wrap i64 (↑(eZ (aK ((0:UInt8)::(Zit++Zbh++(Qpq++Qpq))) (dG (wrap u8 (ishr u32 (ishr u32 x 16) 8))) (0:UInt8))):Int))))) (.cn (decide (0<=wrap u8 (ishr u32 x 16)/\wrap u8 (ishr u32 x 16)<E1)) (.lf (wrap i64 (16+wrap i64 (↑(eZ (aK ((0:UInt8)::(Zit++Zbh++(Qpq++Qpq))) (dG (wrap u8 (ishr u32 x 16))) (0:UInt8))):Int)))))) (.br (decide (x>=256)) (.cn (decide (0<=wrap u8 (ishr u32 x 8)/\wrap u8 (ishr u32 x 8)<E1)) (.lf (wrap i64 (wrap i64 ((0:Int)+(8:Int))+wrap i64 (↑(eZ (aK ((0:UInt8)::(Zit++Zbh++(Qpq++Qpq))) (dG (wrap u8 (ishr u32 x 8))) (0:UInt8))):Int))))) (.cn (decide (0<=wrap u8 x/\wrap u8 x<E1)) (.lf (wrap i64 (0+wrap i64 (↑(eZ (aK ((0:UInt8)::(Zit++Zbh++(Qpq++Qpq))) (dG (wrap u8 x)) (0:UInt8))):Int))))))
def Q1c x:=(Q1k x).m
abbrev Qau x:=(Q1k x).p
def Qu8:Q0b:=mT 228 [] true [.one (.int .u32)] [] (λa r=>Q1k (argI a 0)) (λX=> .int .i64 X) (λX=>[])
theorem Qrp:Q04 pG Qu8:=oT (.nil) Tryz.func228 Tryz.call228 [] [] 2
def Q3l(b:Q07)(pages:Int):Tree Bool:=
.an (Qau b.C2) (.lv (Q1c b.C2) λ(x0:Int)=> .lf (decide (x0<=if 0>pages then 0 else pages)))
def Q2c b pages:=(Q3l b pages).m
abbrev Qcl b pages:=(Q3l b pages).p
def Z8a:Q0b:=mT 175 [] true [.agg Q07.sig, .one (.int .i64)] [] (λa r=>Q3l (Q07.of (aC a 0)) (argI a 1)) (λX=> .bool X) (λX=>[])
theorem Z4u:Q04 pG Z8a:=oT (.cons Qrp (.nil)) Tryz.func175 Tryz.call175 [] [] 2
def Q1(m:Q00):Tree Bool:=
.lv (Q0o m.Mem) λ(x0:Int)=> .lv (Q25 m.A2) λ(x1:Bool)=> .br x1 (.lv (Q3q m.A7) λ(x2:Bool)=> .br x2 (.lv (Q15 m.A9 x0) λ(x3:Bool)=> .br x3 (.lv (Q5a m.B9 x0) λ(x4:Bool)=> .br x4 (.an (Qcl m.A1 x0) (.lv (Q2c m.A1 x0) λ(x5:Bool)=> .lf x5)) (.lf false)) (.lf false)) (.lf false)) (.lf false)
def Q0q m:=(Q1 m).m
abbrev Q2e m:=(Q1 m).p
def Qpa:Q0b:=mT 92 [] true [.agg Q00.sig] [] (λa r=>Q1 (Q00.of (aC a 0))) (λX=> .bool X) (λX=>[])
theorem Qo5:Q04 pG Qpa:=oT (.cons Q3o (.cons Z3b (.cons Zf7 (.cons Zgs (.cons Zlf (.cons Z4u (.nil))))))) Tryz.func92 Tryz.call92 [] [] 2
def Q4e(m:Q00):Tree Bool:=
.lv (Q0o m.Mem) λ(x0:Int)=> .br (x0==0) (.lf false) (.br (m.B1.X.a0 !=0) (.lf false) (.br (decide (m.B1.B4.a0>31)) (.lf false) (.br (decide (m.B1.B4.a7>31)) (.lf false) (.br (decide (m.B1.B4.a6>255)) (.lf false) (.br (dF m.B1.B4.a1 (4:Int) !=(0:Int)) (.lf false) (.br (decide (m.A4>1152921504606846976)) (.lf false) (.br m.A3 (.br m.A6 (.lf false) (.an (Q2e m) (.lv (Q0q m) λ(x1:Bool)=> .lf x1))) (.an (Q2e m) (.lv (Q0q m) λ(x2:Bool)=> .lf x2)))))))))
def Q17 m:=(Q4e m).m
abbrev Q55 m:=(Q4e m).p
def Z9h:Q0b:=mT 24 [] true [.agg Q00.sig] [] (λa r=>Q4e (Q00.of (aC a 0))) (λX=> .bool X) (λX=>[])
theorem Qq7:Q04 pG Z9h:=oT (.cons Q3o (.cons Qo5 (.nil))) Tryz.func24 Tryz.call24 [] [] 2
def Qnr(t:Q0h):Tree Bool:=
.lf t.D1
def Qfx t:=(Qnr t).m
def Z2d:Q0b:=mS 99 [] true [.agg Q0h.sig] [] (λa r=>Qnr (Q0h.of (aC a 0))) (λX=> .bool X) (λX=>[])
theorem Qyf:Q04 pG Z2d:=oS (.nil) Tryz.func99 Tryz.call99 [] [] 2
def Qjq(c:Q0c):Tree Bool:=
.lf (!decide (c.D0=[]))
def Q84 c:=(Qjq c).m
def Qvb:Q0b:=mS 100 [] true [.agg Q0c.sig] [] (λa r=>Qjq (Q0c.of (aC a 0))) (λX=> .bool X) (λX=>[])
theorem Qrk:Q04 pG Qvb:=oS (.nil) Tryz.func100 Tryz.call100 [] [] 2
def Qj0(d0:Q0d):Tree Bool:=
.br (d0.B7==2) (.lf true) (.lf (d0.B7==3))
def Q8s d0:=(Qj0 d0).m
def Z40:Q0b:=mS 101 [] true [.agg Q0d.sig] [] (λa r=>Qj0 (Q0d.of (aC a 0))) (λX=> .bool X) (λX=>[])
theorem Qnj:Q04 pG Z40:=oS (.nil) Tryz.func101 Tryz.call101 [] [] 2
def Qsd(n:Q0m):Tree Bool:=
.lf n.B6
def Qlb n:=(Qsd n).m
def Zau:Q0b:=mS 102 [] true [.agg Q0m.sig] [] (λa r=>Qsd (Q0m.of (aC a 0))) (λX=> .bool X) (λX=>[])
theorem Z4:Q04 pG Zau:=oS (.nil) Tryz.func102 Tryz.call102 [] [] 2
def Q2o(x:Int):Tree Int:=
let E1:=(↑(dL (cS (cS tblYc4 Qpn) (cS Qpn Zf6))):Int); .cn (decide (0<=ishr u32 x 24/\ishr u32 x 24<E1)) (.cn (decide (0<=iand u32 (ishr u32 x 16) 255/\iand u32 (ishr u32 x 16) 255<E1)) (.cn (decide (0<=iand u32 (ishr u32 x 8) 255/\iand u32 (ishr u32 x 8) 255<E1)) (.cn (decide (0<=iand u32 x 255/\iand u32 x 255<E1)) (.lf (wrap i64 (wrap u8 (wrap u8 (wrap u8 ((↑(eZ (aK ((0:UInt8)::(Ziy++Qpn++(Qpn++Zf6))) (dG (ishr u32 x 24)) (0:UInt8))):Int)+(↑(eZ (aK ((0:UInt8)::(Ziy++Qpn++(Qpn++Zf6))) (dG (iand u32 (ishr u32 x 16) 255)) (0:UInt8))):Int))+(↑(eZ (aK ((0:UInt8)::(Ziy++Qpn++(Qpn++Zf6))) (dG (iand u32 (ishr u32 x 8) 255)) (0:UInt8))):Int))+(↑(eZ (aK ((0:UInt8)::(Ziy++Qpn++(Qpn++Zf6))) (dG (iand u32 x 255)) (0:UInt8))):Int))))))))
def Q5s x:=(Q2o x).m
abbrev Q9x x:=(Q2o x).p
def Qkz:Q0b:=mT 229 [] true [.one (.int .u32)] [] (λa r=>Q2o (argI a 0)) (λX=> .int .i64 X) (λX=>[])
theorem Qjj:Q04 pG Qkz:=oT (.nil) Tryz.func229 Tryz.call229 [] [] 2
def Q8p(b:Q07):Tree Int:=
.an (Q9x b.C2) (.lv (Q5s b.C2) λ(x0:Int)=> .lf x0)
def Qcr b:=(Q8p b).m
abbrev Qda b:=(Q8p b).p
def Z01:Q0b:=mT 176 [] true [.agg Q07.sig] [] (λa r=>Q8p (Q07.of (aC a 0))) (λX=> .int .i64 X) (λX=>[])
theorem Qm5:Q04 pG Z01:=oT (.cons Qjj (.nil)) Tryz.func176 Tryz.call176 [] [] 2
def Q4r(b:Q07):Tree Bool:=
.an (Qda b) (.lv (Qcr b) λ(x0:Int)=> .lf (wrap u32 x0 !=b.C6))
def Q6q b:=(Q4r b).m
abbrev Qgl b:=(Q4r b).p
def Qvn:Q0b:=mT 103 [] true [.agg Q07.sig] [] (λa r=>Q4r (Q07.of (aC a 0))) (λX=> .bool X) (λX=>[])
theorem Qsc:Q04 pG Qvn:=oT (.cons Qm5 (.nil)) Tryz.func103 Tryz.call103 [] [] 2
def Qib(m:Q00)(z:(Int)×(Int)):Nat:=(5-z.2).toNat
def Q6n(m:Q00):Tree Int:=
.lv (Qfx m.A7) λ(x0:Bool)=> .lv (Q84 m.A2) λ(x1:Bool)=> .lv (Q8s m.A9) λ(x2:Bool)=> .lv (Qlb m.B9) λ(x3:Bool)=> .an (Qgl m.A1) (.lv (Q6q m.A1) λ(x4:Bool)=> .lp inferInstance (Qib m (0,0)+1) ((rE (0:Int)/\(rE (x0:Bool)/\rE (x1:Bool)/\rE (x2:Bool)/\rE (x3:Bool)/\rE (x4:Bool)/\True)/\rE (0:Int)/\True)/\True) (0,0) λ(v0:Int×Int)=> .br (decide (v0.2<5)) (.cn (bS 1 1&&(bS 5 5&&decide (0<=v0.2/\v0.2<(↑5:Int)))) (.br (aK [x0,x1,x2,x3,x4] v0.2.toNat false) (.cn (decide (0<=v0.2)) (.nx ((rE ((ior u32 v0.1 (ishl u32 1 v0.2)):Int)/\(rE (x0:Bool)/\rE (x1:Bool)/\rE (x2:Bool)/\rE (x3:Bool)/\rE (x4:Bool)/\True)/\rE ((wrap i64 (v0.2+1)):Int)/\True)/\True) (Sum.inl (ior u32 v0.1 (ishl u32 1 v0.2),wrap i64 (v0.2+1))))) (.nx ((rE v0.1/\(rE (x0:Bool)/\rE (x1:Bool)/\rE (x2:Bool)/\rE (x3:Bool)/\rE (x4:Bool)/\True)/\rE ((wrap i64 (v0.2+1)):Int)/\True)/\True) (Sum.inl (v0.1,wrap i64 (v0.2+1)))))) (.lf (Sum.inr v0.1)))
def Qck m:=(Q6n m).m
abbrev Qjz m:=(Q6n m).p
def Qxv:LInv:={
 α:=(Int)×(Int)
 F:=λst a=>([(4, .int u32 a.1),(23,(lk st 23)),(24, .int i64 a.2)],[])
 a0:=λst=>((lk st 4).toInt,(lk st 24).toInt)
 ex0:=λst=>[]++[]}
def Qsu:List (Nat×LInv):=[(4,Qxv)]
def Z06:Q0b:=mT 26 [] true [.agg Q00.sig] [] (λa r=>Q6n (Q00.of (aC a 0))) (λX=> .int .u32 X) (λX=>[])
theorem Qy:Q04 pG Z06:=oT (.cons Qyf (.cons Qrk (.cons Qnj (.cons Z4 (.cons Qsc (.nil)))))) Tryz.func26 Tryz.call26 [] Qsu 3
def Q4t(m:Q00):Tree Int:=
.an (Qjz m) (.lv (Qck m) λ(x0:Int)=> .lf (iand u32 x0 m.B1.B4.a7))
def Q4u m:=(Q4t m).m
abbrev Qao m:=(Q4t m).p
def Qts:Q0b:=mT 110 [] true [.agg Q00.sig] [] (λa r=>Q4t (Q00.of (aC a 0))) (λX=> .int .u32 X) (λX=>[])
theorem Qii:Q04 pG Qts:=oT (.cons Qy (.nil)) Tryz.func110 Tryz.call110 [] [] 2
def Q4o(m:Q00):Tree Bool:=
.br m.A3 (.an (Qao m) (.lv (Q4u m) λ(x0:Int)=> .lf (x0==0))) (.lf false)
def Qev m:=(Q4o m).m
abbrev Qf1 m:=(Q4o m).p
def Z3p:Q0b:=mT 28 [] true [.agg Q00.sig] [] (λa r=>Q4o (Q00.of (aC a 0))) (λX=> .bool X) (λX=>[])
theorem Z1r:Q04 pG Z3p:=oT (.cons Qii (.nil)) Tryz.func28 Tryz.call28 [] [] 2

import Derived.Test.YtmalmklaonainaaGreatReplayTellsBase
open Int renaming tmod->cX, tdiv->eO, toNat->cZ
open Nat renaming beq->bS, blt->bT
open List renaming set->dB, getD->aK, length->dF, append->cO
open UInt8 renaming toNat->eR
set_option maxRecDepth 100000
set_option linter.all false
namespace Go.Proofs.YtmalmklaonainaaGreat
open Go Go.GD Go.IntKind
noncomputable section
def Q04(s:List Int):(List Int):=
s
def Q09(s:List Int):Prop:=
s.length<=35184372088832
def Q48(s:List Int):List D:=[.sl 1 (.ints .u32 s) false]
def Q2l(s:List Int):List Row:=[]
def Q1v(X:List Int):D:= .all 0
def Q1w(X:List Int):List Row:=[⟨false,25,1, .ints .u32 X⟩]
def Qft:List Dir:=[.row 25 1 (.ints .u32)]
def Q8c:List PT:=[.one (.ints .u32)]
def Q80:List RT:=[]
def Qh4(args:List D)(rows:List Row):(List Int):=Q04 (argL .u32 args 0)
def Qh8(args:List D)(rows:List Row):Prop:=Q09 (argL .u32 args 0)
def Qin:Q0f:=mkP 129 [] true Q8c Q80 Qh8 Qh4 Q1v Q1w
def Q5h(s:List Int)(Leaf:(List Int)->Prop):Prop:=
(s=[]->Leaf [])/\cand (decide ((4:Nat)*((0:Nat)+s.length)<=(140737488355328:Nat))) (Leaf s)
set_option maxRecDepth 100000 in
theorem Qht(s:List Int)(Q:D->List Row->Prop):(fnVC tab [] (LL tab [] Tryz.f129.ntmps 0 [] 2) Tryz.f129 (Q48 s) (Q2l s) λd R=>Qat (Q2l s).length Qft d R Q)=Q5h s (λX=>Q (Q1v X) (Q1w X)):=by kernel_rfl
theorem Qfl(s:List Int)(Leaf:(List Int)->Prop)(hw:Q09 s)(h:Leaf (Q04 s)):
Q5h s Leaf:=by
 delta Q5h
 refine⟨λe=>by rw[e]at h;exact h,?_⟩
 rw[Q08]
 refine⟨dY ?_,h⟩
 have:s.length<=35184372088832:=hw
 omega
set_option maxRecDepth 100000 in
theorem Qfg(s:List Int)(hw:Q09 s):Q4b pG 129 (Q48 s) (Q2l s) (Q1v (Q04 s)) (Q1w (Q04 s)):=
 have hG:Q7l pG []:= .nil
 FnOK.calls drawn Q0k hG Tryz.func129 (rf:=none) (λ_ _=>trivial) (Zrr drawn Q0k hG (.inl rfl) 2 (invs:=[])) (FnOK.of (Qht s _) (Qfl s (λX=>Q1v X=Q1v (Q04 s)/\Q1w X=Q1w (Q04 s)) hw ⟨rfl,rfl⟩))
set_option maxRecDepth 100000 in
theorem Qfq(args:List D)(rows:List Row):Qh2 Q8c args 0=Q48 (argL .u32 args 0):=by kernel_rfl
set_option maxRecDepth 100000 in
theorem Qfh(args:List D)(rows:List Row):Q6j Q80 rows 0=Q2l (argL .u32 args 0):=by kernel_rfl
set_option maxRecDepth 100000 in
theorem Qi0(X:List Int):(ffB (Q1v X)&&ffBR (Q1w X))=true:=by kernel_rfl
theorem Q0w:Q06 pG Qin:=Qzx Tryz.call129 (λargs rows hp=>by rw[Qfq args rows,Qfh args rows];exact Qfg (argL .u32 args 0) hp) (λ_ X=>Qi0 X)
def Qcw(m:List Int):Tree Int:=
.br (cX (m.length:Int) (32:Int) !=(0:Int)) (.lf 0) (.br (decide ((m.length:Int)>(1024:Int))) (.lf 0) (.lf (wrap i64 (eO (m.length:Int) 32))))
def Q1 m:=(Qcw m).m
def Z7m:Q0f:=mS 43 [] true [.one (.ints .u32)] [] (λa r=>Qcw (argL .u32 a 0)) (λX=> .int .i64 X) (λX=>[])
theorem Q4n:Q06 pG Z7m:=oS (.nil) Tryz.func43 Tryz.call43 [] [] 2
def Q3g(m:List Int)(addr size:Int):Tree Bool:=
let T1:Tree (Bool):= .cn (decide (wrap u32 size≠0)) (.br (cX addr (wrap u32 size) !=0) (.lf false) (.lv (Q1 m) λ(x0:Int)=> .lf (decide (wrap u64 (wrap u64 addr+wrap u64 size)<=wrap u64 (wrap u64 x0*128))))); .br (size !=1) (.br (size !=4) (.lf false) T1) T1
def Qip m addr size:=(Q3g m addr size).m
abbrev Qba m addr size:=(Q3g m addr size).p
def Z3w:Q0f:=mT 275 [] true [.one (.ints .u32), .one (.int .u32), .one (.int .i64)] [] (λa r=>Q3g (argL .u32 a 0) (argI a 1) (argI a 2)) (λX=> .bool X) (λX=>[])
theorem Qoz:Q06 pG Z3w:=oT (.cons Q4n (.nil)) Tryz.func275 Tryz.call275 [] [] 2
def Qdk(n:Int):Tree Int:=
.br (decide (n>=32)) (.lf 4294967295) (.cn (decide (0<=wrap u64 n)) (.lf (wrap u32 (ishl u32 1 (wrap u64 n)-1))))
def Z5u n:=(Qdk n).m
abbrev Qih n:=(Qdk n).p
def Zn8:Q0f:=mT 276 [] true [.one (.int .i64)] [] (λa r=>Qdk (argI a 0)) (λX=> .int .u32 X) (λX=>[])
theorem Z0j:Q06 pG Zn8:=oT (.nil) Tryz.func276 Tryz.call276 [] [] 2
def Qa7(w low n:Int):Tree Int:=
.br (decide (low<0)) (.lf 0) (.br (decide (low>31)) (.lf 0) (.br (decide (n<1)) (.lf 0) (.cn (decide (0<=wrap u64 low)) (.an (Qih n) (.lv (Z5u n) λ(x0:Int)=> .lf (iand u32 (ishr u32 w (wrap u64 low)) x0))))))
def Q38 w low n:=(Qa7 w low n).m
abbrev Q5l w low n:=(Qa7 w low n).p
def Zjp:Q0f:=mT 233 [] true [.one (.int .u32), .one (.int .i64), .one (.int .i64)] [] (λa r=>Qa7 (argI a 0) (argI a 1) (argI a 2)) (λX=> .int .u32 X) (λX=>[])
theorem Qnp:Q06 pG Zjp:=oT (.cons Z0j (.nil)) Tryz.func233 Tryz.call233 [] [] 2
def Qah(w low n v:Int):Tree Int:=
.br (decide (low<0)) (.lf w) (.br (decide (low>31)) (.lf w) (.br (decide (n<1)) (.lf w) (.an (Qih n) (.lv (Z5u n) λ(x0:Int)=> .cn (decide (0<=wrap u64 low)) (.cn (decide (0<=wrap u64 low)) (.lf (ior u32 (Qir u32 w (ishl u32 x0 (wrap u64 low))) (ishl u32 (iand u32 v x0) (wrap u64 low)))))))))
def Q8k w low n v:=(Qah w low n v).m
abbrev Qn6 w low n v:=(Qah w low n v).p
def Z34:Q0f:=mT 278 [] true [.one (.int .u32), .one (.int .i64), .one (.int .i64), .one (.int .u32)] [] (λa r=>Qah (argI a 0) (argI a 1) (argI a 2) (argI a 3)) (λX=> .int .u32 X) (λX=>[])
theorem Z1z:Q06 pG Z34:=oT (.cons Z0j (.nil)) Tryz.func278 Tryz.call278 [] [] 2
def Q9f(m:List Int)(addr size v:Int):Tree ((List Int)×Bool):=
.an (Q09 m) (.lv (Q04 m) λ(x0:List Int)=> .an (Qba m addr size) (.lv (Qip m addr size) λ(x1:Bool)=> .br (!x1) (.lf (x0,false)) (let E1:=bS 1 1&&bT 0 1&&decide (0<=wrap u32 (eO addr 4)/\wrap u32 (eO addr 4)<(x0.length:Int));let E2:=cZ (wrap u32 (eO addr 4)); .br (size==1) (.cn E1 (let E3:=wrap i64 (wrap i64 (cX addr 4)*8); .an (Qn6 (x0.getD E2 0) E3 8 v) (.lv (Q8k (x0.getD E2 0) E3 8 v) λ(x2:Int)=> .cn E1 (.lf (dB x0 E2 x2,true))))) (.cn E1 (.lf (dB x0 E2 v,true))))))
def Q9x m addr size v:=(Q9f m addr size v).m
abbrev Qd m addr size v:=(Q9f m addr size v).p
def Z8i:Q0f:=mT 239 [] true [.one (.ints .u32), .one (.int .u32), .one (.int .i64), .one (.int .u32)] [] (λa r=>Q9f (argL .u32 a 0) (argI a 1) (argI a 2) (argI a 3)) (λX=> .tup [.all 0, .bool (X.2)]) (λX=>[⟨false,25,1, .ints .u32 (X.1)⟩])
theorem Qqo:Q06 pG Z8i:=oT (.cons Q0w (.cons Qoz (.cons Z1z (.nil)))) Tryz.func239 Tryz.call239 [.row 25 1 (.ints .u32)] [] 2
def Zgg(op:Int):Tree (Q9m×Bool):=
.br (op==1) (.lf ({a:=true,b:=true,c:=true,low:=0,D6:=0},true)) (.br (op==2) (.lf ({a:=true,b:=true,c:=true,low:=0,D6:=0},true)) (.br (op==3) (.lf ({a:=true,b:=true,c:=true,low:=0,D6:=0},true)) (.br (op==4) (.lf ({a:=true,b:=true,c:=true,low:=0,D6:=0},true)) (.br (op==5) (.lf ({a:=true,b:=true,c:=true,low:=0,D6:=0},true)) (.br (op==6) (.lf ({a:=true,b:=true,c:=true,low:=0,D6:=0},true)) (.br (op==7) (.lf ({a:=true,b:=true,c:=true,low:=0,D6:=0},true)) (.br (op==8) (.lf ({a:=true,b:=true,c:=true,low:=0,D6:=0},true)) (.br (op==9) (.lf ({a:=true,b:=true,c:=true,low:=0,D6:=0},true)) (.br (op==10) (.lf ({a:=true,b:=true,c:=true,low:=0,D6:=0},true)) (.br (op==11) (.lf ({a:=true,b:=true,c:=true,low:=0,D6:=0},true)) (.br (op==12) (.lf ({a:=true,b:=true,c:=true,low:=0,D6:=0},true)) (.br (op==13) (.lf ({a:=true,b:=true,c:=true,low:=0,D6:=0},true)) (.br (op==16) (.lf ({a:=true,b:=true,c:=false,low:=(-32768),D6:=32767},true)) (.br (op==23) (.lf ({a:=true,b:=true,c:=false,low:=(-32768),D6:=32767},true)) (.br (op==32) (.lf ({a:=true,b:=true,c:=false,low:=(-32768),D6:=32767},true)) (.br (op==33) (.lf ({a:=true,b:=true,c:=false,low:=(-32768),D6:=32767},true)) (.br (op==34) (.lf ({a:=true,b:=true,c:=false,low:=(-32768),D6:=32767},true)) (.br (op==35) (.lf ({a:=true,b:=true,c:=false,low:=(-32768),D6:=32767},true)) (.br (op==36) (.lf ({a:=true,b:=true,c:=false,low:=(-32768),D6:=32767},true)) (.br (op==40) (.lf ({a:=true,b:=true,c:=false,low:=(-32768),D6:=32767},true)) (.br (op==41) (.lf ({a:=true,b:=true,c:=false,low:=(-32768),D6:=32767},true)) (.br (op==42) (.lf ({a:=true,b:=true,c:=false,low:=(-32768),D6:=32767},true)) (.br (op==43) (.lf ({a:=true,b:=true,c:=false,low:=(-32768),D6:=32767},true)) (.br (op==44) (.lf ({a:=true,b:=true,c:=false,low:=(-32768),D6:=32767},true)) (.br (op==45) (.lf ({a:=true,b:=true,c:=false,low:=(-32768),D6:=32767},true)) (.br (op==49) (.lf ({a:=true,b:=true,c:=false,low:=(-32768),D6:=32767},true)) (.br (op==17) (.lf ({a:=true,b:=true,c:=false,low:=0,D6:=65535},true)) (.br (op==18) (.lf ({a:=true,b:=true,c:=false,low:=0,D6:=65535},true)) (.br (op==19) (.lf ({a:=true,b:=true,c:=false,low:=0,D6:=65535},true)) (.br (op==20) (.lf ({a:=true,b:=true,c:=false,low:=0,D6:=31},true)) (.br (op==21) (.lf ({a:=true,b:=true,c:=false,low:=0,D6:=31},true)) (.br (op==22) (.lf ({a:=true,b:=true,c:=false,low:=0,D6:=31},true)) (.br (op==24) (.lf ({a:=true,b:=false,c:=false,low:=0,D6:=65535},true)) (.br (op==48) (.lf ({a:=true,b:=false,c:=false,low:=(-32768),D6:=32767},true)) (.br (op==58) (.lf ({a:=true,b:=false,c:=false,low:=0,D6:=7},true)) (.br (op==59) (.lf ({a:=true,b:=false,c:=false,low:=0,D6:=7},true)) (.br (op==60) (.lf ({a:=true,b:=false,c:=false,low:=0,D6:=11},true)) (.br (op==61) (.lf ({a:=true,b:=false,c:=false,low:=0,D6:=11},true)) (.br (op==56) (.lf ({a:=false,b:=false,c:=false,low:=0,D6:=0},true)) (.br (op==57) (.lf ({a:=false,b:=false,c:=false,low:=0,D6:=0},true)) (.br (op==62) (.lf ({a:=false,b:=false,c:=false,low:=0,D6:=0},true)) (.br (op==63) (.lf ({a:=false,b:=false,c:=false,low:=0,D6:=0},true)) (.br (op==64) (.lf ({a:=false,b:=false,c:=false,low:=0,D6:=0},true)) (.lf ({a:=false,b:=false,c:=false,low:=0,D6:=0},false)))))))))))))))))))))))))))))))))))))))))))))
def Z2t op:=(Zgg op).m
def yA:Q0f:=mS 234 [] true [.one (.int .i64)] [] (λa r=>Zgg (argI a 0)) (λX=> .tup [.agg (Q9m.cells (X.1)), .bool (X.2)]) (λX=>[])
theorem Za1:Q06 pG yA:=oS (.nil) Tryz.func234 Tryz.call234 [] [] 2
def Q84(x n:Int):Tree Int:=
.br (decide (n<1)) (.lf 0) (.br (decide (n>=32)) (.lf x) (let E1:=decide (0<=wrap u64 (wrap i64 (32-n))); .cn E1 (.cn E1 (.lf (wrap u32 (ishr i32 (wrap i32 (ishl u32 x (wrap u64 (wrap i64 (32-n))))) (wrap u64 (wrap i64 (32-n)))))))))
def Q2h x n:=(Q84 x n).m
abbrev Qdg x n:=(Q84 x n).p
def Qy7:Q0f:=mT 235 [] true [.one (.int .u32), .one (.int .i64)] [] (λa r=>Q84 (argI a 0) (argI a 1)) (λX=> .int .u32 X) (λX=>[])
theorem Qm:Q06 pG Qy7:=oT (.nil) Tryz.func235 Tryz.call235 [] [] 2
def Qgh(r:Int)(used:Bool):Tree Bool:=
.br used (.br (decide (r>=0)) (.lf (decide (r<=15))) (.lf false)) (.lf (r==0))
def Qai r used:=(Qgh r used).m
def Z97:Q0f:=mS 277 [] true [.one (.int .i64), .one (.bool)] [] (λa r=>Qgh (argI a 0) (argB a 1)) (λX=> .bool X) (λX=>[])
theorem Z6l:Q06 pG Z97:=oS (.nil) Tryz.func277 Tryz.call277 [] [] 2
def Qkm(i:Q0o):Tree Bool:=
.lv (Z2t i.Op) λ(x0:Q9m×Bool)=> .br x0.2 (.lv (Qai i.A x0.1.a) λ(x1:Bool)=> .br x1 (.lv (Qai i.B x0.1.b) λ(x2:Bool)=> .br x2 (.lv (Qai i.C x0.1.c) λ(x3:Bool)=> .br x3 (.br (decide (i.Imm>=x0.1.low)) (.lf (decide (i.Imm<=x0.1.D6))) (.lf false)) (.lf false)) (.lf false)) (.lf false)) (.lf false)
def Qhj i:=(Qkm i).m
def Zkh:Q0f:=mS 236 [] true [.agg Q0o.sig] [] (λa r=>Qkm (Q0o.of (aC a 0))) (λX=> .bool X) (λX=>[])
theorem Zjd:Q06 pG Zkh:=oS (.cons Za1 (.cons Z6l (.nil))) Tryz.func236 Tryz.call236 [] [] 2
def Q8b(w:Int):Tree (Q0o×Bool):=
.an (Q5l w 24 8) (.lv (Q38 w 24 8) λ(x0:Int)=> .an (Q5l w 20 4) (.lv (Q38 w 20 4) λ(x1:Int)=> .an (Q5l w 16 4) (.lv (Q38 w 16 4) λ(x2:Int)=> .lv (Z2t (wrap i64 x0)) λ(x3:Q9m×Bool)=>let E1:=({Op:=0,A:=0,B:=0,C:=0,Imm:=0}:Q0o); .br (!x3.2) (.lf (E1,false)) (.an (Q5l w 0 16) (.lv (Q38 w 0 16) λ(x4:Int)=> .br x3.1.c (let E2:=({Op:=wrap i64 x0,A:=wrap i64 x1,B:=wrap i64 x2,C:=wrap i64 x4,Imm:=0}:Q0o); .lv (Qhj E2) λ(x5:Bool)=> .br (!x5) (.lf (E1,false)) (.lf (E2,true))) (.br (decide (x3.1.low<0)) (.an (Qdg x4 16) (.lv (Q2h x4 16) λ(x6:Int)=>let E3:=({Op:=wrap i64 x0,A:=wrap i64 x1,B:=wrap i64 x2,C:=0,Imm:=wrap i32 x6}:Q0o); .lv (Qhj E3) λ(x7:Bool)=> .br (!x7) (.lf (E1,false)) (.lf (E3,true)))) (let E4:=({Op:=wrap i64 x0,A:=wrap i64 x1,B:=wrap i64 x2,C:=0,Imm:=wrap i32 x4}:Q0o); .lv (Qhj E4) λ(x8:Bool)=> .br (!x8) (.lf (E1,false)) (.lf (E4,true)))))))))
def Qiw w:=(Q8b w).m
abbrev Qmc w:=(Q8b w).p
def Zgk:Q0f:=mT 180 [] true [.one (.int .u32)] [] (λa r=>Q8b (argI a 0)) (λX=> .tup [.agg (Q0o.cells (X.1)), .bool (X.2)]) (λX=>[])
theorem Zbu:Q06 pG Zgk:=oT (.cons Qnp (.cons Za1 (.cons Qm (.cons Zjd (.nil))))) Tryz.func180 Tryz.call180 [] [] 2
def Qb8(a b:Int):Tree (Int×Int):=
.br (b==0) (.lf (4294967295,a)) (let T1:Tree ((Int×Int)):= .cn (decide (wrap i32 b≠0)) (.cn (decide (wrap i32 b≠0)) (.lf (wrap u32 (wrap i32 (eO (wrap i32 a) (wrap i32 b))),wrap u32 (cX (wrap i32 a) (wrap i32 b))))); .br (a==2147483648) (.br (b==4294967295) (.lf (a,0)) T1) T1)
def Qdi a b:=(Qb8 a b).m
abbrev Qjv a b:=(Qb8 a b).p
def Zbo:Q0f:=mT 279 [] true [.one (.int .u32), .one (.int .u32)] [] (λa r=>Qb8 (argI a 0) (argI a 1)) (λX=> .tup [.int .u32 (X.1), .int .u32 (X.2)]) (λX=>[])
theorem Z84:Q06 pG Zbo:=oT (.nil) Tryz.func279 Tryz.call279 [] [] 2
def Z5l(b:Bool):Tree Int:=
.br b (.lf 1) (.lf 0)
def Qr4 b:=(Z5l b).m
def Zn0:Q0f:=mS 280 [] true [.one (.bool)] [] (λa r=>Z5l (argB a 0)) (λX=> .int .u32 X) (λX=>[])
theorem Zhl:Q06 pG Zn0:=oS (.nil) Tryz.func280 Tryz.call280 [] [] 2
def Qr2(op a b:Int):Tree (Int×Bool):=
.br (op==2) (.lf (wrap u32 (a+wrap u32 (0-b)),true)) (.br (op==1) (.lf (wrap u32 (a+b),true)) (.br (op==16) (.lf (wrap u32 (a+b),true)) (.br (op==3) (.lf (iand u32 a b,true)) (.br (op==17) (.lf (iand u32 a b,true)) (.br (op==4) (.lf (ior u32 a b,true)) (.br (op==18) (.lf (ior u32 a b,true)) (.br (op==5) (.lf (ixor u32 a b,true)) (.br (op==19) (.lf (ixor u32 a b,true)) (.br (op==6) (.lf (ishl u32 a (iand u32 b 31),true)) (.br (op==20) (.lf (ishl u32 a (iand u32 b 31),true)) (.br (op==7) (.lf (ishr u32 a (iand u32 b 31),true)) (.br (op==21) (.lf (ishr u32 a (iand u32 b 31),true)) (let E1:=(wrap u32 (ishr i32 (wrap i32 a) (iand u32 b 31)),true); .br (op==8) (.lf E1) (.br (op==22) (.lf E1) (.br (op==9) (.lf (wrap u32 (a*b),true)) (.br (op==10) (.an (Qjv a b) (.lv (Qdi a b) λ(x0:Int×Int)=> .lf (x0.1,true))) (.br (op==11) (.an (Qjv a b) (.lv (Qdi a b) λ(x1:Int×Int)=> .lf (x1.2,true))) (.br (op==12) (.lv (Qr4 (decide (wrap i32 a<wrap i32 b))) λ(x2:Int)=> .lf (x2,true)) (.br (op==23) (.lv (Qr4 (decide (wrap i32 a<wrap i32 b))) λ(x3:Int)=> .lf (x3,true)) (.br (op==13) (.lv (Qr4 (decide (a<b))) λ(x4:Int)=> .lf (x4,true)) (.lf (0,false))))))))))))))))))))))
def Q4i op a b:=(Qr2 op a b).m
abbrev Quj op a b:=(Qr2 op a b).p
def vA:Q0f:=mT 243 [] true [.one (.int .i64), .one (.int .u32), .one (.int .u32)] [] (λa r=>Qr2 (argI a 0) (argI a 1) (argI a 2)) (λX=> .tup [.int .u32 (X.1), .bool (X.2)]) (λX=>[])
theorem Zpl:Q06 pG vA:=oT (.cons Z84 (.cons Zhl (.nil))) Tryz.func243 Tryz.call243 [] [] 2
end
noncomputable section
def Qru(status from0 to:Int):Tree Int:=
.br (iand u32 status from0 !=0) (.lf (ior u32 status to)) (.lf (Qir u32 status to))
def Q9u status from0 to:=(Qru status from0 to).m
def Zqp:Q0f:=mS 230 [] true [.one (.int .u32), .one (.int .u32), .one (.int .u32)] [] (λa r=>Qru (argI a 0) (argI a 1) (argI a 2)) (λX=> .int .u32 X) (λX=>[])
theorem Z74:Q06 pG Zqp:=oS (.nil) Tryz.func230 Tryz.call230 [] [] 2
def Qni(c:Q05)(cause bad:Int):Tree Q05:=
.lv (Q9u c.B8.a0 1 8) λ(x0:Int)=> .lv (Q9u x0 2 16) λ(x1:Int)=> .lf ({X:=c.X,Pc:=c.B8.a1,B8:={a0:=Qir u32 (ior u32 x1 1) 2,a1:=c.B8.a1,a2:=c.Pc,a3:=wrap u32 cause,a4:=bad,a5:=c.B8.a5,a6:=c.B8.a6,a7:=c.B8.a7}})
def Q4u c cause bad:=(Qni c cause bad).m
def Zq9:Q0f:=mS 178 [] true [.agg Q05.sig, .one (.int .i64), .one (.int .u32)] [] (λa r=>Qni (Q05.of (aC a 0)) (argI a 1) (argI a 2)) (λX=> .agg (Q05.cells X)) (λX=>[])
theorem Qke:Q06 pG Zq9:=oS (.cons Z74 (.nil)) Tryz.func178 Tryz.call178 [] [] 2
def Qw8(access:Int):Tree (Int×Bool):=
.br (access==1) (.lf (4,true)) (.br (access==2) (.lf (5,true)) (.br (access==3) (.lf (6,true)) (.lf (5,false))))
def Qtv access:=(Qw8 access).m
def Zd8:Q0f:=mS 272 [] true [.one (.int .i64)] [] (λa r=>Qw8 (argI a 0)) (λX=> .tup [.int .i64 (X.1), .bool (X.2)]) (λX=>[])
theorem Z7x:Q06 pG Zd8:=oS (.nil) Tryz.func272 Tryz.call272 [] [] 2
def Z01(c:Q05):Tree Bool:=
.lf (iand u32 c.B8.a0 (1:Int) !=(0:Int))
def Qb c:=(Z01 c).m
def Zhp:Q0f:=mS 182 [] true [.agg Q05.sig] [] (λa r=>Z01 (Q05.of (aC a 0))) (λX=> .bool X) (λX=>[])
theorem Qwa:Q06 pG Zhp:=oS (.nil) Tryz.func182 Tryz.call182 [] [] 2
def Qoy(access:Int):Tree (Int×Bool):=
.br (access==1) (.lf (4,true)) (.br (access==2) (.lf (5,true)) (.br (access==3) (.lf (6,true)) (.lf (5,false))))
def Qmg access:=(Qoy access).m
def Z15:Q0f:=mS 306 [] true [.one (.int .i64)] [] (λa r=>Qoy (argI a 0)) (λX=> .tup [.int .i64 (X.1), .bool (X.2)]) (λX=>[])
theorem Qxz:Q06 pG Z15:=oS (.nil) Tryz.func306 Tryz.call306 [] [] 2
def Qjs(m:List Int)(frame:Int):Tree Bool:=
.lv (Q1 m) λ(x0:Int)=> .lf (decide (wrap u64 frame<wrap u64 x0))
def Qbk m frame:=(Qjs m frame).m
def Z5d:Q0f:=mS 307 [] true [.one (.ints .u32), .one (.int .u32)] [] (λa r=>Qjs (argL .u32 a 0) (argI a 1)) (λX=> .bool X) (λX=>[])
theorem Z1y:Q06 pG Z5d:=oS (.cons Q4n (.nil)) Tryz.func307 Tryz.call307 [] [] 2
def Q72(m:List Int)(addr size:Int):Tree (Int×Bool):=
.an (Qba m addr size) (.lv (Qip m addr size) λ(x0:Bool)=> .br (!x0) (.lf (0,false)) (.cn (bS 1 1&&bT 0 1&&decide (0<=wrap u32 (eO addr 4)/\wrap u32 (eO addr 4)<(m.length:Int))) (let E1:=cZ (wrap u32 (eO addr 4)); .br (size==1) (let E2:=wrap i64 (wrap i64 (cX addr 4)*8); .an (Q5l (m.getD E1 0) E2 8) (.lv (Q38 (m.getD E1 0) E2 8) λ(x1:Int)=> .lf (x1,true))) (.lf (m.getD E1 0,true)))))
def Q59 m addr size:=(Q72 m addr size).m
abbrev Q3h m addr size:=(Q72 m addr size).p
def Zes:Q0f:=mT 232 [] true [.one (.ints .u32), .one (.int .u32), .one (.int .i64)] [] (λa r=>Q72 (argL .u32 a 0) (argI a 1) (argI a 2)) (λX=> .tup [.int .u32 (X.1), .bool (X.2)]) (λX=>[])
theorem Qch:Q06 pG Zes:=oT (.cons Qoz (.cons Qnp (.nil))) Tryz.func232 Tryz.call232 [] [] 2
def Qp3(pte access:Int):Tree Bool:=
.br (iand u32 pte (1:Int)==(0:Int)) (.lf false) (.br (access==3) (.lf (iand u32 pte (2:Int) !=(0:Int))) (.br (access==1) (.lf (iand u32 pte (4:Int) !=(0:Int))) (.lf true)))
def Qc8 pte access:=(Qp3 pte access).m
def Z20:Q0f:=mS 308 [] true [.one (.int .u32), .one (.int .i64)] [] (λa r=>Qp3 (argI a 0) (argI a 1)) (λX=> .bool X) (λX=>[])
theorem Qyi:Q06 pG Z20:=oS (.nil) Tryz.func308 Tryz.call308 [] [] 2
def Q91(pte:Int):Tree Int:=
.an (Q5l pte 8 8) (.lv (Q38 pte 8 8) λ(x0:Int)=> .lf x0)
def Qgp pte:=(Q91 pte).m
abbrev Qfc pte:=(Q91 pte).p
def Z10:Q0f:=mT 309 [] true [.one (.int .u32)] [] (λa r=>Q91 (argI a 0)) (λX=> .int .u32 X) (λX=>[])
theorem Qy4:Q06 pG Z10:=oT (.cons Qnp (.nil)) Tryz.func309 Tryz.call309 [] [] 2
def Qb4(m:List Int)(root va access:Int):Tree Q1g:=
.lv (Qmg access) λ(x0:Int×Bool)=>let E1:=({Addr:=0,F2:=0,F0:=x0.1}:Q1g); .br (!x0.2) (.lf (E1)) (.br (decide (va>=4096)) (.lf (E1)) (.lv (Qbk m root) λ(x1:Bool)=> .br (!x1) (.lf (E1)) (let E2:=wrap u32 (root*128)+wrap u32 (4*wrap u32 (eO va 128)); .an (Q3h m (wrap u32 E2) 4) (.lv (Q59 m (wrap u32 E2) 4) λ(x2:Int×Bool)=> .br (!x2.2) (.lf (E1)) (.lv (Qc8 x2.1 access) λ(x3:Bool)=> .br (!x3) (.lf (E1)) (.an (Qfc x2.1) (.lv (Qgp x2.1) λ(x4:Int)=> .lv (Qbk m x4) λ(x5:Bool)=> .br (!x5) (.lf (E1)) (.an (Qfc x2.1) (.lv (Qgp x2.1) λ(x6:Int)=> .lf ({Addr:=wrap u32 (wrap u32 (x6*128)+cX va 128),F2:=wrap u32 E2,F0:=0}))))))))))
def Qkn m root va access:=(Qb4 m root va access).m
abbrev Qkk m root va access:=(Qb4 m root va access).p
def Zd5:Q0f:=mT 273 [] true [.one (.ints .u32), .one (.int .u32), .one (.int .u32), .one (.int .i64)] [] (λa r=>Qb4 (argL .u32 a 0) (argI a 1) (argI a 2) (argI a 3)) (λX=> .agg (Q1g.cells X)) (λX=>[])
theorem Z7f:Q06 pG Zd5:=oT (.cons Qxz (.cons Z1y (.cons Qch (.cons Qyi (.cons Qy4 (.nil)))))) Tryz.func273 Tryz.call273 [] [] 2
def Q9d(m:List Int)(entry access:Int):Tree (List Int):=
.an (Q3h m entry 4) (.lv (Q59 m entry 4) λ(x0:Int×Bool)=> .br (!x0.2) (.an (Q09 m) (.lv (Q04 m) λ(x1:List Int)=> .lf x1)) (.br (access==3) (.an (Qd m entry 4 (ior u32 (ior u32 x0.1 8) 16)) (.lv (Q9x m entry 4 (ior u32 (ior u32 x0.1 8) 16)) λ(x2:List Int×Bool)=> .lf x2.1)) (.an (Qd m entry 4 (ior u32 x0.1 8)) (.lv (Q9x m entry 4 (ior u32 x0.1 8)) λ(x3:List Int×Bool)=> .lf x3.1))))
def Qe7 m entry access:=(Q9d m entry access).m
abbrev Qhs m entry access:=(Q9d m entry access).p
def Z76:Q0f:=mT 274 [] true [.one (.ints .u32), .one (.int .u32), .one (.int .i64)] [] (λa r=>Q9d (argL .u32 a 0) (argI a 1) (argI a 2)) (λX=> .all 0) (λX=>[⟨false,25,1, .ints .u32 X⟩])
theorem Z4e:Q06 pG Z76:=oT (.cons Qch (.cons Q0w (.cons Qqo (.nil)))) Tryz.func274 Tryz.call274 [.row 25 1 (.ints .u32)] [] 2
def Q73(c:Q05)(m:List Int)(va size access:Int):Tree (Int×(List Int)×Int):=
.lv (Qtv access) λ(x0:Int×Bool)=>let T3:Tree ((Int×(List Int)×Int)):= .an (Q09 m) (.lv (Q04 m) λ(x1:List Int)=> .lf (0,x1,5)); .br (!x0.2) T3 (let T1:Tree ((Int×(List Int)×Int)):= .cn (decide (wrap u32 size≠0)) (.br (cX va (wrap u32 size) !=0) (.an (Q09 m) (.lv (Q04 m) λ(x3:List Int)=> .lf (0,x3,3))) (.lv (Qb c) λ(x4:Bool)=>let T2:Tree ((Int×(List Int)×Int)):= .an (Q3h m va size) (.lv (Q59 m va size) λ(x8:Int×Bool)=> .br (!x8.2) (.an (Q09 m) (.lv (Q04 m) λ(x9:List Int)=> .lf (0,x9,x0.1))) (.an (Q09 m) (.lv (Q04 m) λ(x10:List Int)=> .lf (va,x10,0)))); .br (!x4) (.br (iand u32 c.B8.a0 (4:Int) !=(0:Int)) (.an (Qkk m c.B8.a6 va access) (.lv (Qkn m c.B8.a6 va access) λ(x5:Q1g)=> .br (x5.F0 !=0) (.an (Q09 m) (.lv (Q04 m) λ(x6:List Int)=> .lf (0,x6,x5.F0))) (.an (Qhs m x5.F2 access) (.lv (Qe7 m x5.F2 access) λ(x7:List Int)=> .lf (x5.Addr,x7,0))))) T2) T2)); .br (size !=1) (.br (size !=4) T3 T1) T1)
def Q28 c m va size access:=(Q73 c m va size access).m
abbrev Qas c m va size access:=(Q73 c m va size access).p
def Zbl:Q0f:=mT 231 [] true [.agg Q05.sig, .one (.ints .u32), .one (.int .u32), .one (.int .i64), .one (.int .i64)] [] (λa r=>Q73 (Q05.of (aC a 0)) (argL .u32 a 1) (argI a 2) (argI a 3) (argI a 4)) (λX=> .tup [.int .u32 (X.1), .all 0, .int .i64 (X.2.2)]) (λX=>[⟨false,25,1, .ints .u32 (X.2.1)⟩])
theorem Qmd:Q06 pG Zbl:=oT (.cons Z7x (.cons Q0w (.cons Qwa (.cons Z7f (.cons Z4e (.cons Qch (.nil))))))) Tryz.func231 Tryz.call231 [.row 25 1 (.ints .u32)] [] 2
def Qdo(c:Q05)(m:List Int):Tree (Int×(List Int)×Int):=
.an (Qas c m c.Pc 4 1) (.lv (Q28 c m c.Pc 4 1) λ(x0:Int×List Int×Int)=> .br (x0.2.2 !=0) (.lf (0,x0.2.1,x0.2.2)) (.an (Q3h x0.2.1 x0.1 4) (.lv (Q59 x0.2.1 x0.1 4) λ(x1:Int×Bool)=> .lf (x1.1,x0.2.1,0))))
def Qqu c m:=(Qdo c m).m
abbrev Qnq c m:=(Qdo c m).p
def Zlv:Q0f:=mT 179 [] true [.agg Q05.sig, .one (.ints .u32)] [] (λa r=>Qdo (Q05.of (aC a 0)) (argL .u32 a 1)) (λX=> .tup [.int .u32 (X.1), .all 0, .int .i64 (X.2.2)]) (λX=>[⟨false,25,1, .ints .u32 (X.2.1)⟩])
theorem Zgn:Q06 pG Zlv:=oT (.cons Qmd (.cons Qch (.nil))) Tryz.func179 Tryz.call179 [.row 25 1 (.ints .u32)] [] 2
def Qpf(op:Int):Tree Bool:=
.br (op==57) (.lf true) (.br (op==58) (.lf true) (.br (op==59) (.lf true) (.br (op==60) (.lf true) (.br (op==61) (.lf true) (.br (op==62) (.lf true) (.br (op==63) (.lf true) (.br (op==64) (.lf true) (.lf false))))))))
def Q95 op:=(Qpf op).m
def Z21:Q0f:=mS 181 [] true [.one (.int .i64)] [] (λa r=>Qpf (argI a 0)) (λX=> .bool X) (λX=>[])
theorem Qz3:Q06 pG Z21:=oS (.nil) Tryz.func181 Tryz.call181 [] [] 2
def Qu9(op:Int):Tree Int:=
.br (op==32) (.lf 4) (.br (op==35) (.lf 4) (.lf 1))
def Qhk op:=(Qu9 op).m
def Zn5:Q0f:=mS 237 [] true [.one (.int .i64)] [] (λa r=>Qu9 (argI a 0)) (λX=> .int .i64 X) (λX=>[])
theorem Z0r:Q06 pG Zn5:=oS (.nil) Tryz.func237 Tryz.call237 [] [] 2
def Qef(c:Q05)(register v:Int):Tree Q05:=
.br (register !=0) (.cn (bT 0 1&&decide (0<=register/\register<(↑16:Int))) (.lf ({X:=A16.of 0 (dB (A16.l c.X) register.toNat v),Pc:=c.Pc,B8:=c.B8}))) (.lf c)
def Qc0 c register v:=(Qef c register v).m
abbrev Q8r c register v:=(Qef c register v).p
def qB:Q0f:=mT 238 [] true [.agg Q05.sig, .one (.int .i64), .one (.int .u32)] [] (λa r=>Qef (Q05.of (aC a 0)) (argI a 1) (argI a 2)) (λX=> .agg (Q05.cells X)) (λX=>[])
theorem Zb5:Q06 pG qB:=oT (.nil) Tryz.func238 Tryz.call238 [] [] 2
def Qfz(c:Q05)(m:List Int)(i:Q0o):Tree (Q05×(List Int)):=
.cn (bT 0 1&&decide (0<=i.B/\i.B<(↑16:Int))) (.lv (Qhk i.Op) λ(x0:Int)=>let E1:=wrap u32 (aK (A16.l c.X) i.B.toNat 0+wrap u32 i.Imm); .an (Qas c m E1 x0 2) (.lv (Q28 c m E1 x0 2) λ(x1:Int×List Int×Int)=> .br (x1.2.2 !=0) (.lv (Q4u c x1.2.2 E1) λ(x2:Q05)=> .lf (x2,x1.2.1)) (.lv (Qhk i.Op) λ(x3:Int)=> .an (Q3h x1.2.1 x1.1 x3) (.lv (Q59 x1.2.1 x1.1 x3) λ(x4:Int×Bool)=> .br (i.Op==33) (.an (Qdg x4.1 8) (.lv (Q2h x4.1 8) λ(x5:Int)=> .an (Q8r c i.A x5) (.lv (Qc0 c i.A x5) λ(x6:Q05)=> .lf ({X:=x6.X,Pc:=wrap u32 (x6.Pc+4),B8:=x6.B8},x1.2.1)))) (.an (Q8r c i.A x4.1) (.lv (Qc0 c i.A x4.1) λ(x7:Q05)=> .lf ({X:=x7.X,Pc:=wrap u32 (x7.Pc+4),B8:=x7.B8},x1.2.1)))))))
def Q7 c m i:=(Qfz c m i).m
abbrev Z08 c m i:=(Qfz c m i).p
def Zqu:Q0f:=mT 183 [] true [.agg Q05.sig, .one (.ints .u32), .agg Q0o.sig] [] (λa r=>Qfz (Q05.of (aC a 0)) (argL .u32 a 1) (Q0o.of (aC a 2))) (λX=> .tup [.agg (Q05.cells (X.1)), .all 0]) (λX=>[⟨false,25,1, .ints .u32 (X.2)⟩])
theorem Zkm:Q06 pG Zqu:=oT (.cons Qmd (.cons Z0r (.cons Qke (.cons Qch (.cons Qm (.cons Zb5 (.nil))))))) Tryz.func183 Tryz.call183 [.row 25 1 (.ints .u32)] [] 2
def Qdh(c:Q05)(m:List Int)(i:Q0o):Tree (Q05×(List Int)):=
.cn (bT 0 1&&decide (0<=i.B/\i.B<(↑16:Int))) (.lv (Qhk i.Op) λ(x0:Int)=>let E1:=wrap u32 (aK (A16.l c.X) i.B.toNat 0+wrap u32 i.Imm); .an (Qas c m E1 x0 3) (.lv (Q28 c m E1 x0 3) λ(x1:Int×List Int×Int)=> .br (x1.2.2 !=0) (.lv (Q4u c x1.2.2 E1) λ(x2:Q05)=> .lf (x2,x1.2.1)) (.lv (Qhk i.Op) λ(x3:Int)=> .cn (bT 0 1&&decide (0<=i.A/\i.A<(↑16:Int))) (let E2:=aK (A16.l c.X) i.A.toNat 0; .an (Qd x1.2.1 x1.1 x3 E2) (.lv (Q9x x1.2.1 x1.1 x3 E2) λ(x4:List Int×Bool)=> .lf ({X:=c.X,Pc:=wrap u32 (c.Pc+4),B8:=c.B8},x4.1))))))
def Q92 c m i:=(Qdh c m i).m
abbrev Qva c m i:=(Qdh c m i).p
def Zkt:Q0f:=mT 184 [] true [.agg Q05.sig, .one (.ints .u32), .agg Q0o.sig] [] (λa r=>Qdh (Q05.of (aC a 0)) (argL .u32 a 1) (Q0o.of (aC a 2))) (λX=> .tup [.agg (Q05.cells (X.1)), .all 0]) (λX=>[⟨false,25,1, .ints .u32 (X.2)⟩])
theorem Zjj:Q06 pG Zkt:=oT (.cons Qmd (.cons Z0r (.cons Qke (.cons Qqo (.nil))))) Tryz.func184 Tryz.call184 [.row 25 1 (.ints .u32)] [] 2
def Z73(op a b:Int):Tree Bool:=
.br (op==40) (.lf (a==b)) (.br (op==41) (.lf (a !=b)) (.br (op==42) (.lf (decide (wrap i32 a<wrap i32 b))) (.br (op==43) (.lf (decide (wrap i32 a>=wrap i32 b))) (.br (op==44) (.lf (decide (a<b))) (.lf (decide (a>=b)))))))
def Zio op a b:=(Z73 op a b).m
def Zmu:Q0f:=mS 240 [] true [.one (.int .i64), .one (.int .u32), .one (.int .u32)] [] (λa r=>Z73 (argI a 0) (argI a 1) (argI a 2)) (λX=> .bool X) (λX=>[])
theorem Zhe:Q06 pG Zmu:=oS (.nil) Tryz.func240 Tryz.call240 [] [] 2
def Qhb(c:Q05):Tree Q05:=
.lv (Q9u c.B8.a0 8 1) λ(x0:Int)=> .lv (Q9u x0 16 2) λ(x1:Int)=> .lf ({X:=c.X,Pc:=c.B8.a2,B8:={a0:=x1,a1:=c.B8.a1,a2:=c.B8.a2,a3:=c.B8.a3,a4:=c.B8.a4,a5:=c.B8.a5,a6:=c.B8.a6,a7:=c.B8.a7}})
def Qg8 c:=(Qhb c).m
def Zje:Q0f:=mS 241 [] true [.agg Q05.sig] [] (λa r=>Qhb (Q05.of (aC a 0))) (λX=> .agg (Q05.cells X)) (λX=>[])
theorem Zel:Q06 pG Zje:=oS (.cons Z74 (.nil)) Tryz.func241 Tryz.call241 [] [] 2
def Qds(c:Q05)(csr v:Int):Tree Q05:=
let E4:=bT 0 1&&decide (0<=csr/\csr<(↑8:Int));let T2:Tree (Q05):= .cn E4 (.lf ({X:=c.X,Pc:=c.Pc,B8:=A8.of 0 (dB (A8.l c.B8) csr.toNat (iand u32 v 31))})); .br (csr==0) T2 (.br (csr==7) T2 (.br (csr==6) (.cn E4 (.lf ({X:=c.X,Pc:=c.Pc,B8:=A8.of 0 (dB (A8.l c.B8) csr.toNat (iand u32 v 255))}))) (let T3:Tree (Q05):= .cn E4 (.lf ({X:=c.X,Pc:=c.Pc,B8:=A8.of 0 (dB (A8.l c.B8) csr.toNat (Qir u32 v 3))})); .br (csr==1) T3 (.br (csr==2) T3 (let T1:Tree (Q05):= .cn E4 (.lf ({X:=c.X,Pc:=c.Pc,B8:=A8.of 0 (dB (A8.l c.B8) csr.toNat v)})); .br (csr==3) T1 (.br (csr==4) T1 (.br (csr==5) T1 (.lf c))))))))
def Zhz c csr v:=(Qds c csr v).m
abbrev Qx1 c csr v:=(Qds c csr v).p
def Zmb:Q0f:=mT 242 [] true [.agg Q05.sig, .one (.int .i64), .one (.int .u32)] [] (λa r=>Qds (Q05.of (aC a 0)) (argI a 1) (argI a 2)) (λX=> .agg (Q05.cells X)) (λX=>[])
theorem Zhn:Q06 pG Zmb:=oT (.nil) Tryz.func242 Tryz.call242 [] [] 2
def Q5g(c:Q05)(i:Q0o):Tree (Q05×Q16):=
.cn (bT 0 1&&decide (0<=i.A/\i.A<(↑16:Int))) (.cn (bT 0 1&&decide (0<=i.B/\i.B<(↑16:Int))) (.br (i.Op==24) (.an (Q8r c i.A (ishl u32 (wrap u32 i.Imm) 16)) (.lv (Qc0 c i.A (ishl u32 (wrap u32 i.Imm) 16)) λ(x0:Q05)=> .lf ({X:=x0.X,Pc:=wrap u32 (c.Pc+4),B8:=x0.B8},{B7:=0,D1:=0,D9:=0,Value:=0}))) (let E2:=({X:=c.X,Pc:=wrap u32 (c.Pc+4),B8:=c.B8}:Q05);let E3:=aK (A16.l c.X) i.B.toNat 0;let E4:=aK (A16.l c.X) i.A.toNat 0;let T1:Tree ((Q05×Q16)):= .lv (Zio i.Op E4 E3) λ(x1:Bool)=> .br x1 (.lf ({X:=c.X,Pc:=wrap u32 (c.Pc+wrap u32 (4*wrap u32 i.Imm)),B8:=c.B8},{B7:=0,D1:=0,D9:=0,Value:=0})) (.lf (E2,{B7:=0,D1:=0,D9:=0,Value:=0})); .br (i.Op==40) T1 (.br (i.Op==41) T1 (.br (i.Op==42) T1 (.br (i.Op==43) T1 (.br (i.Op==44) T1 (.br (i.Op==45) T1 (.br (i.Op==48) (.an (Q8r c i.A (wrap u32 (c.Pc+4))) (.lv (Qc0 c i.A (wrap u32 (c.Pc+4))) λ(x7:Q05)=> .lf ({X:=x7.X,Pc:=wrap u32 (x7.Pc+wrap u32 (4*wrap u32 i.Imm)),B8:=x7.B8},{B7:=0,D1:=0,D9:=0,Value:=0}))) (.br (i.Op==49) (.an (Q8r c i.A (wrap u32 (c.Pc+4))) (.lv (Qc0 c i.A (wrap u32 (c.Pc+4))) λ(x8:Q05)=> .lf ({X:=x8.X,Pc:=wrap u32 (aK (A16.l c.X) i.B.toNat 0+wrap u32 i.Imm),B8:=x8.B8},{B7:=0,D1:=0,D9:=0,Value:=0}))) (.br (i.Op==56) (.lv (Q4u c 7 0) λ(x9:Q05)=> .lf (x9,{B7:=0,D1:=0,D9:=0,Value:=0})) (.br (i.Op==57) (.lv (Qg8 c) λ(x10:Q05)=> .lf (x10,{B7:=0,D1:=0,D9:=0,Value:=0})) (.br (i.Op==58) (.cn (bT 0 1&&decide (0<=i.Imm/\i.Imm<(↑8:Int))) (let E5:=aK (A8.l c.B8) i.Imm.toNat 0; .an (Q8r c i.A E5) (.lv (Qc0 c i.A E5) λ(x11:Q05)=> .lf ({X:=x11.X,Pc:=wrap u32 (c.Pc+4),B8:=x11.B8},{B7:=0,D1:=0,D9:=0,Value:=0})))) (.br (i.Op==59) (.an (Qx1 c (wrap i64 i.Imm) E4) (.lv (Zhz c (wrap i64 i.Imm) E4) λ(x12:Q05)=> .lf ({X:=x12.X,Pc:=wrap u32 (c.Pc+4),B8:=x12.B8},{B7:=0,D1:=0,D9:=0,Value:=0}))) (.br (i.Op==60) (.lf (E2,{B7:=1,D1:=wrap i64 i.Imm,D9:=i.A,Value:=0})) (.br (i.Op==61) (.lf (E2,{B7:=2,D1:=wrap i64 i.Imm,D9:=0,Value:=aK (A16.l c.X) i.A.toNat 0})) (.br (i.Op==62) (.lf (E2,{B7:=3,D1:=0,D9:=0,Value:=0})) (.br (i.Op==63) (.lf (E2,{B7:=5,D1:=0,D9:=0,Value:=0})) (.br (i.Op==64) (.lf (E2,{B7:=4,D1:=0,D9:=0,Value:=0})) (.cn (bT 0 1&&decide (0<=i.C/\i.C<(↑16:Int))) (.br (decide (i.Op>=16)) (.an (Quj i.Op E3 (wrap u32 i.Imm)) (.lv (Q4i i.Op E3 (wrap u32 i.Imm)) λ(x13:Int×Bool)=> .an (Q8r c i.A x13.1) (.lv (Qc0 c i.A x13.1) λ(x14:Q05)=> .lf ({X:=x14.X,Pc:=wrap u32 (c.Pc+4),B8:=x14.B8},{B7:=0,D1:=0,D9:=0,Value:=0})))) (let E6:=aK (A16.l c.X) i.C.toNat 0; .an (Quj i.Op E3 E6) (.lv (Q4i i.Op E3 E6) λ(x15:Int×Bool)=> .an (Q8r c i.A x15.1) (.lv (Qc0 c i.A x15.1) λ(x16:Q05)=> .lf ({X:=x16.X,Pc:=wrap u32 (c.Pc+4),B8:=x16.B8},{B7:=0,D1:=0,D9:=0,Value:=0})))))))))))))))))))))))))
def Qog c i:=(Q5g c i).m
abbrev Qql c i:=(Q5g c i).p
def Zc6:Q0f:=mT 185 [] true [.agg Q05.sig, .agg Q0o.sig] [] (λa r=>Q5g (Q05.of (aC a 0)) (Q0o.of (aC a 1))) (λX=> .tup [.agg (Q05.cells (X.1)), .agg (Q16.cells (X.2))]) (λX=>[])
theorem Z7r:Q06 pG Zc6:=oT (.cons Zb5 (.cons Zhe (.cons Qke (.cons Zel (.cons Zhn (.cons Zpl (.nil))))))) Tryz.func185 Tryz.call185 [] [] 2
def Q7x(c:Q05)(m:List Int):Tree (Q05×(List Int)×Q16):=
.an (Qnq c m) (.lv (Qqu c m) λ(x0:Int×List Int×Int)=> .br (x0.2.2 !=0) (.lv (Q4u c x0.2.2 c.Pc) λ(x1:Q05)=> .lf (x1,x0.2.1,{B7:=0,D1:=0,D9:=0,Value:=0})) (.an (Qmc x0.1) (.lv (Qiw x0.1) λ(x2:Q0o×Bool)=> .br (!x2.2) (.lv (Q4u c 1 x0.1) λ(x3:Q05)=> .lf (x3,x0.2.1,{B7:=0,D1:=0,D9:=0,Value:=0})) (.lv (Q95 x2.1.Op) λ(x4:Bool)=>let T1:Tree ((Q05×(List Int)×Q16)):=let T2:Tree ((Q05×(List Int)×Q16)):= .an (Z08 c x0.2.1 x2.1) (.lv (Q7 c x0.2.1 x2.1) λ(x7:Q05×List Int)=> .lf (x7.1,x7.2,{B7:=0,D1:=0,D9:=0,Value:=0})); .br (x2.1.Op==32) T2 (.br (x2.1.Op==33) T2 (.br (x2.1.Op==34) T2 (let T3:Tree ((Q05×(List Int)×Q16)):= .an (Qva c x0.2.1 x2.1) (.lv (Q92 c x0.2.1 x2.1) λ(x10:Q05×List Int)=> .lf (x10.1,x10.2,{B7:=0,D1:=0,D9:=0,Value:=0})); .br (x2.1.Op==35) T3 (.br (x2.1.Op==36) T3 (.an (Qql c x2.1) (.lv (Qog c x2.1) λ(x12:Q05×Q16)=> .lf (x12.1,x0.2.1,x12.2))))))); .br x4 (.lv (Qb c) λ(x5:Bool)=> .br (!x5) (.lv (Q4u c 2 x0.1) λ(x6:Q05)=> .lf (x6,x0.2.1,{B7:=0,D1:=0,D9:=0,Value:=0})) T1) T1))))
def Q8j c m:=(Q7x c m).m
abbrev Qly c m:=(Q7x c m).p
def Zqk:Q0f:=mT 114 [] true [.agg Q05.sig, .one (.ints .u32)] [] (λa r=>Q7x (Q05.of (aC a 0)) (argL .u32 a 1)) (λX=> .tup [.agg (Q05.cells (X.1)), .all 0, .agg (Q16.cells (X.2.2))]) (λX=>[⟨false,25,1, .ints .u32 (X.2.1)⟩])
theorem Z3g:Q06 pG Zqk:=oT (.cons Zgn (.cons Qke (.cons Zbu (.cons Qz3 (.cons Qwa (.cons Zkm (.cons Zjj (.cons Z7r (.nil))))))))) Tryz.func114 Tryz.call114 [.row 25 1 (.ints .u32)] [] 2
end
noncomputable section
def tblYc0:List UInt8:=[(0:UInt8),1,2,2,3,3,3,3,4,4,4,4,4,4,4,4,5,5,5,5,5,5,5,5,5,5,5,5,5,5,5,5,6,6,6,6,6,6,6,6,6,6,6,6,6,6,6,6,6,6,6,6,6,6,6,6,6,6,6,6,6,6,6,6]
def Zfi:List UInt8:=[(7:UInt8),7,7,7,7,7,7,7,7,7,7,7,7,7,7,7,7,7,7,7,7,7,7,7,7,7,7,7,7,7,7,7,7,7,7,7,7,7,7,7,7,7,7,7,7,7,7,7,7,7,7,7,7,7,7,7,7,7,7,7,7,7,7,7]
def Qtj:List UInt8:=[(8:UInt8),8,8,8,8,8,8,8,8,8,8,8,8,8,8,8,8,8,8,8,8,8,8,8,8,8,8,8,8,8,8,8,8,8,8,8,8,8,8,8,8,8,8,8,8,8,8,8,8,8,8,8,8,8,8,8,8,8,8,8,8,8,8,8]
def Zne:List UInt8:=[(1:UInt8),2,2,3,3,3,3,4,4,4,4,4,4,4,4,5,5,5,5,5,5,5,5,5,5,5,5,5,5,5,5,6,6,6,6,6,6,6,6,6,6,6,6,6,6,6,6,6,6,6,6,6,6,6,6,6,6,6,6,6,6,6,6]
def tblYc4:List UInt8:=[(0:UInt8),1,1,2,1,2,2,3,1,2,2,3,2,3,3,4,1,2,2,3,2,3,3,4,2,3,3,4,3,4,4,5,1,2,2,3,2,3,3,4,2,3,3,4,3,4,4,5,2,3,3,4,3,4,4,5,3,4,4,5,4,5,5,6]
def Qto:List UInt8:=[(1:UInt8),2,2,3,2,3,3,4,2,3,3,4,3,4,4,5,2,3,3,4,3,4,4,5,3,4,4,5,4,5,5,6,2,3,3,4,3,4,4,5,3,4,4,5,4,5,5,6,3,4,4,5,4,5,5,6,4,5,5,6,5,6,6,7]
def Zk4:List UInt8:=[(2:UInt8),3,3,4,3,4,4,5,3,4,4,5,4,5,5,6,3,4,4,5,4,5,5,6,4,5,5,6,5,6,6,7,3,4,4,5,4,5,5,6,4,5,5,6,5,6,6,7,4,5,5,6,5,6,6,7,5,6,6,7,6,7,7,8]
def Zp5:List UInt8:=[(1:UInt8),1,2,1,2,2,3,1,2,2,3,2,3,3,4,1,2,2,3,2,3,3,4,2,3,3,4,3,4,4,5,1,2,2,3,2,3,3,4,2,3,3,4,3,4,4,5,2,3,3,4,3,4,4,5,3,4,4,5,4,5,5,6]
def Qwq(c:Q0e):Tree Bool:=
.lf (decide ((c.D2.length:Int)<=(16:Int)))
def Q31 c:=(Qwq c).m
def Zbx:Q0f:=mS 171 [] true [.agg Q0e.sig] [] (λa r=>Qwq (Q0e.of (aC a 0))) (λX=> .bool X) (λX=>[])
theorem Z7y:Q06 pG Zbx:=oS (.nil) Tryz.func171 Tryz.call171 [] [] 2
def Qnt(t:Q0j):Tree Bool:=
.br t.D4 (.br (!t.D3) (.lf (t.C8 !=0)) (.lf false)) (.br t.D3 (.lf true) (.lf (t.C8==0)))
def Q63 t:=(Qnt t).m
def Zl7:Q0f:=mS 172 [] true [.agg Q0j.sig] [] (λa r=>Qnt (Q0j.of (aC a 0))) (λX=> .bool X) (λX=>[])
theorem Zj9:Q06 pG Zl7:=oS (.nil) Tryz.func172 Tryz.call172 [] [] 2
def Q7y(d0:Q0h):Tree Bool:=
.br (d0.D8==1) (.lf (decide (d0.C6=[]))) (.br (d0.D8==2) (.lf ((d0.C6.length:Int)==(128:Int))) (.lf false))
def Q9y d0:=(Q7y d0).m
def Qy6:Q0f:=mS 227 [] true [.agg Q0h.sig] [] (λa r=>Q7y (Q0h.of (aC a 0))) (λX=> .bool X) (λX=>[])
theorem Qx4:Q06 pG Qy6:=oS (.nil) Tryz.func227 Tryz.call227 [] [] 2
def Q6m(d0:Q0h)(pages:Int):Tree Bool:=
.br (decide (d0.Blocks>64)) (.lf false) (let T1:Tree (Bool):= .br (d0.D8==0) (.br (d0.B9==0) (.br (d0.B4==0) (.lf (decide (d0.C6=[]))) (.lf false)) (.lf false)) (.lf false); .br (d0.C4==0) T1 (.br (d0.C4==2) T1 (.br (d0.C4==3) T1 (.br (d0.C4==1) (.lv (Q9y d0) λ(x0:Bool)=> .br x0 (.br (decide (d0.B9<d0.Blocks)) (.lf (decide (wrap i64 d0.B4<pages))) (.lf false)) (.lf false)) (.lf false)))))
def Q1q d0 pages:=(Q6m d0 pages).m
def Zpf:Q0f:=mS 173 [] true [.agg Q0h.sig, .one (.int .i64)] [] (λa r=>Q6m (Q0h.of (aC a 0)) (argI a 1)) (λX=> .bool X) (λX=>[])
theorem Zmv:Q06 pG Zpf:=oS (.cons Qx4 (.nil)) Tryz.func173 Tryz.call173 [] [] 2
def Qnf(n:Q0q)(pages:Int):Tree Bool:=
let T1:Tree (Bool):=let T2:Tree (Bool):= .br n.C0 (.br (decide (n.F1>=1)) (.lf (decide (n.F1<=128))) (.lf false)) (.lf (n.F1==0)); .br n.C7 (.br (decide (wrap i64 n.C1>=pages)) (.lf false) T2) (.br (n.C1 !=0) (.lf false) T2); .br n.C7 (.br n.C0 (.lf false) T1) T1
def Q83 n pages:=(Qnf n pages).m
def xB:Q0f:=mS 174 [] true [.agg Q0q.sig, .one (.int .i64)] [] (λa r=>Qnf (Q0q.of (aC a 0)) (argI a 1)) (λX=> .bool X) (λX=>[])
theorem Zr9:Q06 pG xB:=oS (.nil) Tryz.func174 Tryz.call174 [] [] 2
def Q2b(x:Int):Tree Int:=
let E1:=(↑(dF (cO (cO tblYc0 Zfi) (cO Qtj Qtj))):Int); .br (decide (x>=65536)) (.br (decide (ishr u32 x (16:Int)>=(256:Int))) (.cn (decide (0<=wrap u8 (ishr u32 (ishr u32 x 16) 8)/\wrap u8 (ishr u32 (ishr u32 x 16) 8)<E1)) (.lf (wrap i64 (wrap i64 ((16:Int)+(8:Int))+wrap i64 (↑(eR (aK ((0:UInt8)::(Zne++Zfi++(Qtj++Qtj))) (cZ (wrap u8 (ishr u32 (ishr u32 x 16) 8))) (0:UInt8))):Int))))) (.cn (decide (0<=wrap u8 (ishr u32 x 16)/\wrap u8 (ishr u32 x 16)<E1)) (.lf (wrap i64 (16+wrap i64 (↑(eR (aK ((0:UInt8)::(Zne++Zfi++(Qtj++Qtj))) (cZ (wrap u8 (ishr u32 x 16))) (0:UInt8))):Int)))))) (.br (decide (x>=256)) (.cn (decide (0<=wrap u8 (ishr u32 x 8)/\wrap u8 (ishr u32 x 8)<E1)) (.lf (wrap i64 (wrap i64 ((0:Int)+(8:Int))+wrap i64 (↑(eR (aK ((0:UInt8)::(Zne++Zfi++(Qtj++Qtj))) (cZ (wrap u8 (ishr u32 x 8))) (0:UInt8))):Int))))) (.cn (decide (0<=wrap u8 x/\wrap u8 x<E1)) (.lf (wrap i64 (0+wrap i64 (↑(eR (aK ((0:UInt8)::(Zne++Zfi++(Qtj++Qtj))) (cZ (wrap u8 x)) (0:UInt8))):Int))))))
def Q1y x:=(Q2b x).m
abbrev Qd9 x:=(Q2b x).p
def Qzb:Q0f:=mT 228 [] true [.one (.int .u32)] [] (λa r=>Q2b (argI a 0)) (λX=> .int .i64 X) (λX=>[])
theorem Qv2:Q06 pG Qzb:=oT (.nil) Tryz.func228 Tryz.call228 [] [] 2
def Q5i(b:Q07)(pages:Int):Tree Bool:=
.an (Qd9 b.C5) (.lv (Q1y b.C5) λ(x0:Int)=> .lf (decide (x0<=if 0>pages then 0 else pages)))
def Q3o b pages:=(Q5i b pages).m
abbrev Qk5 b pages:=(Q5i b pages).p
def Zcv:Q0f:=mT 175 [] true [.agg Q07.sig, .one (.int .i64)] [] (λa r=>Q5i (Q07.of (aC a 0)) (argI a 1)) (λX=> .bool X) (λX=>[])
theorem Z77:Q06 pG Zcv:=oT (.cons Qv2 (.nil)) Tryz.func175 Tryz.call175 [] [] 2
def Q2c(m:Q00):Tree Bool:=
.lv (Q1 m.Mem) λ(x0:Int)=> .lv (Q31 m.A3) λ(x1:Bool)=> .br x1 (.lv (Q63 m.B0) λ(x2:Bool)=> .br x2 (.lv (Q1q m.B1 x0) λ(x3:Bool)=> .br x3 (.lv (Q83 m.C2 x0) λ(x4:Bool)=> .br x4 (.an (Qk5 m.A1 x0) (.lv (Q3o m.A1 x0) λ(x5:Bool)=> .lf x5)) (.lf false)) (.lf false)) (.lf false)) (.lf false)
def Q1a m:=(Q2c m).m
abbrev Q6g m:=(Q2c m).p
def Qst:Q0f:=mT 92 [] true [.agg Q00.sig] [] (λa r=>Q2c (Q00.of (aC a 0))) (λX=> .bool X) (λX=>[])
theorem Qr:Q06 pG Qst:=oT (.cons Q4n (.cons Z7y (.cons Zj9 (.cons Zmv (.cons Zr9 (.cons Z77 (.nil))))))) Tryz.func92 Tryz.call92 [] [] 2
def Q8m(m:Q00):Tree Bool:=
.lv (Q1 m.Mem) λ(x0:Int)=> .br (x0==0) (.lf false) (.br (m.B2.X.a0 !=0) (.lf false) (.br (decide (m.B2.B8.a0>31)) (.lf false) (.br (decide (m.B2.B8.a7>31)) (.lf false) (.br (decide (m.B2.B8.a6>255)) (.lf false) (.br (cX m.B2.B8.a1 (4:Int) !=(0:Int)) (.lf false) (.br (decide (m.A2>1152921504606846976)) (.lf false) (.br m.A4 (.br m.A6 (.lf false) (.an (Q6g m) (.lv (Q1a m) λ(x1:Bool)=> .lf x1))) (.an (Q6g m) (.lv (Q1a m) λ(x2:Bool)=> .lf x2)))))))))
def Q18 m:=(Q8m m).m
abbrev Q7u m:=(Q8m m).p
def Zca:Q0f:=mT 24 [] true [.agg Q00.sig] [] (λa r=>Q8m (Q00.of (aC a 0))) (λX=> .bool X) (λX=>[])
theorem Qca:Q06 pG Zca:=oT (.cons Q4n (.cons Qr (.nil))) Tryz.func24 Tryz.call24 [] [] 2
def Qpv(t:Q0j):Tree Bool:=
.lf t.D3
def Qiv t:=(Qpv t).m
def Z38:Q0f:=mS 99 [] true [.agg Q0j.sig] [] (λa r=>Qpv (Q0j.of (aC a 0))) (λX=> .bool X) (λX=>[])
theorem Z1j:Q06 pG Z38:=oS (.nil) Tryz.func99 Tryz.call99 [] [] 2
def Qnd(c:Q0e):Tree Bool:=
.lf (!decide (c.D2=[]))
def Qaq c:=(Qnd c).m
def Qyz:Q0f:=mS 100 [] true [.agg Q0e.sig] [] (λa r=>Qnd (Q0e.of (aC a 0))) (λX=> .bool X) (λX=>[])
theorem Qv0:Q06 pG Qyz:=oS (.nil) Tryz.func100 Tryz.call100 [] [] 2
def Qme(d0:Q0h):Tree Bool:=
.br (d0.C4==2) (.lf true) (.lf (d0.C4==3))
def Qa2 d0:=(Qme d0).m
def Z91:Q0f:=mS 101 [] true [.agg Q0h.sig] [] (λa r=>Qme (Q0h.of (aC a 0))) (λX=> .bool X) (λX=>[])
theorem Qq:Q06 pG Z91:=oS (.nil) Tryz.func101 Tryz.call101 [] [] 2
def Qwi(n:Q0q):Tree Bool:=
.lf n.C0
def Qoh n:=(Qwi n).m
def Zeo:Q0f:=mS 102 [] true [.agg Q0q.sig] [] (λa r=>Qwi (Q0q.of (aC a 0))) (λX=> .bool X) (λX=>[])
theorem Z7l:Q06 pG Zeo:=oS (.nil) Tryz.func102 Tryz.call102 [] [] 2
def Q3k(x:Int):Tree Int:=
let E1:=(↑(dF (cO (cO tblYc4 Qto) (cO Qto Zk4))):Int); .cn (decide (0<=ishr u32 x 24/\ishr u32 x 24<E1)) (.cn (decide (0<=iand u32 (ishr u32 x 16) 255/\iand u32 (ishr u32 x 16) 255<E1)) (.cn (decide (0<=iand u32 (ishr u32 x 8) 255/\iand u32 (ishr u32 x 8) 255<E1)) (.cn (decide (0<=iand u32 x 255/\iand u32 x 255<E1)) (.lf (wrap i64 (wrap u8 (wrap u8 (wrap u8 ((↑(eR (aK ((0:UInt8)::(Zp5++Qto++(Qto++Zk4))) (cZ (ishr u32 x 24)) (0:UInt8))):Int)+(↑(eR (aK ((0:UInt8)::(Zp5++Qto++(Qto++Zk4))) (cZ (iand u32 (ishr u32 x 16) 255)) (0:UInt8))):Int))+(↑(eR (aK ((0:UInt8)::(Zp5++Qto++(Qto++Zk4))) (cZ (iand u32 (ishr u32 x 8) 255)) (0:UInt8))):Int))+(↑(eR (aK ((0:UInt8)::(Zp5++Qto++(Qto++Zk4))) (cZ (iand u32 x 255)) (0:UInt8))):Int))))))))
def Q7a x:=(Q3k x).m
abbrev Qco x:=(Q3k x).p
def Qoq:Q0f:=mT 229 [] true [.one (.int .u32)] [] (λa r=>Q3k (argI a 0)) (λX=> .int .i64 X) (λX=>[])
theorem Qnc:Q06 pG Qoq:=oT (.nil) Tryz.func229 Tryz.call229 [] [] 2
def Qa5(b:Q07):Tree Int:=
.an (Qco b.C5) (.lv (Q7a b.C5) λ(x0:Int)=> .lf x0)
def Qen b:=(Qa5 b).m
abbrev Qfv b:=(Qa5 b).p
def Z5w:Q0f:=mT 176 [] true [.agg Q07.sig] [] (λa r=>Qa5 (Q07.of (aC a 0))) (λX=> .int .i64 X) (λX=>[])
theorem Qp0:Q06 pG Z5w:=oT (.cons Qnc (.nil)) Tryz.func176 Tryz.call176 [] [] 2
def Q5w(b:Q07):Tree Bool:=
.an (Qfv b) (.lv (Qen b) λ(x0:Int)=> .lf (wrap u32 x0 !=b.C9))
def Q8 b:=(Q5w b).m
abbrev Qjg b:=(Q5w b).p
def Qxp:Q0f:=mT 103 [] true [.agg Q07.sig] [] (λa r=>Q5w (Q07.of (aC a 0))) (λX=> .bool X) (λX=>[])
theorem Qvx:Q06 pG Qxp:=oT (.cons Qp0 (.nil)) Tryz.func103 Tryz.call103 [] [] 2
def Qjn(m:Q00)(z:(Int)×(Int)):Nat:=(5-z.2).toNat
def Q7t(m:Q00):Tree Int:=
.lv (Qiv m.B0) λ(x0:Bool)=> .lv (Qaq m.A3) λ(x1:Bool)=> .lv (Qa2 m.B1) λ(x2:Bool)=> .lv (Qoh m.C2) λ(x3:Bool)=> .an (Qjg m.A1) (.lv (Q8 m.A1) λ(x4:Bool)=> .lp inferInstance (Qjn m (0,0)+1) ((rE (0:Int)/\(rE (x0:Bool)/\rE (x1:Bool)/\rE (x2:Bool)/\rE (x3:Bool)/\rE (x4:Bool)/\True)/\rE (0:Int)/\True)/\True) (0,0) λ(v0:Int×Int)=> .br (decide (v0.2<5)) (.cn (bS 1 1&&(bS 5 5&&decide (0<=v0.2/\v0.2<(↑5:Int)))) (.br (aK [x0,x1,x2,x3,x4] v0.2.toNat false) (.cn (decide (0<=v0.2)) (.nx ((rE ((ior u32 v0.1 (ishl u32 1 v0.2)):Int)/\(rE (x0:Bool)/\rE (x1:Bool)/\rE (x2:Bool)/\rE (x3:Bool)/\rE (x4:Bool)/\True)/\rE ((wrap i64 (v0.2+1)):Int)/\True)/\True) (Sum.inl (ior u32 v0.1 (ishl u32 1 v0.2),wrap i64 (v0.2+1))))) (.nx ((rE v0.1/\(rE (x0:Bool)/\rE (x1:Bool)/\rE (x2:Bool)/\rE (x3:Bool)/\rE (x4:Bool)/\True)/\rE ((wrap i64 (v0.2+1)):Int)/\True)/\True) (Sum.inl (v0.1,wrap i64 (v0.2+1)))))) (.lf (Sum.inr v0.1)))
def Qfa m:=(Q7t m).m
abbrev Qms m:=(Q7t m).p
def Z1r:LInv:={
 α:=(Int)×(Int)
 F:=λst a=>([(4, .int u32 a.1),(23,(lk st 23)),(24, .int i64 a.2)],[])
 a0:=λst=>((lk st 4).toInt,(lk st 24).toInt)
 ex0:=λst=>[]++[]}
def Qvg:List (Nat×LInv):=[(4,Z1r)]
def Z65:Q0f:=mT 26 [] true [.agg Q00.sig] [] (λa r=>Q7t (Q00.of (aC a 0))) (λX=> .int .u32 X) (λX=>[])
theorem Z1s:Q06 pG Z65:=oT (.cons Z1j (.cons Qv0 (.cons Qq (.cons Z7l (.cons Qvx (.nil)))))) Tryz.func26 Tryz.call26 [] Qvg 3
def Q39(m:Q00):Tree Int:=
.an (Qms m) (.lv (Qfa m) λ(x0:Int)=> .lf (iand u32 x0 m.B2.B8.a7))
def Q68 m:=(Q39 m).m
abbrev Qdr m:=(Q39 m).p
def Qyo:Q0f:=mT 110 [] true [.agg Q00.sig] [] (λa r=>Q39 (Q00.of (aC a 0))) (λX=> .int .u32 X) (λX=>[])
theorem Qlt:Q06 pG Qyo:=oT (.cons Z1s (.nil)) Tryz.func110 Tryz.call110 [] [] 2
def Q3e(m:Q00):Tree Bool:=
.br m.A4 (.an (Qdr m) (.lv (Q68 m) λ(x0:Int)=> .lf (x0==0))) (.lf false)
def Q4l m:=(Q3e m).m
abbrev Q9 m:=(Q3e m).p
def Z9b:Q0f:=mT 28 [] true [.agg Q00.sig] [] (λa r=>Q3e (Q00.of (aC a 0))) (λX=> .bool X) (λX=>[])
theorem Qkt:Q06 pG Z9b:=oT (.cons Qlt (.nil)) Tryz.func28 Tryz.call28 [] [] 2

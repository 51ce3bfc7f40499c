import Derived.Test.YtmalmklaonainaaGreatReplayBoundsBase
open Int renaming tmod->dB, tdiv->eS, toNat->dC
open Nat renaming beq->bS, blt->bT
open List renaming set->dD, getD->aK, length->dH, append->cO
open UInt8 renaming toNat->eU
set_option maxRecDepth 100000
set_option linter.all false
namespace Go.Proofs.YtmalmklaonainaaGreat
open Go Go.GD Go.IntKind
noncomputable section
def Q03(s:List Int):(List Int):=
s
def Q08(s:List Int):Prop:=
s.length<=35184372088832
def Q3x(s:List Int):List D:=[.sl 1 (.ints .u32 s) false]
def Q2k(s:List Int):List Row:=[]
def Q1s(X:List Int):D:= .all 0
def Q1t(X:List Int):List Row:=[⟨false,25,1, .ints .u32 X⟩]
def Qen:List Dir:=[.row 25 1 (.ints .u32)]
def Q7z:List PT:=[.one (.ints .u32)]
def Q7j:List RT:=[]
def Qgm(args:List D)(rows:List Row):(List Int):=Q03 (argL .u32 args 0)
def Qg(args:List D)(rows:List Row):Prop:=Q08 (argL .u32 args 0)
def Qhj:Q0d:=mkP 129 [] true Q7z Q7j Qg Qgm Q1s Q1t
def Q59(s:List Int)(Leaf:(List Int)->Prop):Prop:=
(s=[]->Leaf [])/\cand (decide ((4:Nat)*((0:Nat)+s.length)<=(140737488355328:Nat))) (Leaf s)
set_option maxRecDepth 100000 in
theorem Qh(s:List Int)(Q:D->List Row->Prop):(fnVC tab [] (LL tab [] Tryz.f129.ntmps 0 [] 2) Tryz.f129 (Q3x s) (Q2k s) λd R=>Q9c (Q2k s).length Qen d R Q)=Q59 s (λX=>Q (Q1s X) (Q1t X)):=by kernel_rfl
theorem Qf5(s:List Int)(Leaf:(List Int)->Prop)(hw:Q08 s)(h:Leaf (Q03 s)):
Q59 s Leaf:=by
 delta Q59
 refine⟨λe=>by rw[e]at h;exact h,?_⟩
 rw[Q07]
 refine⟨dY ?_,h⟩
 have:s.length<=35184372088832:=hw
 omega
set_option maxRecDepth 100000 in
theorem Qef(s:List Int)(hw:Q08 s):Q4k pG 129 (Q3x s) (Q2k s) (Q1s (Q03 s)) (Q1t (Q03 s)):=
 have hG:Q73 pG []:= .nil
 FnOK.calls drawn Q0m hG Tryz.func129 (rf:=none) (λ_ _=>trivial) (Zp1 drawn Q0m hG (.inl rfl) 2 (invs:=[])) (FnOK.of (Qh s _) (Qf5 s (λX=>Q1s X=Q1s (Q03 s)/\Q1t X=Q1t (Q03 s)) hw ⟨rfl,rfl⟩))
set_option maxRecDepth 100000 in
theorem Qem(args:List D)(rows:List Row):Qgf Q7z args 0=Q3x (argL .u32 args 0):=by kernel_rfl
set_option maxRecDepth 100000 in
theorem Qeg(args:List D)(rows:List Row):Q65 Q7j rows 0=Q2k (argL .u32 args 0):=by kernel_rfl
set_option maxRecDepth 100000 in
theorem Qgx(X:List Int):(ffB (Q1s X)&&ffBR (Q1t X))=true:=by kernel_rfl
theorem Q0x:Q06 pG Qhj:=Qyi Tryz.call129 (λargs rows hp=>by rw[Qem args rows,Qeg args rows];exact Qef (argL .u32 args 0) hp) (λ_ X=>Qgx X)
def Q8v(m:List Int):Tree Int:=
.br (dB (m.length:Int) (32:Int) !=(0:Int)) (.lf 0) (.br (decide ((m.length:Int)>(1024:Int))) (.lf 0) (.lf (wrap i64 (eS (m.length:Int) 32))))
def Q1 m:=(Q8v m).m
def Z5w:Q0d:=mS 43 [] true [.one (.ints .u32)] [] (λa r=>Q8v (argL .u32 a 0)) (λX=> .int .i64 X) (λX=>[])
theorem Q4e:Q06 pG Z5w:=oS (.nil) Tryz.func43 Tryz.call43 [] [] 2
def Q3h(m:List Int)(addr size:Int):Tree Bool:=
let T1:Tree (Bool):= .cn (decide (wrap u32 size≠0)) (.br (dB addr (wrap u32 size) !=0) (.lf false) (.lv (Q1 m) λ(x0:Int)=> .lf (decide (wrap u64 (wrap u64 addr+wrap u64 size)<=wrap u64 (wrap u64 x0*128))))); .br (size !=1) (.br (size !=4) (.lf false) T1) T1
def Qhl m addr size:=(Q3h m addr size).m
abbrev Qaz m addr size:=(Q3h m addr size).p
def Z39:Q0d:=mT 275 [] true [.one (.ints .u32), .one (.int .u32), .one (.int .i64)] [] (λa r=>Q3h (argL .u32 a 0) (argI a 1) (argI a 2)) (λX=> .bool X) (λX=>[])
theorem Qn9:Q06 pG Z39:=oT (.cons Q4e (.nil)) Tryz.func275 Tryz.call275 [] [] 2
def Qcj(n:Int):Tree Int:=
.br (decide (n>=32)) (.lf 4294967295) (.cn (decide (0<=wrap u64 n)) (.lf (wrap u32 (ishl u32 1 (wrap u64 n)-1))))
def Z1e n:=(Qcj n).m
abbrev Qhc n:=(Qcj n).p
def Ziy:Q0d:=mT 276 [] true [.one (.int .i64)] [] (λa r=>Qcj (argI a 0)) (λX=> .int .u32 X) (λX=>[])
theorem Qy1:Q06 pG Ziy:=oT (.nil) Tryz.func276 Tryz.call276 [] [] 2
def Qa6(w low n:Int):Tree Int:=
.br (decide (low<0)) (.lf 0) (.br (decide (low>31)) (.lf 0) (.br (decide (n<1)) (.lf 0) (.cn (decide (0<=wrap u64 low)) (.an (Qhc n) (.lv (Z1e n) λ(x0:Int)=> .lf (iand u32 (ishr u32 w (wrap u64 low)) x0))))))
def Q34 w low n:=(Qa6 w low n).m
abbrev Q5k w low n:=(Qa6 w low n).p
def Zgq:Q0d:=mT 233 [] true [.one (.int .u32), .one (.int .i64), .one (.int .i64)] [] (λa r=>Qa6 (argI a 0) (argI a 1) (argI a 2)) (λX=> .int .u32 X) (λX=>[])
theorem Qn3:Q06 pG Zgq:=oT (.cons Qy1 (.nil)) Tryz.func233 Tryz.call233 [] [] 2
def Q9s(w low n v:Int):Tree Int:=
.br (decide (low<0)) (.lf w) (.br (decide (low>31)) (.lf w) (.br (decide (n<1)) (.lf w) (.an (Qhc n) (.lv (Z1e n) λ(x0:Int)=> .cn (decide (0<=wrap u64 low)) (.cn (decide (0<=wrap u64 low)) (.lf (ior u32 (Qhm u32 w (ishl u32 x0 (wrap u64 low))) (ishl u32 (iand u32 v x0) (wrap u64 low)))))))))
def Q8a w low n v:=(Q9s w low n v).m
abbrev Ql5 w low n v:=(Q9s w low n v).p
def Z3q:Q0d:=mT 278 [] true [.one (.int .u32), .one (.int .i64), .one (.int .i64), .one (.int .u32)] [] (λa r=>Q9s (argI a 0) (argI a 1) (argI a 2) (argI a 3)) (λX=> .int .u32 X) (λX=>[])
theorem Qzf:Q06 pG Z3q:=oT (.cons Qy1 (.nil)) Tryz.func278 Tryz.call278 [] [] 2
def Q8q(m:List Int)(addr size v:Int):Tree ((List Int)×Bool):=
.an (Q08 m) (.lv (Q03 m) λ(x0:List Int)=> .an (Qaz m addr size) (.lv (Qhl m addr size) λ(x1:Bool)=> .br (!x1) (.lf (x0,false)) (let E1:=bS 1 1&&bT 0 1&&decide (0<=wrap u32 (eS addr 4)/\wrap u32 (eS addr 4)<(x0.length:Int));let E2:=dC (wrap u32 (eS addr 4)); .br (size==1) (.cn E1 (let E3:=wrap i64 (wrap i64 (dB addr 4)*8); .an (Ql5 (x0.getD E2 0) E3 8 v) (.lv (Q8a (x0.getD E2 0) E3 8 v) λ(x2:Int)=> .cn E1 (.lf (dD x0 E2 x2,true))))) (.cn E1 (.lf (dD x0 E2 v,true))))))
def Q9m m addr size v:=(Q8q m addr size v).m
abbrev Qbz m addr size v:=(Q8q m addr size v).p
def Z71:Q0d:=mT 239 [] true [.one (.ints .u32), .one (.int .u32), .one (.int .i64), .one (.int .u32)] [] (λa r=>Q8q (argL .u32 a 0) (argI a 1) (argI a 2) (argI a 3)) (λX=> .tup [.all 0, .bool (X.2)]) (λX=>[⟨false,25,1, .ints .u32 (X.1)⟩])
theorem Qpf:Q06 pG Z71:=oT (.cons Q0x (.cons Qn9 (.cons Qzf (.nil)))) Tryz.func239 Tryz.call239 [.row 25 1 (.ints .u32)] [] 2
def Zev(op:Int):Tree (Q93×Bool):=
.br (op==1) (.lf ({a:=true,b:=true,c:=true,low:=0,D6:=0},true)) (.br (op==2) (.lf ({a:=true,b:=true,c:=true,low:=0,D6:=0},true)) (.br (op==3) (.lf ({a:=true,b:=true,c:=true,low:=0,D6:=0},true)) (.br (op==4) (.lf ({a:=true,b:=true,c:=true,low:=0,D6:=0},true)) (.br (op==5) (.lf ({a:=true,b:=true,c:=true,low:=0,D6:=0},true)) (.br (op==6) (.lf ({a:=true,b:=true,c:=true,low:=0,D6:=0},true)) (.br (op==7) (.lf ({a:=true,b:=true,c:=true,low:=0,D6:=0},true)) (.br (op==8) (.lf ({a:=true,b:=true,c:=true,low:=0,D6:=0},true)) (.br (op==9) (.lf ({a:=true,b:=true,c:=true,low:=0,D6:=0},true)) (.br (op==10) (.lf ({a:=true,b:=true,c:=true,low:=0,D6:=0},true)) (.br (op==11) (.lf ({a:=true,b:=true,c:=true,low:=0,D6:=0},true)) (.br (op==12) (.lf ({a:=true,b:=true,c:=true,low:=0,D6:=0},true)) (.br (op==13) (.lf ({a:=true,b:=true,c:=true,low:=0,D6:=0},true)) (.br (op==16) (.lf ({a:=true,b:=true,c:=false,low:=(-32768),D6:=32767},true)) (.br (op==23) (.lf ({a:=true,b:=true,c:=false,low:=(-32768),D6:=32767},true)) (.br (op==32) (.lf ({a:=true,b:=true,c:=false,low:=(-32768),D6:=32767},true)) (.br (op==33) (.lf ({a:=true,b:=true,c:=false,low:=(-32768),D6:=32767},true)) (.br (op==34) (.lf ({a:=true,b:=true,c:=false,low:=(-32768),D6:=32767},true)) (.br (op==35) (.lf ({a:=true,b:=true,c:=false,low:=(-32768),D6:=32767},true)) (.br (op==36) (.lf ({a:=true,b:=true,c:=false,low:=(-32768),D6:=32767},true)) (.br (op==40) (.lf ({a:=true,b:=true,c:=false,low:=(-32768),D6:=32767},true)) (.br (op==41) (.lf ({a:=true,b:=true,c:=false,low:=(-32768),D6:=32767},true)) (.br (op==42) (.lf ({a:=true,b:=true,c:=false,low:=(-32768),D6:=32767},true)) (.br (op==43) (.lf ({a:=true,b:=true,c:=false,low:=(-32768),D6:=32767},true)) (.br (op==44) (.lf ({a:=true,b:=true,c:=false,low:=(-32768),D6:=32767},true)) (.br (op==45) (.lf ({a:=true,b:=true,c:=false,low:=(-32768),D6:=32767},true)) (.br (op==49) (.lf ({a:=true,b:=true,c:=false,low:=(-32768),D6:=32767},true)) (.br (op==17) (.lf ({a:=true,b:=true,c:=false,low:=0,D6:=65535},true)) (.br (op==18) (.lf ({a:=true,b:=true,c:=false,low:=0,D6:=65535},true)) (.br (op==19) (.lf ({a:=true,b:=true,c:=false,low:=0,D6:=65535},true)) (.br (op==20) (.lf ({a:=true,b:=true,c:=false,low:=0,D6:=31},true)) (.br (op==21) (.lf ({a:=true,b:=true,c:=false,low:=0,D6:=31},true)) (.br (op==22) (.lf ({a:=true,b:=true,c:=false,low:=0,D6:=31},true)) (.br (op==24) (.lf ({a:=true,b:=false,c:=false,low:=0,D6:=65535},true)) (.br (op==48) (.lf ({a:=true,b:=false,c:=false,low:=(-32768),D6:=32767},true)) (.br (op==58) (.lf ({a:=true,b:=false,c:=false,low:=0,D6:=7},true)) (.br (op==59) (.lf ({a:=true,b:=false,c:=false,low:=0,D6:=7},true)) (.br (op==60) (.lf ({a:=true,b:=false,c:=false,low:=0,D6:=11},true)) (.br (op==61) (.lf ({a:=true,b:=false,c:=false,low:=0,D6:=11},true)) (.br (op==56) (.lf ({a:=false,b:=false,c:=false,low:=0,D6:=0},true)) (.br (op==57) (.lf ({a:=false,b:=false,c:=false,low:=0,D6:=0},true)) (.br (op==62) (.lf ({a:=false,b:=false,c:=false,low:=0,D6:=0},true)) (.br (op==63) (.lf ({a:=false,b:=false,c:=false,low:=0,D6:=0},true)) (.br (op==64) (.lf ({a:=false,b:=false,c:=false,low:=0,D6:=0},true)) (.lf ({a:=false,b:=false,c:=false,low:=0,D6:=0},false)))))))))))))))))))))))))))))))))))))))))))))
def Z14 op:=(Zev op).m
def vz:Q0d:=mS 234 [] true [.one (.int .i64)] [] (λa r=>Zev (argI a 0)) (λX=> .tup [.agg (Q93.cells (X.1)), .bool (X.2)]) (λX=>[])
theorem Z7u:Q06 pG vz:=oS (.nil) Tryz.func234 Tryz.call234 [] [] 2
def Q7h(x n:Int):Tree Int:=
.br (decide (n<1)) (.lf 0) (.br (decide (n>=32)) (.lf x) (let E1:=decide (0<=wrap u64 (wrap i64 (32-n))); .cn E1 (.cn E1 (.lf (wrap u32 (ishr i32 (wrap i32 (ishl u32 x (wrap u64 (wrap i64 (32-n))))) (wrap u64 (wrap i64 (32-n)))))))))
def Q2c x n:=(Q7h x n).m
abbrev Qcr x n:=(Q7h x n).p
def Qwx:Q0d:=mT 235 [] true [.one (.int .u32), .one (.int .i64)] [] (λa r=>Q7h (argI a 0) (argI a 1)) (λX=> .int .u32 X) (λX=>[])
theorem Qju:Q06 pG Qwx:=oT (.nil) Tryz.func235 Tryz.call235 [] [] 2
def Qfm(r:Int)(used:Bool):Tree Bool:=
.br used (.br (decide (r>=0)) (.lf (decide (r<=15))) (.lf false)) (.lf (r==0))
def Q9t r used:=(Qfm r used).m
def Z5j:Q0d:=mS 277 [] true [.one (.int .i64), .one (.bool)] [] (λa r=>Qfm (argI a 0) (argB a 1)) (λX=> .bool X) (λX=>[])
theorem Z1h:Q06 pG Z5j:=oS (.nil) Tryz.func277 Tryz.call277 [] [] 2
def Qjd(i:Q0n):Tree Bool:=
.lv (Z14 i.Op) λ(x0:Q93×Bool)=> .br x0.2 (.lv (Q9t i.A x0.1.a) λ(x1:Bool)=> .br x1 (.lv (Q9t i.B x0.1.b) λ(x2:Bool)=> .br x2 (.lv (Q9t i.C x0.1.c) λ(x3:Bool)=> .br x3 (.br (decide (i.Imm>=x0.1.low)) (.lf (decide (i.Imm<=x0.1.D6))) (.lf false)) (.lf false)) (.lf false)) (.lf false)) (.lf false)
def Qg0 i:=(Qjd i).m
def Zj3:Q0d:=mS 236 [] true [.agg Q0n.sig] [] (λa r=>Qjd (Q0n.of (aC a 0))) (λX=> .bool X) (λX=>[])
theorem Zhe:Q06 pG Zj3:=oS (.cons Z7u (.cons Z1h (.nil))) Tryz.func236 Tryz.call236 [] [] 2
def Q7x(w:Int):Tree (Q0n×Bool):=
.an (Q5k w 24 8) (.lv (Q34 w 24 8) λ(x0:Int)=> .an (Q5k w 20 4) (.lv (Q34 w 20 4) λ(x1:Int)=> .an (Q5k w 16 4) (.lv (Q34 w 16 4) λ(x2:Int)=> .lv (Z14 (wrap i64 x0)) λ(x3:Q93×Bool)=>let E1:=({Op:=0,A:=0,B:=0,C:=0,Imm:=0}:Q0n); .br (!x3.2) (.lf (E1,false)) (.an (Q5k w 0 16) (.lv (Q34 w 0 16) λ(x4:Int)=> .br x3.1.c (let E2:=({Op:=wrap i64 x0,A:=wrap i64 x1,B:=wrap i64 x2,C:=wrap i64 x4,Imm:=0}:Q0n); .lv (Qg0 E2) λ(x5:Bool)=> .br (!x5) (.lf (E1,false)) (.lf (E2,true))) (.br (decide (x3.1.low<0)) (.an (Qcr x4 16) (.lv (Q2c x4 16) λ(x6:Int)=>let E3:=({Op:=wrap i64 x0,A:=wrap i64 x1,B:=wrap i64 x2,C:=0,Imm:=wrap i32 x6}:Q0n); .lv (Qg0 E3) λ(x7:Bool)=> .br (!x7) (.lf (E1,false)) (.lf (E3,true)))) (let E4:=({Op:=wrap i64 x0,A:=wrap i64 x1,B:=wrap i64 x2,C:=0,Imm:=wrap i32 x4}:Q0n); .lv (Qg0 E4) λ(x8:Bool)=> .br (!x8) (.lf (E1,false)) (.lf (E4,true)))))))))
def Qhr w:=(Q7x w).m
abbrev Qkq w:=(Q7x w).p
def Zdz:Q0d:=mT 180 [] true [.one (.int .u32)] [] (λa r=>Q7x (argI a 0)) (λX=> .tup [.agg (Q0n.cells (X.1)), .bool (X.2)]) (λX=>[])
theorem Zcr:Q06 pG Zdz:=oT (.cons Qn3 (.cons Z7u (.cons Qju (.cons Zhe (.nil))))) Tryz.func180 Tryz.call180 [] [] 2
def Qao(a b:Int):Tree (Int×Int):=
.br (b==0) (.lf (4294967295,a)) (let T1:Tree ((Int×Int)):= .cn (decide (wrap i32 b≠0)) (.cn (decide (wrap i32 b≠0)) (.lf (wrap u32 (wrap i32 (eS (wrap i32 a) (wrap i32 b))),wrap u32 (dB (wrap i32 a) (wrap i32 b))))); .br (a==2147483648) (.br (b==4294967295) (.lf (a,0)) T1) T1)
def Qcs a b:=(Qao a b).m
abbrev Qij a b:=(Qao a b).p
def Zbm:Q0d:=mT 279 [] true [.one (.int .u32), .one (.int .u32)] [] (λa r=>Qao (argI a 0) (argI a 1)) (λX=> .tup [.int .u32 (X.1), .int .u32 (X.2)]) (λX=>[])
theorem Z6w:Q06 pG Zbm:=oT (.nil) Tryz.func279 Tryz.call279 [] [] 2
def Z21(b:Bool):Tree Int:=
.br b (.lf 1) (.lf 0)
def Qp3 b:=(Z21 b).m
def Zjy:Q0d:=mS 280 [] true [.one (.bool)] [] (λa r=>Z21 (argB a 0)) (λX=> .int .u32 X) (λX=>[])
theorem Zf9:Q06 pG Zjy:=oS (.nil) Tryz.func280 Tryz.call280 [] [] 2
def Qor(op a b:Int):Tree (Int×Bool):=
.br (op==2) (.lf (wrap u32 (a+wrap u32 (0-b)),true)) (.br (op==1) (.lf (wrap u32 (a+b),true)) (.br (op==16) (.lf (wrap u32 (a+b),true)) (.br (op==3) (.lf (iand u32 a b,true)) (.br (op==17) (.lf (iand u32 a b,true)) (.br (op==4) (.lf (ior u32 a b,true)) (.br (op==18) (.lf (ior u32 a b,true)) (.br (op==5) (.lf (ixor u32 a b,true)) (.br (op==19) (.lf (ixor u32 a b,true)) (.br (op==6) (.lf (ishl u32 a (iand u32 b 31),true)) (.br (op==20) (.lf (ishl u32 a (iand u32 b 31),true)) (.br (op==7) (.lf (ishr u32 a (iand u32 b 31),true)) (.br (op==21) (.lf (ishr u32 a (iand u32 b 31),true)) (let E1:=(wrap u32 (ishr i32 (wrap i32 a) (iand u32 b 31)),true); .br (op==8) (.lf E1) (.br (op==22) (.lf E1) (.br (op==9) (.lf (wrap u32 (a*b),true)) (.br (op==10) (.an (Qij a b) (.lv (Qcs a b) λ(x0:Int×Int)=> .lf (x0.1,true))) (.br (op==11) (.an (Qij a b) (.lv (Qcs a b) λ(x1:Int×Int)=> .lf (x1.2,true))) (.br (op==12) (.lv (Qp3 (decide (wrap i32 a<wrap i32 b))) λ(x2:Int)=> .lf (x2,true)) (.br (op==23) (.lv (Qp3 (decide (wrap i32 a<wrap i32 b))) λ(x3:Int)=> .lf (x3,true)) (.br (op==13) (.lv (Qp3 (decide (a<b))) λ(x4:Int)=> .lf (x4,true)) (.lf (0,false))))))))))))))))))))))
def Q4n op a b:=(Qor op a b).m
abbrev Qrs op a b:=(Qor op a b).p
def qA:Q0d:=mT 243 [] true [.one (.int .i64), .one (.int .u32), .one (.int .u32)] [] (λa r=>Qor (argI a 0) (argI a 1) (argI a 2)) (λX=> .tup [.int .u32 (X.1), .bool (X.2)]) (λX=>[])
theorem Zoa:Q06 pG qA:=oT (.cons Z6w (.cons Zf9 (.nil))) Tryz.func243 Tryz.call243 [] [] 2
end
noncomputable section
def Qqb(status from0 to:Int):Tree Int:=
.br (iand u32 status from0 !=0) (.lf (ior u32 status to)) (.lf (Qhm u32 status to))
def Q95 status from0 to:=(Qqb status from0 to).m
def Zno:Q0d:=mS 230 [] true [.one (.int .u32), .one (.int .u32), .one (.int .u32)] [] (λa r=>Qqb (argI a 0) (argI a 1) (argI a 2)) (λX=> .int .u32 X) (λX=>[])
theorem Z12:Q06 pG Zno:=oS (.nil) Tryz.func230 Tryz.call230 [] [] 2
def Qli(c:Q05)(cause bad:Int):Tree Q05:=
.lv (Q95 c.B6.a0 1 8) λ(x0:Int)=> .lv (Q95 x0 2 16) λ(x1:Int)=> .lf ({X:=c.X,Pc:=c.B6.a1,B6:={a0:=Qhm u32 (ior u32 x1 1) 2,a1:=c.B6.a1,a2:=c.Pc,a3:=wrap u32 cause,a4:=bad,a5:=c.B6.a5,a6:=c.B6.a6,a7:=c.B6.a7}})
def Q4w c cause bad:=(Qli c cause bad).m
def Znk:Q0d:=mS 178 [] true [.agg Q05.sig, .one (.int .i64), .one (.int .u32)] [] (λa r=>Qli (Q05.of (aC a 0)) (argI a 1) (argI a 2)) (λX=> .agg (Q05.cells X)) (λX=>[])
theorem Qi2:Q06 pG Znk:=oS (.cons Z12 (.nil)) Tryz.func178 Tryz.call178 [] [] 2
def Qtv(access:Int):Tree (Int×Bool):=
.br (access==1) (.lf (4,true)) (.br (access==2) (.lf (5,true)) (.br (access==3) (.lf (6,true)) (.lf (5,false))))
def Qs5 access:=(Qtv access).m
def Zay:Q0d:=mS 272 [] true [.one (.int .i64)] [] (λa r=>Qtv (argI a 0)) (λX=> .tup [.int .i64 (X.1), .bool (X.2)]) (λX=>[])
theorem Z6p:Q06 pG Zay:=oS (.nil) Tryz.func272 Tryz.call272 [] [] 2
def Qyr(c:Q05):Tree Bool:=
.lf (iand u32 c.B6.a0 (1:Int) !=(0:Int))
def Qaj c:=(Qyr c).m
def Zei:Q0d:=mS 182 [] true [.agg Q05.sig] [] (λa r=>Qyr (Q05.of (aC a 0))) (λX=> .bool X) (λX=>[])
theorem Qu3:Q06 pG Zei:=oS (.nil) Tryz.func182 Tryz.call182 [] [] 2
def Qnb(access:Int):Tree (Int×Bool):=
.br (access==1) (.lf (4,true)) (.br (access==2) (.lf (5,true)) (.br (access==3) (.lf (6,true)) (.lf (5,false))))
def Qkn access:=(Qnb access).m
def Qzr:Q0d:=mS 306 [] true [.one (.int .i64)] [] (λa r=>Qnb (argI a 0)) (λX=> .tup [.int .i64 (X.1), .bool (X.2)]) (λX=>[])
theorem Qvk:Q06 pG Qzr:=oS (.nil) Tryz.func306 Tryz.call306 [] [] 2
def Qji(m:List Int)(frame:Int):Tree Bool:=
.lv (Q1 m) λ(x0:Int)=> .lf (decide (wrap u64 frame<wrap u64 x0))
def Qaf m frame:=(Qji m frame).m
def Z3y:Q0d:=mS 307 [] true [.one (.ints .u32), .one (.int .u32)] [] (λa r=>Qji (argL .u32 a 0) (argI a 1)) (λX=> .bool X) (λX=>[])
theorem Z02:Q06 pG Z3y:=oS (.cons Q4e (.nil)) Tryz.func307 Tryz.call307 [] [] 2
def Q6u(m:List Int)(addr size:Int):Tree (Int×Bool):=
.an (Qaz m addr size) (.lv (Qhl m addr size) λ(x0:Bool)=> .br (!x0) (.lf (0,false)) (.cn (bS 1 1&&bT 0 1&&decide (0<=wrap u32 (eS addr 4)/\wrap u32 (eS addr 4)<(m.length:Int))) (let E1:=dC (wrap u32 (eS addr 4)); .br (size==1) (let E2:=wrap i64 (wrap i64 (dB addr 4)*8); .an (Q5k (m.getD E1 0) E2 8) (.lv (Q34 (m.getD E1 0) E2 8) λ(x1:Int)=> .lf (x1,true))) (.lf (m.getD E1 0,true)))))
def Q4z m addr size:=(Q6u m addr size).m
abbrev Q3j m addr size:=(Q6u m addr size).p
def Za:Q0d:=mT 232 [] true [.one (.ints .u32), .one (.int .u32), .one (.int .i64)] [] (λa r=>Q6u (argL .u32 a 0) (argI a 1) (argI a 2)) (λX=> .tup [.int .u32 (X.1), .bool (X.2)]) (λX=>[])
theorem Qbx:Q06 pG Za:=oT (.cons Qn9 (.cons Qn3 (.nil))) Tryz.func232 Tryz.call232 [] [] 2
def Qnd(pte access:Int):Tree Bool:=
.br (iand u32 pte (1:Int)==(0:Int)) (.lf false) (.br (access==3) (.lf (iand u32 pte (2:Int) !=(0:Int))) (.br (access==1) (.lf (iand u32 pte (4:Int) !=(0:Int))) (.lf true)))
def Qbq pte access:=(Qnd pte access).m
def Z0g:Q0d:=mS 308 [] true [.one (.int .u32), .one (.int .i64)] [] (λa r=>Qnd (argI a 0) (argI a 1)) (λX=> .bool X) (λX=>[])
theorem Qxm:Q06 pG Z0g:=oS (.nil) Tryz.func308 Tryz.call308 [] [] 2
def Q8n(pte:Int):Tree Int:=
.an (Q5k pte 8 8) (.lv (Q34 pte 8 8) λ(x0:Int)=> .lf x0)
def Qfk pte:=(Q8n pte).m
abbrev Qdl pte:=(Q8n pte).p
def Z08:Q0d:=mT 309 [] true [.one (.int .u32)] [] (λa r=>Q8n (argI a 0)) (λX=> .int .u32 X) (λX=>[])
theorem Qvy:Q06 pG Z08:=oT (.cons Qn3 (.nil)) Tryz.func309 Tryz.call309 [] [] 2
def Qay(m:List Int)(root va access:Int):Tree Q1a:=
.lv (Qkn access) λ(x0:Int×Bool)=>let E1:=({Addr:=0,F4:=0,F0:=x0.1}:Q1a); .br (!x0.2) (.lf (E1)) (.br (decide (va>=4096)) (.lf (E1)) (.lv (Qaf m root) λ(x1:Bool)=> .br (!x1) (.lf (E1)) (let E2:=wrap u32 (root*128)+wrap u32 (4*wrap u32 (eS va 128)); .an (Q3j m (wrap u32 E2) 4) (.lv (Q4z m (wrap u32 E2) 4) λ(x2:Int×Bool)=> .br (!x2.2) (.lf (E1)) (.lv (Qbq x2.1 access) λ(x3:Bool)=> .br (!x3) (.lf (E1)) (.an (Qdl x2.1) (.lv (Qfk x2.1) λ(x4:Int)=> .lv (Qaf m x4) λ(x5:Bool)=> .br (!x5) (.lf (E1)) (.an (Qdl x2.1) (.lv (Qfk x2.1) λ(x6:Int)=> .lf ({Addr:=wrap u32 (wrap u32 (x6*128)+dB va 128),F4:=wrap u32 E2,F0:=0}))))))))))
def Qi m root va access:=(Qay m root va access).m
abbrev Qih m root va access:=(Qay m root va access).p
def Zbg:Q0d:=mT 273 [] true [.one (.ints .u32), .one (.int .u32), .one (.int .u32), .one (.int .i64)] [] (λa r=>Qay (argL .u32 a 0) (argI a 1) (argI a 2) (argI a 3)) (λX=> .agg (Q1a.cells X)) (λX=>[])
theorem Z6n:Q06 pG Zbg:=oT (.cons Qvk (.cons Z02 (.cons Qbx (.cons Qxm (.cons Qvy (.nil)))))) Tryz.func273 Tryz.call273 [] [] 2
def Q8t(m:List Int)(entry access:Int):Tree (List Int):=
.an (Q3j m entry 4) (.lv (Q4z m entry 4) λ(x0:Int×Bool)=> .br (!x0.2) (.an (Q08 m) (.lv (Q03 m) λ(x1:List Int)=> .lf x1)) (.br (access==3) (.an (Qbz m entry 4 (ior u32 (ior u32 x0.1 8) 16)) (.lv (Q9m m entry 4 (ior u32 (ior u32 x0.1 8) 16)) λ(x2:List Int×Bool)=> .lf x2.1)) (.an (Qbz m entry 4 (ior u32 x0.1 8)) (.lv (Q9m m entry 4 (ior u32 x0.1 8)) λ(x3:List Int×Bool)=> .lf x3.1))))
def Qd m entry access:=(Q8t m entry access).m
abbrev Qgr m entry access:=(Q8t m entry access).p
def Z5z:Q0d:=mT 274 [] true [.one (.ints .u32), .one (.int .u32), .one (.int .i64)] [] (λa r=>Q8t (argL .u32 a 0) (argI a 1) (argI a 2)) (λX=> .all 0) (λX=>[⟨false,25,1, .ints .u32 X⟩])
theorem Z4j:Q06 pG Z5z:=oT (.cons Qbx (.cons Q0x (.cons Qpf (.nil)))) Tryz.func274 Tryz.call274 [.row 25 1 (.ints .u32)] [] 2
def Q6w(c:Q05)(m:List Int)(va size access:Int):Tree (Int×(List Int)×Int):=
.lv (Qs5 access) λ(x0:Int×Bool)=>let T3:Tree ((Int×(List Int)×Int)):= .an (Q08 m) (.lv (Q03 m) λ(x1:List Int)=> .lf (0,x1,5)); .br (!x0.2) T3 (let T1:Tree ((Int×(List Int)×Int)):= .cn (decide (wrap u32 size≠0)) (.br (dB va (wrap u32 size) !=0) (.an (Q08 m) (.lv (Q03 m) λ(x3:List Int)=> .lf (0,x3,3))) (.lv (Qaj c) λ(x4:Bool)=>let T2:Tree ((Int×(List Int)×Int)):= .an (Q3j m va size) (.lv (Q4z m va size) λ(x8:Int×Bool)=> .br (!x8.2) (.an (Q08 m) (.lv (Q03 m) λ(x9:List Int)=> .lf (0,x9,x0.1))) (.an (Q08 m) (.lv (Q03 m) λ(x10:List Int)=> .lf (va,x10,0)))); .br (!x4) (.br (iand u32 c.B6.a0 (4:Int) !=(0:Int)) (.an (Qih m c.B6.a6 va access) (.lv (Qi m c.B6.a6 va access) λ(x5:Q1a)=> .br (x5.F0 !=0) (.an (Q08 m) (.lv (Q03 m) λ(x6:List Int)=> .lf (0,x6,x5.F0))) (.an (Qgr m x5.F4 access) (.lv (Qd m x5.F4 access) λ(x7:List Int)=> .lf (x5.Addr,x7,0))))) T2) T2)); .br (size !=1) (.br (size !=4) T3 T1) T1)
def Q25 c m va size access:=(Q6w c m va size access).m
abbrev Q9o c m va size access:=(Q6w c m va size access).p
def Zaa:Q0d:=mT 231 [] true [.agg Q05.sig, .one (.ints .u32), .one (.int .u32), .one (.int .i64), .one (.int .i64)] [] (λa r=>Q6w (Q05.of (aC a 0)) (argL .u32 a 1) (argI a 2) (argI a 3) (argI a 4)) (λX=> .tup [.int .u32 (X.1), .all 0, .int .i64 (X.2.2)]) (λX=>[⟨false,25,1, .ints .u32 (X.2.1)⟩])
theorem Qkg:Q06 pG Zaa:=oT (.cons Z6p (.cons Q0x (.cons Qu3 (.cons Z6n (.cons Z4j (.cons Qbx (.nil))))))) Tryz.func231 Tryz.call231 [.row 25 1 (.ints .u32)] [] 2
def Qc7(c:Q05)(m:List Int):Tree (Int×(List Int)×Int):=
.an (Q9o c m c.Pc 4 1) (.lv (Q25 c m c.Pc 4 1) λ(x0:Int×List Int×Int)=> .br (x0.2.2 !=0) (.lf (0,x0.2.1,x0.2.2)) (.an (Q3j x0.2.1 x0.1 4) (.lv (Q4z x0.2.1 x0.1 4) λ(x1:Int×Bool)=> .lf (x1.1,x0.2.1,0))))
def Qnx c m:=(Qc7 c m).m
abbrev Qm7 c m:=(Qc7 c m).p
def Zhx:Q0d:=mT 179 [] true [.agg Q05.sig, .one (.ints .u32)] [] (λa r=>Qc7 (Q05.of (aC a 0)) (argL .u32 a 1)) (λX=> .tup [.int .u32 (X.1), .all 0, .int .i64 (X.2.2)]) (λX=>[⟨false,25,1, .ints .u32 (X.2.1)⟩])
theorem Zh8:Q06 pG Zhx:=oT (.cons Qkg (.cons Qbx (.nil))) Tryz.func179 Tryz.call179 [.row 25 1 (.ints .u32)] [] 2
def Qn6(op:Int):Tree Bool:=
.br (op==57) (.lf true) (.br (op==58) (.lf true) (.br (op==59) (.lf true) (.br (op==60) (.lf true) (.br (op==61) (.lf true) (.br (op==62) (.lf true) (.br (op==63) (.lf true) (.br (op==64) (.lf true) (.lf false))))))))
def Q8w op:=(Qn6 op).m
def Qz9:Q0d:=mS 181 [] true [.one (.int .i64)] [] (λa r=>Qn6 (argI a 0)) (λX=> .bool X) (λX=>[])
theorem Qwd:Q06 pG Qz9:=oS (.nil) Tryz.func181 Tryz.call181 [] [] 2
def Qs8(op:Int):Tree Int:=
.br (op==32) (.lf 4) (.br (op==35) (.lf 4) (.lf 1))
def Qgh op:=(Qs8 op).m
def Zka:Q0d:=mS 237 [] true [.one (.int .i64)] [] (λa r=>Qs8 (argI a 0)) (λX=> .int .i64 X) (λX=>[])
theorem Qyz:Q06 pG Zka:=oS (.nil) Tryz.func237 Tryz.call237 [] [] 2
def Qdo(c:Q05)(register v:Int):Tree Q05:=
.br (register !=0) (.cn (bT 0 1&&decide (0<=register/\register<(↑16:Int))) (.lf ({X:=A16.of 0 (dD (A16.l c.X) register.toNat v),Pc:=c.Pc,B6:=c.B6}))) (.lf c)
def Qb5 c register v:=(Qdo c register v).m
abbrev Q8h c register v:=(Qdo c register v).p
def xA:Q0d:=mT 238 [] true [.agg Q05.sig, .one (.int .i64), .one (.int .u32)] [] (λa r=>Qdo (Q05.of (aC a 0)) (argI a 1) (argI a 2)) (λX=> .agg (Q05.cells X)) (λX=>[])
theorem Z94:Q06 pG xA:=oT (.nil) Tryz.func238 Tryz.call238 [] [] 2
def Qf7(c:Q05)(m:List Int)(i:Q0n):Tree (Q05×(List Int)):=
.cn (bT 0 1&&decide (0<=i.B/\i.B<(↑16:Int))) (.lv (Qgh i.Op) λ(x0:Int)=>let E1:=wrap u32 (aK (A16.l c.X) i.B.toNat 0+wrap u32 i.Imm); .an (Q9o c m E1 x0 2) (.lv (Q25 c m E1 x0 2) λ(x1:Int×List Int×Int)=> .br (x1.2.2 !=0) (.lv (Q4w c x1.2.2 E1) λ(x2:Q05)=> .lf (x2,x1.2.1)) (.lv (Qgh i.Op) λ(x3:Int)=> .an (Q3j x1.2.1 x1.1 x3) (.lv (Q4z x1.2.1 x1.1 x3) λ(x4:Int×Bool)=> .br (i.Op==33) (.an (Qcr x4.1 8) (.lv (Q2c x4.1 8) λ(x5:Int)=> .an (Q8h c i.A x5) (.lv (Qb5 c i.A x5) λ(x6:Q05)=> .lf ({X:=x6.X,Pc:=wrap u32 (x6.Pc+4),B6:=x6.B6},x1.2.1)))) (.an (Q8h c i.A x4.1) (.lv (Qb5 c i.A x4.1) λ(x7:Q05)=> .lf ({X:=x7.X,Pc:=wrap u32 (x7.Pc+4),B6:=x7.B6},x1.2.1)))))))
def Q6j c m i:=(Qf7 c m i).m
abbrev Qyp c m i:=(Qf7 c m i).p
def Znz:Q0d:=mT 183 [] true [.agg Q05.sig, .one (.ints .u32), .agg Q0n.sig] [] (λa r=>Qf7 (Q05.of (aC a 0)) (argL .u32 a 1) (Q0n.of (aC a 2))) (λX=> .tup [.agg (Q05.cells (X.1)), .all 0]) (λX=>[⟨false,25,1, .ints .u32 (X.2)⟩])
theorem Zil:Q06 pG Znz:=oT (.cons Qkg (.cons Qyz (.cons Qi2 (.cons Qbx (.cons Qju (.cons Z94 (.nil))))))) Tryz.func183 Tryz.call183 [.row 25 1 (.ints .u32)] [] 2
def Qc8(c:Q05)(m:List Int)(i:Q0n):Tree (Q05×(List Int)):=
.cn (bT 0 1&&decide (0<=i.B/\i.B<(↑16:Int))) (.lv (Qgh i.Op) λ(x0:Int)=>let E1:=wrap u32 (aK (A16.l c.X) i.B.toNat 0+wrap u32 i.Imm); .an (Q9o c m E1 x0 3) (.lv (Q25 c m E1 x0 3) λ(x1:Int×List Int×Int)=> .br (x1.2.2 !=0) (.lv (Q4w c x1.2.2 E1) λ(x2:Q05)=> .lf (x2,x1.2.1)) (.lv (Qgh i.Op) λ(x3:Int)=> .cn (bT 0 1&&decide (0<=i.A/\i.A<(↑16:Int))) (let E2:=aK (A16.l c.X) i.A.toNat 0; .an (Qbz x1.2.1 x1.1 x3 E2) (.lv (Q9m x1.2.1 x1.1 x3 E2) λ(x4:List Int×Bool)=> .lf ({X:=c.X,Pc:=wrap u32 (c.Pc+4),B6:=c.B6},x4.1))))))
def Q8m c m i:=(Qc8 c m i).m
abbrev Qsp c m i:=(Qc8 c m i).p
def Ziw:Q0d:=mT 184 [] true [.agg Q05.sig, .one (.ints .u32), .agg Q0n.sig] [] (λa r=>Qc8 (Q05.of (aC a 0)) (argL .u32 a 1) (Q0n.of (aC a 2))) (λX=> .tup [.agg (Q05.cells (X.1)), .all 0]) (λX=>[⟨false,25,1, .ints .u32 (X.2)⟩])
theorem Zh:Q06 pG Ziw:=oT (.cons Qkg (.cons Qyz (.cons Qi2 (.cons Qpf (.nil))))) Tryz.func184 Tryz.call184 [.row 25 1 (.ints .u32)] [] 2
def Z42(op a b:Int):Tree Bool:=
.br (op==40) (.lf (a==b)) (.br (op==41) (.lf (a !=b)) (.br (op==42) (.lf (decide (wrap i32 a<wrap i32 b))) (.br (op==43) (.lf (decide (wrap i32 a>=wrap i32 b))) (.br (op==44) (.lf (decide (a<b))) (.lf (decide (a>=b)))))))
def Zgj op a b:=(Z42 op a b).m
def Zi7:Q0d:=mS 240 [] true [.one (.int .i64), .one (.int .u32), .one (.int .u32)] [] (λa r=>Z42 (argI a 0) (argI a 1) (argI a 2)) (λX=> .bool X) (λX=>[])
theorem Ze9:Q06 pG Zi7:=oS (.nil) Tryz.func240 Tryz.call240 [] [] 2
def Qfz(c:Q05):Tree Q05:=
.lv (Q95 c.B6.a0 8 1) λ(x0:Int)=> .lv (Q95 x0 16 2) λ(x1:Int)=> .lf ({X:=c.X,Pc:=c.B6.a2,B6:={a0:=x1,a1:=c.B6.a1,a2:=c.B6.a2,a3:=c.B6.a3,a4:=c.B6.a4,a5:=c.B6.a5,a6:=c.B6.a6,a7:=c.B6.a7}})
def Qet c:=(Qfz c).m
def Zg7:Q0d:=mS 241 [] true [.agg Q05.sig] [] (λa r=>Qfz (Q05.of (aC a 0))) (λX=> .agg (Q05.cells X)) (λX=>[])
theorem Zbe:Q06 pG Zg7:=oS (.cons Z12 (.nil)) Tryz.func241 Tryz.call241 [] [] 2
def Qcd(c:Q05)(csr v:Int):Tree Q05:=
let E4:=bT 0 1&&decide (0<=csr/\csr<(↑8:Int));let T2:Tree (Q05):= .cn E4 (.lf ({X:=c.X,Pc:=c.Pc,B6:=A8.of 0 (dD (A8.l c.B6) csr.toNat (iand u32 v 31))})); .br (csr==0) T2 (.br (csr==7) T2 (.br (csr==6) (.cn E4 (.lf ({X:=c.X,Pc:=c.Pc,B6:=A8.of 0 (dD (A8.l c.B6) csr.toNat (iand u32 v 255))}))) (let T3:Tree (Q05):= .cn E4 (.lf ({X:=c.X,Pc:=c.Pc,B6:=A8.of 0 (dD (A8.l c.B6) csr.toNat (Qhm u32 v 3))})); .br (csr==1) T3 (.br (csr==2) T3 (let T1:Tree (Q05):= .cn E4 (.lf ({X:=c.X,Pc:=c.Pc,B6:=A8.of 0 (dD (A8.l c.B6) csr.toNat v)})); .br (csr==3) T1 (.br (csr==4) T1 (.br (csr==5) T1 (.lf c))))))))
def Zcv c csr v:=(Qcd c csr v).m
abbrev Qu c csr v:=(Qcd c csr v).p
def Zji:Q0d:=mT 242 [] true [.agg Q05.sig, .one (.int .i64), .one (.int .u32)] [] (λa r=>Qcd (Q05.of (aC a 0)) (argI a 1) (argI a 2)) (λX=> .agg (Q05.cells X)) (λX=>[])
theorem Ze5:Q06 pG Zji:=oT (.nil) Tryz.func242 Tryz.call242 [] [] 2
def Q56(c:Q05)(i:Q0n):Tree (Q05×Q17):=
.cn (bT 0 1&&decide (0<=i.A/\i.A<(↑16:Int))) (.cn (bT 0 1&&decide (0<=i.B/\i.B<(↑16:Int))) (.br (i.Op==24) (.an (Q8h c i.A (ishl u32 (wrap u32 i.Imm) 16)) (.lv (Qb5 c i.A (ishl u32 (wrap u32 i.Imm) 16)) λ(x0:Q05)=> .lf ({X:=x0.X,Pc:=wrap u32 (c.Pc+4),B6:=x0.B6},{B5:=0,D1:=0,D9:=0,Value:=0}))) (let E2:=({X:=c.X,Pc:=wrap u32 (c.Pc+4),B6:=c.B6}:Q05);let E3:=aK (A16.l c.X) i.B.toNat 0;let E4:=aK (A16.l c.X) i.A.toNat 0;let T1:Tree ((Q05×Q17)):= .lv (Zgj i.Op E4 E3) λ(x1:Bool)=> .br x1 (.lf ({X:=c.X,Pc:=wrap u32 (c.Pc+wrap u32 (4*wrap u32 i.Imm)),B6:=c.B6},{B5:=0,D1:=0,D9:=0,Value:=0})) (.lf (E2,{B5:=0,D1:=0,D9:=0,Value:=0})); .br (i.Op==40) T1 (.br (i.Op==41) T1 (.br (i.Op==42) T1 (.br (i.Op==43) T1 (.br (i.Op==44) T1 (.br (i.Op==45) T1 (.br (i.Op==48) (.an (Q8h c i.A (wrap u32 (c.Pc+4))) (.lv (Qb5 c i.A (wrap u32 (c.Pc+4))) λ(x7:Q05)=> .lf ({X:=x7.X,Pc:=wrap u32 (x7.Pc+wrap u32 (4*wrap u32 i.Imm)),B6:=x7.B6},{B5:=0,D1:=0,D9:=0,Value:=0}))) (.br (i.Op==49) (.an (Q8h c i.A (wrap u32 (c.Pc+4))) (.lv (Qb5 c i.A (wrap u32 (c.Pc+4))) λ(x8:Q05)=> .lf ({X:=x8.X,Pc:=wrap u32 (aK (A16.l c.X) i.B.toNat 0+wrap u32 i.Imm),B6:=x8.B6},{B5:=0,D1:=0,D9:=0,Value:=0}))) (.br (i.Op==56) (.lv (Q4w c 7 0) λ(x9:Q05)=> .lf (x9,{B5:=0,D1:=0,D9:=0,Value:=0})) (.br (i.Op==57) (.lv (Qet c) λ(x10:Q05)=> .lf (x10,{B5:=0,D1:=0,D9:=0,Value:=0})) (.br (i.Op==58) (.cn (bT 0 1&&decide (0<=i.Imm/\i.Imm<(↑8:Int))) (let E5:=aK (A8.l c.B6) i.Imm.toNat 0; .an (Q8h c i.A E5) (.lv (Qb5 c i.A E5) λ(x11:Q05)=> .lf ({X:=x11.X,Pc:=wrap u32 (c.Pc+4),B6:=x11.B6},{B5:=0,D1:=0,D9:=0,Value:=0})))) (.br (i.Op==59) (.an (Qu c (wrap i64 i.Imm) E4) (.lv (Zcv c (wrap i64 i.Imm) E4) λ(x12:Q05)=> .lf ({X:=x12.X,Pc:=wrap u32 (c.Pc+4),B6:=x12.B6},{B5:=0,D1:=0,D9:=0,Value:=0}))) (.br (i.Op==60) (.lf (E2,{B5:=1,D1:=wrap i64 i.Imm,D9:=i.A,Value:=0})) (.br (i.Op==61) (.lf (E2,{B5:=2,D1:=wrap i64 i.Imm,D9:=0,Value:=aK (A16.l c.X) i.A.toNat 0})) (.br (i.Op==62) (.lf (E2,{B5:=3,D1:=0,D9:=0,Value:=0})) (.br (i.Op==63) (.lf (E2,{B5:=5,D1:=0,D9:=0,Value:=0})) (.br (i.Op==64) (.lf (E2,{B5:=4,D1:=0,D9:=0,Value:=0})) (.cn (bT 0 1&&decide (0<=i.C/\i.C<(↑16:Int))) (.br (decide (i.Op>=16)) (.an (Qrs i.Op E3 (wrap u32 i.Imm)) (.lv (Q4n i.Op E3 (wrap u32 i.Imm)) λ(x13:Int×Bool)=> .an (Q8h c i.A x13.1) (.lv (Qb5 c i.A x13.1) λ(x14:Q05)=> .lf ({X:=x14.X,Pc:=wrap u32 (c.Pc+4),B6:=x14.B6},{B5:=0,D1:=0,D9:=0,Value:=0})))) (let E6:=aK (A16.l c.X) i.C.toNat 0; .an (Qrs i.Op E3 E6) (.lv (Q4n i.Op E3 E6) λ(x15:Int×Bool)=> .an (Q8h c i.A x15.1) (.lv (Qb5 c i.A x15.1) λ(x16:Q05)=> .lf ({X:=x16.X,Pc:=wrap u32 (c.Pc+4),B6:=x16.B6},{B5:=0,D1:=0,D9:=0,Value:=0})))))))))))))))))))))))))
def Qn1 c i:=(Q56 c i).m
abbrev Qo c i:=(Q56 c i).p
def Zbz:Q0d:=mT 185 [] true [.agg Q05.sig, .agg Q0n.sig] [] (λa r=>Q56 (Q05.of (aC a 0)) (Q0n.of (aC a 1))) (λX=> .tup [.agg (Q05.cells (X.1)), .agg (Q17.cells (X.2))]) (λX=>[])
theorem Z5e:Q06 pG Zbz:=oT (.cons Z94 (.cons Ze9 (.cons Qi2 (.cons Zbe (.cons Ze5 (.cons Zoa (.nil))))))) Tryz.func185 Tryz.call185 [] [] 2
def Q7p(c:Q05)(m:List Int):Tree (Q05×(List Int)×Q17):=
.an (Qm7 c m) (.lv (Qnx c m) λ(x0:Int×List Int×Int)=> .br (x0.2.2 !=0) (.lv (Q4w c x0.2.2 c.Pc) λ(x1:Q05)=> .lf (x1,x0.2.1,{B5:=0,D1:=0,D9:=0,Value:=0})) (.an (Qkq x0.1) (.lv (Qhr x0.1) λ(x2:Q0n×Bool)=> .br (!x2.2) (.lv (Q4w c 1 x0.1) λ(x3:Q05)=> .lf (x3,x0.2.1,{B5:=0,D1:=0,D9:=0,Value:=0})) (.lv (Q8w x2.1.Op) λ(x4:Bool)=>let T1:Tree ((Q05×(List Int)×Q17)):=let T2:Tree ((Q05×(List Int)×Q17)):= .an (Qyp c x0.2.1 x2.1) (.lv (Q6j c x0.2.1 x2.1) λ(x7:Q05×List Int)=> .lf (x7.1,x7.2,{B5:=0,D1:=0,D9:=0,Value:=0})); .br (x2.1.Op==32) T2 (.br (x2.1.Op==33) T2 (.br (x2.1.Op==34) T2 (let T3:Tree ((Q05×(List Int)×Q17)):= .an (Qsp c x0.2.1 x2.1) (.lv (Q8m c x0.2.1 x2.1) λ(x10:Q05×List Int)=> .lf (x10.1,x10.2,{B5:=0,D1:=0,D9:=0,Value:=0})); .br (x2.1.Op==35) T3 (.br (x2.1.Op==36) T3 (.an (Qo c x2.1) (.lv (Qn1 c x2.1) λ(x12:Q05×Q17)=> .lf (x12.1,x0.2.1,x12.2))))))); .br x4 (.lv (Qaj c) λ(x5:Bool)=> .br (!x5) (.lv (Q4w c 2 x0.1) λ(x6:Q05)=> .lf (x6,x0.2.1,{B5:=0,D1:=0,D9:=0,Value:=0})) T1) T1))))
def Q55 c m:=(Q7p c m).m
abbrev Qkc c m:=(Q7p c m).p
def Zo3:Q0d:=mT 114 [] true [.agg Q05.sig, .one (.ints .u32)] [] (λa r=>Q7p (Q05.of (aC a 0)) (argL .u32 a 1)) (λX=> .tup [.agg (Q05.cells (X.1)), .all 0, .agg (Q17.cells (X.2.2))]) (λX=>[⟨false,25,1, .ints .u32 (X.2.1)⟩])
theorem Z2e:Q06 pG Zo3:=oT (.cons Zh8 (.cons Qi2 (.cons Zcr (.cons Qwd (.cons Qu3 (.cons Zil (.cons Zh (.cons Z5e (.nil))))))))) Tryz.func114 Tryz.call114 [.row 25 1 (.ints .u32)] [] 2
end
noncomputable section
def tblYc0:List UInt8:=[(0:UInt8),1,2,2,3,3,3,3,4,4,4,4,4,4,4,4,5,5,5,5,5,5,5,5,5,5,5,5,5,5,5,5,6,6,6,6,6,6,6,6,6,6,6,6,6,6,6,6,6,6,6,6,6,6,6,6,6,6,6,6,6,6,6,6]
def Zfs:List UInt8:=[(7:UInt8),7,7,7,7,7,7,7,7,7,7,7,7,7,7,7,7,7,7,7,7,7,7,7,7,7,7,7,7,7,7,7,7,7,7,7,7,7,7,7,7,7,7,7,7,7,7,7,7,7,7,7,7,7,7,7,7,7,7,7,7,7,7,7]
def Qr4:List UInt8:=[(8:UInt8),8,8,8,8,8,8,8,8,8,8,8,8,8,8,8,8,8,8,8,8,8,8,8,8,8,8,8,8,8,8,8,8,8,8,8,8,8,8,8,8,8,8,8,8,8,8,8,8,8,8,8,8,8,8,8,8,8,8,8,8,8,8,8]
def Zla:List UInt8:=[(1:UInt8),2,2,3,3,3,3,4,4,4,4,4,4,4,4,5,5,5,5,5,5,5,5,5,5,5,5,5,5,5,5,6,6,6,6,6,6,6,6,6,6,6,6,6,6,6,6,6,6,6,6,6,6,6,6,6,6,6,6,6,6,6,6]
def tblYc4:List UInt8:=[(0:UInt8),1,1,2,1,2,2,3,1,2,2,3,2,3,3,4,1,2,2,3,2,3,3,4,2,3,3,4,3,4,4,5,1,2,2,3,2,3,3,4,2,3,3,4,3,4,4,5,2,3,3,4,3,4,4,5,3,4,4,5,4,5,5,6]
def Qrd:List UInt8:=[(1:UInt8),2,2,3,2,3,3,4,2,3,3,4,3,4,4,5,2,3,3,4,3,4,4,5,3,4,4,5,4,5,5,6,2,3,3,4,3,4,4,5,3,4,4,5,4,5,5,6,3,4,4,5,4,5,5,6,4,5,5,6,5,6,6,7]
def Zg8:List UInt8:=[(2:UInt8),3,3,4,3,4,4,5,3,4,4,5,4,5,5,6,3,4,4,5,4,5,5,6,4,5,5,6,5,6,6,7,3,4,4,5,4,5,5,6,4,5,5,6,5,6,6,7,4,5,5,6,5,6,6,7,5,6,6,7,6,7,7,8]
def Zl4:List UInt8:=[(1:UInt8),1,2,1,2,2,3,1,2,2,3,2,3,3,4,1,2,2,3,2,3,3,4,2,3,3,4,3,4,4,5,1,2,2,3,2,3,3,4,2,3,3,4,3,4,4,5,2,3,3,4,3,4,4,5,3,4,4,5,4,5,5,6]
def Qv5(c:Q0c):Tree Bool:=
.lf (decide ((c.D3.length:Int)<=(16:Int)))
def Q2e c:=(Qv5 c).m
def Zb7:Q0d:=mS 171 [] true [.agg Q0c.sig] [] (λa r=>Qv5 (Q0c.of (aC a 0))) (λX=> .bool X) (λX=>[])
theorem Z6a:Q06 pG Zb7:=oS (.nil) Tryz.func171 Tryz.call171 [] [] 2
def Qmv(t:Q0i):Tree Bool:=
.br t.D2 (.br (!t.D5) (.lf (t.C9 !=0)) (.lf false)) (.br t.D5 (.lf true) (.lf (t.C9==0)))
def Q4d t:=(Qmv t).m
def Zjd:Q0d:=mS 172 [] true [.agg Q0i.sig] [] (λa r=>Qmv (Q0i.of (aC a 0))) (λX=> .bool X) (λX=>[])
theorem Zdf:Q06 pG Zjd:=oS (.nil) Tryz.func172 Tryz.call172 [] [] 2
def Q7l(d0:Q0f):Tree Bool:=
.br (d0.D8==1) (.lf (decide (d0.C3=[]))) (.br (d0.D8==2) (.lf ((d0.C3.length:Int)==(128:Int))) (.lf false))
def Q9l d0:=(Q7l d0).m
def Qwe:Q0d:=mS 227 [] true [.agg Q0f.sig] [] (λa r=>Q7l (Q0f.of (aC a 0))) (λX=> .bool X) (λX=>[])
theorem Qv7:Q06 pG Qwe:=oS (.nil) Tryz.func227 Tryz.call227 [] [] 2
def Q6f(d0:Q0f)(pages:Int):Tree Bool:=
.br (decide (d0.Blocks>64)) (.lf false) (let T1:Tree (Bool):= .br (d0.D8==0) (.br (d0.B7==0) (.br (d0.B3==0) (.lf (decide (d0.C3=[]))) (.lf false)) (.lf false)) (.lf false); .br (d0.C0==0) T1 (.br (d0.C0==2) T1 (.br (d0.C0==3) T1 (.br (d0.C0==1) (.lv (Q9l d0) λ(x0:Bool)=> .br x0 (.br (decide (d0.B7<d0.Blocks)) (.lf (decide (wrap i64 d0.B3<pages))) (.lf false)) (.lf false)) (.lf false)))))
def Q1l d0 pages:=(Q6f d0 pages).m
def Zox:Q0d:=mS 173 [] true [.agg Q0f.sig, .one (.int .i64)] [] (λa r=>Q6f (Q0f.of (aC a 0)) (argI a 1)) (λX=> .bool X) (λX=>[])
theorem Zhq:Q06 pG Zox:=oS (.cons Qv7 (.nil)) Tryz.func173 Tryz.call173 [] [] 2
def Ql2(n:Q0r)(pages:Int):Tree Bool:=
let T1:Tree (Bool):=let T2:Tree (Bool):= .br n.B8 (.br (decide (n.F3>=1)) (.lf (decide (n.F3<=128))) (.lf false)) (.lf (n.F3==0)); .br n.C7 (.br (decide (wrap i64 n.B9>=pages)) (.lf false) T2) (.br (n.B9 !=0) (.lf false) T2); .br n.C7 (.br n.B8 (.lf false) T1) T1
def Q67 n pages:=(Ql2 n pages).m
def zA:Q0d:=mS 174 [] true [.agg Q0r.sig, .one (.int .i64)] [] (λa r=>Ql2 (Q0r.of (aC a 0)) (argI a 1)) (λX=> .bool X) (λX=>[])
theorem Zp6:Q06 pG zA:=oS (.nil) Tryz.func174 Tryz.call174 [] [] 2
def Q1w(x:Int):Tree Int:=
let E1:=(↑(dH (cO (cO tblYc0 Zfs) (cO Qr4 Qr4))):Int); .br (decide (x>=65536)) (.br (decide (ishr u32 x (16:Int)>=(256:Int))) (.cn (decide (0<=wrap u8 (ishr u32 (ishr u32 x 16) 8)/\wrap u8 (ishr u32 (ishr u32 x 16) 8)<E1)) (.lf (wrap i64 (wrap i64 ((16:Int)+(8:Int))+wrap i64 (↑(eU (aK ((0:UInt8)::(Zla++Zfs++(Qr4++Qr4))) (dC (wrap u8 (ishr u32 (ishr u32 x 16) 8))) (0:UInt8))):Int))))) (.cn (decide (0<=wrap u8 (ishr u32 x 16)/\wrap u8 (ishr u32 x 16)<E1)) (.lf (wrap i64 (16+wrap i64 (↑(eU (aK ((0:UInt8)::(Zla++Zfs++(Qr4++Qr4))) (dC (wrap u8 (ishr u32 x 16))) (0:UInt8))):Int)))))) (.br (decide (x>=256)) (.cn (decide (0<=wrap u8 (ishr u32 x 8)/\wrap u8 (ishr u32 x 8)<E1)) (.lf (wrap i64 (wrap i64 ((0:Int)+(8:Int))+wrap i64 (↑(eU (aK ((0:UInt8)::(Zla++Zfs++(Qr4++Qr4))) (dC (wrap u8 (ishr u32 x 8))) (0:UInt8))):Int))))) (.cn (decide (0<=wrap u8 x/\wrap u8 x<E1)) (.lf (wrap i64 (0+wrap i64 (↑(eU (aK ((0:UInt8)::(Zla++Zfs++(Qr4++Qr4))) (dC (wrap u8 x)) (0:UInt8))):Int))))))
def Q1o x:=(Q1w x).m
abbrev Qcu x:=(Q1w x).p
def Qvc:Q0d:=mT 228 [] true [.one (.int .u32)] [] (λa r=>Q1w (argI a 0)) (λX=> .int .i64 X) (λX=>[])
theorem Qul:Q06 pG Qvc:=oT (.nil) Tryz.func228 Tryz.call228 [] [] 2
def Q42(b:Q09)(pages:Int):Tree Bool:=
.an (Qcu b.C2) (.lv (Q1o b.C2) λ(x0:Int)=> .lf (decide (x0<=if 0>pages then 0 else pages)))
def Q2r b pages:=(Q42 b pages).m
abbrev Qe0 b pages:=(Q42 b pages).p
def Zby:Q0d:=mT 175 [] true [.agg Q09.sig, .one (.int .i64)] [] (λa r=>Q42 (Q09.of (aC a 0)) (argI a 1)) (λX=> .bool X) (λX=>[])
theorem Z6o:Q06 pG Zby:=oT (.cons Qul (.nil)) Tryz.func175 Tryz.call175 [] [] 2
def Q1u(m:Q00):Tree Bool:=
.lv (Q1 m.Mem) λ(x0:Int)=> .lv (Q2e m.A4) λ(x1:Bool)=> .br x1 (.lv (Q4d m.B0) λ(x2:Bool)=> .br x2 (.lv (Q1l m.B1 x0) λ(x3:Bool)=> .br x3 (.lv (Q67 m.C4 x0) λ(x4:Bool)=> .br x4 (.an (Qe0 m.A2 x0) (.lv (Q2r m.A2 x0) λ(x5:Bool)=> .lf x5)) (.lf false)) (.lf false)) (.lf false)) (.lf false)
def Q10 m:=(Q1u m).m
abbrev Q2v m:=(Q1u m).p
def Qqp:Q0d:=mT 92 [] true [.agg Q00.sig] [] (λa r=>Q1u (Q00.of (aC a 0))) (λX=> .bool X) (λX=>[])
theorem Qou:Q06 pG Qqp:=oT (.cons Q4e (.cons Z6a (.cons Zdf (.cons Zhq (.cons Zp6 (.cons Z6o (.nil))))))) Tryz.func92 Tryz.call92 [] [] 2
def Q58(m:Q00):Tree Bool:=
.lv (Q1 m.Mem) λ(x0:Int)=> .br (x0==0) (.lf false) (.br (m.B2.X.a0 !=0) (.lf false) (.br (decide (m.B2.B6.a0>31)) (.lf false) (.br (decide (m.B2.B6.a7>31)) (.lf false) (.br (decide (m.B2.B6.a6>255)) (.lf false) (.br (dB m.B2.B6.a1 (4:Int) !=(0:Int)) (.lf false) (.br (decide (m.A1>1152921504606846976)) (.lf false) (.br m.A7 (.br m.A9 (.lf false) (.an (Q2v m) (.lv (Q10 m) λ(x1:Bool)=> .lf x1))) (.an (Q2v m) (.lv (Q10 m) λ(x2:Bool)=> .lf x2)))))))))
def Q1g m:=(Q58 m).m
abbrev Q4i m:=(Q58 m).p
def Zbt:Q0d:=mT 24 [] true [.agg Q00.sig] [] (λa r=>Q58 (Q00.of (aC a 0))) (λX=> .bool X) (λX=>[])
theorem Qbl:Q06 pG Zbt:=oT (.cons Q4e (.cons Qou (.nil))) Tryz.func24 Tryz.call24 [] [] 2
def Qpe(t:Q0i):Tree Bool:=
.lf t.D5
def Qhf t:=(Qpe t).m
def Z24:Q0d:=mS 99 [] true [.agg Q0i.sig] [] (λa r=>Qpe (Q0i.of (aC a 0))) (λX=> .bool X) (λX=>[])
theorem Qzk:Q06 pG Z24:=oS (.nil) Tryz.func99 Tryz.call99 [] [] 2
def Qlb(c:Q0c):Tree Bool:=
.lf (!decide (c.D3=[]))
def Q9e c:=(Qlb c).m
def Qws:Q0d:=mS 100 [] true [.agg Q0c.sig] [] (λa r=>Qlb (Q0c.of (aC a 0))) (λX=> .bool X) (λX=>[])
theorem Qu1:Q06 pG Qws:=oS (.nil) Tryz.func100 Tryz.call100 [] [] 2
def Qks(d0:Q0f):Tree Bool:=
.br (d0.C0==2) (.lf true) (.lf (d0.C0==3))
def Q9d d0:=(Qks d0).m
def Z64:Q0d:=mS 101 [] true [.agg Q0f.sig] [] (λa r=>Qks (Q0f.of (aC a 0))) (λX=> .bool X) (λX=>[])
theorem Qoh:Q06 pG Z64:=oS (.nil) Tryz.func101 Tryz.call101 [] [] 2
def Qsu(n:Q0r):Tree Bool:=
.lf n.B8
def Qm4 n:=(Qsu n).m
def Zcb:Q0d:=mS 102 [] true [.agg Q0r.sig] [] (λa r=>Qsu (Q0r.of (aC a 0))) (λX=> .bool X) (λX=>[])
theorem Z5p:Q06 pG Zcb:=oS (.nil) Tryz.func102 Tryz.call102 [] [] 2
def Q3d(x:Int):Tree Int:=
let E1:=(↑(dH (cO (cO tblYc4 Qrd) (cO Qrd Zg8))):Int); .cn (decide (0<=ishr u32 x 24/\ishr u32 x 24<E1)) (.cn (decide (0<=iand u32 (ishr u32 x 16) 255/\iand u32 (ishr u32 x 16) 255<E1)) (.cn (decide (0<=iand u32 (ishr u32 x 8) 255/\iand u32 (ishr u32 x 8) 255<E1)) (.cn (decide (0<=iand u32 x 255/\iand u32 x 255<E1)) (.lf (wrap i64 (wrap u8 (wrap u8 (wrap u8 ((↑(eU (aK ((0:UInt8)::(Zl4++Qrd++(Qrd++Zg8))) (dC (ishr u32 x 24)) (0:UInt8))):Int)+(↑(eU (aK ((0:UInt8)::(Zl4++Qrd++(Qrd++Zg8))) (dC (iand u32 (ishr u32 x 16) 255)) (0:UInt8))):Int))+(↑(eU (aK ((0:UInt8)::(Zl4++Qrd++(Qrd++Zg8))) (dC (iand u32 (ishr u32 x 8) 255)) (0:UInt8))):Int))+(↑(eU (aK ((0:UInt8)::(Zl4++Qrd++(Qrd++Zg8))) (dC (iand u32 x 255)) (0:UInt8))):Int))))))))
def Q6n x:=(Q3d x).m
abbrev Qbp x:=(Q3d x).p
def Qme:Q0d:=mT 229 [] true [.one (.int .u32)] [] (λa r=>Q3d (argI a 0)) (λX=> .int .i64 X) (λX=>[])
theorem Qls:Q06 pG Qme:=oT (.nil) Tryz.func229 Tryz.call229 [] [] 2
def Q9p(b:Q09):Tree Int:=
.an (Qbp b.C2) (.lv (Q6n b.C2) λ(x0:Int)=> .lf x0)
def Qe9 b:=(Q9p b).m
abbrev Qel b:=(Q9p b).p
def Z18:Q0d:=mT 176 [] true [.agg Q09.sig] [] (λa r=>Q9p (Q09.of (aC a 0))) (λX=> .int .i64 X) (λX=>[])
theorem Qn5:Q06 pG Z18:=oT (.cons Qls (.nil)) Tryz.func176 Tryz.call176 [] [] 2
def Q5n(b:Q09):Tree Bool:=
.an (Qel b) (.lv (Qe9 b) λ(x0:Int)=> .lf (wrap u32 x0 !=b.D0))
def Q7m b:=(Q5n b).m
abbrev Qil b:=(Q5n b).p
def Qx2:Q0d:=mT 103 [] true [.agg Q09.sig] [] (λa r=>Q5n (Q09.of (aC a 0))) (λX=> .bool X) (λX=>[])
theorem Qt2:Q06 pG Qx2:=oT (.cons Qn5 (.nil)) Tryz.func103 Tryz.call103 [] [] 2
def Qin(m:Q00)(z:(Int)×(Int)):Nat:=(5-z.2).toNat
def Q7k(m:Q00):Tree Int:=
.lv (Qhf m.B0) λ(x0:Bool)=> .lv (Q9e m.A4) λ(x1:Bool)=> .lv (Q9d m.B1) λ(x2:Bool)=> .lv (Qm4 m.C4) λ(x3:Bool)=> .an (Qil m.A2) (.lv (Q7m m.A2) λ(x4:Bool)=> .lp inferInstance (Qin m (0,0)+1) ((rE (0:Int)/\(rE (x0:Bool)/\rE (x1:Bool)/\rE (x2:Bool)/\rE (x3:Bool)/\rE (x4:Bool)/\True)/\rE (0:Int)/\True)/\True) (0,0) λ(v0:Int×Int)=> .br (decide (v0.2<5)) (.cn (bS 1 1&&(bS 5 5&&decide (0<=v0.2/\v0.2<(↑5:Int)))) (.br (aK [x0,x1,x2,x3,x4] v0.2.toNat false) (.cn (decide (0<=v0.2)) (.nx ((rE ((ior u32 v0.1 (ishl u32 1 v0.2)):Int)/\(rE (x0:Bool)/\rE (x1:Bool)/\rE (x2:Bool)/\rE (x3:Bool)/\rE (x4:Bool)/\True)/\rE ((wrap i64 (v0.2+1)):Int)/\True)/\True) (Sum.inl (ior u32 v0.1 (ishl u32 1 v0.2),wrap i64 (v0.2+1))))) (.nx ((rE v0.1/\(rE (x0:Bool)/\rE (x1:Bool)/\rE (x2:Bool)/\rE (x3:Bool)/\rE (x4:Bool)/\True)/\rE ((wrap i64 (v0.2+1)):Int)/\True)/\True) (Sum.inl (v0.1,wrap i64 (v0.2+1)))))) (.lf (Sum.inr v0.1)))
def Qe1 m:=(Q7k m).m
abbrev Qle m:=(Q7k m).p
def Qzm:LInv:={
 α:=(Int)×(Int)
 F:=λst a=>([(4, .int u32 a.1),(23,(lk st 23)),(24, .int i64 a.2)],[])
 a0:=λst=>((lk st 4).toInt,(lk st 24).toInt)
 ex0:=λst=>[]++[]}
def Qte:List (Nat×LInv):=[(4,Qzm)]
def Z1w:Q0d:=mT 26 [] true [.agg Q00.sig] [] (λa r=>Q7k (Q00.of (aC a 0))) (λX=> .int .u32 X) (λX=>[])
theorem Qzs:Q06 pG Z1w:=oT (.cons Qzk (.cons Qu1 (.cons Qoh (.cons Z5p (.cons Qt2 (.nil)))))) Tryz.func26 Tryz.call26 [] Qte 3
def Q33(m:Q00):Tree Int:=
.an (Qle m) (.lv (Qe1 m) λ(x0:Int)=> .lf (iand u32 x0 m.B2.B6.a7))
def Q5r m:=(Q33 m).m
abbrev Qc6 m:=(Q33 m).p
def Qwf:Q0d:=mT 110 [] true [.agg Q00.sig] [] (λa r=>Q33 (Q00.of (aC a 0))) (λX=> .int .u32 X) (λX=>[])
theorem Qk9:Q06 pG Qwf:=oT (.cons Qzs (.nil)) Tryz.func110 Tryz.call110 [] [] 2
def Q38(m:Q00):Tree Bool:=
.br m.A7 (.an (Qc6 m) (.lv (Q5r m) λ(x0:Int)=> .lf (x0==0))) (.lf false)
def Q4a m:=(Q38 m).m
abbrev Q8o m:=(Q38 m).p
def Z67:Q0d:=mT 28 [] true [.agg Q00.sig] [] (λa r=>Q38 (Q00.of (aC a 0))) (λX=> .bool X) (λX=>[])
theorem Qj7:Q06 pG Z67:=oT (.cons Qk9 (.nil)) Tryz.func28 Tryz.call28 [] [] 2

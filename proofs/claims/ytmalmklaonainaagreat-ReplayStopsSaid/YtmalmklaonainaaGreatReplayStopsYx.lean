import Derived.Test.YtmalmklaonainaaGreatReplayStopsBase
open Int renaming tmod->dB, tdiv->eS, toNat->dC
open Nat renaming beq->bS, blt->bT
open List renaming set->dD, getD->aK, length->dH, append->cO
open UInt8 renaming toNat->eU
set_option maxRecDepth 100000
set_option linter.all false
namespace Go.Proofs.YtmalmklaonainaaGreat
open Go Go.GD Go.IntKind
noncomputable section
def Q04(s:List Int):(List Int):=
s
def Q09(s:List Int):Prop:=
s.length<=35184372088832
def Q4(s:List Int):List D:=[.sl 1 (.ints .u32 s) false]
def Q2k(s:List Int):List Row:=[]
def Q1r(X:List Int):D:= .all 0
def Q1s(X:List Int):List Row:=[⟨false,25,1, .ints .u32 X⟩]
def Qet:List Dir:=[.row 25 1 (.ints .u32)]
def Q7z:List PT:=[.one (.ints .u32)]
def Q7o:List RT:=[]
def Qgm(args:List D)(rows:List Row):(List Int):=Q04 (argL .u32 args 0)
def Qge(args:List D)(rows:List Row):Prop:=Q09 (argL .u32 args 0)
def Qhq:Q0e:=mkP 129 [] true Q7z Q7o Qge Qgm Q1r Q1s
def Q58(s:List Int)(Leaf:(List Int)->Prop):Prop:=
(s=[]->Leaf [])/\cand (decide ((4:Nat)*((0:Nat)+s.length)<=(140737488355328:Nat))) (Leaf s)
set_option maxRecDepth 100000 in
theorem Qh2(s:List Int)(Q:D->List Row->Prop):(fnVC tab [] (LL tab [] Tryz.f129.ntmps 0 [] 2) Tryz.f129 (Q4 s) (Q2k s) λd R=>Qa8 (Q2k s).length Qet d R Q)=Q58 s (λX=>Q (Q1r X) (Q1s X)):=by kernel_rfl
theorem Qfb(s:List Int)(Leaf:(List Int)->Prop)(hw:Q09 s)(h:Leaf (Q04 s)):
Q58 s Leaf:=by
 delta Q58
 refine⟨λe=>by rw[e]at h;exact h,?_⟩
 rw[Q08]
 refine⟨dY ?_,h⟩
 have:s.length<=35184372088832:=hw
 omega
set_option maxRecDepth 100000 in
theorem Qek(s:List Int)(hw:Q09 s):Q4k pG 129 (Q4 s) (Q2k s) (Q1r (Q04 s)) (Q1s (Q04 s)):=
 have hG:Q78 pG []:= .nil
 FnOK.calls drawn Q0l hG Tryz.func129 (rf:=none) (λ_ _=>trivial) (Zpn drawn Q0l hG (.inl rfl) 2 (invs:=[])) (FnOK.of (Qh2 s _) (Qfb s (λX=>Q1r X=Q1r (Q04 s)/\Q1s X=Q1s (Q04 s)) hw ⟨rfl,rfl⟩))
set_option maxRecDepth 100000 in
theorem Qf5(args:List D)(rows:List Row):Qfu Q7z args 0=Q4 (argL .u32 args 0):=by kernel_rfl
set_option maxRecDepth 100000 in
theorem Qel(args:List D)(rows:List Row):Q65 Q7o rows 0=Q2k (argL .u32 args 0):=by kernel_rfl
set_option maxRecDepth 100000 in
theorem Qgw(X:List Int):(ffB (Q1r X)&&ffBR (Q1s X))=true:=by kernel_rfl
theorem Q0w:Q06 pG Qhq:=Qze Tryz.call129 (λargs rows hp=>by rw[Qf5 args rows,Qel args rows];exact Qek (argL .u32 args 0) hp) (λ_ X=>Qgw X)
def Q94(m:List Int):Tree Int:=
.br (dB (m.length:Int) (32:Int) !=(0:Int)) (.lf 0) (.br (decide ((m.length:Int)>(1024:Int))) (.lf 0) (.lf (wrap i64 (eS (m.length:Int) 32))))
def Q0z m:=(Q94 m).m
def Z6z:Q0e:=mS 43 [] true [.one (.ints .u32)] [] (λa r=>Q94 (argL .u32 a 0)) (λX=> .int .i64 X) (λX=>[])
theorem Q4f:Q06 pG Z6z:=oS (.nil) Tryz.func43 Tryz.call43 [] [] 2
def Q3f(m:List Int)(addr size:Int):Tree Bool:=
let T1:Tree (Bool):= .cn (decide (wrap u32 size≠0)) (.br (dB addr (wrap u32 size) !=0) (.lf false) (.lv (Q0z m) λ(x0:Int)=> .lf (decide (wrap u64 (wrap u64 addr+wrap u64 size)<=wrap u64 (wrap u64 x0*128))))); .br (size !=1) (.br (size !=4) (.lf false) T1) T1
def Qh9 m addr size:=(Q3f m addr size).m
abbrev Qaf m addr size:=(Q3f m addr size).p
def Z29:Q0e:=mT 275 [] true [.one (.ints .u32), .one (.int .u32), .one (.int .i64)] [] (λa r=>Q3f (argL .u32 a 0) (argI a 1) (argI a 2)) (λX=> .bool X) (λX=>[])
theorem Qnb:Q06 pG Z29:=oT (.cons Q4f (.nil)) Tryz.func275 Tryz.call275 [] [] 2
def Qcl(n:Int):Tree Int:=
.br (decide (n>=32)) (.lf 4294967295) (.cn (decide (0<=wrap u64 n)) (.lf (wrap u32 (ishl u32 1 (wrap u64 n)-1))))
def Z1h n:=(Qcl n).m
abbrev Qhr n:=(Qcl n).p
def Zjl:Q0e:=mT 276 [] true [.one (.int .i64)] [] (λa r=>Qcl (argI a 0)) (λX=> .int .u32 X) (λX=>[])
theorem Qyp:Q06 pG Zjl:=oT (.nil) Tryz.func276 Tryz.call276 [] [] 2
def Q9o(w low n:Int):Tree Int:=
.br (decide (low<0)) (.lf 0) (.br (decide (low>31)) (.lf 0) (.br (decide (n<1)) (.lf 0) (.cn (decide (0<=wrap u64 low)) (.an (Qhr n) (.lv (Z1h n) λ(x0:Int)=> .lf (iand u32 (ishr u32 w (wrap u64 low)) x0))))))
def Q34 w low n:=(Q9o w low n).m
abbrev Q5i w low n:=(Q9o w low n).p
def Zdk:Q0e:=mT 233 [] true [.one (.int .u32), .one (.int .i64), .one (.int .i64)] [] (λa r=>Q9o (argI a 0) (argI a 1) (argI a 2)) (λX=> .int .u32 X) (λX=>[])
theorem Qm8:Q06 pG Zdk:=oT (.cons Qyp (.nil)) Tryz.func233 Tryz.call233 [] [] 2
def Q9j(w low n v:Int):Tree Int:=
.br (decide (low<0)) (.lf w) (.br (decide (low>31)) (.lf w) (.br (decide (n<1)) (.lf w) (.an (Qhr n) (.lv (Z1h n) λ(x0:Int)=> .cn (decide (0<=wrap u64 low)) (.cn (decide (0<=wrap u64 low)) (.lf (ior u32 (Qhj u32 w (ishl u32 x0 (wrap u64 low))) (ishl u32 (iand u32 v x0) (wrap u64 low)))))))))
def Q8b w low n v:=(Q9j w low n v).m
abbrev Qlq w low n v:=(Q9j w low n v).p
def Z3e:Q0e:=mT 278 [] true [.one (.int .u32), .one (.int .i64), .one (.int .i64), .one (.int .u32)] [] (λa r=>Q9j (argI a 0) (argI a 1) (argI a 2) (argI a 3)) (λX=> .int .u32 X) (λX=>[])
theorem Z0e:Q06 pG Z3e:=oT (.cons Qyp (.nil)) Tryz.func278 Tryz.call278 [] [] 2
def Q8r(m:List Int)(addr size v:Int):Tree ((List Int)×Bool):=
.an (Q09 m) (.lv (Q04 m) λ(x0:List Int)=> .an (Qaf m addr size) (.lv (Qh9 m addr size) λ(x1:Bool)=> .br (!x1) (.lf (x0,false)) (let E1:=bS 1 1&&bT 0 1&&decide (0<=wrap u32 (eS addr 4)/\wrap u32 (eS addr 4)<(x0.length:Int));let E2:=dC (wrap u32 (eS addr 4)); .br (size==1) (.cn E1 (let E3:=wrap i64 (wrap i64 (dB addr 4)*8); .an (Qlq (x0.getD E2 0) E3 8 v) (.lv (Q8b (x0.getD E2 0) E3 8 v) λ(x2:Int)=> .cn E1 (.lf (dD x0 E2 x2,true))))) (.cn E1 (.lf (dD x0 E2 v,true))))))
def Qa9 m addr size v:=(Q8r m addr size v).m
abbrev Qc5 m addr size v:=(Q8r m addr size v).p
def Z6u:Q0e:=mT 239 [] true [.one (.ints .u32), .one (.int .u32), .one (.int .i64), .one (.int .u32)] [] (λa r=>Q8r (argL .u32 a 0) (argI a 1) (argI a 2) (argI a 3)) (λX=> .tup [.all 0, .bool (X.2)]) (λX=>[⟨false,25,1, .ints .u32 (X.1)⟩])
theorem Qpt:Q06 pG Z6u:=oT (.cons Q0w (.cons Qnb (.cons Z0e (.nil)))) Tryz.func239 Tryz.call239 [.row 25 1 (.ints .u32)] [] 2
def Zgq(op:Int):Tree (Q97×Bool):=
.br (op==1) (.lf ({a:=true,b:=true,c:=true,low:=0,D6:=0},true)) (.br (op==2) (.lf ({a:=true,b:=true,c:=true,low:=0,D6:=0},true)) (.br (op==3) (.lf ({a:=true,b:=true,c:=true,low:=0,D6:=0},true)) (.br (op==4) (.lf ({a:=true,b:=true,c:=true,low:=0,D6:=0},true)) (.br (op==5) (.lf ({a:=true,b:=true,c:=true,low:=0,D6:=0},true)) (.br (op==6) (.lf ({a:=true,b:=true,c:=true,low:=0,D6:=0},true)) (.br (op==7) (.lf ({a:=true,b:=true,c:=true,low:=0,D6:=0},true)) (.br (op==8) (.lf ({a:=true,b:=true,c:=true,low:=0,D6:=0},true)) (.br (op==9) (.lf ({a:=true,b:=true,c:=true,low:=0,D6:=0},true)) (.br (op==10) (.lf ({a:=true,b:=true,c:=true,low:=0,D6:=0},true)) (.br (op==11) (.lf ({a:=true,b:=true,c:=true,low:=0,D6:=0},true)) (.br (op==12) (.lf ({a:=true,b:=true,c:=true,low:=0,D6:=0},true)) (.br (op==13) (.lf ({a:=true,b:=true,c:=true,low:=0,D6:=0},true)) (.br (op==16) (.lf ({a:=true,b:=true,c:=false,low:=(-32768),D6:=32767},true)) (.br (op==23) (.lf ({a:=true,b:=true,c:=false,low:=(-32768),D6:=32767},true)) (.br (op==32) (.lf ({a:=true,b:=true,c:=false,low:=(-32768),D6:=32767},true)) (.br (op==33) (.lf ({a:=true,b:=true,c:=false,low:=(-32768),D6:=32767},true)) (.br (op==34) (.lf ({a:=true,b:=true,c:=false,low:=(-32768),D6:=32767},true)) (.br (op==35) (.lf ({a:=true,b:=true,c:=false,low:=(-32768),D6:=32767},true)) (.br (op==36) (.lf ({a:=true,b:=true,c:=false,low:=(-32768),D6:=32767},true)) (.br (op==40) (.lf ({a:=true,b:=true,c:=false,low:=(-32768),D6:=32767},true)) (.br (op==41) (.lf ({a:=true,b:=true,c:=false,low:=(-32768),D6:=32767},true)) (.br (op==42) (.lf ({a:=true,b:=true,c:=false,low:=(-32768),D6:=32767},true)) (.br (op==43) (.lf ({a:=true,b:=true,c:=false,low:=(-32768),D6:=32767},true)) (.br (op==44) (.lf ({a:=true,b:=true,c:=false,low:=(-32768),D6:=32767},true)) (.br (op==45) (.lf ({a:=true,b:=true,c:=false,low:=(-32768),D6:=32767},true)) (.br (op==49) (.lf ({a:=true,b:=true,c:=false,low:=(-32768),D6:=32767},true)) (.br (op==17) (.lf ({a:=true,b:=true,c:=false,low:=0,D6:=65535},true)) (.br (op==18) (.lf ({a:=true,b:=true,c:=false,low:=0,D6:=65535},true)) (.br (op==19) (.lf ({a:=true,b:=true,c:=false,low:=0,D6:=65535},true)) (.br (op==20) (.lf ({a:=true,b:=true,c:=false,low:=0,D6:=31},true)) (.br (op==21) (.lf ({a:=true,b:=true,c:=false,low:=0,D6:=31},true)) (.br (op==22) (.lf ({a:=true,b:=true,c:=false,low:=0,D6:=31},true)) (.br (op==24) (.lf ({a:=true,b:=false,c:=false,low:=0,D6:=65535},true)) (.br (op==48) (.lf ({a:=true,b:=false,c:=false,low:=(-32768),D6:=32767},true)) (.br (op==58) (.lf ({a:=true,b:=false,c:=false,low:=0,D6:=7},true)) (.br (op==59) (.lf ({a:=true,b:=false,c:=false,low:=0,D6:=7},true)) (.br (op==60) (.lf ({a:=true,b:=false,c:=false,low:=0,D6:=11},true)) (.br (op==61) (.lf ({a:=true,b:=false,c:=false,low:=0,D6:=11},true)) (.br (op==56) (.lf ({a:=false,b:=false,c:=false,low:=0,D6:=0},true)) (.br (op==57) (.lf ({a:=false,b:=false,c:=false,low:=0,D6:=0},true)) (.br (op==62) (.lf ({a:=false,b:=false,c:=false,low:=0,D6:=0},true)) (.br (op==63) (.lf ({a:=false,b:=false,c:=false,low:=0,D6:=0},true)) (.br (op==64) (.lf ({a:=false,b:=false,c:=false,low:=0,D6:=0},true)) (.lf ({a:=false,b:=false,c:=false,low:=0,D6:=0},false)))))))))))))))))))))))))))))))))))))))))))))
def Z3 op:=(Zgq op).m
def qA:Q0e:=mS 234 [] true [.one (.int .i64)] [] (λa r=>Zgq (argI a 0)) (λX=> .tup [.agg (Q97.cells (X.1)), .bool (X.2)]) (λX=>[])
theorem Z7l:Q06 pG qA:=oS (.nil) Tryz.func234 Tryz.call234 [] [] 2
def Q7i(x n:Int):Tree Int:=
.br (decide (n<1)) (.lf 0) (.br (decide (n>=32)) (.lf x) (let E1:=decide (0<=wrap u64 (wrap i64 (32-n))); .cn E1 (.cn E1 (.lf (wrap u32 (ishr i32 (wrap i32 (ishl u32 x (wrap u64 (wrap i64 (32-n))))) (wrap u64 (wrap i64 (32-n)))))))))
def Q2g x n:=(Q7i x n).m
abbrev Qd x n:=(Q7i x n).p
def Qxk:Q0e:=mT 235 [] true [.one (.int .u32), .one (.int .i64)] [] (λa r=>Q7i (argI a 0) (argI a 1)) (λX=> .int .u32 X) (λX=>[])
theorem Qk4:Q06 pG Qxk:=oT (.nil) Tryz.func235 Tryz.call235 [] [] 2
def Qfk(r:Int)(used:Bool):Tree Bool:=
.br used (.br (decide (r>=0)) (.lf (decide (r<=15))) (.lf false)) (.lf (r==0))
def Qa3 r used:=(Qfk r used).m
def Z6f:Q0e:=mS 277 [] true [.one (.int .i64), .one (.bool)] [] (λa r=>Qfk (argI a 0) (argB a 1)) (λX=> .bool X) (λX=>[])
theorem Z35:Q06 pG Z6f:=oS (.nil) Tryz.func277 Tryz.call277 [] [] 2
def Qjg(i:Q0m):Tree Bool:=
.lv (Z3 i.Op) λ(x0:Q97×Bool)=> .br x0.2 (.lv (Qa3 i.A x0.1.a) λ(x1:Bool)=> .br x1 (.lv (Qa3 i.B x0.1.b) λ(x2:Bool)=> .br x2 (.lv (Qa3 i.C x0.1.c) λ(x3:Bool)=> .br x3 (.br (decide (i.Imm>=x0.1.low)) (.lf (decide (i.Imm<=x0.1.D6))) (.lf false)) (.lf false)) (.lf false)) (.lf false)) (.lf false)
def Qfy i:=(Qjg i).m
def Zif:Q0e:=mS 236 [] true [.agg Q0m.sig] [] (λa r=>Qjg (Q0m.of (aC a 0))) (λX=> .bool X) (λX=>[])
theorem Zeo:Q06 pG Zif:=oS (.cons Z7l (.cons Z35 (.nil))) Tryz.func236 Tryz.call236 [] [] 2
def Q7w(w:Int):Tree (Q0m×Bool):=
.an (Q5i w 24 8) (.lv (Q34 w 24 8) λ(x0:Int)=> .an (Q5i w 20 4) (.lv (Q34 w 20 4) λ(x1:Int)=> .an (Q5i w 16 4) (.lv (Q34 w 16 4) λ(x2:Int)=> .lv (Z3 (wrap i64 x0)) λ(x3:Q97×Bool)=>let E1:=({Op:=0,A:=0,B:=0,C:=0,Imm:=0}:Q0m); .br (!x3.2) (.lf (E1,false)) (.an (Q5i w 0 16) (.lv (Q34 w 0 16) λ(x4:Int)=> .br x3.1.c (let E2:=({Op:=wrap i64 x0,A:=wrap i64 x1,B:=wrap i64 x2,C:=wrap i64 x4,Imm:=0}:Q0m); .lv (Qfy E2) λ(x5:Bool)=> .br (!x5) (.lf (E1,false)) (.lf (E2,true))) (.br (decide (x3.1.low<0)) (.an (Qd x4 16) (.lv (Q2g x4 16) λ(x6:Int)=>let E3:=({Op:=wrap i64 x0,A:=wrap i64 x1,B:=wrap i64 x2,C:=0,Imm:=wrap i32 x6}:Q0m); .lv (Qfy E3) λ(x7:Bool)=> .br (!x7) (.lf (E1,false)) (.lf (E3,true)))) (let E4:=({Op:=wrap i64 x0,A:=wrap i64 x1,B:=wrap i64 x2,C:=0,Imm:=wrap i32 x4}:Q0m); .lv (Qfy E4) λ(x8:Bool)=> .br (!x8) (.lf (E1,false)) (.lf (E4,true)))))))))
def Qhz w:=(Q7w w).m
abbrev Qku w:=(Q7w w).p
def Zeu:Q0e:=mT 180 [] true [.one (.int .u32)] [] (λa r=>Q7w (argI a 0)) (λX=> .tup [.agg (Q0m.cells (X.1)), .bool (X.2)]) (λX=>[])
theorem Zbt:Q06 pG Zeu:=oT (.cons Qm8 (.cons Z7l (.cons Qk4 (.cons Zeo (.nil))))) Tryz.func180 Tryz.call180 [] [] 2
def Qb1(a b:Int):Tree (Int×Int):=
.br (b==0) (.lf (4294967295,a)) (let T1:Tree ((Int×Int)):= .cn (decide (wrap i32 b≠0)) (.cn (decide (wrap i32 b≠0)) (.lf (wrap u32 (wrap i32 (eS (wrap i32 a) (wrap i32 b))),wrap u32 (dB (wrap i32 a) (wrap i32 b))))); .br (a==2147483648) (.br (b==4294967295) (.lf (a,0)) T1) T1)
def Qcs a b:=(Qb1 a b).m
abbrev Qif a b:=(Qb1 a b).p
def Zcw:Q0e:=mT 279 [] true [.one (.int .u32), .one (.int .u32)] [] (λa r=>Qb1 (argI a 0) (argI a 1)) (λX=> .tup [.int .u32 (X.1), .int .u32 (X.2)]) (λX=>[])
theorem Z6:Q06 pG Zcw:=oT (.nil) Tryz.func279 Tryz.call279 [] [] 2
def Z2r(b:Bool):Tree Int:=
.br b (.lf 1) (.lf 0)
def Qos b:=(Z2r b).m
def Zid:Q0e:=mS 280 [] true [.one (.bool)] [] (λa r=>Z2r (argB a 0)) (λX=> .int .u32 X) (λX=>[])
theorem Zhs:Q06 pG Zid:=oS (.nil) Tryz.func280 Tryz.call280 [] [] 2
def Qo1(op a b:Int):Tree (Int×Bool):=
.br (op==2) (.lf (wrap u32 (a+wrap u32 (0-b)),true)) (.br (op==1) (.lf (wrap u32 (a+b),true)) (.br (op==16) (.lf (wrap u32 (a+b),true)) (.br (op==3) (.lf (iand u32 a b,true)) (.br (op==17) (.lf (iand u32 a b,true)) (.br (op==4) (.lf (ior u32 a b,true)) (.br (op==18) (.lf (ior u32 a b,true)) (.br (op==5) (.lf (ixor u32 a b,true)) (.br (op==19) (.lf (ixor u32 a b,true)) (.br (op==6) (.lf (ishl u32 a (iand u32 b 31),true)) (.br (op==20) (.lf (ishl u32 a (iand u32 b 31),true)) (.br (op==7) (.lf (ishr u32 a (iand u32 b 31),true)) (.br (op==21) (.lf (ishr u32 a (iand u32 b 31),true)) (let E1:=(wrap u32 (ishr i32 (wrap i32 a) (iand u32 b 31)),true); .br (op==8) (.lf E1) (.br (op==22) (.lf E1) (.br (op==9) (.lf (wrap u32 (a*b),true)) (.br (op==10) (.an (Qif a b) (.lv (Qcs a b) λ(x0:Int×Int)=> .lf (x0.1,true))) (.br (op==11) (.an (Qif a b) (.lv (Qcs a b) λ(x1:Int×Int)=> .lf (x1.2,true))) (.br (op==12) (.lv (Qos (decide (wrap i32 a<wrap i32 b))) λ(x2:Int)=> .lf (x2,true)) (.br (op==23) (.lv (Qos (decide (wrap i32 a<wrap i32 b))) λ(x3:Int)=> .lf (x3,true)) (.br (op==13) (.lv (Qos (decide (a<b))) λ(x4:Int)=> .lf (x4,true)) (.lf (0,false))))))))))))))))))))))
def Q4d op a b:=(Qo1 op a b).m
abbrev Qss op a b:=(Qo1 op a b).p
def xA:Q0e:=mT 243 [] true [.one (.int .i64), .one (.int .u32), .one (.int .u32)] [] (λa r=>Qo1 (argI a 0) (argI a 1) (argI a 2)) (λX=> .tup [.int .u32 (X.1), .bool (X.2)]) (λX=>[])
theorem Zpk:Q06 pG xA:=oT (.cons Z6 (.cons Zhs (.nil))) Tryz.func243 Tryz.call243 [] [] 2
end
noncomputable section
def Qq1(status from0 to:Int):Tree Int:=
.br (iand u32 status from0 !=0) (.lf (ior u32 status to)) (.lf (Qhj u32 status to))
def Q9a status from0 to:=(Qq1 status from0 to).m
def Zod:Q0e:=mS 230 [] true [.one (.int .u32), .one (.int .u32), .one (.int .u32)] [] (λa r=>Qq1 (argI a 0) (argI a 1) (argI a 2)) (λX=> .int .u32 X) (λX=>[])
theorem Z4m:Q06 pG Zod:=oS (.nil) Tryz.func230 Tryz.call230 [] [] 2
def Qlt(c:Q05)(cause bad:Int):Tree Q05:=
.lv (Q9a c.B5.a0 1 8) λ(x0:Int)=> .lv (Q9a x0 2 16) λ(x1:Int)=> .lf ({X:=c.X,Pc:=c.B5.a1,B5:={a0:=Qhj u32 (ior u32 x1 1) 2,a1:=c.B5.a1,a2:=c.Pc,a3:=wrap u32 cause,a4:=bad,a5:=c.B5.a5,a6:=c.B5.a6,a7:=c.B5.a7}})
def Q4y c cause bad:=(Qlt c cause bad).m
def Znd:Q0e:=mS 178 [] true [.agg Q05.sig, .one (.int .i64), .one (.int .u32)] [] (λa r=>Qlt (Q05.of (aC a 0)) (argI a 1) (argI a 2)) (λX=> .agg (Q05.cells X)) (λX=>[])
theorem Qjq:Q06 pG Znd:=oS (.cons Z4m (.nil)) Tryz.func178 Tryz.call178 [] [] 2
def Qu9(access:Int):Tree (Int×Bool):=
.br (access==1) (.lf (4,true)) (.br (access==2) (.lf (5,true)) (.br (access==3) (.lf (6,true)) (.lf (5,false))))
def Qsi access:=(Qu9 access).m
def Zbg:Q0e:=mS 272 [] true [.one (.int .i64)] [] (λa r=>Qu9 (argI a 0)) (λX=> .tup [.int .i64 (X.1), .bool (X.2)]) (λX=>[])
theorem Z7:Q06 pG Zbg:=oS (.nil) Tryz.func272 Tryz.call272 [] [] 2
def Qz6(c:Q05):Tree Bool:=
.lf (iand u32 c.B5.a0 (1:Int) !=(0:Int))
def Qal c:=(Qz6 c).m
def Zel:Q0e:=mS 182 [] true [.agg Q05.sig] [] (λa r=>Qz6 (Q05.of (aC a 0))) (λX=> .bool X) (λX=>[])
theorem Quh:Q06 pG Zel:=oS (.nil) Tryz.func182 Tryz.call182 [] [] 2
def Qne(access:Int):Tree (Int×Bool):=
.br (access==1) (.lf (4,true)) (.br (access==2) (.lf (5,true)) (.br (access==3) (.lf (6,true)) (.lf (5,false))))
def Qkq access:=(Qne access).m
def Z07:Q0e:=mS 306 [] true [.one (.int .i64)] [] (λa r=>Qne (argI a 0)) (λX=> .tup [.int .i64 (X.1), .bool (X.2)]) (λX=>[])
theorem Qvw:Q06 pG Z07:=oS (.nil) Tryz.func306 Tryz.call306 [] [] 2
def Qj6(m:List Int)(frame:Int):Tree Bool:=
.lv (Q0z m) λ(x0:Int)=> .lf (decide (wrap u64 frame<wrap u64 x0))
def Qaq m frame:=(Qj6 m frame).m
def Z3z:Q0e:=mS 307 [] true [.one (.ints .u32), .one (.int .u32)] [] (λa r=>Qj6 (argL .u32 a 0) (argI a 1)) (λX=> .bool X) (λX=>[])
theorem Qzq:Q06 pG Z3z:=oS (.cons Q4f (.nil)) Tryz.func307 Tryz.call307 [] [] 2
def Q6j(m:List Int)(addr size:Int):Tree (Int×Bool):=
.an (Qaf m addr size) (.lv (Qh9 m addr size) λ(x0:Bool)=> .br (!x0) (.lf (0,false)) (.cn (bS 1 1&&bT 0 1&&decide (0<=wrap u32 (eS addr 4)/\wrap u32 (eS addr 4)<(m.length:Int))) (let E1:=dC (wrap u32 (eS addr 4)); .br (size==1) (let E2:=wrap i64 (wrap i64 (dB addr 4)*8); .an (Q5i (m.getD E1 0) E2 8) (.lv (Q34 (m.getD E1 0) E2 8) λ(x1:Int)=> .lf (x1,true))) (.lf (m.getD E1 0,true)))))
def Q5 m addr size:=(Q6j m addr size).m
abbrev Q3a m addr size:=(Q6j m addr size).p
def Zbu:Q0e:=mT 232 [] true [.one (.ints .u32), .one (.int .u32), .one (.int .i64)] [] (λa r=>Q6j (argL .u32 a 0) (argI a 1) (argI a 2)) (λX=> .tup [.int .u32 (X.1), .bool (X.2)]) (λX=>[])
theorem Qc:Q06 pG Zbu:=oT (.cons Qnb (.cons Qm8 (.nil))) Tryz.func232 Tryz.call232 [] [] 2
def Qnn(pte access:Int):Tree Bool:=
.br (iand u32 pte (1:Int)==(0:Int)) (.lf false) (.br (access==3) (.lf (iand u32 pte (2:Int) !=(0:Int))) (.br (access==1) (.lf (iand u32 pte (4:Int) !=(0:Int))) (.lf true)))
def Qbj pte access:=(Qnn pte access).m
def Qzx:Q0e:=mS 308 [] true [.one (.int .u32), .one (.int .i64)] [] (λa r=>Qnn (argI a 0) (argI a 1)) (λX=> .bool X) (λX=>[])
theorem Qw5:Q06 pG Qzx:=oS (.nil) Tryz.func308 Tryz.call308 [] [] 2
def Q8l(pte:Int):Tree Int:=
.an (Q5i pte 8 8) (.lv (Q34 pte 8 8) λ(x0:Int)=> .lf x0)
def Qfq pte:=(Q8l pte).m
abbrev Qeg pte:=(Q8l pte).p
def Qzu:Q0e:=mT 309 [] true [.one (.int .u32)] [] (λa r=>Q8l (argI a 0)) (λX=> .int .u32 X) (λX=>[])
theorem Qx6:Q06 pG Qzu:=oT (.cons Qm8 (.nil)) Tryz.func309 Tryz.call309 [] [] 2
def Qab(m:List Int)(root va access:Int):Tree Q1a:=
.lv (Qkq access) λ(x0:Int×Bool)=>let E1:=({Addr:=0,F3:=0,F0:=x0.1}:Q1a); .br (!x0.2) (.lf (E1)) (.br (decide (va>=4096)) (.lf (E1)) (.lv (Qaq m root) λ(x1:Bool)=> .br (!x1) (.lf (E1)) (let E2:=wrap u32 (root*128)+wrap u32 (4*wrap u32 (eS va 128)); .an (Q3a m (wrap u32 E2) 4) (.lv (Q5 m (wrap u32 E2) 4) λ(x2:Int×Bool)=> .br (!x2.2) (.lf (E1)) (.lv (Qbj x2.1 access) λ(x3:Bool)=> .br (!x3) (.lf (E1)) (.an (Qeg x2.1) (.lv (Qfq x2.1) λ(x4:Int)=> .lv (Qaq m x4) λ(x5:Bool)=> .br (!x5) (.lf (E1)) (.an (Qeg x2.1) (.lv (Qfq x2.1) λ(x6:Int)=> .lf ({Addr:=wrap u32 (wrap u32 (x6*128)+dB va 128),F3:=wrap u32 E2,F0:=0}))))))))))
def Qj8 m root va access:=(Qab m root va access).m
abbrev Qis m root va access:=(Qab m root va access).p
def Zb3:Q0e:=mT 273 [] true [.one (.ints .u32), .one (.int .u32), .one (.int .u32), .one (.int .i64)] [] (λa r=>Qab (argL .u32 a 0) (argI a 1) (argI a 2) (argI a 3)) (λX=> .agg (Q1a.cells X)) (λX=>[])
theorem Z7c:Q06 pG Zb3:=oT (.cons Qvw (.cons Qzq (.cons Qc (.cons Qw5 (.cons Qx6 (.nil)))))) Tryz.func273 Tryz.call273 [] [] 2
def Q91(m:List Int)(entry access:Int):Tree (List Int):=
.an (Q3a m entry 4) (.lv (Q5 m entry 4) λ(x0:Int×Bool)=> .br (!x0.2) (.an (Q09 m) (.lv (Q04 m) λ(x1:List Int)=> .lf x1)) (.br (access==3) (.an (Qc5 m entry 4 (ior u32 (ior u32 x0.1 8) 16)) (.lv (Qa9 m entry 4 (ior u32 (ior u32 x0.1 8) 16)) λ(x2:List Int×Bool)=> .lf x2.1)) (.an (Qc5 m entry 4 (ior u32 x0.1 8)) (.lv (Qa9 m entry 4 (ior u32 x0.1 8)) λ(x3:List Int×Bool)=> .lf x3.1))))
def Qd3 m entry access:=(Q91 m entry access).m
abbrev Qgs m entry access:=(Q91 m entry access).p
def Z70:Q0e:=mT 274 [] true [.one (.ints .u32), .one (.int .u32), .one (.int .i64)] [] (λa r=>Q91 (argL .u32 a 0) (argI a 1) (argI a 2)) (λX=> .all 0) (λX=>[⟨false,25,1, .ints .u32 X⟩])
theorem Z38:Q06 pG Z70:=oT (.cons Qc (.cons Q0w (.cons Qpt (.nil)))) Tryz.func274 Tryz.call274 [.row 25 1 (.ints .u32)] [] 2
def Q6s(c:Q05)(m:List Int)(va size access:Int):Tree (Int×(List Int)×Int):=
.lv (Qsi access) λ(x0:Int×Bool)=>let T3:Tree ((Int×(List Int)×Int)):= .an (Q09 m) (.lv (Q04 m) λ(x1:List Int)=> .lf (0,x1,5)); .br (!x0.2) T3 (let T1:Tree ((Int×(List Int)×Int)):= .cn (decide (wrap u32 size≠0)) (.br (dB va (wrap u32 size) !=0) (.an (Q09 m) (.lv (Q04 m) λ(x3:List Int)=> .lf (0,x3,3))) (.lv (Qal c) λ(x4:Bool)=>let T2:Tree ((Int×(List Int)×Int)):= .an (Q3a m va size) (.lv (Q5 m va size) λ(x8:Int×Bool)=> .br (!x8.2) (.an (Q09 m) (.lv (Q04 m) λ(x9:List Int)=> .lf (0,x9,x0.1))) (.an (Q09 m) (.lv (Q04 m) λ(x10:List Int)=> .lf (va,x10,0)))); .br (!x4) (.br (iand u32 c.B5.a0 (4:Int) !=(0:Int)) (.an (Qis m c.B5.a6 va access) (.lv (Qj8 m c.B5.a6 va access) λ(x5:Q1a)=> .br (x5.F0 !=0) (.an (Q09 m) (.lv (Q04 m) λ(x6:List Int)=> .lf (0,x6,x5.F0))) (.an (Qgs m x5.F3 access) (.lv (Qd3 m x5.F3 access) λ(x7:List Int)=> .lf (x5.Addr,x7,0))))) T2) T2)); .br (size !=1) (.br (size !=4) T3 T1) T1)
def Q27 c m va size access:=(Q6s c m va size access).m
abbrev Q9r c m va size access:=(Q6s c m va size access).p
def Zas:Q0e:=mT 231 [] true [.agg Q05.sig, .one (.ints .u32), .one (.int .u32), .one (.int .i64), .one (.int .i64)] [] (λa r=>Q6s (Q05.of (aC a 0)) (argL .u32 a 1) (argI a 2) (argI a 3) (argI a 4)) (λX=> .tup [.int .u32 (X.1), .all 0, .int .i64 (X.2.2)]) (λX=>[⟨false,25,1, .ints .u32 (X.2.1)⟩])
theorem Qkt:Q06 pG Zas:=oT (.cons Z7 (.cons Q0w (.cons Quh (.cons Z7c (.cons Z38 (.cons Qc (.nil))))))) Tryz.func231 Tryz.call231 [.row 25 1 (.ints .u32)] [] 2
def Qd0(c:Q05)(m:List Int):Tree (Int×(List Int)×Int):=
.an (Q9r c m c.Pc 4 1) (.lv (Q27 c m c.Pc 4 1) λ(x0:Int×List Int×Int)=> .br (x0.2.2 !=0) (.lf (0,x0.2.1,x0.2.2)) (.an (Q3a x0.2.1 x0.1 4) (.lv (Q5 x0.2.1 x0.1 4) λ(x1:Int×Bool)=> .lf (x1.1,x0.2.1,0))))
def Qph c m:=(Qd0 c m).m
abbrev Qmi c m:=(Qd0 c m).p
def Zl:Q0e:=mT 179 [] true [.agg Q05.sig, .one (.ints .u32)] [] (λa r=>Qd0 (Q05.of (aC a 0)) (argL .u32 a 1)) (λX=> .tup [.int .u32 (X.1), .all 0, .int .i64 (X.2.2)]) (λX=>[⟨false,25,1, .ints .u32 (X.2.1)⟩])
theorem Zh3:Q06 pG Zl:=oT (.cons Qkt (.cons Qc (.nil))) Tryz.func179 Tryz.call179 [.row 25 1 (.ints .u32)] [] 2
def Qnu(op:Int):Tree Bool:=
.br (op==57) (.lf true) (.br (op==58) (.lf true) (.br (op==59) (.lf true) (.br (op==60) (.lf true) (.br (op==61) (.lf true) (.br (op==62) (.lf true) (.br (op==63) (.lf true) (.br (op==64) (.lf true) (.lf false))))))))
def Q8y op:=(Qnu op).m
def Z0q:Q0e:=mS 181 [] true [.one (.int .i64)] [] (λa r=>Qnu (argI a 0)) (λX=> .bool X) (λX=>[])
theorem Qxv:Q06 pG Z0q:=oS (.nil) Tryz.func181 Tryz.call181 [] [] 2
def Qs9(op:Int):Tree Int:=
.br (op==32) (.lf 4) (.br (op==35) (.lf 4) (.lf 1))
def Qgo op:=(Qs9 op).m
def Zhy:Q0e:=mS 237 [] true [.one (.int .i64)] [] (λa r=>Qs9 (argI a 0)) (λX=> .int .i64 X) (λX=>[])
theorem Qz8:Q06 pG Zhy:=oS (.nil) Tryz.func237 Tryz.call237 [] [] 2
def Qea(c:Q05)(register v:Int):Tree Q05:=
.br (register !=0) (.cn (bT 0 1&&decide (0<=register/\register<(↑16:Int))) (.lf ({X:=A16.of 0 (dD (A16.l c.X) register.toNat v),Pc:=c.Pc,B5:=c.B5}))) (.lf c)
def Qb7 c register v:=(Qea c register v).m
abbrev Q88 c register v:=(Qea c register v).p
def zA:Q0e:=mT 238 [] true [.agg Q05.sig, .one (.int .i64), .one (.int .u32)] [] (λa r=>Qea (Q05.of (aC a 0)) (argI a 1) (argI a 2)) (λX=> .agg (Q05.cells X)) (λX=>[])
theorem Z9f:Q06 pG zA:=oT (.nil) Tryz.func238 Tryz.call238 [] [] 2
def Qer(c:Q05)(m:List Int)(i:Q0m):Tree (Q05×(List Int)):=
.cn (bT 0 1&&decide (0<=i.B/\i.B<(↑16:Int))) (.lv (Qgo i.Op) λ(x0:Int)=>let E1:=wrap u32 (aK (A16.l c.X) i.B.toNat 0+wrap u32 i.Imm); .an (Q9r c m E1 x0 2) (.lv (Q27 c m E1 x0 2) λ(x1:Int×List Int×Int)=> .br (x1.2.2 !=0) (.lv (Q4y c x1.2.2 E1) λ(x2:Q05)=> .lf (x2,x1.2.1)) (.lv (Qgo i.Op) λ(x3:Int)=> .an (Q3a x1.2.1 x1.1 x3) (.lv (Q5 x1.2.1 x1.1 x3) λ(x4:Int×Bool)=> .br (i.Op==33) (.an (Qd x4.1 8) (.lv (Q2g x4.1 8) λ(x5:Int)=> .an (Q88 c i.A x5) (.lv (Qb7 c i.A x5) λ(x6:Q05)=> .lf ({X:=x6.X,Pc:=wrap u32 (x6.Pc+4),B5:=x6.B5},x1.2.1)))) (.an (Q88 c i.A x4.1) (.lv (Qb7 c i.A x4.1) λ(x7:Q05)=> .lf ({X:=x7.X,Pc:=wrap u32 (x7.Pc+4),B5:=x7.B5},x1.2.1)))))))
def Q6p c m i:=(Qer c m i).m
abbrev Qyc c m i:=(Qer c m i).p
def Zp:Q0e:=mT 183 [] true [.agg Q05.sig, .one (.ints .u32), .agg Q0m.sig] [] (λa r=>Qer (Q05.of (aC a 0)) (argL .u32 a 1) (Q0m.of (aC a 2))) (λX=> .tup [.agg (Q05.cells (X.1)), .all 0]) (λX=>[⟨false,25,1, .ints .u32 (X.2)⟩])
theorem Ziy:Q06 pG Zp:=oT (.cons Qkt (.cons Qz8 (.cons Qjq (.cons Qc (.cons Qk4 (.cons Z9f (.nil))))))) Tryz.func183 Tryz.call183 [.row 25 1 (.ints .u32)] [] 2
def Qcr(c:Q05)(m:List Int)(i:Q0m):Tree (Q05×(List Int)):=
.cn (bT 0 1&&decide (0<=i.B/\i.B<(↑16:Int))) (.lv (Qgo i.Op) λ(x0:Int)=>let E1:=wrap u32 (aK (A16.l c.X) i.B.toNat 0+wrap u32 i.Imm); .an (Q9r c m E1 x0 3) (.lv (Q27 c m E1 x0 3) λ(x1:Int×List Int×Int)=> .br (x1.2.2 !=0) (.lv (Q4y c x1.2.2 E1) λ(x2:Q05)=> .lf (x2,x1.2.1)) (.lv (Qgo i.Op) λ(x3:Int)=> .cn (bT 0 1&&decide (0<=i.A/\i.A<(↑16:Int))) (let E2:=aK (A16.l c.X) i.A.toNat 0; .an (Qc5 x1.2.1 x1.1 x3 E2) (.lv (Qa9 x1.2.1 x1.1 x3 E2) λ(x4:List Int×Bool)=> .lf ({X:=c.X,Pc:=wrap u32 (c.Pc+4),B5:=c.B5},x4.1))))))
def Q8p c m i:=(Qcr c m i).m
abbrev Quc c m i:=(Qcr c m i).p
def Zi6:Q0e:=mT 184 [] true [.agg Q05.sig, .one (.ints .u32), .agg Q0m.sig] [] (λa r=>Qcr (Q05.of (aC a 0)) (argL .u32 a 1) (Q0m.of (aC a 2))) (λX=> .tup [.agg (Q05.cells (X.1)), .all 0]) (λX=>[⟨false,25,1, .ints .u32 (X.2)⟩])
theorem Zgg:Q06 pG Zi6:=oT (.cons Qkt (.cons Qz8 (.cons Qjq (.cons Qpt (.nil))))) Tryz.func184 Tryz.call184 [.row 25 1 (.ints .u32)] [] 2
def Z1d(op a b:Int):Tree Bool:=
.br (op==40) (.lf (a==b)) (.br (op==41) (.lf (a !=b)) (.br (op==42) (.lf (decide (wrap i32 a<wrap i32 b))) (.br (op==43) (.lf (decide (wrap i32 a>=wrap i32 b))) (.br (op==44) (.lf (decide (a<b))) (.lf (decide (a>=b)))))))
def Zen op a b:=(Z1d op a b).m
def Ziv:Q0e:=mS 240 [] true [.one (.int .i64), .one (.int .u32), .one (.int .u32)] [] (λa r=>Z1d (argI a 0) (argI a 1) (argI a 2)) (λX=> .bool X) (λX=>[])
theorem Zfz:Q06 pG Ziv:=oS (.nil) Tryz.func240 Tryz.call240 [] [] 2
def Qg6(c:Q05):Tree Q05:=
.lv (Q9a c.B5.a0 8 1) λ(x0:Int)=> .lv (Q9a x0 16 2) λ(x1:Int)=> .lf ({X:=c.X,Pc:=c.B5.a2,B5:={a0:=x1,a1:=c.B5.a1,a2:=c.B5.a2,a3:=c.B5.a3,a4:=c.B5.a4,a5:=c.B5.a5,a6:=c.B5.a6,a7:=c.B5.a7}})
def Qeu c:=(Qg6 c).m
def Zg6:Q0e:=mS 241 [] true [.agg Q05.sig] [] (λa r=>Qg6 (Q05.of (aC a 0))) (λX=> .agg (Q05.cells X)) (λX=>[])
theorem Zb7:Q06 pG Zg6:=oS (.cons Z4m (.nil)) Tryz.func241 Tryz.call241 [] [] 2
def Qcc(c:Q05)(csr v:Int):Tree Q05:=
let E4:=bT 0 1&&decide (0<=csr/\csr<(↑8:Int));let T2:Tree (Q05):= .cn E4 (.lf ({X:=c.X,Pc:=c.Pc,B5:=A8.of 0 (dD (A8.l c.B5) csr.toNat (iand u32 v 31))})); .br (csr==0) T2 (.br (csr==7) T2 (.br (csr==6) (.cn E4 (.lf ({X:=c.X,Pc:=c.Pc,B5:=A8.of 0 (dD (A8.l c.B5) csr.toNat (iand u32 v 255))}))) (let T3:Tree (Q05):= .cn E4 (.lf ({X:=c.X,Pc:=c.Pc,B5:=A8.of 0 (dD (A8.l c.B5) csr.toNat (Qhj u32 v 3))})); .br (csr==1) T3 (.br (csr==2) T3 (let T1:Tree (Q05):= .cn E4 (.lf ({X:=c.X,Pc:=c.Pc,B5:=A8.of 0 (dD (A8.l c.B5) csr.toNat v)})); .br (csr==3) T1 (.br (csr==4) T1 (.br (csr==5) T1 (.lf c))))))))
def Zd5 c csr v:=(Qcc c csr v).m
abbrev Qv5 c csr v:=(Qcc c csr v).p
def Zjw:Q0e:=mT 242 [] true [.agg Q05.sig, .one (.int .i64), .one (.int .u32)] [] (λa r=>Qcc (Q05.of (aC a 0)) (argI a 1) (argI a 2)) (λX=> .agg (Q05.cells X)) (λX=>[])
theorem Zf9:Q06 pG Zjw:=oT (.nil) Tryz.func242 Tryz.call242 [] [] 2
def Q5a(c:Q05)(i:Q0m):Tree (Q05×Q16):=
.cn (bT 0 1&&decide (0<=i.A/\i.A<(↑16:Int))) (.cn (bT 0 1&&decide (0<=i.B/\i.B<(↑16:Int))) (.br (i.Op==24) (.an (Q88 c i.A (ishl u32 (wrap u32 i.Imm) 16)) (.lv (Qb7 c i.A (ishl u32 (wrap u32 i.Imm) 16)) λ(x0:Q05)=> .lf ({X:=x0.X,Pc:=wrap u32 (c.Pc+4),B5:=x0.B5},{B6:=0,D1:=0,D9:=0,Value:=0}))) (let E2:=({X:=c.X,Pc:=wrap u32 (c.Pc+4),B5:=c.B5}:Q05);let E3:=aK (A16.l c.X) i.B.toNat 0;let E4:=aK (A16.l c.X) i.A.toNat 0;let T1:Tree ((Q05×Q16)):= .lv (Zen i.Op E4 E3) λ(x1:Bool)=> .br x1 (.lf ({X:=c.X,Pc:=wrap u32 (c.Pc+wrap u32 (4*wrap u32 i.Imm)),B5:=c.B5},{B6:=0,D1:=0,D9:=0,Value:=0})) (.lf (E2,{B6:=0,D1:=0,D9:=0,Value:=0})); .br (i.Op==40) T1 (.br (i.Op==41) T1 (.br (i.Op==42) T1 (.br (i.Op==43) T1 (.br (i.Op==44) T1 (.br (i.Op==45) T1 (.br (i.Op==48) (.an (Q88 c i.A (wrap u32 (c.Pc+4))) (.lv (Qb7 c i.A (wrap u32 (c.Pc+4))) λ(x7:Q05)=> .lf ({X:=x7.X,Pc:=wrap u32 (x7.Pc+wrap u32 (4*wrap u32 i.Imm)),B5:=x7.B5},{B6:=0,D1:=0,D9:=0,Value:=0}))) (.br (i.Op==49) (.an (Q88 c i.A (wrap u32 (c.Pc+4))) (.lv (Qb7 c i.A (wrap u32 (c.Pc+4))) λ(x8:Q05)=> .lf ({X:=x8.X,Pc:=wrap u32 (aK (A16.l c.X) i.B.toNat 0+wrap u32 i.Imm),B5:=x8.B5},{B6:=0,D1:=0,D9:=0,Value:=0}))) (.br (i.Op==56) (.lv (Q4y c 7 0) λ(x9:Q05)=> .lf (x9,{B6:=0,D1:=0,D9:=0,Value:=0})) (.br (i.Op==57) (.lv (Qeu c) λ(x10:Q05)=> .lf (x10,{B6:=0,D1:=0,D9:=0,Value:=0})) (.br (i.Op==58) (.cn (bT 0 1&&decide (0<=i.Imm/\i.Imm<(↑8:Int))) (let E5:=aK (A8.l c.B5) i.Imm.toNat 0; .an (Q88 c i.A E5) (.lv (Qb7 c i.A E5) λ(x11:Q05)=> .lf ({X:=x11.X,Pc:=wrap u32 (c.Pc+4),B5:=x11.B5},{B6:=0,D1:=0,D9:=0,Value:=0})))) (.br (i.Op==59) (.an (Qv5 c (wrap i64 i.Imm) E4) (.lv (Zd5 c (wrap i64 i.Imm) E4) λ(x12:Q05)=> .lf ({X:=x12.X,Pc:=wrap u32 (c.Pc+4),B5:=x12.B5},{B6:=0,D1:=0,D9:=0,Value:=0}))) (.br (i.Op==60) (.lf (E2,{B6:=1,D1:=wrap i64 i.Imm,D9:=i.A,Value:=0})) (.br (i.Op==61) (.lf (E2,{B6:=2,D1:=wrap i64 i.Imm,D9:=0,Value:=aK (A16.l c.X) i.A.toNat 0})) (.br (i.Op==62) (.lf (E2,{B6:=3,D1:=0,D9:=0,Value:=0})) (.br (i.Op==63) (.lf (E2,{B6:=5,D1:=0,D9:=0,Value:=0})) (.br (i.Op==64) (.lf (E2,{B6:=4,D1:=0,D9:=0,Value:=0})) (.cn (bT 0 1&&decide (0<=i.C/\i.C<(↑16:Int))) (.br (decide (i.Op>=16)) (.an (Qss i.Op E3 (wrap u32 i.Imm)) (.lv (Q4d i.Op E3 (wrap u32 i.Imm)) λ(x13:Int×Bool)=> .an (Q88 c i.A x13.1) (.lv (Qb7 c i.A x13.1) λ(x14:Q05)=> .lf ({X:=x14.X,Pc:=wrap u32 (c.Pc+4),B5:=x14.B5},{B6:=0,D1:=0,D9:=0,Value:=0})))) (let E6:=aK (A16.l c.X) i.C.toNat 0; .an (Qss i.Op E3 E6) (.lv (Q4d i.Op E3 E6) λ(x15:Int×Bool)=> .an (Q88 c i.A x15.1) (.lv (Qb7 c i.A x15.1) λ(x16:Q05)=> .lf ({X:=x16.X,Pc:=wrap u32 (c.Pc+4),B5:=x16.B5},{B6:=0,D1:=0,D9:=0,Value:=0})))))))))))))))))))))))))
def Qn1 c i:=(Q5a c i).m
abbrev Qoo c i:=(Q5a c i).p
def Zc:Q0e:=mT 185 [] true [.agg Q05.sig, .agg Q0m.sig] [] (λa r=>Q5a (Q05.of (aC a 0)) (Q0m.of (aC a 1))) (λX=> .tup [.agg (Q05.cells (X.1)), .agg (Q16.cells (X.2))]) (λX=>[])
theorem Z75:Q06 pG Zc:=oT (.cons Z9f (.cons Zfz (.cons Qjq (.cons Zb7 (.cons Zf9 (.cons Zpk (.nil))))))) Tryz.func185 Tryz.call185 [] [] 2
def Q7q(c:Q05)(m:List Int):Tree (Q05×(List Int)×Q16):=
.an (Qmi c m) (.lv (Qph c m) λ(x0:Int×List Int×Int)=> .br (x0.2.2 !=0) (.lv (Q4y c x0.2.2 c.Pc) λ(x1:Q05)=> .lf (x1,x0.2.1,{B6:=0,D1:=0,D9:=0,Value:=0})) (.an (Qku x0.1) (.lv (Qhz x0.1) λ(x2:Q0m×Bool)=> .br (!x2.2) (.lv (Q4y c 1 x0.1) λ(x3:Q05)=> .lf (x3,x0.2.1,{B6:=0,D1:=0,D9:=0,Value:=0})) (.lv (Q8y x2.1.Op) λ(x4:Bool)=>let T1:Tree ((Q05×(List Int)×Q16)):=let T2:Tree ((Q05×(List Int)×Q16)):= .an (Qyc c x0.2.1 x2.1) (.lv (Q6p c x0.2.1 x2.1) λ(x7:Q05×List Int)=> .lf (x7.1,x7.2,{B6:=0,D1:=0,D9:=0,Value:=0})); .br (x2.1.Op==32) T2 (.br (x2.1.Op==33) T2 (.br (x2.1.Op==34) T2 (let T3:Tree ((Q05×(List Int)×Q16)):= .an (Quc c x0.2.1 x2.1) (.lv (Q8p c x0.2.1 x2.1) λ(x10:Q05×List Int)=> .lf (x10.1,x10.2,{B6:=0,D1:=0,D9:=0,Value:=0})); .br (x2.1.Op==35) T3 (.br (x2.1.Op==36) T3 (.an (Qoo c x2.1) (.lv (Qn1 c x2.1) λ(x12:Q05×Q16)=> .lf (x12.1,x0.2.1,x12.2))))))); .br x4 (.lv (Qal c) λ(x5:Bool)=> .br (!x5) (.lv (Q4y c 2 x0.1) λ(x6:Q05)=> .lf (x6,x0.2.1,{B6:=0,D1:=0,D9:=0,Value:=0})) T1) T1))))
def Q84 c m:=(Q7q c m).m
abbrev Qki c m:=(Q7q c m).p
def Znf:Q0e:=mT 114 [] true [.agg Q05.sig, .one (.ints .u32)] [] (λa r=>Q7q (Q05.of (aC a 0)) (argL .u32 a 1)) (λX=> .tup [.agg (Q05.cells (X.1)), .all 0, .agg (Q16.cells (X.2.2))]) (λX=>[⟨false,25,1, .ints .u32 (X.2.1)⟩])
theorem Z2b:Q06 pG Znf:=oT (.cons Zh3 (.cons Qjq (.cons Zbt (.cons Qxv (.cons Quh (.cons Ziy (.cons Zgg (.cons Z75 (.nil))))))))) Tryz.func114 Tryz.call114 [.row 25 1 (.ints .u32)] [] 2
end
noncomputable section
def tblYc0:List UInt8:=[(0:UInt8),1,2,2,3,3,3,3,4,4,4,4,4,4,4,4,5,5,5,5,5,5,5,5,5,5,5,5,5,5,5,5,6,6,6,6,6,6,6,6,6,6,6,6,6,6,6,6,6,6,6,6,6,6,6,6,6,6,6,6,6,6,6,6]
def Zg8:List UInt8:=[(7:UInt8),7,7,7,7,7,7,7,7,7,7,7,7,7,7,7,7,7,7,7,7,7,7,7,7,7,7,7,7,7,7,7,7,7,7,7,7,7,7,7,7,7,7,7,7,7,7,7,7,7,7,7,7,7,7,7,7,7,7,7,7,7,7,7]
def Qrk:List UInt8:=[(8:UInt8),8,8,8,8,8,8,8,8,8,8,8,8,8,8,8,8,8,8,8,8,8,8,8,8,8,8,8,8,8,8,8,8,8,8,8,8,8,8,8,8,8,8,8,8,8,8,8,8,8,8,8,8,8,8,8,8,8,8,8,8,8,8,8]
def Zle:List UInt8:=[(1:UInt8),2,2,3,3,3,3,4,4,4,4,4,4,4,4,5,5,5,5,5,5,5,5,5,5,5,5,5,5,5,5,6,6,6,6,6,6,6,6,6,6,6,6,6,6,6,6,6,6,6,6,6,6,6,6,6,6,6,6,6,6,6,6]
def tblYc4:List UInt8:=[(0:UInt8),1,1,2,1,2,2,3,1,2,2,3,2,3,3,4,1,2,2,3,2,3,3,4,2,3,3,4,3,4,4,5,1,2,2,3,2,3,3,4,2,3,3,4,3,4,4,5,2,3,3,4,3,4,4,5,3,4,4,5,4,5,5,6]
def Qr8:List UInt8:=[(1:UInt8),2,2,3,2,3,3,4,2,3,3,4,3,4,4,5,2,3,3,4,3,4,4,5,3,4,4,5,4,5,5,6,2,3,3,4,3,4,4,5,3,4,4,5,4,5,5,6,3,4,4,5,4,5,5,6,4,5,5,6,5,6,6,7]
def Zhv:List UInt8:=[(2:UInt8),3,3,4,3,4,4,5,3,4,4,5,4,5,5,6,3,4,4,5,4,5,5,6,4,5,5,6,5,6,6,7,3,4,4,5,4,5,5,6,4,5,5,6,5,6,6,7,4,5,5,6,5,6,6,7,5,6,6,7,6,7,7,8]
def Zmo:List UInt8:=[(1:UInt8),1,2,1,2,2,3,1,2,2,3,2,3,3,4,1,2,2,3,2,3,3,4,2,3,3,4,3,4,4,5,1,2,2,3,2,3,3,4,2,3,3,4,3,4,4,5,2,3,3,4,3,4,4,5,3,4,4,5,4,5,5,6]
def Qt5(c:Q0d):Tree Bool:=
.lf (decide ((c.D3.length:Int)<=(16:Int)))
def Q2c c:=(Qt5 c).m
def Zco:Q0e:=mS 171 [] true [.agg Q0d.sig] [] (λa r=>Qt5 (Q0d.of (aC a 0))) (λX=> .bool X) (λX=>[])
theorem Z6d:Q06 pG Zco:=oS (.nil) Tryz.func171 Tryz.call171 [] [] 2
def Qn2(t:Q0i):Tree Bool:=
.br t.D2 (.br (!t.D5) (.lf (t.C8 !=0)) (.lf false)) (.br t.D5 (.lf true) (.lf (t.C8==0)))
def Q4g t:=(Qn2 t).m
def Zkr:Q0e:=mS 172 [] true [.agg Q0i.sig] [] (λa r=>Qn2 (Q0i.of (aC a 0))) (λX=> .bool X) (λX=>[])
theorem Zei:Q06 pG Zkr:=oS (.nil) Tryz.func172 Tryz.call172 [] [] 2
def Q7v(d0:Q0g):Tree Bool:=
.br (d0.D8==1) (.lf (decide (d0.C4=[]))) (.br (d0.D8==2) (.lf ((d0.C4.length:Int)==(128:Int))) (.lf false))
def Qa6 d0:=(Q7v d0).m
def Qxb:Q0e:=mS 227 [] true [.agg Q0g.sig] [] (λa r=>Q7v (Q0g.of (aC a 0))) (λX=> .bool X) (λX=>[])
theorem Qtq:Q06 pG Qxb:=oS (.nil) Tryz.func227 Tryz.call227 [] [] 2
def Q6h(d0:Q0g)(pages:Int):Tree Bool:=
.br (decide (d0.Blocks>64)) (.lf false) (let T1:Tree (Bool):= .br (d0.D8==0) (.br (d0.B7==0) (.br (d0.B3==0) (.lf (decide (d0.C4=[]))) (.lf false)) (.lf false)) (.lf false); .br (d0.C1==0) T1 (.br (d0.C1==2) T1 (.br (d0.C1==3) T1 (.br (d0.C1==1) (.lv (Qa6 d0) λ(x0:Bool)=> .br x0 (.br (decide (d0.B7<d0.Blocks)) (.lf (decide (wrap i64 d0.B3<pages))) (.lf false)) (.lf false)) (.lf false)))))
def Q1l d0 pages:=(Q6h d0 pages).m
def Zp0:Q0e:=mS 173 [] true [.agg Q0g.sig, .one (.int .i64)] [] (λa r=>Q6h (Q0g.of (aC a 0)) (argI a 1)) (λX=> .bool X) (λX=>[])
theorem Zkl:Q06 pG Zp0:=oS (.cons Qtq (.nil)) Tryz.func173 Tryz.call173 [] [] 2
def Ql8(n:Q0r)(pages:Int):Tree Bool:=
let T1:Tree (Bool):=let T2:Tree (Bool):= .br n.B8 (.br (decide (n.F1>=1)) (.lf (decide (n.F1<=128))) (.lf false)) (.lf (n.F1==0)); .br n.C7 (.br (decide (wrap i64 n.B9>=pages)) (.lf false) T2) (.br (n.B9 !=0) (.lf false) T2); .br n.C7 (.br n.B8 (.lf false) T1) T1
def Q69 n pages:=(Ql8 n pages).m
def yA:Q0e:=mS 174 [] true [.agg Q0r.sig, .one (.int .i64)] [] (λa r=>Ql8 (Q0r.of (aC a 0)) (argI a 1)) (λX=> .bool X) (λX=>[])
theorem Zoa:Q06 pG yA:=oS (.nil) Tryz.func174 Tryz.call174 [] [] 2
def Q1v(x:Int):Tree Int:=
let E1:=(↑(dH (cO (cO tblYc0 Zg8) (cO Qrk Qrk))):Int); .br (decide (x>=65536)) (.br (decide (ishr u32 x (16:Int)>=(256:Int))) (.cn (decide (0<=wrap u8 (ishr u32 (ishr u32 x 16) 8)/\wrap u8 (ishr u32 (ishr u32 x 16) 8)<E1)) (.lf (wrap i64 (wrap i64 ((16:Int)+(8:Int))+wrap i64 (↑(eU (aK ((0:UInt8)::(Zle++Zg8++(Qrk++Qrk))) (dC (wrap u8 (ishr u32 (ishr u32 x 16) 8))) (0:UInt8))):Int))))) (.cn (decide (0<=wrap u8 (ishr u32 x 16)/\wrap u8 (ishr u32 x 16)<E1)) (.lf (wrap i64 (16+wrap i64 (↑(eU (aK ((0:UInt8)::(Zle++Zg8++(Qrk++Qrk))) (dC (wrap u8 (ishr u32 x 16))) (0:UInt8))):Int)))))) (.br (decide (x>=256)) (.cn (decide (0<=wrap u8 (ishr u32 x 8)/\wrap u8 (ishr u32 x 8)<E1)) (.lf (wrap i64 (wrap i64 ((0:Int)+(8:Int))+wrap i64 (↑(eU (aK ((0:UInt8)::(Zle++Zg8++(Qrk++Qrk))) (dC (wrap u8 (ishr u32 x 8))) (0:UInt8))):Int))))) (.cn (decide (0<=wrap u8 x/\wrap u8 x<E1)) (.lf (wrap i64 (0+wrap i64 (↑(eU (aK ((0:UInt8)::(Zle++Zg8++(Qrk++Qrk))) (dC (wrap u8 x)) (0:UInt8))):Int))))))
def Q1p x:=(Q1v x).m
abbrev Qcf x:=(Q1v x).p
def Qw9:Q0e:=mT 228 [] true [.one (.int .u32)] [] (λa r=>Q1v (argI a 0)) (λX=> .int .i64 X) (λX=>[])
theorem Qvc:Q06 pG Qw9:=oT (.nil) Tryz.func228 Tryz.call228 [] [] 2
def Q4a(b:Q07)(pages:Int):Tree Bool:=
.an (Qcf b.C3) (.lv (Q1p b.C3) λ(x0:Int)=> .lf (decide (x0<=if 0>pages then 0 else pages)))
def Q2o b pages:=(Q4a b pages).m
abbrev Qe2 b pages:=(Q4a b pages).p
def Zcx:Q0e:=mT 175 [] true [.agg Q07.sig, .one (.int .i64)] [] (λa r=>Q4a (Q07.of (aC a 0)) (argI a 1)) (λX=> .bool X) (λX=>[])
theorem Z7d:Q06 pG Zcx:=oT (.cons Qvc (.nil)) Tryz.func175 Tryz.call175 [] [] 2
def Q1u(m:Q00):Tree Bool:=
.lv (Q0z m.Mem) λ(x0:Int)=> .lv (Q2c m.A4) λ(x1:Bool)=> .br x1 (.lv (Q4g m.B0) λ(x2:Bool)=> .br x2 (.lv (Q1l m.B1 x0) λ(x3:Bool)=> .br x3 (.lv (Q69 m.C5 x0) λ(x4:Bool)=> .br x4 (.an (Qe2 m.A2 x0) (.lv (Q2o m.A2 x0) λ(x5:Bool)=> .lf x5)) (.lf false)) (.lf false)) (.lf false)) (.lf false)
def Q10 m:=(Q1u m).m
abbrev Q2v m:=(Q1u m).p
def Qqv:Q0e:=mT 92 [] true [.agg Q00.sig] [] (λa r=>Q1u (Q00.of (aC a 0))) (λX=> .bool X) (λX=>[])
theorem Qoy:Q06 pG Qqv:=oT (.cons Q4f (.cons Z6d (.cons Zei (.cons Zkl (.cons Zoa (.cons Z7d (.nil))))))) Tryz.func92 Tryz.call92 [] [] 2
def Q59(m:Q00):Tree Bool:=
.lv (Q0z m.Mem) λ(x0:Int)=> .br (x0==0) (.lf false) (.br (m.B2.X.a0 !=0) (.lf false) (.br (decide (m.B2.B5.a0>31)) (.lf false) (.br (decide (m.B2.B5.a7>31)) (.lf false) (.br (decide (m.B2.B5.a6>255)) (.lf false) (.br (dB m.B2.B5.a1 (4:Int) !=(0:Int)) (.lf false) (.br (decide (m.A1>1152921504606846976)) (.lf false) (.br m.A7 (.br m.A9 (.lf false) (.an (Q2v m) (.lv (Q10 m) λ(x1:Bool)=> .lf x1))) (.an (Q2v m) (.lv (Q10 m) λ(x2:Bool)=> .lf x2)))))))))
def Q1f m:=(Q59 m).m
abbrev Q4q m:=(Q59 m).p
def Zau:Q0e:=mT 24 [] true [.agg Q00.sig] [] (λa r=>Q59 (Q00.of (aC a 0))) (λX=> .bool X) (λX=>[])
theorem Qbo:Q06 pG Zau:=oT (.cons Q4f (.cons Qoy (.nil))) Tryz.func24 Tryz.call24 [] [] 2
def Qox(t:Q0i):Tree Bool:=
.lf t.D5
def Qha t:=(Qox t).m
def Z4u:Q0e:=mS 99 [] true [.agg Q0i.sig] [] (λa r=>Qox (Q0i.of (aC a 0))) (λX=> .bool X) (λX=>[])
theorem Z0o:Q06 pG Z4u:=oS (.nil) Tryz.func99 Tryz.call99 [] [] 2
def Qm3(c:Q0d):Tree Bool:=
.lf (!decide (c.D3=[]))
def Qa2 c:=(Qm3 c).m
def Qx4:Q0e:=mS 100 [] true [.agg Q0d.sig] [] (λa r=>Qm3 (Q0d.of (aC a 0))) (λX=> .bool X) (λX=>[])
theorem Qt0:Q06 pG Qx4:=oS (.nil) Tryz.func100 Tryz.call100 [] [] 2
def Ql1(d0:Q0g):Tree Bool:=
.br (d0.C1==2) (.lf true) (.lf (d0.C1==3))
def Q9e d0:=(Ql1 d0).m
def Z63:Q0e:=mS 101 [] true [.agg Q0g.sig] [] (λa r=>Ql1 (Q0g.of (aC a 0))) (λX=> .bool X) (λX=>[])
theorem Qo6:Q06 pG Z63:=oS (.nil) Tryz.func101 Tryz.call101 [] [] 2
def Qut(n:Q0r):Tree Bool:=
.lf n.B8
def Qmk n:=(Qut n).m
def Z9u:Q0e:=mS 102 [] true [.agg Q0r.sig] [] (λa r=>Qut (Q0r.of (aC a 0))) (λX=> .bool X) (λX=>[])
theorem Z5l:Q06 pG Z9u:=oS (.nil) Tryz.func102 Tryz.call102 [] [] 2
def Q3d(x:Int):Tree Int:=
let E1:=(↑(dH (cO (cO tblYc4 Qr8) (cO Qr8 Zhv))):Int); .cn (decide (0<=ishr u32 x 24/\ishr u32 x 24<E1)) (.cn (decide (0<=iand u32 (ishr u32 x 16) 255/\iand u32 (ishr u32 x 16) 255<E1)) (.cn (decide (0<=iand u32 (ishr u32 x 8) 255/\iand u32 (ishr u32 x 8) 255<E1)) (.cn (decide (0<=iand u32 x 255/\iand u32 x 255<E1)) (.lf (wrap i64 (wrap u8 (wrap u8 (wrap u8 ((↑(eU (aK ((0:UInt8)::(Zmo++Qr8++(Qr8++Zhv))) (dC (ishr u32 x 24)) (0:UInt8))):Int)+(↑(eU (aK ((0:UInt8)::(Zmo++Qr8++(Qr8++Zhv))) (dC (iand u32 (ishr u32 x 16) 255)) (0:UInt8))):Int))+(↑(eU (aK ((0:UInt8)::(Zmo++Qr8++(Qr8++Zhv))) (dC (iand u32 (ishr u32 x 8) 255)) (0:UInt8))):Int))+(↑(eU (aK ((0:UInt8)::(Zmo++Qr8++(Qr8++Zhv))) (dC (iand u32 x 255)) (0:UInt8))):Int))))))))
def Q6m x:=(Q3d x).m
abbrev Qbq x:=(Q3d x).p
def Qna:Q0e:=mT 229 [] true [.one (.int .u32)] [] (λa r=>Q3d (argI a 0)) (λX=> .int .i64 X) (λX=>[])
theorem Qli:Q06 pG Qna:=oT (.nil) Tryz.func229 Tryz.call229 [] [] 2
def Q9k(b:Q07):Tree Int:=
.an (Qbq b.C3) (.lv (Q6m b.C3) λ(x0:Int)=> .lf x0)
def Qef b:=(Q9k b).m
abbrev Qeo b:=(Q9k b).p
def Z2v:Q0e:=mT 176 [] true [.agg Q07.sig] [] (λa r=>Q9k (Q07.of (aC a 0))) (λX=> .int .i64 X) (λX=>[])
theorem Qnh:Q06 pG Z2v:=oT (.cons Qli (.nil)) Tryz.func176 Tryz.call176 [] [] 2
def Q5o(b:Q07):Tree Bool:=
.an (Qeo b) (.lv (Qef b) λ(x0:Int)=> .lf (wrap u32 x0 !=b.C9))
def Q7u b:=(Q5o b).m
abbrev Qia b:=(Q5o b).p
def Qwx:Q0e:=mT 103 [] true [.agg Q07.sig] [] (λa r=>Q5o (Q07.of (aC a 0))) (λX=> .bool X) (λX=>[])
theorem Qug:Q06 pG Qwx:=oT (.cons Qnh (.nil)) Tryz.func103 Tryz.call103 [] [] 2
def Qi4(m:Q00)(z:(Int)×(Int)):Nat:=(5-z.2).toNat
def Q7k(m:Q00):Tree Int:=
.lv (Qha m.B0) λ(x0:Bool)=> .lv (Qa2 m.A4) λ(x1:Bool)=> .lv (Q9e m.B1) λ(x2:Bool)=> .lv (Qmk m.C5) λ(x3:Bool)=> .an (Qia m.A2) (.lv (Q7u m.A2) λ(x4:Bool)=> .lp inferInstance (Qi4 m (0,0)+1) ((rE (0:Int)/\(rE (x0:Bool)/\rE (x1:Bool)/\rE (x2:Bool)/\rE (x3:Bool)/\rE (x4:Bool)/\True)/\rE (0:Int)/\True)/\True) (0,0) λ(v0:Int×Int)=> .br (decide (v0.2<5)) (.cn (bS 1 1&&(bS 5 5&&decide (0<=v0.2/\v0.2<(↑5:Int)))) (.br (aK [x0,x1,x2,x3,x4] v0.2.toNat false) (.cn (decide (0<=v0.2)) (.nx ((rE ((ior u32 v0.1 (ishl u32 1 v0.2)):Int)/\(rE (x0:Bool)/\rE (x1:Bool)/\rE (x2:Bool)/\rE (x3:Bool)/\rE (x4:Bool)/\True)/\rE ((wrap i64 (v0.2+1)):Int)/\True)/\True) (Sum.inl (ior u32 v0.1 (ishl u32 1 v0.2),wrap i64 (v0.2+1))))) (.nx ((rE v0.1/\(rE (x0:Bool)/\rE (x1:Bool)/\rE (x2:Bool)/\rE (x3:Bool)/\rE (x4:Bool)/\True)/\rE ((wrap i64 (v0.2+1)):Int)/\True)/\True) (Sum.inl (v0.1,wrap i64 (v0.2+1)))))) (.lf (Sum.inr v0.1)))
def Qeh m:=(Q7k m).m
abbrev Ql3 m:=(Q7k m).p
def Qzs:LInv:={
 α:=(Int)×(Int)
 F:=λst a=>([(4, .int u32 a.1),(23,(lk st 23)),(24, .int i64 a.2)],[])
 a0:=λst=>((lk st 4).toInt,(lk st 24).toInt)
 ex0:=λst=>[]++[]}
def Qt2:List (Nat×LInv):=[(4,Qzs)]
def Z1m:Q0e:=mT 26 [] true [.agg Q00.sig] [] (λa r=>Q7k (Q00.of (aC a 0))) (λX=> .int .u32 X) (λX=>[])
theorem Z0:Q06 pG Z1m:=oT (.cons Z0o (.cons Qt0 (.cons Qo6 (.cons Z5l (.cons Qug (.nil)))))) Tryz.func26 Tryz.call26 [] Qt2 3
def Q32(m:Q00):Tree Int:=
.an (Ql3 m) (.lv (Qeh m) λ(x0:Int)=> .lf (iand u32 x0 m.B2.B5.a7))
def Q6 m:=(Q32 m).m
abbrev Qck m:=(Q32 m).p
def Qvs:Q0e:=mT 110 [] true [.agg Q00.sig] [] (λa r=>Q32 (Q00.of (aC a 0))) (λX=> .int .u32 X) (λX=>[])
theorem Qkc:Q06 pG Qvs:=oT (.cons Z0 (.nil)) Tryz.func110 Tryz.call110 [] [] 2
def Q39(m:Q00):Tree Bool:=
.br m.A7 (.an (Qck m) (.lv (Q6 m) λ(x0:Int)=> .lf (x0==0))) (.lf false)
def Q4c m:=(Q39 m).m
abbrev Q8o m:=(Q39 m).p
def Z72:Q0e:=mT 28 [] true [.agg Q00.sig] [] (λa r=>Q39 (Q00.of (aC a 0))) (λX=> .bool X) (λX=>[])
theorem Qim:Q06 pG Z72:=oT (.cons Qkc (.nil)) Tryz.func28 Tryz.call28 [] [] 2

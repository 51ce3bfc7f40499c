import Derived.Test.YtmalmklaonainaaGreatReplayLiveBase
open Int renaming tmod->dB, tdiv->eR, toNat->dC
open Nat renaming beq->bS, blt->bT
open List renaming set->dD, getD->aK, length->dH, append->cO
open UInt8 renaming toNat->eT
set_option maxRecDepth 100000
set_option linter.all false
namespace Go.Proofs.YtmalmklaonainaaGreat
open Go Go.GD Go.IntKind
noncomputable section
def Q04(s:List Int):(List Int):=
s
def Q0a(s:List Int):Prop:=
s.length<=35184372088832
def Q41(s:List Int):List D:=[.sl 1 (.ints .u32 s) false]
def Q2o(s:List Int):List Row:=[]
def Q1u(X:List Int):D:= .all 0
def Q1s(X:List Int):List Row:=[⟨false,25,1, .ints .u32 X⟩]
def Qf9:List Dir:=[.row 25 1 (.ints .u32)]
def Q8a:List PT:=[.one (.ints .u32)]
def Q83:List RT:=[]
def Qgl(args:List D)(rows:List Row):(List Int):=Q04 (argL .u32 args 0)
def Qgg(args:List D)(rows:List Row):Prop:=Q0a (argL .u32 args 0)
def Qid:Q0d:=mkP 129 [] true Q8a Q83 Qgg Qgl Q1u Q1s
def Q5g(s:List Int)(Leaf:(List Int)->Prop):Prop:=
(s=[]->Leaf [])/\cand (decide ((4:Nat)*((0:Nat)+s.length)<=(140737488355328:Nat))) (Leaf s)
set_option maxRecDepth 100000 in
theorem Qhe(s:List Int)(Q:D->List Row->Prop):(fnVC tab [] (LL tab [] Tryz.f129.ntmps 0 [] 2) Tryz.f129 (Q41 s) (Q2o s) λd R=>Qaf (Q2o s).length Qf9 d R Q)=Q5g s (λX=>Q (Q1u X) (Q1s X)):=by kernel_rfl
theorem Qff(s:List Int)(Leaf:(List Int)->Prop)(hw:Q0a s)(h:Leaf (Q04 s)):
Q5g s Leaf:=by
 delta Q5g
 refine⟨λe=>by rw[e]at h;exact h,?_⟩
 rw[Q09]
 refine⟨dY ?_,h⟩
 have:s.length<=35184372088832:=hw
 omega
set_option maxRecDepth 100000 in
theorem Qf(s:List Int)(hw:Q0a s):Q4r pG 129 (Q41 s) (Q2o s) (Q1u (Q04 s)) (Q1s (Q04 s)):=
 have hG:Q7g pG []:= .nil
 FnOK.calls drawn Q0l hG Tryz.func129 (rf:=none) (λ_ _=>trivial) (Zp9 drawn Q0l hG (.inl rfl) 2 (invs:=[])) (FnOK.of (Qhe s _) (Qff s (λX=>Q1u X=Q1u (Q04 s)/\Q1s X=Q1s (Q04 s)) hw ⟨rfl,rfl⟩))
set_option maxRecDepth 100000 in
theorem Qfn(args:List D)(rows:List Row):Qgz Q8a args 0=Q41 (argL .u32 args 0):=by kernel_rfl
set_option maxRecDepth 100000 in
theorem Qf0(args:List D)(rows:List Row):Q6g Q83 rows 0=Q2o (argL .u32 args 0):=by kernel_rfl
set_option maxRecDepth 100000 in
theorem Qhc(X:List Int):(ffB (Q1u X)&&ffBR (Q1s X))=true:=by kernel_rfl
theorem Q0x:Q06 pG Qid:=Z03 Tryz.call129 (λargs rows hp=>by rw[Qfn args rows,Qf0 args rows];exact Qf (argL .u32 args 0) hp) (λ_ X=>Qhc X)
def Q96(m:List Int):Tree Int:=
.br (dB (m.length:Int) (32:Int) !=(0:Int)) (.lf 0) (.br (decide ((m.length:Int)>(1024:Int))) (.lf 0) (.lf (wrap i64 (eR (m.length:Int) 32))))
def Q0z m:=(Q96 m).m
def Z7w:Q0d:=mS 43 [] true [.one (.ints .u32)] [] (λa r=>Q96 (argL .u32 a 0)) (λX=> .int .i64 X) (λX=>[])
theorem Q4p:Q06 pG Z7w:=oS (.nil) Tryz.func43 Tryz.call43 [] [] 2
def Q3g(m:List Int)(addr size:Int):Tree Bool:=
let T1:Tree (Bool):= .cn (decide (wrap u32 size≠0)) (.br (dB addr (wrap u32 size) !=0) (.lf false) (.lv (Q0z m) λ(x0:Int)=> .lf (decide (wrap u64 (wrap u64 addr+wrap u64 size)<=wrap u64 (wrap u64 x0*128))))); .br (size !=1) (.br (size !=4) (.lf false) T1) T1
def Qih m addr size:=(Q3g m addr size).m
abbrev Qaz m addr size:=(Q3g m addr size).p
def Z61:Q0d:=mT 275 [] true [.one (.ints .u32), .one (.int .u32), .one (.int .i64)] [] (λa r=>Q3g (argL .u32 a 0) (argI a 1) (argI a 2)) (λX=> .bool X) (λX=>[])
theorem Qok:Q06 pG Z61:=oT (.cons Q4p (.nil)) Tryz.func275 Tryz.call275 [] [] 2
def Qcz(n:Int):Tree Int:=
.br (decide (n>=32)) (.lf 4294967295) (.cn (decide (0<=wrap u64 n)) (.lf (wrap u32 (ishl u32 1 (wrap u64 n)-1))))
def Z4q n:=(Qcz n).m
abbrev Qii n:=(Qcz n).p
def Zko:Q0d:=mT 276 [] true [.one (.int .i64)] [] (λa r=>Qcz (argI a 0)) (λX=> .int .u32 X) (λX=>[])
theorem Qzo:Q06 pG Zko:=oT (.nil) Tryz.func276 Tryz.call276 [] [] 2
def Qag(w low n:Int):Tree Int:=
.br (decide (low<0)) (.lf 0) (.br (decide (low>31)) (.lf 0) (.br (decide (n<1)) (.lf 0) (.cn (decide (0<=wrap u64 low)) (.an (Qii n) (.lv (Z4q n) λ(x0:Int)=> .lf (iand u32 (ishr u32 w (wrap u64 low)) x0))))))
def Q36 w low n:=(Qag w low n).m
abbrev Q5m w low n:=(Qag w low n).p
def Zie:Q0d:=mT 233 [] true [.one (.int .u32), .one (.int .i64), .one (.int .i64)] [] (λa r=>Qag (argI a 0) (argI a 1) (argI a 2)) (λX=> .int .u32 X) (λX=>[])
theorem Qnw:Q06 pG Zie:=oT (.cons Qzo (.nil)) Tryz.func233 Tryz.call233 [] [] 2
def Qal(w low n v:Int):Tree Int:=
.br (decide (low<0)) (.lf w) (.br (decide (low>31)) (.lf w) (.br (decide (n<1)) (.lf w) (.an (Qii n) (.lv (Z4q n) λ(x0:Int)=> .cn (decide (0<=wrap u64 low)) (.cn (decide (0<=wrap u64 low)) (.lf (ior u32 (Qie u32 w (ishl u32 x0 (wrap u64 low))) (ishl u32 (iand u32 v x0) (wrap u64 low)))))))))
def Q8m w low n v:=(Qal w low n v).m
abbrev Qm4 w low n v:=(Qal w low n v).p
def Z5j:Q0d:=mT 278 [] true [.one (.int .u32), .one (.int .i64), .one (.int .i64), .one (.int .u32)] [] (λa r=>Qal (argI a 0) (argI a 1) (argI a 2) (argI a 3)) (λX=> .int .u32 X) (λX=>[])
theorem Z1b:Q06 pG Z5j:=oT (.cons Qzo (.nil)) Tryz.func278 Tryz.call278 [] [] 2
def Q9c(m:List Int)(addr size v:Int):Tree ((List Int)×Bool):=
.an (Q0a m) (.lv (Q04 m) λ(x0:List Int)=> .an (Qaz m addr size) (.lv (Qih m addr size) λ(x1:Bool)=> .br (!x1) (.lf (x0,false)) (let E1:=bS 1 1&&bT 0 1&&decide (0<=wrap u32 (eR addr 4)/\wrap u32 (eR addr 4)<(x0.length:Int));let E2:=dC (wrap u32 (eR addr 4)); .br (size==1) (.cn E1 (let E3:=wrap i64 (wrap i64 (dB addr 4)*8); .an (Qm4 (x0.getD E2 0) E3 8 v) (.lv (Q8m (x0.getD E2 0) E3 8 v) λ(x2:Int)=> .cn E1 (.lf (dD x0 E2 x2,true))))) (.cn E1 (.lf (dD x0 E2 v,true))))))
def Qak m addr size v:=(Q9c m addr size v).m
abbrev Qcn m addr size v:=(Q9c m addr size v).p
def Z8j:Q0d:=mT 239 [] true [.one (.ints .u32), .one (.int .u32), .one (.int .i64), .one (.int .u32)] [] (λa r=>Q9c (argL .u32 a 0) (argI a 1) (argI a 2) (argI a 3)) (λX=> .tup [.all 0, .bool (X.2)]) (λX=>[⟨false,25,1, .ints .u32 (X.1)⟩])
theorem Qpc:Q06 pG Z8j:=oT (.cons Q0x (.cons Qok (.cons Z1b (.nil)))) Tryz.func239 Tryz.call239 [.row 25 1 (.ints .u32)] [] 2
def Zfs(op:Int):Tree (Q9g×Bool):=
.br (op==1) (.lf ({a:=true,b:=true,c:=true,low:=0,D6:=0},true)) (.br (op==2) (.lf ({a:=true,b:=true,c:=true,low:=0,D6:=0},true)) (.br (op==3) (.lf ({a:=true,b:=true,c:=true,low:=0,D6:=0},true)) (.br (op==4) (.lf ({a:=true,b:=true,c:=true,low:=0,D6:=0},true)) (.br (op==5) (.lf ({a:=true,b:=true,c:=true,low:=0,D6:=0},true)) (.br (op==6) (.lf ({a:=true,b:=true,c:=true,low:=0,D6:=0},true)) (.br (op==7) (.lf ({a:=true,b:=true,c:=true,low:=0,D6:=0},true)) (.br (op==8) (.lf ({a:=true,b:=true,c:=true,low:=0,D6:=0},true)) (.br (op==9) (.lf ({a:=true,b:=true,c:=true,low:=0,D6:=0},true)) (.br (op==10) (.lf ({a:=true,b:=true,c:=true,low:=0,D6:=0},true)) (.br (op==11) (.lf ({a:=true,b:=true,c:=true,low:=0,D6:=0},true)) (.br (op==12) (.lf ({a:=true,b:=true,c:=true,low:=0,D6:=0},true)) (.br (op==13) (.lf ({a:=true,b:=true,c:=true,low:=0,D6:=0},true)) (.br (op==16) (.lf ({a:=true,b:=true,c:=false,low:=(-32768),D6:=32767},true)) (.br (op==23) (.lf ({a:=true,b:=true,c:=false,low:=(-32768),D6:=32767},true)) (.br (op==32) (.lf ({a:=true,b:=true,c:=false,low:=(-32768),D6:=32767},true)) (.br (op==33) (.lf ({a:=true,b:=true,c:=false,low:=(-32768),D6:=32767},true)) (.br (op==34) (.lf ({a:=true,b:=true,c:=false,low:=(-32768),D6:=32767},true)) (.br (op==35) (.lf ({a:=true,b:=true,c:=false,low:=(-32768),D6:=32767},true)) (.br (op==36) (.lf ({a:=true,b:=true,c:=false,low:=(-32768),D6:=32767},true)) (.br (op==40) (.lf ({a:=true,b:=true,c:=false,low:=(-32768),D6:=32767},true)) (.br (op==41) (.lf ({a:=true,b:=true,c:=false,low:=(-32768),D6:=32767},true)) (.br (op==42) (.lf ({a:=true,b:=true,c:=false,low:=(-32768),D6:=32767},true)) (.br (op==43) (.lf ({a:=true,b:=true,c:=false,low:=(-32768),D6:=32767},true)) (.br (op==44) (.lf ({a:=true,b:=true,c:=false,low:=(-32768),D6:=32767},true)) (.br (op==45) (.lf ({a:=true,b:=true,c:=false,low:=(-32768),D6:=32767},true)) (.br (op==49) (.lf ({a:=true,b:=true,c:=false,low:=(-32768),D6:=32767},true)) (.br (op==17) (.lf ({a:=true,b:=true,c:=false,low:=0,D6:=65535},true)) (.br (op==18) (.lf ({a:=true,b:=true,c:=false,low:=0,D6:=65535},true)) (.br (op==19) (.lf ({a:=true,b:=true,c:=false,low:=0,D6:=65535},true)) (.br (op==20) (.lf ({a:=true,b:=true,c:=false,low:=0,D6:=31},true)) (.br (op==21) (.lf ({a:=true,b:=true,c:=false,low:=0,D6:=31},true)) (.br (op==22) (.lf ({a:=true,b:=true,c:=false,low:=0,D6:=31},true)) (.br (op==24) (.lf ({a:=true,b:=false,c:=false,low:=0,D6:=65535},true)) (.br (op==48) (.lf ({a:=true,b:=false,c:=false,low:=(-32768),D6:=32767},true)) (.br (op==58) (.lf ({a:=true,b:=false,c:=false,low:=0,D6:=7},true)) (.br (op==59) (.lf ({a:=true,b:=false,c:=false,low:=0,D6:=7},true)) (.br (op==60) (.lf ({a:=true,b:=false,c:=false,low:=0,D6:=11},true)) (.br (op==61) (.lf ({a:=true,b:=false,c:=false,low:=0,D6:=11},true)) (.br (op==56) (.lf ({a:=false,b:=false,c:=false,low:=0,D6:=0},true)) (.br (op==57) (.lf ({a:=false,b:=false,c:=false,low:=0,D6:=0},true)) (.br (op==62) (.lf ({a:=false,b:=false,c:=false,low:=0,D6:=0},true)) (.br (op==63) (.lf ({a:=false,b:=false,c:=false,low:=0,D6:=0},true)) (.br (op==64) (.lf ({a:=false,b:=false,c:=false,low:=0,D6:=0},true)) (.lf ({a:=false,b:=false,c:=false,low:=0,D6:=0},false)))))))))))))))))))))))))))))))))))))))))))))
def Z4o op:=(Zfs op).m
def xA:Q0d:=mS 234 [] true [.one (.int .i64)] [] (λa r=>Zfs (argI a 0)) (λX=> .tup [.agg (Q9g.cells (X.1)), .bool (X.2)]) (λX=>[])
theorem Za0:Q06 pG xA:=oS (.nil) Tryz.func234 Tryz.call234 [] [] 2
def Q80(x n:Int):Tree Int:=
.br (decide (n<1)) (.lf 0) (.br (decide (n>=32)) (.lf x) (let E1:=decide (0<=wrap u64 (wrap i64 (32-n))); .cn E1 (.cn E1 (.lf (wrap u32 (ishr i32 (wrap i32 (ishl u32 x (wrap u64 (wrap i64 (32-n))))) (wrap u64 (wrap i64 (32-n)))))))))
def Q2j x n:=(Q80 x n).m
abbrev Qcu x n:=(Q80 x n).p
def Qyn:Q0d:=mT 235 [] true [.one (.int .u32), .one (.int .i64)] [] (λa r=>Q80 (argI a 0) (argI a 1)) (λX=> .int .u32 X) (λX=>[])
theorem Qlc:Q06 pG Qyn:=oT (.nil) Tryz.func235 Tryz.call235 [] [] 2
def Qg(r:Int)(used:Bool):Tree Bool:=
.br used (.br (decide (r>=0)) (.lf (decide (r<=15))) (.lf false)) (.lf (r==0))
def Qa9 r used:=(Qg r used).m
def Z7p:Q0d:=mS 277 [] true [.one (.int .i64), .one (.bool)] [] (λa r=>Qg (argI a 0) (argB a 1)) (λX=> .bool X) (λX=>[])
theorem Z4c:Q06 pG Z7p:=oS (.nil) Tryz.func277 Tryz.call277 [] [] 2
def Qjs(i:Q0o):Tree Bool:=
.lv (Z4o i.Op) λ(x0:Q9g×Bool)=> .br x0.2 (.lv (Qa9 i.A x0.1.a) λ(x1:Bool)=> .br x1 (.lv (Qa9 i.B x0.1.b) λ(x2:Bool)=> .br x2 (.lv (Qa9 i.C x0.1.c) λ(x3:Bool)=> .br x3 (.br (decide (i.Imm>=x0.1.low)) (.lf (decide (i.Imm<=x0.1.D6))) (.lf false)) (.lf false)) (.lf false)) (.lf false)) (.lf false)
def Qh7 i:=(Qjs i).m
def Zlp:Q0d:=mS 236 [] true [.agg Q0o.sig] [] (λa r=>Qjs (Q0o.of (aC a 0))) (λX=> .bool X) (λX=>[])
theorem Zhy:Q06 pG Zlp:=oS (.cons Za0 (.cons Z4c (.nil))) Tryz.func236 Tryz.call236 [] [] 2
def Q8d(w:Int):Tree (Q0o×Bool):=
.an (Q5m w 24 8) (.lv (Q36 w 24 8) λ(x0:Int)=> .an (Q5m w 20 4) (.lv (Q36 w 20 4) λ(x1:Int)=> .an (Q5m w 16 4) (.lv (Q36 w 16 4) λ(x2:Int)=> .lv (Z4o (wrap i64 x0)) λ(x3:Q9g×Bool)=>let E1:=({Op:=0,A:=0,B:=0,C:=0,Imm:=0}:Q0o); .br (!x3.2) (.lf (E1,false)) (.an (Q5m w 0 16) (.lv (Q36 w 0 16) λ(x4:Int)=> .br x3.1.c (let E2:=({Op:=wrap i64 x0,A:=wrap i64 x1,B:=wrap i64 x2,C:=wrap i64 x4,Imm:=0}:Q0o); .lv (Qh7 E2) λ(x5:Bool)=> .br (!x5) (.lf (E1,false)) (.lf (E2,true))) (.br (decide (x3.1.low<0)) (.an (Qcu x4 16) (.lv (Q2j x4 16) λ(x6:Int)=>let E3:=({Op:=wrap i64 x0,A:=wrap i64 x1,B:=wrap i64 x2,C:=0,Imm:=wrap i32 x6}:Q0o); .lv (Qh7 E3) λ(x7:Bool)=> .br (!x7) (.lf (E1,false)) (.lf (E3,true)))) (let E4:=({Op:=wrap i64 x0,A:=wrap i64 x1,B:=wrap i64 x2,C:=0,Imm:=wrap i32 x4}:Q0o); .lv (Qh7 E4) λ(x8:Bool)=> .br (!x8) (.lf (E1,false)) (.lf (E4,true)))))))))
def Qiu w:=(Q8d w).m
abbrev Qlu w:=(Q8d w).p
def Zhr:Q0d:=mT 180 [] true [.one (.int .u32)] [] (λa r=>Q8d (argI a 0)) (λX=> .tup [.agg (Q0o.cells (X.1)), .bool (X.2)]) (λX=>[])
theorem Zb7:Q06 pG Zhr:=oT (.cons Qnw (.cons Za0 (.cons Qlc (.cons Zhy (.nil))))) Tryz.func180 Tryz.call180 [] [] 2
def Qb2(a b:Int):Tree (Int×Int):=
.br (b==0) (.lf (4294967295,a)) (let T1:Tree ((Int×Int)):= .cn (decide (wrap i32 b≠0)) (.cn (decide (wrap i32 b≠0)) (.lf (wrap u32 (wrap i32 (eR (wrap i32 a) (wrap i32 b))),wrap u32 (dB (wrap i32 a) (wrap i32 b))))); .br (a==2147483648) (.br (b==4294967295) (.lf (a,0)) T1) T1)
def Qd6 a b:=(Qb2 a b).m
abbrev Qj a b:=(Qb2 a b).p
def Zbt:Q0d:=mT 279 [] true [.one (.int .u32), .one (.int .u32)] [] (λa r=>Qb2 (argI a 0) (argI a 1)) (λX=> .tup [.int .u32 (X.1), .int .u32 (X.2)]) (λX=>[])
theorem Z6u:Q06 pG Zbt:=oT (.nil) Tryz.func279 Tryz.call279 [] [] 2
def Z2u(b:Bool):Tree Int:=
.br b (.lf 1) (.lf 0)
def Qpf b:=(Z2u b).m
def Zkb:Q0d:=mS 280 [] true [.one (.bool)] [] (λa r=>Z2u (argB a 0)) (λX=> .int .u32 X) (λX=>[])
theorem Zii:Q06 pG Zkb:=oS (.nil) Tryz.func280 Tryz.call280 [] [] 2
def Qq8(op a b:Int):Tree (Int×Bool):=
.br (op==2) (.lf (wrap u32 (a+wrap u32 (0-b)),true)) (.br (op==1) (.lf (wrap u32 (a+b),true)) (.br (op==16) (.lf (wrap u32 (a+b),true)) (.br (op==3) (.lf (iand u32 a b,true)) (.br (op==17) (.lf (iand u32 a b,true)) (.br (op==4) (.lf (ior u32 a b,true)) (.br (op==18) (.lf (ior u32 a b,true)) (.br (op==5) (.lf (ixor u32 a b,true)) (.br (op==19) (.lf (ixor u32 a b,true)) (.br (op==6) (.lf (ishl u32 a (iand u32 b 31),true)) (.br (op==20) (.lf (ishl u32 a (iand u32 b 31),true)) (.br (op==7) (.lf (ishr u32 a (iand u32 b 31),true)) (.br (op==21) (.lf (ishr u32 a (iand u32 b 31),true)) (let E1:=(wrap u32 (ishr i32 (wrap i32 a) (iand u32 b 31)),true); .br (op==8) (.lf E1) (.br (op==22) (.lf E1) (.br (op==9) (.lf (wrap u32 (a*b),true)) (.br (op==10) (.an (Qj a b) (.lv (Qd6 a b) λ(x0:Int×Int)=> .lf (x0.1,true))) (.br (op==11) (.an (Qj a b) (.lv (Qd6 a b) λ(x1:Int×Int)=> .lf (x1.2,true))) (.br (op==12) (.lv (Qpf (decide (wrap i32 a<wrap i32 b))) λ(x2:Int)=> .lf (x2,true)) (.br (op==23) (.lv (Qpf (decide (wrap i32 a<wrap i32 b))) λ(x3:Int)=> .lf (x3,true)) (.br (op==13) (.lv (Qpf (decide (a<b))) λ(x4:Int)=> .lf (x4,true)) (.lf (0,false))))))))))))))))))))))
def Q4o op a b:=(Qq8 op a b).m
abbrev Qsy op a b:=(Qq8 op a b).p
def zA:Q0d:=mT 243 [] true [.one (.int .i64), .one (.int .u32), .one (.int .u32)] [] (λa r=>Qq8 (argI a 0) (argI a 1) (argI a 2)) (λX=> .tup [.int .u32 (X.1), .bool (X.2)]) (λX=>[])
theorem Zqa:Q06 pG zA:=oT (.cons Z6u (.cons Zii (.nil))) Tryz.func243 Tryz.call243 [] [] 2
end
noncomputable section
def Qrg(status from0 to:Int):Tree Int:=
.br (iand u32 status from0 !=0) (.lf (ior u32 status to)) (.lf (Qie u32 status to))
def Q9l status from0 to:=(Qrg status from0 to).m
def Zr7:Q0d:=mS 230 [] true [.one (.int .u32), .one (.int .u32), .one (.int .u32)] [] (λa r=>Qrg (argI a 0) (argI a 1) (argI a 2)) (λX=> .int .u32 X) (λX=>[])
theorem Z3n:Q06 pG Zr7:=oS (.nil) Tryz.func230 Tryz.call230 [] [] 2
def Qm9(c:Q05)(cause bad:Int):Tree Q05:=
.lv (Q9l c.B6.a0 1 8) λ(x0:Int)=> .lv (Q9l x0 2 16) λ(x1:Int)=> .lf ({X:=c.X,Pc:=c.B6.a1,B6:={a0:=Qie u32 (ior u32 x1 1) 2,a1:=c.B6.a1,a2:=c.Pc,a3:=wrap u32 cause,a4:=bad,a5:=c.B6.a5,a6:=c.B6.a6,a7:=c.B6.a7}})
def Q5 c cause bad:=(Qm9 c cause bad).m
def Zqy:Q0d:=mS 178 [] true [.agg Q05.sig, .one (.int .i64), .one (.int .u32)] [] (λa r=>Qm9 (Q05.of (aC a 0)) (argI a 1) (argI a 2)) (λX=> .agg (Q05.cells X)) (λX=>[])
theorem Qj4:Q06 pG Zqy:=oS (.cons Z3n (.nil)) Tryz.func178 Tryz.call178 [] [] 2
def Qw8(access:Int):Tree (Int×Bool):=
.br (access==1) (.lf (4,true)) (.br (access==2) (.lf (5,true)) (.br (access==3) (.lf (6,true)) (.lf (5,false))))
def Qt4 access:=(Qw8 access).m
def Zbx:Q0d:=mS 272 [] true [.one (.int .i64)] [] (λa r=>Qw8 (argI a 0)) (λX=> .tup [.int .i64 (X.1), .bool (X.2)]) (λX=>[])
theorem Z8d:Q06 pG Zbx:=oS (.nil) Tryz.func272 Tryz.call272 [] [] 2
def Z0b(c:Q05):Tree Bool:=
.lf (iand u32 c.B6.a0 (1:Int) !=(0:Int))
def Qb4 c:=(Z0b c).m
def Zhs:Q0d:=mS 182 [] true [.agg Q05.sig] [] (λa r=>Z0b (Q05.of (aC a 0))) (λX=> .bool X) (λX=>[])
theorem Qwi:Q06 pG Zhs:=oS (.nil) Tryz.func182 Tryz.call182 [] [] 2
def Qou(access:Int):Tree (Int×Bool):=
.br (access==1) (.lf (4,true)) (.br (access==2) (.lf (5,true)) (.br (access==3) (.lf (6,true)) (.lf (5,false))))
def Qli access:=(Qou access).m
def Z1k:Q0d:=mS 306 [] true [.one (.int .i64)] [] (λa r=>Qou (argI a 0)) (λX=> .tup [.int .i64 (X.1), .bool (X.2)]) (λX=>[])
theorem Qxl:Q06 pG Z1k:=oS (.nil) Tryz.func306 Tryz.call306 [] [] 2
def Qkf(m:List Int)(frame:Int):Tree Bool:=
.lv (Q0z m) λ(x0:Int)=> .lf (decide (wrap u64 frame<wrap u64 x0))
def Qb9 m frame:=(Qkf m frame).m
def Z36:Q0d:=mS 307 [] true [.one (.ints .u32), .one (.int .u32)] [] (λa r=>Qkf (argL .u32 a 0) (argI a 1)) (λX=> .bool X) (λX=>[])
theorem Z0v:Q06 pG Z36:=oS (.cons Q4p (.nil)) Tryz.func307 Tryz.call307 [] [] 2
def Q79(m:List Int)(addr size:Int):Tree (Int×Bool):=
.an (Qaz m addr size) (.lv (Qih m addr size) λ(x0:Bool)=> .br (!x0) (.lf (0,false)) (.cn (bS 1 1&&bT 0 1&&decide (0<=wrap u32 (eR addr 4)/\wrap u32 (eR addr 4)<(m.length:Int))) (let E1:=dC (wrap u32 (eR addr 4)); .br (size==1) (let E2:=wrap i64 (wrap i64 (dB addr 4)*8); .an (Q5m (m.getD E1 0) E2 8) (.lv (Q36 (m.getD E1 0) E2 8) λ(x1:Int)=> .lf (x1,true))) (.lf (m.getD E1 0,true)))))
def Q56 m addr size:=(Q79 m addr size).m
abbrev Q3h m addr size:=(Q79 m addr size).p
def Zd2:Q0d:=mT 232 [] true [.one (.ints .u32), .one (.int .u32), .one (.int .i64)] [] (λa r=>Q79 (argL .u32 a 0) (argI a 1) (argI a 2)) (λX=> .tup [.int .u32 (X.1), .bool (X.2)]) (λX=>[])
theorem Qc5:Q06 pG Zd2:=oT (.cons Qok (.cons Qnw (.nil))) Tryz.func232 Tryz.call232 [] [] 2
def Qoj(pte access:Int):Tree Bool:=
.br (iand u32 pte (1:Int)==(0:Int)) (.lf false) (.br (access==3) (.lf (iand u32 pte (2:Int) !=(0:Int))) (.br (access==1) (.lf (iand u32 pte (4:Int) !=(0:Int))) (.lf true)))
def Qca pte access:=(Qoj pte access).m
def Z2:Q0d:=mS 308 [] true [.one (.int .u32), .one (.int .i64)] [] (λa r=>Qoj (argI a 0) (argI a 1)) (λX=> .bool X) (λX=>[])
theorem Qyt:Q06 pG Z2:=oS (.nil) Tryz.func308 Tryz.call308 [] [] 2
def Q8w(pte:Int):Tree Int:=
.an (Q5m pte 8 8) (.lv (Q36 pte 8 8) λ(x0:Int)=> .lf x0)
def Qg9 pte:=(Q8w pte).m
abbrev Qdz pte:=(Q8w pte).p
def Z10:Q0d:=mT 309 [] true [.one (.int .u32)] [] (λa r=>Q8w (argI a 0)) (λX=> .int .u32 X) (λX=>[])
theorem Qyb:Q06 pG Z10:=oT (.cons Qnw (.nil)) Tryz.func309 Tryz.call309 [] [] 2
def Qba(m:List Int)(root va access:Int):Tree Q1f:=
.lv (Qli access) λ(x0:Int×Bool)=>let E1:=({Addr:=0,F2:=0,F0:=x0.1}:Q1f); .br (!x0.2) (.lf (E1)) (.br (decide (va>=4096)) (.lf (E1)) (.lv (Qb9 m root) λ(x1:Bool)=> .br (!x1) (.lf (E1)) (let E2:=wrap u32 (root*128)+wrap u32 (4*wrap u32 (eR va 128)); .an (Q3h m (wrap u32 E2) 4) (.lv (Q56 m (wrap u32 E2) 4) λ(x2:Int×Bool)=> .br (!x2.2) (.lf (E1)) (.lv (Qca x2.1 access) λ(x3:Bool)=> .br (!x3) (.lf (E1)) (.an (Qdz x2.1) (.lv (Qg9 x2.1) λ(x4:Int)=> .lv (Qb9 m x4) λ(x5:Bool)=> .br (!x5) (.lf (E1)) (.an (Qdz x2.1) (.lv (Qg9 x2.1) λ(x6:Int)=> .lf ({Addr:=wrap u32 (wrap u32 (x6*128)+dB va 128),F2:=wrap u32 E2,F0:=0}))))))))))
def Qix m root va access:=(Qba m root va access).m
abbrev Qjm m root va access:=(Qba m root va access).p
def Ze0:Q0d:=mT 273 [] true [.one (.ints .u32), .one (.int .u32), .one (.int .u32), .one (.int .i64)] [] (λa r=>Qba (argL .u32 a 0) (argI a 1) (argI a 2) (argI a 3)) (λX=> .agg (Q1f.cells X)) (λX=>[])
theorem Z81:Q06 pG Ze0:=oT (.cons Qxl (.cons Z0v (.cons Qc5 (.cons Qyt (.cons Qyb (.nil)))))) Tryz.func273 Tryz.call273 [] [] 2
def Q97(m:List Int)(entry access:Int):Tree (List Int):=
.an (Q3h m entry 4) (.lv (Q56 m entry 4) λ(x0:Int×Bool)=> .br (!x0.2) (.an (Q0a m) (.lv (Q04 m) λ(x1:List Int)=> .lf x1)) (.br (access==3) (.an (Qcn m entry 4 (ior u32 (ior u32 x0.1 8) 16)) (.lv (Qak m entry 4 (ior u32 (ior u32 x0.1 8) 16)) λ(x2:List Int×Bool)=> .lf x2.1)) (.an (Qcn m entry 4 (ior u32 x0.1 8)) (.lv (Qak m entry 4 (ior u32 x0.1 8)) λ(x3:List Int×Bool)=> .lf x3.1))))
def Qdn m entry access:=(Q97 m entry access).m
abbrev Qhd m entry access:=(Q97 m entry access).p
def Z7s:Q0d:=mT 274 [] true [.one (.ints .u32), .one (.int .u32), .one (.int .i64)] [] (λa r=>Q97 (argL .u32 a 0) (argI a 1) (argI a 2)) (λX=> .all 0) (λX=>[⟨false,25,1, .ints .u32 X⟩])
theorem Z6a:Q06 pG Z7s:=oT (.cons Qc5 (.cons Q0x (.cons Qpc (.nil)))) Tryz.func274 Tryz.call274 [.row 25 1 (.ints .u32)] [] 2
def Q6t(c:Q05)(m:List Int)(va size access:Int):Tree (Int×(List Int)×Int):=
.lv (Qt4 access) λ(x0:Int×Bool)=>let T3:Tree ((Int×(List Int)×Int)):= .an (Q0a m) (.lv (Q04 m) λ(x1:List Int)=> .lf (0,x1,5)); .br (!x0.2) T3 (let T1:Tree ((Int×(List Int)×Int)):= .cn (decide (wrap u32 size≠0)) (.br (dB va (wrap u32 size) !=0) (.an (Q0a m) (.lv (Q04 m) λ(x3:List Int)=> .lf (0,x3,3))) (.lv (Qb4 c) λ(x4:Bool)=>let T2:Tree ((Int×(List Int)×Int)):= .an (Q3h m va size) (.lv (Q56 m va size) λ(x8:Int×Bool)=> .br (!x8.2) (.an (Q0a m) (.lv (Q04 m) λ(x9:List Int)=> .lf (0,x9,x0.1))) (.an (Q0a m) (.lv (Q04 m) λ(x10:List Int)=> .lf (va,x10,0)))); .br (!x4) (.br (iand u32 c.B6.a0 (4:Int) !=(0:Int)) (.an (Qjm m c.B6.a6 va access) (.lv (Qix m c.B6.a6 va access) λ(x5:Q1f)=> .br (x5.F0 !=0) (.an (Q0a m) (.lv (Q04 m) λ(x6:List Int)=> .lf (0,x6,x5.F0))) (.an (Qhd m x5.F2 access) (.lv (Qdn m x5.F2 access) λ(x7:List Int)=> .lf (x5.Addr,x7,0))))) T2) T2)); .br (size !=1) (.br (size !=4) T3 T1) T1)
def Q29 c m va size access:=(Q6t c m va size access).m
abbrev Q9x c m va size access:=(Q6t c m va size access).p
def Zb6:Q0d:=mT 231 [] true [.agg Q05.sig, .one (.ints .u32), .one (.int .u32), .one (.int .i64), .one (.int .i64)] [] (λa r=>Q6t (Q05.of (aC a 0)) (argL .u32 a 1) (argI a 2) (argI a 3) (argI a 4)) (λX=> .tup [.int .u32 (X.1), .all 0, .int .i64 (X.2.2)]) (λX=>[⟨false,25,1, .ints .u32 (X.2.1)⟩])
theorem Qlz:Q06 pG Zb6:=oT (.cons Z8d (.cons Q0x (.cons Qwi (.cons Z81 (.cons Z6a (.cons Qc5 (.nil))))))) Tryz.func231 Tryz.call231 [.row 25 1 (.ints .u32)] [] 2
def Qd4(c:Q05)(m:List Int):Tree (Int×(List Int)×Int):=
.an (Q9x c m c.Pc 4 1) (.lv (Q29 c m c.Pc 4 1) λ(x0:Int×List Int×Int)=> .br (x0.2.2 !=0) (.lf (0,x0.2.1,x0.2.2)) (.an (Q3h x0.2.1 x0.1 4) (.lv (Q56 x0.2.1 x0.1 4) λ(x1:Int×Bool)=> .lf (x1.1,x0.2.1,0))))
def Qqr c m:=(Qd4 c m).m
abbrev Qo6 c m:=(Qd4 c m).p
def Zkj:Q0d:=mT 179 [] true [.agg Q05.sig, .one (.ints .u32)] [] (λa r=>Qd4 (Q05.of (aC a 0)) (argL .u32 a 1)) (λX=> .tup [.int .u32 (X.1), .all 0, .int .i64 (X.2.2)]) (λX=>[⟨false,25,1, .ints .u32 (X.2.1)⟩])
theorem Zgt:Q06 pG Zkj:=oT (.cons Qlz (.cons Qc5 (.nil))) Tryz.func179 Tryz.call179 [.row 25 1 (.ints .u32)] [] 2
def Qob(op:Int):Tree Bool:=
.br (op==57) (.lf true) (.br (op==58) (.lf true) (.br (op==59) (.lf true) (.br (op==60) (.lf true) (.br (op==61) (.lf true) (.br (op==62) (.lf true) (.br (op==63) (.lf true) (.br (op==64) (.lf true) (.lf false))))))))
def Q9d op:=(Qob op).m
def Z14:Q0d:=mS 181 [] true [.one (.int .i64)] [] (λa r=>Qob (argI a 0)) (λX=> .bool X) (λX=>[])
theorem Qy9:Q06 pG Z14:=oS (.nil) Tryz.func181 Tryz.call181 [] [] 2
def Qt(op:Int):Tree Int:=
.br (op==32) (.lf 4) (.br (op==35) (.lf 4) (.lf 1))
def Qh4 op:=(Qt op).m
def Zl0:Q0d:=mS 237 [] true [.one (.int .i64)] [] (λa r=>Qt (argI a 0)) (λX=> .int .i64 X) (λX=>[])
theorem Qzq:Q06 pG Zl0:=oS (.nil) Tryz.func237 Tryz.call237 [] [] 2
def Qe5(c:Q05)(register v:Int):Tree Q05:=
.br (register !=0) (.cn (bT 0 1&&decide (0<=register/\register<(↑16:Int))) (.lf ({X:=A16.of 0 (dD (A16.l c.X) register.toNat v),Pc:=c.Pc,B6:=c.B6}))) (.lf c)
def Qbn c register v:=(Qe5 c register v).m
abbrev Q8i c register v:=(Qe5 c register v).p
def yA:Q0d:=mT 238 [] true [.agg Q05.sig, .one (.int .i64), .one (.int .u32)] [] (λa r=>Qe5 (Q05.of (aC a 0)) (argI a 1) (argI a 2)) (λX=> .agg (Q05.cells X)) (λX=>[])
theorem Za5:Q06 pG yA:=oT (.nil) Tryz.func238 Tryz.call238 [] [] 2
def Qfo(c:Q05)(m:List Int)(i:Q0o):Tree (Q05×(List Int)):=
.cn (bT 0 1&&decide (0<=i.B/\i.B<(↑16:Int))) (.lv (Qh4 i.Op) λ(x0:Int)=>let E1:=wrap u32 (aK (A16.l c.X) i.B.toNat 0+wrap u32 i.Imm); .an (Q9x c m E1 x0 2) (.lv (Q29 c m E1 x0 2) λ(x1:Int×List Int×Int)=> .br (x1.2.2 !=0) (.lv (Q5 c x1.2.2 E1) λ(x2:Q05)=> .lf (x2,x1.2.1)) (.lv (Qh4 i.Op) λ(x3:Int)=> .an (Q3h x1.2.1 x1.1 x3) (.lv (Q56 x1.2.1 x1.1 x3) λ(x4:Int×Bool)=> .br (i.Op==33) (.an (Qcu x4.1 8) (.lv (Q2j x4.1 8) λ(x5:Int)=> .an (Q8i c i.A x5) (.lv (Qbn c i.A x5) λ(x6:Q05)=> .lf ({X:=x6.X,Pc:=wrap u32 (x6.Pc+4),B6:=x6.B6},x1.2.1)))) (.an (Q8i c i.A x4.1) (.lv (Qbn c i.A x4.1) λ(x7:Q05)=> .lf ({X:=x7.X,Pc:=wrap u32 (x7.Pc+4),B6:=x7.B6},x1.2.1)))))))
def Q7 c m i:=(Qfo c m i).m
abbrev Z0a c m i:=(Qfo c m i).p
def Zqv:Q0d:=mT 183 [] true [.agg Q05.sig, .one (.ints .u32), .agg Q0o.sig] [] (λa r=>Qfo (Q05.of (aC a 0)) (argL .u32 a 1) (Q0o.of (aC a 2))) (λX=> .tup [.agg (Q05.cells (X.1)), .all 0]) (λX=>[⟨false,25,1, .ints .u32 (X.2)⟩])
theorem Zkn:Q06 pG Zqv:=oT (.cons Qlz (.cons Qzq (.cons Qj4 (.cons Qc5 (.cons Qlc (.cons Za5 (.nil))))))) Tryz.func183 Tryz.call183 [.row 25 1 (.ints .u32)] [] 2
def Qd0(c:Q05)(m:List Int)(i:Q0o):Tree (Q05×(List Int)):=
.cn (bT 0 1&&decide (0<=i.B/\i.B<(↑16:Int))) (.lv (Qh4 i.Op) λ(x0:Int)=>let E1:=wrap u32 (aK (A16.l c.X) i.B.toNat 0+wrap u32 i.Imm); .an (Q9x c m E1 x0 3) (.lv (Q29 c m E1 x0 3) λ(x1:Int×List Int×Int)=> .br (x1.2.2 !=0) (.lv (Q5 c x1.2.2 E1) λ(x2:Q05)=> .lf (x2,x1.2.1)) (.lv (Qh4 i.Op) λ(x3:Int)=> .cn (bT 0 1&&decide (0<=i.A/\i.A<(↑16:Int))) (let E2:=aK (A16.l c.X) i.A.toNat 0; .an (Qcn x1.2.1 x1.1 x3 E2) (.lv (Qak x1.2.1 x1.1 x3 E2) λ(x4:List Int×Bool)=> .lf ({X:=c.X,Pc:=wrap u32 (c.Pc+4),B6:=c.B6},x4.1))))))
def Q8v c m i:=(Qd0 c m i).m
abbrev Qvd c m i:=(Qd0 c m i).p
def Zkk:Q0d:=mT 184 [] true [.agg Q05.sig, .one (.ints .u32), .agg Q0o.sig] [] (λa r=>Qd0 (Q05.of (aC a 0)) (argL .u32 a 1) (Q0o.of (aC a 2))) (λX=> .tup [.agg (Q05.cells (X.1)), .all 0]) (λX=>[⟨false,25,1, .ints .u32 (X.2)⟩])
theorem Zi0:Q06 pG Zkk:=oT (.cons Qlz (.cons Qzq (.cons Qj4 (.cons Qpc (.nil))))) Tryz.func184 Tryz.call184 [.row 25 1 (.ints .u32)] [] 2
def Z35(op a b:Int):Tree Bool:=
.br (op==40) (.lf (a==b)) (.br (op==41) (.lf (a !=b)) (.br (op==42) (.lf (decide (wrap i32 a<wrap i32 b))) (.br (op==43) (.lf (decide (wrap i32 a>=wrap i32 b))) (.br (op==44) (.lf (decide (a<b))) (.lf (decide (a>=b)))))))
def Zfo op a b:=(Z35 op a b).m
def Zm3:Q0d:=mS 240 [] true [.one (.int .i64), .one (.int .u32), .one (.int .u32)] [] (λa r=>Z35 (argI a 0) (argI a 1) (argI a 2)) (λX=> .bool X) (λX=>[])
theorem Zgb:Q06 pG Zm3:=oS (.nil) Tryz.func240 Tryz.call240 [] [] 2
def Qhb(c:Q05):Tree Q05:=
.lv (Q9l c.B6.a0 8 1) λ(x0:Int)=> .lv (Q9l x0 16 2) λ(x1:Int)=> .lf ({X:=c.X,Pc:=c.B6.a2,B6:={a0:=x1,a1:=c.B6.a1,a2:=c.B6.a2,a3:=c.B6.a3,a4:=c.B6.a4,a5:=c.B6.a5,a6:=c.B6.a6,a7:=c.B6.a7}})
def Qfm c:=(Qhb c).m
def Zhj:Q0d:=mS 241 [] true [.agg Q05.sig] [] (λa r=>Qhb (Q05.of (aC a 0))) (λX=> .agg (Q05.cells X)) (λX=>[])
theorem Zbq:Q06 pG Zhj:=oS (.cons Z3n (.nil)) Tryz.func241 Tryz.call241 [] [] 2
def Qd5(c:Q05)(csr v:Int):Tree Q05:=
let E4:=bT 0 1&&decide (0<=csr/\csr<(↑8:Int));let T2:Tree (Q05):= .cn E4 (.lf ({X:=c.X,Pc:=c.Pc,B6:=A8.of 0 (dD (A8.l c.B6) csr.toNat (iand u32 v 31))})); .br (csr==0) T2 (.br (csr==7) T2 (.br (csr==6) (.cn E4 (.lf ({X:=c.X,Pc:=c.Pc,B6:=A8.of 0 (dD (A8.l c.B6) csr.toNat (iand u32 v 255))}))) (let T3:Tree (Q05):= .cn E4 (.lf ({X:=c.X,Pc:=c.Pc,B6:=A8.of 0 (dD (A8.l c.B6) csr.toNat (Qie u32 v 3))})); .br (csr==1) T3 (.br (csr==2) T3 (let T1:Tree (Q05):= .cn E4 (.lf ({X:=c.X,Pc:=c.Pc,B6:=A8.of 0 (dD (A8.l c.B6) csr.toNat v)})); .br (csr==3) T1 (.br (csr==4) T1 (.br (csr==5) T1 (.lf c))))))))
def Zgn c csr v:=(Qd5 c csr v).m
abbrev Qvk c csr v:=(Qd5 c csr v).p
def Zk9:Q0d:=mT 242 [] true [.agg Q05.sig, .one (.int .i64), .one (.int .u32)] [] (λa r=>Qd5 (Q05.of (aC a 0)) (argI a 1) (argI a 2)) (λX=> .agg (Q05.cells X)) (λX=>[])
theorem Zfc:Q06 pG Zk9:=oT (.nil) Tryz.func242 Tryz.call242 [] [] 2
def Q5i(c:Q05)(i:Q0o):Tree (Q05×Q17):=
.cn (bT 0 1&&decide (0<=i.A/\i.A<(↑16:Int))) (.cn (bT 0 1&&decide (0<=i.B/\i.B<(↑16:Int))) (.br (i.Op==24) (.an (Q8i c i.A (ishl u32 (wrap u32 i.Imm) 16)) (.lv (Qbn c i.A (ishl u32 (wrap u32 i.Imm) 16)) λ(x0:Q05)=> .lf ({X:=x0.X,Pc:=wrap u32 (c.Pc+4),B6:=x0.B6},{B5:=0,D1:=0,D9:=0,Value:=0}))) (let E2:=({X:=c.X,Pc:=wrap u32 (c.Pc+4),B6:=c.B6}:Q05);let E3:=aK (A16.l c.X) i.B.toNat 0;let E4:=aK (A16.l c.X) i.A.toNat 0;let T1:Tree ((Q05×Q17)):= .lv (Zfo i.Op E4 E3) λ(x1:Bool)=> .br x1 (.lf ({X:=c.X,Pc:=wrap u32 (c.Pc+wrap u32 (4*wrap u32 i.Imm)),B6:=c.B6},{B5:=0,D1:=0,D9:=0,Value:=0})) (.lf (E2,{B5:=0,D1:=0,D9:=0,Value:=0})); .br (i.Op==40) T1 (.br (i.Op==41) T1 (.br (i.Op==42) T1 (.br (i.Op==43) T1 (.br (i.Op==44) T1 (.br (i.Op==45) T1 (.br (i.Op==48) (.an (Q8i c i.A (wrap u32 (c.Pc+4))) (.lv (Qbn c i.A (wrap u32 (c.Pc+4))) λ(x7:Q05)=> .lf ({X:=x7.X,Pc:=wrap u32 (x7.Pc+wrap u32 (4*wrap u32 i.Imm)),B6:=x7.B6},{B5:=0,D1:=0,D9:=0,Value:=0}))) (.br (i.Op==49) (.an (Q8i c i.A (wrap u32 (c.Pc+4))) (.lv (Qbn c i.A (wrap u32 (c.Pc+4))) λ(x8:Q05)=> .lf ({X:=x8.X,Pc:=wrap u32 (aK (A16.l c.X) i.B.toNat 0+wrap u32 i.Imm),B6:=x8.B6},{B5:=0,D1:=0,D9:=0,Value:=0}))) (.br (i.Op==56) (.lv (Q5 c 7 0) λ(x9:Q05)=> .lf (x9,{B5:=0,D1:=0,D9:=0,Value:=0})) (.br (i.Op==57) (.lv (Qfm c) λ(x10:Q05)=> .lf (x10,{B5:=0,D1:=0,D9:=0,Value:=0})) (.br (i.Op==58) (.cn (bT 0 1&&decide (0<=i.Imm/\i.Imm<(↑8:Int))) (let E5:=aK (A8.l c.B6) i.Imm.toNat 0; .an (Q8i c i.A E5) (.lv (Qbn c i.A E5) λ(x11:Q05)=> .lf ({X:=x11.X,Pc:=wrap u32 (c.Pc+4),B6:=x11.B6},{B5:=0,D1:=0,D9:=0,Value:=0})))) (.br (i.Op==59) (.an (Qvk c (wrap i64 i.Imm) E4) (.lv (Zgn c (wrap i64 i.Imm) E4) λ(x12:Q05)=> .lf ({X:=x12.X,Pc:=wrap u32 (c.Pc+4),B6:=x12.B6},{B5:=0,D1:=0,D9:=0,Value:=0}))) (.br (i.Op==60) (.lf (E2,{B5:=1,D1:=wrap i64 i.Imm,D9:=i.A,Value:=0})) (.br (i.Op==61) (.lf (E2,{B5:=2,D1:=wrap i64 i.Imm,D9:=0,Value:=aK (A16.l c.X) i.A.toNat 0})) (.br (i.Op==62) (.lf (E2,{B5:=3,D1:=0,D9:=0,Value:=0})) (.br (i.Op==63) (.lf (E2,{B5:=5,D1:=0,D9:=0,Value:=0})) (.br (i.Op==64) (.lf (E2,{B5:=4,D1:=0,D9:=0,Value:=0})) (.cn (bT 0 1&&decide (0<=i.C/\i.C<(↑16:Int))) (.br (decide (i.Op>=16)) (.an (Qsy i.Op E3 (wrap u32 i.Imm)) (.lv (Q4o i.Op E3 (wrap u32 i.Imm)) λ(x13:Int×Bool)=> .an (Q8i c i.A x13.1) (.lv (Qbn c i.A x13.1) λ(x14:Q05)=> .lf ({X:=x14.X,Pc:=wrap u32 (c.Pc+4),B6:=x14.B6},{B5:=0,D1:=0,D9:=0,Value:=0})))) (let E6:=aK (A16.l c.X) i.C.toNat 0; .an (Qsy i.Op E3 E6) (.lv (Q4o i.Op E3 E6) λ(x15:Int×Bool)=> .an (Q8i c i.A x15.1) (.lv (Qbn c i.A x15.1) λ(x16:Q05)=> .lf ({X:=x16.X,Pc:=wrap u32 (c.Pc+4),B6:=x16.B6},{B5:=0,D1:=0,D9:=0,Value:=0})))))))))))))))))))))))))
def Qng c i:=(Q5i c i).m
abbrev Qpd c i:=(Q5i c i).p
def Zc6:Q0d:=mT 185 [] true [.agg Q05.sig, .agg Q0o.sig] [] (λa r=>Q5i (Q05.of (aC a 0)) (Q0o.of (aC a 1))) (λX=> .tup [.agg (Q05.cells (X.1)), .agg (Q17.cells (X.2))]) (λX=>[])
theorem Z87:Q06 pG Zc6:=oT (.cons Za5 (.cons Zgb (.cons Qj4 (.cons Zbq (.cons Zfc (.cons Zqa (.nil))))))) Tryz.func185 Tryz.call185 [] [] 2
def Q7u(c:Q05)(m:List Int):Tree (Q05×(List Int)×Q17):=
.an (Qo6 c m) (.lv (Qqr c m) λ(x0:Int×List Int×Int)=> .br (x0.2.2 !=0) (.lv (Q5 c x0.2.2 c.Pc) λ(x1:Q05)=> .lf (x1,x0.2.1,{B5:=0,D1:=0,D9:=0,Value:=0})) (.an (Qlu x0.1) (.lv (Qiu x0.1) λ(x2:Q0o×Bool)=> .br (!x2.2) (.lv (Q5 c 1 x0.1) λ(x3:Q05)=> .lf (x3,x0.2.1,{B5:=0,D1:=0,D9:=0,Value:=0})) (.lv (Q9d x2.1.Op) λ(x4:Bool)=>let T1:Tree ((Q05×(List Int)×Q17)):=let T2:Tree ((Q05×(List Int)×Q17)):= .an (Z0a c x0.2.1 x2.1) (.lv (Q7 c x0.2.1 x2.1) λ(x7:Q05×List Int)=> .lf (x7.1,x7.2,{B5:=0,D1:=0,D9:=0,Value:=0})); .br (x2.1.Op==32) T2 (.br (x2.1.Op==33) T2 (.br (x2.1.Op==34) T2 (let T3:Tree ((Q05×(List Int)×Q17)):= .an (Qvd c x0.2.1 x2.1) (.lv (Q8v c x0.2.1 x2.1) λ(x10:Q05×List Int)=> .lf (x10.1,x10.2,{B5:=0,D1:=0,D9:=0,Value:=0})); .br (x2.1.Op==35) T3 (.br (x2.1.Op==36) T3 (.an (Qpd c x2.1) (.lv (Qng c x2.1) λ(x12:Q05×Q17)=> .lf (x12.1,x0.2.1,x12.2))))))); .br x4 (.lv (Qb4 c) λ(x5:Bool)=> .br (!x5) (.lv (Q5 c 2 x0.1) λ(x6:Q05)=> .lf (x6,x0.2.1,{B5:=0,D1:=0,D9:=0,Value:=0})) T1) T1))))
def Q5b c m:=(Q7u c m).m
abbrev Ql7 c m:=(Q7u c m).p
def Zph:Q0d:=mT 114 [] true [.agg Q05.sig, .one (.ints .u32)] [] (λa r=>Q7u (Q05.of (aC a 0)) (argL .u32 a 1)) (λX=> .tup [.agg (Q05.cells (X.1)), .all 0, .agg (Q17.cells (X.2.2))]) (λX=>[⟨false,25,1, .ints .u32 (X.2.1)⟩])
theorem Z3i:Q06 pG Zph:=oT (.cons Zgt (.cons Qj4 (.cons Zb7 (.cons Qy9 (.cons Qwi (.cons Zkn (.cons Zi0 (.cons Z87 (.nil))))))))) Tryz.func114 Tryz.call114 [.row 25 1 (.ints .u32)] [] 2
end
noncomputable section
def tblYc0:List UInt8:=[(0:UInt8),1,2,2,3,3,3,3,4,4,4,4,4,4,4,4,5,5,5,5,5,5,5,5,5,5,5,5,5,5,5,5,6,6,6,6,6,6,6,6,6,6,6,6,6,6,6,6,6,6,6,6,6,6,6,6,6,6,6,6,6,6,6,6]
def Zg9:List UInt8:=[(7:UInt8),7,7,7,7,7,7,7,7,7,7,7,7,7,7,7,7,7,7,7,7,7,7,7,7,7,7,7,7,7,7,7,7,7,7,7,7,7,7,7,7,7,7,7,7,7,7,7,7,7,7,7,7,7,7,7,7,7,7,7,7,7,7,7]
def Qs6:List UInt8:=[(8:UInt8),8,8,8,8,8,8,8,8,8,8,8,8,8,8,8,8,8,8,8,8,8,8,8,8,8,8,8,8,8,8,8,8,8,8,8,8,8,8,8,8,8,8,8,8,8,8,8,8,8,8,8,8,8,8,8,8,8,8,8,8,8,8,8]
def Zoo:List UInt8:=[(1:UInt8),2,2,3,3,3,3,4,4,4,4,4,4,4,4,5,5,5,5,5,5,5,5,5,5,5,5,5,5,5,5,6,6,6,6,6,6,6,6,6,6,6,6,6,6,6,6,6,6,6,6,6,6,6,6,6,6,6,6,6,6,6,6]
def tblYc4:List UInt8:=[(0:UInt8),1,1,2,1,2,2,3,1,2,2,3,2,3,3,4,1,2,2,3,2,3,3,4,2,3,3,4,3,4,4,5,1,2,2,3,2,3,3,4,2,3,3,4,3,4,4,5,2,3,3,4,3,4,4,5,3,4,4,5,4,5,5,6]
def Qs:List UInt8:=[(1:UInt8),2,2,3,2,3,3,4,2,3,3,4,3,4,4,5,2,3,3,4,3,4,4,5,3,4,4,5,4,5,5,6,2,3,3,4,3,4,4,5,3,4,4,5,4,5,5,6,3,4,4,5,4,5,5,6,4,5,5,6,5,6,6,7]
def Zfk:List UInt8:=[(2:UInt8),3,3,4,3,4,4,5,3,4,4,5,4,5,5,6,3,4,4,5,4,5,5,6,4,5,5,6,5,6,6,7,3,4,4,5,4,5,5,6,4,5,5,6,5,6,6,7,4,5,5,6,5,6,6,7,5,6,6,7,6,7,7,8]
def Znb:List UInt8:=[(1:UInt8),1,2,1,2,2,3,1,2,2,3,2,3,3,4,1,2,2,3,2,3,3,4,2,3,3,4,3,4,4,5,1,2,2,3,2,3,3,4,2,3,3,4,3,4,4,5,2,3,3,4,3,4,4,5,3,4,4,5,4,5,5,6]
def Qun(c:Q0c):Tree Bool:=
.lf (decide ((c.D3.length:Int)<=(16:Int)))
def Q2k c:=(Qun c).m
def Zbl:Q0d:=mS 171 [] true [.agg Q0c.sig] [] (λa r=>Qun (Q0c.of (aC a 0))) (λX=> .bool X) (λX=>[])
theorem Z71:Q06 pG Zbl:=oS (.nil) Tryz.func171 Tryz.call171 [] [] 2
def Qo0(t:Q0j):Tree Bool:=
.br t.D2 (.br (!t.D5) (.lf (t.C9 !=0)) (.lf false)) (.br t.D5 (.lf true) (.lf (t.C9==0)))
def Q4q t:=(Qo0 t).m
def Zl5:Q0d:=mS 172 [] true [.agg Q0j.sig] [] (λa r=>Qo0 (Q0j.of (aC a 0))) (λX=> .bool X) (λX=>[])
theorem Ziq:Q06 pG Zl5:=oS (.nil) Tryz.func172 Tryz.call172 [] [] 2
def Q88(d0:Q0g):Tree Bool:=
.br (d0.D8==1) (.lf (decide (d0.C4=[]))) (.br (d0.D8==2) (.lf ((d0.C4.length:Int)==(128:Int))) (.lf false))
def Qa5 d0:=(Q88 d0).m
def Qwu:Q0d:=mS 227 [] true [.agg Q0g.sig] [] (λa r=>Q88 (Q0g.of (aC a 0))) (λX=> .bool X) (λX=>[])
theorem Qve:Q06 pG Qwu:=oS (.nil) Tryz.func227 Tryz.call227 [] [] 2
def Q6j(d0:Q0g)(pages:Int):Tree Bool:=
.br (decide (d0.Blocks>64)) (.lf false) (let T1:Tree (Bool):= .br (d0.D8==0) (.br (d0.B7==0) (.br (d0.B4==0) (.lf (decide (d0.C4=[]))) (.lf false)) (.lf false)) (.lf false); .br (d0.C1==0) T1 (.br (d0.C1==2) T1 (.br (d0.C1==3) T1 (.br (d0.C1==1) (.lv (Qa5 d0) λ(x0:Bool)=> .br x0 (.br (decide (d0.B7<d0.Blocks)) (.lf (decide (wrap i64 d0.B4<pages))) (.lf false)) (.lf false)) (.lf false)))))
def Q1m d0 pages:=(Q6j d0 pages).m
def Zq1:Q0d:=mS 173 [] true [.agg Q0g.sig, .one (.int .i64)] [] (λa r=>Q6j (Q0g.of (aC a 0)) (argI a 1)) (λX=> .bool X) (λX=>[])
theorem Zkh:Q06 pG Zq1:=oS (.cons Qve (.nil)) Tryz.func173 Tryz.call173 [] [] 2
def Qmf(n:Q0r)(pages:Int):Tree Bool:=
let T1:Tree (Bool):=let T2:Tree (Bool):= .br n.B8 (.br (decide (n.F1>=1)) (.lf (decide (n.F1<=128))) (.lf false)) (.lf (n.F1==0)); .br n.C6 (.br (decide (wrap i64 n.B9>=pages)) (.lf false) T2) (.br (n.B9 !=0) (.lf false) T2); .br n.C6 (.br n.B8 (.lf false) T1) T1
def Q6i n pages:=(Qmf n pages).m
def vA:Q0d:=mS 174 [] true [.agg Q0r.sig, .one (.int .i64)] [] (λa r=>Qmf (Q0r.of (aC a 0)) (argI a 1)) (λX=> .bool X) (λX=>[])
theorem Zqq:Q06 pG vA:=oS (.nil) Tryz.func174 Tryz.call174 [] [] 2
def Q1x(x:Int):Tree Int:=
let E1:=(↑(dH (cO (cO tblYc0 Zg9) (cO Qs6 Qs6))):Int); .br (decide (x>=65536)) (.br (decide (ishr u32 x (16:Int)>=(256:Int))) (.cn (decide (0<=wrap u8 (ishr u32 (ishr u32 x 16) 8)/\wrap u8 (ishr u32 (ishr u32 x 16) 8)<E1)) (.lf (wrap i64 (wrap i64 ((16:Int)+(8:Int))+wrap i64 (↑(eT (aK ((0:UInt8)::(Zoo++Zg9++(Qs6++Qs6))) (dC (wrap u8 (ishr u32 (ishr u32 x 16) 8))) (0:UInt8))):Int))))) (.cn (decide (0<=wrap u8 (ishr u32 x 16)/\wrap u8 (ishr u32 x 16)<E1)) (.lf (wrap i64 (16+wrap i64 (↑(eT (aK ((0:UInt8)::(Zoo++Zg9++(Qs6++Qs6))) (dC (wrap u8 (ishr u32 x 16))) (0:UInt8))):Int)))))) (.br (decide (x>=256)) (.cn (decide (0<=wrap u8 (ishr u32 x 8)/\wrap u8 (ishr u32 x 8)<E1)) (.lf (wrap i64 (wrap i64 ((0:Int)+(8:Int))+wrap i64 (↑(eT (aK ((0:UInt8)::(Zoo++Zg9++(Qs6++Qs6))) (dC (wrap u8 (ishr u32 x 8))) (0:UInt8))):Int))))) (.cn (decide (0<=wrap u8 x/\wrap u8 x<E1)) (.lf (wrap i64 (0+wrap i64 (↑(eT (aK ((0:UInt8)::(Zoo++Zg9++(Qs6++Qs6))) (dC (wrap u8 x)) (0:UInt8))):Int))))))
def Q1o x:=(Q1x x).m
abbrev Qda x:=(Q1x x).p
def Qxp:Q0d:=mT 228 [] true [.one (.int .u32)] [] (λa r=>Q1x (argI a 0)) (λX=> .int .i64 X) (λX=>[])
theorem Quy:Q06 pG Qxp:=oT (.nil) Tryz.func228 Tryz.call228 [] [] 2
def Q4d(b:Q08)(pages:Int):Tree Bool:=
.an (Qda b.C3) (.lv (Q1o b.C3) λ(x0:Int)=> .lf (decide (x0<=if 0>pages then 0 else pages)))
def Q2u b pages:=(Q4d b pages).m
abbrev Qdy b pages:=(Q4d b pages).p
def Zcd:Q0d:=mT 175 [] true [.agg Q08.sig, .one (.int .i64)] [] (λa r=>Q4d (Q08.of (aC a 0)) (argI a 1)) (λX=> .bool X) (λX=>[])
theorem Z7t:Q06 pG Zcd:=oT (.cons Quy (.nil)) Tryz.func175 Tryz.call175 [] [] 2
def Q1w(m:Q00):Tree Bool:=
.lv (Q0z m.Mem) λ(x0:Int)=> .lv (Q2k m.A6) λ(x1:Bool)=> .br x1 (.lv (Q4q m.B0) λ(x2:Bool)=> .br x2 (.lv (Q1m m.B1 x0) λ(x3:Bool)=> .br x3 (.lv (Q6i m.C5 x0) λ(x4:Bool)=> .br x4 (.an (Qdy m.A4 x0) (.lv (Q2u m.A4 x0) λ(x5:Bool)=> .lf x5)) (.lf false)) (.lf false)) (.lf false)) (.lf false)
def Q10 m:=(Q1w m).m
abbrev Q2w m:=(Q1w m).p
def Qrt:Q0d:=mT 92 [] true [.agg Q00.sig] [] (λa r=>Q1w (Q00.of (aC a 0))) (λX=> .bool X) (λX=>[])
theorem Qpl:Q06 pG Qrt:=oT (.cons Q4p (.cons Z71 (.cons Ziq (.cons Zkh (.cons Zqq (.cons Z7t (.nil))))))) Tryz.func92 Tryz.call92 [] [] 2
def Q5h(m:Q00):Tree Bool:=
.lv (Q0z m.Mem) λ(x0:Int)=> .br (x0==0) (.lf false) (.br (m.B2.X.a0 !=0) (.lf false) (.br (decide (m.B2.B6.a0>31)) (.lf false) (.br (decide (m.B2.B6.a7>31)) (.lf false) (.br (decide (m.B2.B6.a6>255)) (.lf false) (.br (dB m.B2.B6.a1 (4:Int) !=(0:Int)) (.lf false) (.br (decide (m.A1>1152921504606846976)) (.lf false) (.br m.A7 (.br m.A9 (.lf false) (.an (Q2w m) (.lv (Q10 m) λ(x1:Bool)=> .lf x1))) (.an (Q2w m) (.lv (Q10 m) λ(x2:Bool)=> .lf x2)))))))))
def Q19 m:=(Q5h m).m
abbrev Q3o m:=(Q5h m).p
def Zb5:Q0d:=mT 24 [] true [.agg Q00.sig] [] (λa r=>Q5h (Q00.of (aC a 0))) (λX=> .bool X) (λX=>[])
theorem Q91:Q06 pG Zb5:=oT (.cons Q4p (.cons Qpl (.nil))) Tryz.func24 Tryz.call24 [] [] 2
def Qqs(t:Q0j):Tree Bool:=
.lf t.D5
def Qi1 t:=(Qqs t).m
def Z3l:Q0d:=mS 99 [] true [.agg Q0j.sig] [] (λa r=>Qqs (Q0j.of (aC a 0))) (λX=> .bool X) (λX=>[])
theorem Z1n:Q06 pG Z3l:=oS (.nil) Tryz.func99 Tryz.call99 [] [] 2
def Qmm(c:Q0c):Tree Bool:=
.lf (!decide (c.D3=[]))
def Qa6 c:=(Qmm c).m
def Qy2:Q0d:=mS 100 [] true [.agg Q0c.sig] [] (λa r=>Qmm (Q0c.of (aC a 0))) (λX=> .bool X) (λX=>[])
theorem Qvj:Q06 pG Qy2:=oS (.nil) Tryz.func100 Tryz.call100 [] [] 2
def Qll(d0:Q0g):Tree Bool:=
.br (d0.C1==2) (.lf true) (.lf (d0.C1==3))
def Qaa d0:=(Qll d0).m
def Z8b:Q0d:=mS 101 [] true [.agg Q0g.sig] [] (λa r=>Qll (Q0g.of (aC a 0))) (λX=> .bool X) (λX=>[])
theorem Qpg:Q06 pG Z8b:=oS (.nil) Tryz.func101 Tryz.call101 [] [] 2
def Qvg(n:Q0r):Tree Bool:=
.lf n.B8
def Qo3 n:=(Qvg n).m
def Zdh:Q0d:=mS 102 [] true [.agg Q0r.sig] [] (λa r=>Qvg (Q0r.of (aC a 0))) (λX=> .bool X) (λX=>[])
theorem Z8:Q06 pG Zdh:=oS (.nil) Tryz.func102 Tryz.call102 [] [] 2
def Q3p(x:Int):Tree Int:=
let E1:=(↑(dH (cO (cO tblYc4 Qs) (cO Qs Zfk))):Int); .cn (decide (0<=ishr u32 x 24/\ishr u32 x 24<E1)) (.cn (decide (0<=iand u32 (ishr u32 x 16) 255/\iand u32 (ishr u32 x 16) 255<E1)) (.cn (decide (0<=iand u32 (ishr u32 x 8) 255/\iand u32 (ishr u32 x 8) 255<E1)) (.cn (decide (0<=iand u32 x 255/\iand u32 x 255<E1)) (.lf (wrap i64 (wrap u8 (wrap u8 (wrap u8 ((↑(eT (aK ((0:UInt8)::(Znb++Qs++(Qs++Zfk))) (dC (ishr u32 x 24)) (0:UInt8))):Int)+(↑(eT (aK ((0:UInt8)::(Znb++Qs++(Qs++Zfk))) (dC (iand u32 (ishr u32 x 16) 255)) (0:UInt8))):Int))+(↑(eT (aK ((0:UInt8)::(Znb++Qs++(Qs++Zfk))) (dC (iand u32 (ishr u32 x 8) 255)) (0:UInt8))):Int))+(↑(eT (aK ((0:UInt8)::(Znb++Qs++(Qs++Zfk))) (dC (iand u32 x 255)) (0:UInt8))):Int))))))))
def Q6x x:=(Q3p x).m
abbrev Qc2 x:=(Q3p x).p
def Qnu:Q0d:=mT 229 [] true [.one (.int .u32)] [] (λa r=>Q3p (argI a 0)) (λX=> .int .i64 X) (λX=>[])
theorem Qm3:Q06 pG Qnu:=oT (.nil) Tryz.func229 Tryz.call229 [] [] 2
def Q9o(b:Q08):Tree Int:=
.an (Qc2 b.C3) (.lv (Q6x b.C3) λ(x0:Int)=> .lf x0)
def Qeq b:=(Q9o b).m
abbrev Qfw b:=(Q9o b).p
def Z2y:Q0d:=mT 176 [] true [.agg Q08.sig] [] (λa r=>Q9o (Q08.of (aC a 0))) (λX=> .int .i64 X) (λX=>[])
theorem Qol:Q06 pG Z2y:=oT (.cons Qm3 (.nil)) Tryz.func176 Tryz.call176 [] [] 2
def Q5w(b:Q08):Tree Bool:=
.an (Qfw b) (.lv (Qeq b) λ(x0:Int)=> .lf (wrap u32 x0 !=b.D0))
def Q7x b:=(Q5w b).m
abbrev Qiy b:=(Q5w b).p
def Qxt:Q0d:=mT 103 [] true [.agg Q08.sig] [] (λa r=>Q5w (Q08.of (aC a 0))) (λX=> .bool X) (λX=>[])
theorem Qvf:Q06 pG Qxt:=oT (.cons Qol (.nil)) Tryz.func103 Tryz.call103 [] [] 2
def Qjl(m:Q00)(z:(Int)×(Int)):Nat:=(5-z.2).toNat
def Q87(m:Q00):Tree Int:=
.lv (Qi1 m.B0) λ(x0:Bool)=> .lv (Qa6 m.A6) λ(x1:Bool)=> .lv (Qaa m.B1) λ(x2:Bool)=> .lv (Qo3 m.C5) λ(x3:Bool)=> .an (Qiy m.A4) (.lv (Q7x m.A4) λ(x4:Bool)=> .lp inferInstance (Qjl m (0,0)+1) ((rE (0:Int)/\(rE (x0:Bool)/\rE (x1:Bool)/\rE (x2:Bool)/\rE (x3:Bool)/\rE (x4:Bool)/\True)/\rE (0:Int)/\True)/\True) (0,0) λ(v0:Int×Int)=> .br (decide (v0.2<5)) (.cn (bS 1 1&&(bS 5 5&&decide (0<=v0.2/\v0.2<(↑5:Int)))) (.br (aK [x0,x1,x2,x3,x4] v0.2.toNat false) (.cn (decide (0<=v0.2)) (.nx ((rE ((ior u32 v0.1 (ishl u32 1 v0.2)):Int)/\(rE (x0:Bool)/\rE (x1:Bool)/\rE (x2:Bool)/\rE (x3:Bool)/\rE (x4:Bool)/\True)/\rE ((wrap i64 (v0.2+1)):Int)/\True)/\True) (Sum.inl (ior u32 v0.1 (ishl u32 1 v0.2),wrap i64 (v0.2+1))))) (.nx ((rE v0.1/\(rE (x0:Bool)/\rE (x1:Bool)/\rE (x2:Bool)/\rE (x3:Bool)/\rE (x4:Bool)/\True)/\rE ((wrap i64 (v0.2+1)):Int)/\True)/\True) (Sum.inl (v0.1,wrap i64 (v0.2+1)))))) (.lf (Sum.inr v0.1)))
def Qee m:=(Q87 m).m
abbrev Qm8 m:=(Q87 m).p
def Z1v:LInv:={
 α:=(Int)×(Int)
 F:=λst a=>([(4, .int u32 a.1),(23,(lk st 23)),(24, .int i64 a.2)],[])
 a0:=λst=>((lk st 4).toInt,(lk st 24).toInt)
 ex0:=λst=>[]++[]}
def Qup:List (Nat×LInv):=[(4,Z1v)]
def Z4:Q0d:=mT 26 [] true [.agg Q00.sig] [] (λa r=>Q87 (Q00.of (aC a 0))) (λX=> .int .u32 X) (λX=>[])
theorem Z17:Q06 pG Z4:=oT (.cons Z1n (.cons Qvj (.cons Qpg (.cons Z8 (.cons Qvf (.nil)))))) Tryz.func26 Tryz.call26 [] Qup 3
def Q35(m:Q00):Tree Int:=
.an (Qm8 m) (.lv (Qee m) λ(x0:Int)=> .lf (iand u32 x0 m.B2.B6.a7))
def Q63 m:=(Q35 m).m
abbrev Qcp m:=(Q35 m).p
def Qzb:Q0d:=mT 110 [] true [.agg Q00.sig] [] (λa r=>Q35 (Q00.of (aC a 0))) (λX=> .int .u32 X) (λX=>[])
theorem Ql0:Q06 pG Qzb:=oT (.cons Z17 (.nil)) Tryz.func110 Tryz.call110 [] [] 2
def Q3e(m:Q00):Tree Bool:=
.br m.A7 (.an (Qcp m) (.lv (Q63 m) λ(x0:Int)=> .lf (x0==0))) (.lf false)
def Q38 m:=(Q3e m).m
abbrev Q3r m:=(Q3e m).p
def Z7a:Q0d:=mT 28 [] true [.agg Q00.sig] [] (λa r=>Q3e (Q00.of (aC a 0))) (λX=> .bool X) (λX=>[])
theorem Qek:Q06 pG Z7a:=oT (.cons Ql0 (.nil)) Tryz.func28 Tryz.call28 [] [] 2

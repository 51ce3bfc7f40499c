/-
  Functions of the program: models, and that its calls come to them (by a program: gen3.py).
-/
import Derived.Test.YtpcbkbalabgnlaaGreatRecordQueueBase
import Derived.Test.YtpcbkbalabgnlaaGreatRecordQueueZa
import Derived.Test.YtpcbkbalabgnlaaGreatRecordQueueZb
set_option linter.unusedVariables false
set_option linter.unusedSimpArgs false
namespace Go.Proofs.YtpcbkbalabgnlaaGreat
open Go Go.GD Go.IntKind
set_option maxRecDepth 100000
noncomputable section
def Qf0(steps:Int):Tree Int:=
.lf (if 4000<if 0>steps then 0 else steps then 4000 else if 0>steps then 0 else steps)
def Q18(steps:Int):Int:=(Qf0 steps).m
def Zb0(t:Q0h)(now:Int):Tree Bool:=
.br t.D6 (.lf (decide (now≥t.C7))) (.lf false)
def Qki(t:Q0h)(now:Int):Bool:=(Zb0 t now).m
def Qbw(m:Q00)(z:(Int)):Nat:=(32-z).toNat
def Q63(m:Q00):Tree Q03:=
.an (Qiw m) (.lv (Q3m m) λ(x0:Int)=> .br (iand u32 m.B4.B5.a0 (2:Int)==(0:Int)) (.lf m.B4) (.br (x0==0) (.lf m.B4) (.lp inferInstance (Qbw m 0+1) (((rE (0:Nat)∧rE (0:Nat))∧(rE (0:Nat)∧rE (0:Nat))∧rE (x0:Int)∧rE (0:Int)∧True)∧(mE m (((Els.Nil (Els.ints u32 m.Mem)∨rE (1:Nat))∧rE m.Mem)) True)∧(rE (0:Int)∧rE (0:Int)∧rE (0:Int)∧rE (0:Int)∧rE (0:Int)∧rE (0:Int)∧rE (0:Int)∧rE (0:Int)∧rE (0:Int)∧rE (0:Int)∧rE (0:Int)∧rE (0:Int)∧rE (0:Int)∧rE (0:Int)∧rE (0:Int)∧rE (0:Int)∧rE (0:Int)∧rE (0:Int)∧rE (0:Int)∧rE (0:Int)∧rE (0:Int)∧rE (0:Int)∧rE (0:Int)∧rE (0:Int)∧rE (0:Int)∧True)∧True) 0 λ(v0:Int)=> .cn (decide (0≤wrap u64 v0)) (.br (iand u32 (ishr u32 x0 (wrap u64 v0)) (1:Int)==(0:Int)) (.nx (((rE (0:Nat)∧rE (0:Nat))∧(rE (0:Nat)∧rE (0:Nat))∧rE (x0:Int)∧rE ((wrap i64 (v0+1)):Int)∧True)∧(mE m (((Els.Nil (Els.ints u32 m.Mem)∨rE (1:Nat))∧rE m.Mem)) True)∧(rE (0:Int)∧rE (0:Int)∧rE (0:Int)∧rE (0:Int)∧rE (0:Int)∧rE (0:Int)∧rE (0:Int)∧rE (0:Int)∧rE (0:Int)∧rE (0:Int)∧rE (0:Int)∧rE (0:Int)∧rE (0:Int)∧rE (0:Int)∧rE (0:Int)∧rE (0:Int)∧rE (0:Int)∧rE (0:Int)∧rE (0:Int)∧rE (0:Int)∧rE (0:Int)∧rE (0:Int)∧rE (0:Int)∧rE (0:Int)∧rE (0:Int)∧True)∧True) (Sum.inl (wrap i64 (v0+1)))) (.lv (Q34 m.B4 (wrap i64 (16+v0)) 0) λ(x1:Q03)=> .lf (Sum.inr x1))))))
def Q0i(m:Q00):Q03:=(Q63 m).m
abbrev Qdw(m:Q00):Prop:=(Q63 m).p
def Qqt(m:Q00):Tree Bool:=
.an (Qdw m) (.lv (Q0i m) λ(x0:Q03)=> .br (iand u32 x0.B5.a0 (1:Int)==(0:Int)) (.lf false) (.an (Qe1 m.Mem x0.Pc 4) (.lv (Q15 m.Mem x0.Pc 4) λ(x1:Int×Bool)=> .lv (Q1w x1.1) λ(x2:Q0g×Bool)=> .br x1.2 (.br x2.2 (.br (x2.1.Op==60) (.lf (x2.1.Imm==2)) (.lf false)) (.lf false)) (.lf false))))
def Qpi(m:Q00):Bool:=(Qqt m).m
abbrev Qw8(m:Q00):Prop:=(Qqt m).p
def Qqc(m:Q00):Tree Bool:=
.an (Qww m) (.lv (Q19 m) λ(x0:Bool)=> .br x0 (.lf false) (.an (Qw8 m) (.lv (Qpi m) λ(x1:Bool)=> .lf x1)))
def Q6w(m:Q00):Bool:=(Qqc m).m
def Q7p(c:Q0c)(port:Int):Tree (Q0c×Int):=
let T1:Tree ((Q0c×Int)):= .br (port==0) (.cn (decide ((0:Int)≤(1:Int)∧1≤(c.D2.length:Int)∧(c.D2.length:Int)≤(c.D2.length:Int))) (.cn (decide ((0:Int)≤(0:Int)∧0<(c.D2.length:Int))) (.lf ({D2:=List.take (Int.toNat (c.D2.length:Int)-Int.toNat 1) (List.drop (Int.toNat 1) c.D2)},wrap u32 (↑(UInt8.toNat (c.D2.getD (Int.toNat 0) (0:UInt8))):Int))))) (.br (port==1) (.lf (c,wrap u32 (c.D2.length:Int))) (.lf (c,0))); .br (port==0) (.br ((c.D2.length:Int)==(0:Int)) (.lf (c,4294967295)) T1) T1
def Q7z(c:Q0c)(port:Int):(Q0c×Int):=(Q7p c port).m
def Qgl(t:Q0h):Tree Int:=
.br t.D5 (.lf 1) (.lf 0)
def Qj1(t:Q0h):Int:=(Qgl t).m
def Qhj(d0:Q0b)(port:Int):Tree Int:=
.br (port==4) (.lf d0.C1) (.br (port==5) (.lf d0.B3) (.br (port==6) (.lf (wrap u32 d0.B9)) (.lf 0)))
def Qm7(d0:Q0b)(port:Int):Int:=(Qhj d0 port).m
def Qgc(n:Q0k)(port:Int):Tree Int:=
.br (port==7) (.lf n.B3) (.br (port==8) (.lf n.F2) (.br (port==9) (.br n.C4 (.br n.B7 (.lf (wrap u32 ((1:Int)+(2:Int)))) (.lf 1)) (.br n.B7 (.lf (wrap u32 ((0:Int)+(2:Int)))) (.lf 0))) (.lf 0)))
def Qkm(n:Q0k)(port:Int):Int:=(Qgc n port).m
def Q7r(b:Q07)(port:Int):Tree Int:=
.br (port==10) (.lf b.C8) (.br (port==11) (.lv (Qef b) λ(x0:Int)=> .lf (wrap u32 x0)) (.lf 0))
def Q7w(b:Q07)(port:Int):Int:=(Q7r b port).m
def Qnk(m:Q00)(port:Int)(clock:Int):Tree (Int×Q00):=
.br (decide (port≤1)) (.lv (Q7z m.A2 port) λ(x0:Q0c×Int)=> .lf (x0.2,{B4:=m.B4,Mem:=m.Mem,A2:=x0.1,A9:=m.A9,B2:=m.B2,C6:=m.C6,A1:=m.A1,A4:=m.A4,A3:=m.A3,A6:=m.A6})) (.br (port==2) (.lf (clock,m)) (.br (port==3) (.lv (Qj1 m.A9) λ(x1:Int)=> .lf (x1,m)) (.br (decide (port≤6)) (.lv (Qm7 m.B2 port) λ(x2:Int)=> .lf (x2,m)) (.br (decide (port≤9)) (.lv (Qkm m.C6 port) λ(x3:Int)=> .lf (x3,m)) (.lv (Q7w m.A1 port) λ(x4:Int)=> .lf (x4,m))))))
def Qgk(m:Q00)(port:Int)(clock:Int):(Int×Q00):=(Qnk m port clock).m
def Qxg(deadline:Int):Tree Q0h:=
.br (deadline==0) (.lf ({D6:=false,C7:=0,D5:=false})) (.lf ({D6:=true,C7:=deadline,D5:=false}))
def Z1l(deadline:Int):Q0h:=(Qxg deadline).m
def Qlp(x:Int)(n:Int)(z:(Int)×(List Int)):Nat:=(n-z.1).toNat
def Qov(x:Int)(n:Int):Tree (List UInt8):=
.lp inferInstance (Qlp x n (0,[])+1) ((rE (x:Int)∧rE (n:Int)∧True∧rE (0:Int)∧True)∧rE ([]:List Int)∧True) (0,[]) λ(v0:Int×List Int)=> .br (decide (v0.1<n)) (.cn (decide (0≤wrap u64 (wrap i64 (8*v0.1)))) (.cn (decide (1*(v0.2.length+1)≤140737488355328)) (.nx ((rE (x:Int)∧rE (n:Int)∧True∧rE ((wrap i64 (v0.1+1)):Int)∧True)∧rE ((v0.2++[wrap u8 (ishr u32 x (wrap u64 (wrap i64 (8*v0.1))))]):List Int)∧True) (Sum.inl (wrap i64 (v0.1+1),v0.2++[wrap u8 (ishr u32 x (wrap u64 (wrap i64 (8*v0.1))))]))))) (.lf (Sum.inr (bytesOf v0.2)))
def Z8p(x:Int)(n:Int):(List UInt8):=(Qov x n).m
def Z5i(x:Int)(n:Int):Prop:=
n≤1000000000000
def Qfq(m:(List Int))(frame:Int)(z:(Int)×(List Int)):Nat:=(32-z.1).toNat
def Qah(m:(List Int))(frame:Int):Tree ((List UInt8)×Bool):=
.br (decide (frame<0)) (.lf ([],false)) (.lv (Q4d m) λ(x0:Int)=> .br (decide (frame≥x0)) (.lf ([],false)) (.lp inferInstance (Qfq m frame (0,[])+1) ((((Els.Nil (Els.ints u32 m)∨rE (1:Nat))∧rE (m:List Int))∧rE (frame:Int)∧True∧rE (0:Int)∧True)∧rE ([]:List Int)∧True) (0,[]) λ(v0:Int×List Int)=> .br (decide (v0.1<32)) (.cn (Nat.beq 1 1&&Nat.blt 0 1&&decide (0≤wrap i64 (wrap i64 (frame*32)+v0.1)∧wrap i64 (wrap i64 (frame*32)+v0.1)<(m.length:Int))) (let E1:=m.getD (Int.toNat (wrap i64 (wrap i64 (frame*32)+v0.1))) 0; .an (Z5i E1 4) (.lv (Z8p E1 4) λ(x1:List UInt8)=> .cn (decide (1*(v0.2.length+List.length (Q9x x1))≤140737488355328)) (.nx ((((Els.Nil (Els.ints u32 m)∨rE (1:Nat))∧rE (m:List Int))∧rE (frame:Int)∧True∧rE ((wrap i64 (v0.1+1)):Int)∧True)∧rE ((v0.2++Q9x x1):List Int)∧True) (Sum.inl (wrap i64 (v0.1+1),v0.2++Q9x x1)))))) (.lf (Sum.inr (bytesOf v0.2,true)))))
def Qgw(m:(List Int))(frame:Int):((List UInt8)×Bool):=(Qah m frame).m
abbrev Qih(m:(List Int))(frame:Int):Prop:=(Qah m frame).p
def Qwu(d0:Q0b)(at0:Int):Tree (Q0a×Bool):=
.br (d0.B9 !=1) (.lf ({B8:=0,At:=0,C1:=0,C5:=[]},false)) (.br (d0.D7==1) (.lf ({B8:=3,At:=at0,C1:=d0.B6,C5:=[]},true)) (.br (d0.D7==2) (.lf ({B8:=4,At:=at0,C1:=d0.B6,C5:=d0.C3},true)) (.lf ({B8:=0,At:=0,C1:=0,C5:=[]},false))))
def Qju(d0:Q0b)(at0:Int):(Q0a×Bool):=(Qwu d0 at0).m
def Qa7(d0:Q0b)(m:(List Int))(port:Int)(v:Int)(at0:Int):Tree (Q0b×(List Q0a)):=
.br (port==4) (.lf ({Blocks:=d0.Blocks,C1:=v,B3:=d0.B3,B9:=d0.B9,D7:=d0.D7,B6:=d0.B6,B0:=d0.B0,C3:=d0.C3},[])) (.br (port==5) (.lf ({Blocks:=d0.Blocks,C1:=d0.C1,B3:=v,B9:=d0.B9,D7:=d0.D7,B6:=d0.B6,B0:=d0.B0,C3:=d0.C3},[])) (.br (port !=6) (.lf (d0,[])) (let T1:Tree ((Q0b×(List Q0a))):= .br (d0.B9==0) (let T2:Tree ((Q0b×(List Q0a))):= .lf ({Blocks:=d0.Blocks,C1:=d0.C1,B3:=d0.B3,B9:=3,D7:=d0.D7,B6:=d0.B6,B0:=d0.B0,C3:=d0.C3},[]); .br (decide (d0.C1≥d0.Blocks)) T2 (.lv (Q25 m d0.B3) λ(x0:Bool)=> .br (!x0) T2 (.br (v==2) (.an (Qih m (wrap i64 d0.B3)) (.lv (Qgw m (wrap i64 d0.B3)) λ(x1:List UInt8×Bool)=>let E4:=({Blocks:=d0.Blocks,C1:=d0.C1,B3:=d0.B3,B9:=1,D7:=wrap i64 v,B6:=d0.C1,B0:=d0.B3,C3:=x1.1}:Q0b); .lv (Qju E4 at0) λ(x2:Q0a×Bool)=> .lf (E4,[x2.1]))) (let E5:=({Blocks:=d0.Blocks,C1:=d0.C1,B3:=d0.B3,B9:=1,D7:=wrap i64 v,B6:=d0.C1,B0:=d0.B3,C3:=[]}:Q0b); .lv (Qju E5 at0) λ(x3:Q0a×Bool)=> .lf (E5,[x3.1]))))) (.lf (d0,[])); .br (v==0) (let T3:Tree ((Q0b×(List Q0a))):= .lf ({Blocks:=d0.Blocks,C1:=d0.C1,B3:=d0.B3,B9:=0,D7:=d0.D7,B6:=d0.B6,B0:=d0.B0,C3:=d0.C3},[]); .br (d0.B9==2) T3 (.br (d0.B9==3) T3 (.br (v==1) T1 (.br (v==2) T1 (.lf (d0,[])))))) (.br (v==1) T1 (.br (v==2) T1 (.lf (d0,[])))))))
def Qk4(d0:Q0b)(m:(List Int))(port:Int)(v:Int)(at0:Int):(Q0b×(List Q0a)):=(Qa7 d0 m port v at0).m
abbrev Qsb(d0:Q0b)(m:(List Int))(port:Int)(v:Int)(at0:Int):Prop:=(Qa7 d0 m port v at0).p
def Qb8(n:Q0k)(m:(List Int))(port:Int)(v:Int)(at0:Int):Tree (Q0k×(List Q0a)):=
.br (port==7) (.lf ({B3:=v,F0:=n.F0,C4:=n.C4,C0:=n.C0,B7:=n.B7,F2:=n.F2},[])) (.br (port==8) (.lf ({B3:=n.B3,F0:=v,C4:=n.C4,C0:=n.C0,B7:=n.B7,F2:=n.F2},[])) (.br (port !=9) (.lf (n,[])) (.br (v==0) (.lf ({B3:=n.B3,F0:=n.F0,C4:=n.C4,C0:=n.C0,B7:=false,F2:=0},[])) (let T1:Tree ((Q0k×(List Q0a))):= .br (v==2) (.lv (Q25 m n.B3) λ(x2:Bool)=> .br x2 (.br (!n.C4) (.br (!n.B7) (.lf ({B3:=n.B3,F0:=n.F0,C4:=true,C0:=n.B3,B7:=n.B7,F2:=n.F2},[])) (.lf (n,[]))) (.lf (n,[]))) (.lf (n,[]))) (.lf (n,[])); .br (v==1) (.br (decide (n.F0≥1)) (.br (decide (n.F0≤128)) (.lv (Q25 m n.B3) λ(x0:Bool)=> .br x0 (.an (Qih m (wrap i64 n.B3)) (.lv (Qgw m (wrap i64 n.B3)) λ(x1:List UInt8×Bool)=> .cn (decide ((0:Int)≤(0:Int)∧0≤n.F0∧n.F0≤(x1.1.length:Int))) (.lf (n,[{B8:=2,At:=at0,C1:=0,C5:=List.take (Int.toNat n.F0-Int.toNat 0) (List.drop (Int.toNat 0) x1.1)}])))) T1) T1) T1) T1))))
def Qm5(n:Q0k)(m:(List Int))(port:Int)(v:Int)(at0:Int):(Q0k×(List Q0a)):=(Qb8 n m port v at0).m
abbrev Qu3(n:Q0k)(m:(List Int))(port:Int)(v:Int)(at0:Int):Prop:=(Qb8 n m port v at0).p
def Qeu(b:Q07)(m:(List Int))(port:Int)(v:Int)(z:(Int)×(List Int)):Nat:=(32-z.1).toNat
def Q5b(b:Q07)(m:(List Int))(port:Int)(v:Int):Tree (Q07×(List Int)):=
let T1:Tree ((Q07×(List Int))):= .br (port==11) (.br (decide (v<32)) (.cn (decide (0≤v)) (.lf ({C8:=b.C8,C2:=Qe8 u32 b.C2 (ishl u32 1 v)},m))) (.lf (b,m))) (.lf (b,m)); .br (port==10) (.lv (Q25 m v) λ(x0:Bool)=> .br x0 (.cn (decide (0≤v)) (.br (iand u32 (ishr u32 b.C2 v) (1:Int)==(0:Int)) (.cn (decide (0≤v)) (.lp inferInstance (Qeu b m port v (0,m)+1) ((True∧rE (v:Int)∧(rE (0:Nat)∧rE (0:Nat))∧(rE (0:Nat)∧rE (0:Nat))∧rE (0:Int)∧True)∧rE (m:List Int)∧(rE b.C8∧rE ((ior u32 b.C2 (ishl u32 1 v)):Int)∧True)∧(rE (0:Int)∧rE (0:Int)∧True)∧True) (0,m) λ(v0:Int×List Int)=> .br (decide (v0.1<32)) (let E2:=wrap i64 (wrap i64 v*32)+v0.1; .cn (Nat.beq 1 1&&Nat.blt 0 1&&decide (0≤wrap i64 E2∧wrap i64 E2<(v0.2.length:Int))) (.nx ((True∧rE (v:Int)∧(rE (0:Nat)∧rE (0:Nat))∧(rE (0:Nat)∧rE (0:Nat))∧rE ((wrap i64 (v0.1+1)):Int)∧True)∧rE ((List.set v0.2 (Int.toNat (wrap i64 (wrap i64 (wrap i64 v*32)+v0.1))) 0):List Int)∧(rE b.C8∧rE ((ior u32 b.C2 (ishl u32 1 v)):Int)∧True)∧(rE (0:Int)∧rE (0:Int)∧True)∧True) (Sum.inl (wrap i64 (v0.1+1),List.set v0.2 (Int.toNat (wrap i64 E2)) 0)))) (.lf (Sum.inr ({C8:=b.C8,C2:=ior u32 b.C2 (ishl u32 1 v)},v0.2))))) T1)) T1) T1
def Q7v(b:Q07)(m:(List Int))(port:Int)(v:Int):(Q07×(List Int)):=(Q5b b m port v).m
abbrev Z18(b:Q07)(m:(List Int))(port:Int)(v:Int):Prop:=(Q5b b m port v).p
def Qh6(m:Q00)(port:Int)(v:Int):Tree ((List Q0a)×Q00):=
.br (port==0) (.lf ([{B8:=1,At:=m.A4,C1:=0,C5:=[(λ(n:Int)=>UInt8.ofNat n.toNat) (wrap u8 v)]}],m)) (.br (decide (port≤2)) (.lf ([],m)) (.br (port==3) (.lv (Z1l v) λ(x0:Q0h)=> .lf ([],{B4:=m.B4,Mem:=m.Mem,A2:=m.A2,A9:=x0,B2:=m.B2,C6:=m.C6,A1:=m.A1,A4:=m.A4,A3:=m.A3,A6:=m.A6})) (.br (decide (port≤6)) (.an (Qsb m.B2 m.Mem port v m.A4) (.lv (Qk4 m.B2 m.Mem port v m.A4) λ(x1:Q0b×List Q0a)=> .lf (x1.2,{B4:=m.B4,Mem:=m.Mem,A2:=m.A2,A9:=m.A9,B2:=x1.1,C6:=m.C6,A1:=m.A1,A4:=m.A4,A3:=m.A3,A6:=m.A6}))) (.br (decide (port≤9)) (.an (Qu3 m.C6 m.Mem port v m.A4) (.lv (Qm5 m.C6 m.Mem port v m.A4) λ(x2:Q0k×List Q0a)=> .lf (x2.2,{B4:=m.B4,Mem:=m.Mem,A2:=m.A2,A9:=m.A9,B2:=m.B2,C6:=x2.1,A1:=m.A1,A4:=m.A4,A3:=m.A3,A6:=m.A6}))) (.an (Z18 m.A1 m.Mem port v) (.lv (Q7v m.A1 m.Mem port v) λ(x3:Q07×List Int)=> .lf ([],{B4:=m.B4,Mem:=x3.2,A2:=m.A2,A9:=m.A9,B2:=m.B2,C6:=m.C6,A1:=x3.1,A4:=m.A4,A3:=m.A3,A6:=m.A6})))))))
def Qdz(m:Q00)(port:Int)(v:Int):((List Q0a)×Q00):=(Qh6 m port v).m
abbrev Z3p(m:Q00)(port:Int)(v:Int):Prop:=(Qh6 m port v).p
def Qgi(m:Q00)(clock:Int):Tree ((List Q0a)×Q00):=
.an (Qdw m) (.lv (Q0i m) λ(x0:Q03)=> .an (Z6p x0 m.Mem) (.lv (Qcd x0 m.Mem) λ(x1:Q03×Q13×List Int)=>let E1:=({B4:=x1.1,Mem:=x1.2.2,A2:=m.A2,A9:=m.A9,B2:=m.B2,C6:=m.C6,A1:=m.A1,A4:=m.A4,A3:=false,A6:=m.A6}:Q00); .br (x1.2.1.B8==1) (.lv (Qgk E1 x1.2.1.C9 clock) λ(x2:Int×Q00)=> .an (Q42 x2.2.B4 x1.2.1.D9 x2.1) (.lv (Q1t x2.2.B4 x1.2.1.D9 x2.1) λ(x3:Q03)=> .lf ([],{B4:=x3,Mem:=x2.2.Mem,A2:=x2.2.A2,A9:=x2.2.A9,B2:=x2.2.B2,C6:=x2.2.C6,A1:=x2.2.A1,A4:=wrap u64 (x2.2.A4+1),A3:=x2.2.A3,A6:=x2.2.A6}))) (.br (x1.2.1.B8==2) (.an (Z3p E1 x1.2.1.C9 x1.2.1.Value) (.lv (Qdz E1 x1.2.1.C9 x1.2.1.Value) λ(x4:List Q0a×Q00)=> .lf (x4.1,{B4:=x4.2.B4,Mem:=x4.2.Mem,A2:=x4.2.A2,A9:=x4.2.A9,B2:=x4.2.B2,C6:=x4.2.C6,A1:=x4.2.A1,A4:=wrap u64 (x4.2.A4+1),A3:=x4.2.A3,A6:=x4.2.A6}))) (.br (x1.2.1.B8==3) (.lf ([],{B4:=x1.1,Mem:=x1.2.2,A2:=m.A2,A9:=m.A9,B2:=m.B2,C6:=m.C6,A1:=m.A1,A4:=wrap u64 (m.A4+1),A3:=true,A6:=m.A6})) (.br (x1.2.1.B8==4) (.lf ([],{B4:=x1.1,Mem:=x1.2.2,A2:=m.A2,A9:=m.A9,B2:=m.B2,C6:=m.C6,A1:=m.A1,A4:=wrap u64 (m.A4+1),A3:=false,A6:=true})) (.lf ([],{B4:=x1.1,Mem:=x1.2.2,A2:=m.A2,A9:=m.A9,B2:=m.B2,C6:=m.C6,A1:=m.A1,A4:=wrap u64 (m.A4+1),A3:=false,A6:=m.A6})))))))
def Q0t(m:Q00)(clock:Int):((List Q0a)×Q00):=(Qgi m clock).m
end
end Go.Proofs.YtpcbkbalabgnlaaGreat

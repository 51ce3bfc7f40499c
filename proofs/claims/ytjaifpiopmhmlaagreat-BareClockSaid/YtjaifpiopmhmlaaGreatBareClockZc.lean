/-
  Functions of the program: models, and that its calls come to them (by a program: gen3.py).
-/
import Derived.Test.YtjaifpiopmhmlaaGreatBareClockBase
import Derived.Test.YtjaifpiopmhmlaaGreatBareClockZa
import Derived.Test.YtjaifpiopmhmlaaGreatBareClockZb
set_option maxRecDepth 100000
set_option linter.unusedVariables false
set_option linter.unusedSimpArgs false
namespace Go.Proofs.YtjaifpiopmhmlaaGreat
open Go Go.GD Go.IntKind
noncomputable section
def Qae(m:Q00)(z:(Int)):Nat:=(32-z).toNat
def Q5a(m:Q00):Tree Q02:=
.an (Qi5 m) (.lv (Q2t m) λ(x0:Int)=> .br (iand u32 m.B1.B3.a0 (2:Int)==(0:Int)) (.lf m.B1) (.br (x0==0) (.lf m.B1) (.lp inferInstance (Qae m 0+1) (((rE (0:Nat)∧rE (0:Nat))∧(rE (0:Nat)∧rE (0:Nat))∧rE (x0:Int)∧rE (0:Int)∧True)∧(mE m (((Els.Nil (Els.ints u32 m.Mem)∨rE (1:Nat))∧rE m.Mem)) True)∧(rE (0:Int)∧rE (0:Int)∧rE (0:Int)∧rE (0:Int)∧rE (0:Int)∧rE (0:Int)∧rE (0:Int)∧rE (0:Int)∧rE (0:Int)∧rE (0:Int)∧rE (0:Int)∧rE (0:Int)∧rE (0:Int)∧rE (0:Int)∧rE (0:Int)∧rE (0:Int)∧rE (0:Int)∧rE (0:Int)∧rE (0:Int)∧rE (0:Int)∧rE (0:Int)∧rE (0:Int)∧rE (0:Int)∧rE (0:Int)∧rE (0:Int)∧True)∧True) 0 λ(v0:Int)=> .cn (decide (0≤wrap u64 v0)) (.br (iand u32 (ishr u32 x0 (wrap u64 v0)) (1:Int)==(0:Int)) (.nx (((rE (0:Nat)∧rE (0:Nat))∧(rE (0:Nat)∧rE (0:Nat))∧rE (x0:Int)∧rE ((wrap i64 (v0+1)):Int)∧True)∧(mE m (((Els.Nil (Els.ints u32 m.Mem)∨rE (1:Nat))∧rE m.Mem)) True)∧(rE (0:Int)∧rE (0:Int)∧rE (0:Int)∧rE (0:Int)∧rE (0:Int)∧rE (0:Int)∧rE (0:Int)∧rE (0:Int)∧rE (0:Int)∧rE (0:Int)∧rE (0:Int)∧rE (0:Int)∧rE (0:Int)∧rE (0:Int)∧rE (0:Int)∧rE (0:Int)∧rE (0:Int)∧rE (0:Int)∧rE (0:Int)∧rE (0:Int)∧rE (0:Int)∧rE (0:Int)∧rE (0:Int)∧rE (0:Int)∧rE (0:Int)∧True)∧True) (Sum.inl (wrap i64 (v0+1)))) (.lv (Q2i m.B1 (wrap i64 (16+v0)) 0) λ(x1:Q02)=> .lf (Sum.inr x1))))))
def Q0n(m:Q00):Q02:=(Q5a m).m
abbrev Qcs(m:Q00):Prop:=(Q5a m).p
def Qp2(m:Q00):Tree Bool:=
.an (Qcs m) (.lv (Q0n m) λ(x0:Q02)=> .br (iand u32 x0.B3.a0 (1:Int)==(0:Int)) (.lf false) (.an (Qd7 m.Mem x0.Pc 4) (.lv (Q23 m.Mem x0.Pc 4) λ(x1:Int×Bool)=> .lv (Q3z x1.1) λ(x2:Q0e×Bool)=> .br x1.2 (.br x2.2 (.br (x2.1.Op==60) (.lf (x2.1.Imm==2)) (.lf false)) (.lf false)) (.lf false))))
def Z8x(m:Q00):Bool:=(Qp2 m).m
abbrev Qul(m:Q00):Prop:=(Qp2 m).p
def Qos(m:Q00):Tree Bool:=
.an (Qui m) (.lv (Q5 m) λ(x0:Bool)=> .br x0 (.lf false) (.an (Qul m) (.lv (Z8x m) λ(x1:Bool)=> .lf x1)))
def Qib(m:Q00):Bool:=(Qos m).m
def Q6l(c:Q0a)(port:Int):Tree (Q0a×Int):=
let T1:Tree ((Q0a×Int)):= .br (port==0) (.cn (decide ((0:Int)≤(1:Int)∧1≤(c.C9.length:Int)∧(c.C9.length:Int)≤(c.C9.length:Int))) (.cn (decide ((0:Int)≤(0:Int)∧0<(c.C9.length:Int))) (.lf ({C9:=List.take (Int.toNat (c.C9.length:Int)-Int.toNat 1) (List.drop (Int.toNat 1) c.C9)},wrap u32 (↑(UInt8.toNat (c.C9.getD (Int.toNat 0) (0:UInt8))):Int))))) (.br (port==1) (.lf (c,wrap u32 (c.C9.length:Int))) (.lf (c,0))); .br (port==0) (.br ((c.C9.length:Int)==(0:Int)) (.lf (c,4294967295)) T1) T1
def Q6z(c:Q0a)(port:Int):(Q0a×Int):=(Q6l c port).m
def Qg0(t:Q0f):Tree Int:=
.br t.D2 (.lf 1) (.lf 0)
def Qif(t:Q0f):Int:=(Qg0 t).m
def Qhs(d0:Q09)(port:Int):Tree Int:=
.br (port==4) (.lf d0.B6) (.br (port==5) (.lf d0.B0) (.br (port==6) (.lf (wrap u32 d0.B7)) (.lf 0)))
def Ql7(d0:Q09)(port:Int):Int:=(Qhs d0 port).m
def Qff(n:Q0j)(port:Int):Tree Int:=
.br (port==7) (.lf n.B0) (.br (port==8) (.lf n.F0) (.br (port==9) (.br n.C2 (.br n.B5 (.lf (wrap u32 ((1:Int)+(2:Int)))) (.lf 1)) (.br n.B5 (.lf (wrap u32 ((0:Int)+(2:Int)))) (.lf 0))) (.lf 0)))
def Qjq(n:Q0j)(port:Int):Int:=(Qff n port).m
def Q6n(b:Q06)(port:Int):Tree Int:=
.br (port==10) (.lf b.C4) (.br (port==11) (.lv (Qdl b) λ(x0:Int)=> .lf (wrap u32 x0)) (.lf 0))
def Q70(b:Q06)(port:Int):Int:=(Q6n b port).m
def Qn1(m:Q00)(port:Int)(clock:Int):Tree (Int×Q00):=
.br (decide (port≤1)) (.lv (Q6z m.A1 port) λ(x0:Q0a×Int)=> .lf (x0.2,{B1:=m.B1,Mem:=m.Mem,A1:=x0.1,A6:=m.A6,A7:=m.A7,C3:=m.C3,A0:=m.A0,A3:=m.A3,A2:=m.A2,A4:=m.A4})) (.br (port==2) (.lf (clock,m)) (.br (port==3) (.lv (Qif m.A6) λ(x1:Int)=> .lf (x1,m)) (.br (decide (port≤6)) (.lv (Ql7 m.A7 port) λ(x2:Int)=> .lf (x2,m)) (.br (decide (port≤9)) (.lv (Qjq m.C3 port) λ(x3:Int)=> .lf (x3,m)) (.lv (Q70 m.A0 port) λ(x4:Int)=> .lf (x4,m))))))
def Qfo(m:Q00)(port:Int)(clock:Int):(Int×Q00):=(Qn1 m port clock).m
def Qw5(deadline:Int):Tree Q0f:=
.br (deadline==0) (.lf ({D3:=false,C5:=0,D2:=false})) (.lf ({D3:=true,C5:=deadline,D2:=false}))
def Qzg(deadline:Int):Q0f:=(Qw5 deadline).m
def Qku(x:Int)(n:Int)(z:(Int)×(List Int)):Nat:=(n-z.1).toNat
def Qok(x:Int)(n:Int):Tree (List UInt8):=
.lp inferInstance (Qku x n (0,[])+1) ((rE (x:Int)∧rE (n:Int)∧True∧rE (0:Int)∧True)∧rE ([]:List Int)∧True) (0,[]) λ(v0:Int×List Int)=> .br (decide (v0.1<n)) (.cn (decide (0≤wrap u64 (wrap i64 (8*v0.1)))) (.cn (decide (1*(v0.2.length+1)≤140737488355328)) (.nx ((rE (x:Int)∧rE (n:Int)∧True∧rE ((wrap i64 (v0.1+1)):Int)∧True)∧rE ((v0.2++[wrap u8 (ishr u32 x (wrap u64 (wrap i64 (8*v0.1))))]):List Int)∧True) (Sum.inl (wrap i64 (v0.1+1),v0.2++[wrap u8 (ishr u32 x (wrap u64 (wrap i64 (8*v0.1))))]))))) (.lf (Sum.inr (bytesOf v0.2)))
def Z7u(x:Int)(n:Int):(List UInt8):=(Qok x n).m
def Z0z(x:Int)(n:Int):Prop:=
n≤1000000000000
def Qe2(m:(List Int))(frame:Int)(z:(Int)×(List Int)):Nat:=(32-z.1).toNat
def Q91(m:(List Int))(frame:Int):Tree ((List UInt8)×Bool):=
.br (decide (frame<0)) (.lf ([],false)) (.lv (Q3t m) λ(x0:Int)=> .br (decide (frame≥x0)) (.lf ([],false)) (.lp inferInstance (Qe2 m frame (0,[])+1) ((((Els.Nil (Els.ints u32 m)∨rE (1:Nat))∧rE (m:List Int))∧rE (frame:Int)∧True∧rE (0:Int)∧True)∧rE ([]:List Int)∧True) (0,[]) λ(v0:Int×List Int)=> .br (decide (v0.1<32)) (.cn (Nat.beq 1 1&&Nat.blt 0 1&&decide (0≤wrap i64 (wrap i64 (frame*32)+v0.1)∧wrap i64 (wrap i64 (frame*32)+v0.1)<(m.length:Int))) (let E1:=m.getD (Int.toNat (wrap i64 (wrap i64 (frame*32)+v0.1))) 0; .an (Z0z E1 4) (.lv (Z7u E1 4) λ(x1:List UInt8)=> .cn (decide (1*(v0.2.length+List.length (Q7h x1))≤140737488355328)) (.nx ((((Els.Nil (Els.ints u32 m)∨rE (1:Nat))∧rE (m:List Int))∧rE (frame:Int)∧True∧rE ((wrap i64 (v0.1+1)):Int)∧True)∧rE ((v0.2++Q7h x1):List Int)∧True) (Sum.inl (wrap i64 (v0.1+1),v0.2++Q7h x1)))))) (.lf (Sum.inr (bytesOf v0.2,true)))))
def Qgr(m:(List Int))(frame:Int):((List UInt8)×Bool):=(Q91 m frame).m
abbrev Qgw(m:(List Int))(frame:Int):Prop:=(Q91 m frame).p
def Qvg(d0:Q09)(at0:Int):Tree (Q07×Bool):=
.br (d0.B7 !=1) (.lf ({C1:=0,At:=0,B6:=0,C7:=[]},false)) (.br (d0.D6==1) (.lf ({C1:=3,At:=at0,B6:=d0.B2,C7:=[]},true)) (.br (d0.D6==2) (.lf ({C1:=4,At:=at0,B6:=d0.B2,C7:=d0.C0},true)) (.lf ({C1:=0,At:=0,B6:=0,C7:=[]},false))))
def Qik(d0:Q09)(at0:Int):(Q07×Bool):=(Qvg d0 at0).m
def Q8r(d0:Q09)(m:(List Int))(port:Int)(v:Int)(at0:Int):Tree (Q09×(List Q07)):=
.br (port==4) (.lf ({Blocks:=d0.Blocks,B6:=v,B0:=d0.B0,B7:=d0.B7,D6:=d0.D6,B2:=d0.B2,A9:=d0.A9,C0:=d0.C0},[])) (.br (port==5) (.lf ({Blocks:=d0.Blocks,B6:=d0.B6,B0:=v,B7:=d0.B7,D6:=d0.D6,B2:=d0.B2,A9:=d0.A9,C0:=d0.C0},[])) (.br (port !=6) (.lf (d0,[])) (let T1:Tree ((Q09×(List Q07))):= .br (d0.B7==0) (let T2:Tree ((Q09×(List Q07))):= .lf ({Blocks:=d0.Blocks,B6:=d0.B6,B0:=d0.B0,B7:=3,D6:=d0.D6,B2:=d0.B2,A9:=d0.A9,C0:=d0.C0},[]); .br (decide (d0.B6≥d0.Blocks)) T2 (.lv (Q1s m d0.B0) λ(x0:Bool)=> .br (!x0) T2 (.br (v==2) (.an (Qgw m (wrap i64 d0.B0)) (.lv (Qgr m (wrap i64 d0.B0)) λ(x1:List UInt8×Bool)=>let E4:=({Blocks:=d0.Blocks,B6:=d0.B6,B0:=d0.B0,B7:=1,D6:=wrap i64 v,B2:=d0.B6,A9:=d0.B0,C0:=x1.1}:Q09); .lv (Qik E4 at0) λ(x2:Q07×Bool)=> .lf (E4,[x2.1]))) (let E5:=({Blocks:=d0.Blocks,B6:=d0.B6,B0:=d0.B0,B7:=1,D6:=wrap i64 v,B2:=d0.B6,A9:=d0.B0,C0:=[]}:Q09); .lv (Qik E5 at0) λ(x3:Q07×Bool)=> .lf (E5,[x3.1]))))) (.lf (d0,[])); .br (v==0) (let T3:Tree ((Q09×(List Q07))):= .lf ({Blocks:=d0.Blocks,B6:=d0.B6,B0:=d0.B0,B7:=0,D6:=d0.D6,B2:=d0.B2,A9:=d0.A9,C0:=d0.C0},[]); .br (d0.B7==2) T3 (.br (d0.B7==3) T3 (.br (v==1) T1 (.br (v==2) T1 (.lf (d0,[])))))) (.br (v==1) T1 (.br (v==2) T1 (.lf (d0,[])))))))
def Qj4(d0:Q09)(m:(List Int))(port:Int)(v:Int)(at0:Int):(Q09×(List Q07)):=(Q8r d0 m port v at0).m
abbrev Qqd(d0:Q09)(m:(List Int))(port:Int)(v:Int)(at0:Int):Prop:=(Q8r d0 m port v at0).p
def Qa6(n:Q0j)(m:(List Int))(port:Int)(v:Int)(at0:Int):Tree (Q0j×(List Q07)):=
.br (port==7) (.lf ({B0:=v,D9:=n.D9,C2:=n.C2,B8:=n.B8,B5:=n.B5,F0:=n.F0},[])) (.br (port==8) (.lf ({B0:=n.B0,D9:=v,C2:=n.C2,B8:=n.B8,B5:=n.B5,F0:=n.F0},[])) (.br (port !=9) (.lf (n,[])) (.br (v==0) (.lf ({B0:=n.B0,D9:=n.D9,C2:=n.C2,B8:=n.B8,B5:=false,F0:=0},[])) (let T1:Tree ((Q0j×(List Q07))):= .br (v==2) (.lv (Q1s m n.B0) λ(x2:Bool)=> .br x2 (.br (!n.C2) (.br (!n.B5) (.lf ({B0:=n.B0,D9:=n.D9,C2:=true,B8:=n.B0,B5:=n.B5,F0:=n.F0},[])) (.lf (n,[]))) (.lf (n,[]))) (.lf (n,[]))) (.lf (n,[])); .br (v==1) (.br (decide (n.D9≥1)) (.br (decide (n.D9≤128)) (.lv (Q1s m n.B0) λ(x0:Bool)=> .br x0 (.an (Qgw m (wrap i64 n.B0)) (.lv (Qgr m (wrap i64 n.B0)) λ(x1:List UInt8×Bool)=> .cn (decide ((0:Int)≤(0:Int)∧0≤n.D9∧n.D9≤(x1.1.length:Int))) (.lf (n,[{C1:=2,At:=at0,B6:=0,C7:=List.take (Int.toNat n.D9-Int.toNat 0) (List.drop (Int.toNat 0) x1.1)}])))) T1) T1) T1) T1))))
def Qkx(n:Q0j)(m:(List Int))(port:Int)(v:Int)(at0:Int):(Q0j×(List Q07)):=(Qa6 n m port v at0).m
abbrev Qtk(n:Q0j)(m:(List Int))(port:Int)(v:Int)(at0:Int):Prop:=(Qa6 n m port v at0).p
def Qdp(b:Q06)(m:(List Int))(port:Int)(v:Int)(z:(Int)×(List Int)):Nat:=(32-z.1).toNat
def Q4p(b:Q06)(m:(List Int))(port:Int)(v:Int):Tree (Q06×(List Int)):=
let T1:Tree ((Q06×(List Int))):= .br (port==11) (.br (decide (v<32)) (.cn (decide (0≤v)) (.lf ({C4:=b.C4,B9:=Qdf u32 b.B9 (ishl u32 1 v)},m))) (.lf (b,m))) (.lf (b,m)); .br (port==10) (.lv (Q1s m v) λ(x0:Bool)=> .br x0 (.cn (decide (0≤v)) (.br (iand u32 (ishr u32 b.B9 v) (1:Int)==(0:Int)) (.cn (decide (0≤v)) (.lp inferInstance (Qdp b m port v (0,m)+1) ((True∧rE (v:Int)∧(rE (0:Nat)∧rE (0:Nat))∧(rE (0:Nat)∧rE (0:Nat))∧rE (0:Int)∧True)∧rE (m:List Int)∧(rE b.C4∧rE ((ior u32 b.B9 (ishl u32 1 v)):Int)∧True)∧(rE (0:Int)∧rE (0:Int)∧True)∧True) (0,m) λ(v0:Int×List Int)=> .br (decide (v0.1<32)) (let E2:=wrap i64 (wrap i64 v*32)+v0.1; .cn (Nat.beq 1 1&&Nat.blt 0 1&&decide (0≤wrap i64 E2∧wrap i64 E2<(v0.2.length:Int))) (.nx ((True∧rE (v:Int)∧(rE (0:Nat)∧rE (0:Nat))∧(rE (0:Nat)∧rE (0:Nat))∧rE ((wrap i64 (v0.1+1)):Int)∧True)∧rE ((List.set v0.2 (Int.toNat (wrap i64 (wrap i64 (wrap i64 v*32)+v0.1))) 0):List Int)∧(rE b.C4∧rE ((ior u32 b.B9 (ishl u32 1 v)):Int)∧True)∧(rE (0:Int)∧rE (0:Int)∧True)∧True) (Sum.inl (wrap i64 (v0.1+1),List.set v0.2 (Int.toNat (wrap i64 E2)) 0)))) (.lf (Sum.inr ({C4:=b.C4,B9:=ior u32 b.B9 (ishl u32 1 v)},v0.2))))) T1)) T1) T1
def Q6o(b:Q06)(m:(List Int))(port:Int)(v:Int):(Q06×(List Int)):=(Q4p b m port v).m
abbrev Qz0(b:Q06)(m:(List Int))(port:Int)(v:Int):Prop:=(Q4p b m port v).p
def Qg4(m:Q00)(port:Int)(v:Int):Tree ((List Q07)×Q00):=
.br (port==0) (.lf ([{C1:=1,At:=m.A3,B6:=0,C7:=[(λ(n:Int)=>UInt8.ofNat n.toNat) (wrap u8 v)]}],m)) (.br (decide (port≤2)) (.lf ([],m)) (.br (port==3) (.lv (Qzg v) λ(x0:Q0f)=> .lf ([],{B1:=m.B1,Mem:=m.Mem,A1:=m.A1,A6:=x0,A7:=m.A7,C3:=m.C3,A0:=m.A0,A3:=m.A3,A2:=m.A2,A4:=m.A4})) (.br (decide (port≤6)) (.an (Qqd m.A7 m.Mem port v m.A3) (.lv (Qj4 m.A7 m.Mem port v m.A3) λ(x1:Q09×List Q07)=> .lf (x1.2,{B1:=m.B1,Mem:=m.Mem,A1:=m.A1,A6:=m.A6,A7:=x1.1,C3:=m.C3,A0:=m.A0,A3:=m.A3,A2:=m.A2,A4:=m.A4}))) (.br (decide (port≤9)) (.an (Qtk m.C3 m.Mem port v m.A3) (.lv (Qkx m.C3 m.Mem port v m.A3) λ(x2:Q0j×List Q07)=> .lf (x2.2,{B1:=m.B1,Mem:=m.Mem,A1:=m.A1,A6:=m.A6,A7:=m.A7,C3:=x2.1,A0:=m.A0,A3:=m.A3,A2:=m.A2,A4:=m.A4}))) (.an (Qz0 m.A0 m.Mem port v) (.lv (Q6o m.A0 m.Mem port v) λ(x3:Q06×List Int)=> .lf ([],{B1:=m.B1,Mem:=x3.2,A1:=m.A1,A6:=m.A6,A7:=m.A7,C3:=m.C3,A0:=x3.1,A3:=m.A3,A2:=m.A2,A4:=m.A4})))))))
def Qdd(m:Q00)(port:Int)(v:Int):((List Q07)×Q00):=(Qg4 m port v).m
abbrev Z17(m:Q00)(port:Int)(v:Int):Prop:=(Qg4 m port v).p
def Qfy(m:Q00)(clock:Int):Tree ((List Q07)×Q00):=
.an (Qcs m) (.lv (Q0n m) λ(x0:Q02)=> .an (Z50 x0 m.Mem) (.lv (Qcm x0 m.Mem) λ(x1:Q02×Q1×List Int)=>let E1:=({B1:=x1.1,Mem:=x1.2.2,A1:=m.A1,A6:=m.A6,A7:=m.A7,C3:=m.C3,A0:=m.A0,A3:=m.A3,A2:=false,A4:=m.A4}:Q00); .br (x1.2.1.C1==1) (.lv (Qfo E1 x1.2.1.C6 clock) λ(x2:Int×Q00)=> .an (Q3b x2.2.B1 x1.2.1.D7 x2.1) (.lv (Q1k x2.2.B1 x1.2.1.D7 x2.1) λ(x3:Q02)=> .lf ([],{B1:=x3,Mem:=x2.2.Mem,A1:=x2.2.A1,A6:=x2.2.A6,A7:=x2.2.A7,C3:=x2.2.C3,A0:=x2.2.A0,A3:=wrap u64 (x2.2.A3+1),A2:=x2.2.A2,A4:=x2.2.A4}))) (.br (x1.2.1.C1==2) (.an (Z17 E1 x1.2.1.C6 x1.2.1.Value) (.lv (Qdd E1 x1.2.1.C6 x1.2.1.Value) λ(x4:List Q07×Q00)=> .lf (x4.1,{B1:=x4.2.B1,Mem:=x4.2.Mem,A1:=x4.2.A1,A6:=x4.2.A6,A7:=x4.2.A7,C3:=x4.2.C3,A0:=x4.2.A0,A3:=wrap u64 (x4.2.A3+1),A2:=x4.2.A2,A4:=x4.2.A4}))) (.br (x1.2.1.C1==3) (.lf ([],{B1:=x1.1,Mem:=x1.2.2,A1:=m.A1,A6:=m.A6,A7:=m.A7,C3:=m.C3,A0:=m.A0,A3:=wrap u64 (m.A3+1),A2:=true,A4:=m.A4})) (.br (x1.2.1.C1==4) (.lf ([],{B1:=x1.1,Mem:=x1.2.2,A1:=m.A1,A6:=m.A6,A7:=m.A7,C3:=m.C3,A0:=m.A0,A3:=wrap u64 (m.A3+1),A2:=false,A4:=true})) (.lf ([],{B1:=x1.1,Mem:=x1.2.2,A1:=m.A1,A6:=m.A6,A7:=m.A7,C3:=m.C3,A0:=m.A0,A3:=wrap u64 (m.A3+1),A2:=false,A4:=m.A4})))))))
def Q1g(m:Q00)(clock:Int):((List Q07)×Q00):=(Qfy m clock).m
end
end Go.Proofs.YtjaifpiopmhmlaaGreat

/-
  Functions of the program: models, and that its calls come to them (by a program: gen3.py).
-/
import Derived.Test.YtjaifpiopmhmlaaGreatBareDriversBase
import Derived.Test.YtjaifpiopmhmlaaGreatBareDriversZa
import Derived.Test.YtjaifpiopmhmlaaGreatBareDriversZb
set_option maxRecDepth 100000
set_option linter.unusedVariables false
set_option linter.unusedSimpArgs false
namespace Go.Proofs.YtjaifpiopmhmlaaGreat
open Go Go.GD Go.IntKind
noncomputable section
def Qan(m:Q00)(z:(Int)):Nat:=(32-z).toNat
def Q5g(m:Q00):Tree Q02:=
.an (Qi0 m) (.lv (Q35 m) λ(x0:Int)=> .br (iand u32 m.B1.B4.a0 (2:Int)==(0:Int)) (.lf m.B1) (.br (x0==0) (.lf m.B1) (.lp inferInstance (Qan m 0+1) (((rE (0:Nat)∧rE (0:Nat))∧(rE (0:Nat)∧rE (0:Nat))∧rE (x0:Int)∧rE (0:Int)∧True)∧(mE m (((Els.Nil (Els.ints u32 m.Mem)∨rE (1:Nat))∧rE m.Mem)) True)∧(rE (0:Int)∧rE (0:Int)∧rE (0:Int)∧rE (0:Int)∧rE (0:Int)∧rE (0:Int)∧rE (0:Int)∧rE (0:Int)∧rE (0:Int)∧rE (0:Int)∧rE (0:Int)∧rE (0:Int)∧rE (0:Int)∧rE (0:Int)∧rE (0:Int)∧rE (0:Int)∧rE (0:Int)∧rE (0:Int)∧rE (0:Int)∧rE (0:Int)∧rE (0:Int)∧rE (0:Int)∧rE (0:Int)∧rE (0:Int)∧rE (0:Int)∧True)∧True) 0 λ(v0:Int)=> .cn (decide (0≤wrap u64 v0)) (.br (iand u32 (ishr u32 x0 (wrap u64 v0)) (1:Int)==(0:Int)) (.nx (((rE (0:Nat)∧rE (0:Nat))∧(rE (0:Nat)∧rE (0:Nat))∧rE (x0:Int)∧rE ((wrap i64 (v0+1)):Int)∧True)∧(mE m (((Els.Nil (Els.ints u32 m.Mem)∨rE (1:Nat))∧rE m.Mem)) True)∧(rE (0:Int)∧rE (0:Int)∧rE (0:Int)∧rE (0:Int)∧rE (0:Int)∧rE (0:Int)∧rE (0:Int)∧rE (0:Int)∧rE (0:Int)∧rE (0:Int)∧rE (0:Int)∧rE (0:Int)∧rE (0:Int)∧rE (0:Int)∧rE (0:Int)∧rE (0:Int)∧rE (0:Int)∧rE (0:Int)∧rE (0:Int)∧rE (0:Int)∧rE (0:Int)∧rE (0:Int)∧rE (0:Int)∧rE (0:Int)∧rE (0:Int)∧True)∧True) (Sum.inl (wrap i64 (v0+1)))) (.lv (Q2u m.B1 (wrap i64 (16+v0)) 0) λ(x1:Q02)=> .lf (Sum.inr x1))))))
def Q0j(m:Q00):Q02:=(Q5g m).m
abbrev Qd0(m:Q00):Prop:=(Q5g m).p
def Qpx(m:Q00):Tree Bool:=
.an (Qd0 m) (.lv (Q0j m) λ(x0:Q02)=> .br (iand u32 x0.B4.a0 (1:Int)==(0:Int)) (.lf false) (.an (Qdn m.Mem x0.Pc 4) (.lv (Q11 m.Mem x0.Pc 4) λ(x1:Int×Bool)=> .lv (Q1r x1.1) λ(x2:Q0g×Bool)=> .br x1.2 (.br x2.2 (.br (x2.1.Op==60) (.lf (x2.1.Imm==2)) (.lf false)) (.lf false)) (.lf false))))
def Qgd(m:Q00):Bool:=(Qpx m).m
abbrev Qv5(m:Q00):Prop:=(Qpx m).p
def Qo9(m:Q00):Tree Bool:=
.an (Qvv m) (.lv (Q1q m) λ(x0:Bool)=> .br x0 (.lf false) (.an (Qv5 m) (.lv (Qgd m) λ(x1:Bool)=> .lf x1)))
def Q19(m:Q00):Bool:=(Qo9 m).m
def Q7(c:Q0b)(port:Int):Tree (Q0b×Int):=
let T1:Tree ((Q0b×Int)):= .br (port==0) (.cn (decide ((0:Int)≤(1:Int)∧1≤(c.C9.length:Int)∧(c.C9.length:Int)≤(c.C9.length:Int))) (.cn (decide ((0:Int)≤(0:Int)∧0<(c.C9.length:Int))) (.lf ({C9:=List.take (Int.toNat (c.C9.length:Int)-Int.toNat 1) (List.drop (Int.toNat 1) c.C9)},wrap u32 (↑(UInt8.toNat (c.C9.getD (Int.toNat 0) (0:UInt8))):Int))))) (.br (port==1) (.lf (c,wrap u32 (c.C9.length:Int))) (.lf (c,0))); .br (port==0) (.br ((c.C9.length:Int)==(0:Int)) (.lf (c,4294967295)) T1) T1
def Q78(c:Q0b)(port:Int):(Q0b×Int):=(Q7 c port).m
def Qg8(t:Q0i):Tree Int:=
.br t.D4 (.lf 1) (.lf 0)
def Qj2(t:Q0i):Int:=(Qg8 t).m
def Qh0(d0:Q0a)(port:Int):Tree Int:=
.br (port==4) (.lf d0.B3) (.br (port==5) (.lf d0.B0) (.br (port==6) (.lf (wrap u32 d0.B8)) (.lf 0)))
def Qlg(d0:Q0a)(port:Int):Int:=(Qh0 d0 port).m
def Qfm(n:Q0n)(port:Int):Tree Int:=
.br (port==7) (.lf n.B0) (.br (port==8) (.lf n.F0) (.br (port==9) (.br n.C4 (.br n.B7 (.lf (wrap u32 ((1:Int)+(2:Int)))) (.lf 1)) (.br n.B7 (.lf (wrap u32 ((0:Int)+(2:Int)))) (.lf 0))) (.lf 0)))
def Qkd(n:Q0n)(port:Int):Int:=(Qfm n port).m
def Q6z(b:Q07)(port:Int):Tree Int:=
.br (port==10) (.lf b.C6) (.br (port==11) (.lv (Qdw b) λ(x0:Int)=> .lf (wrap u32 x0)) (.lf 0))
def Q7b(b:Q07)(port:Int):Int:=(Q6z b port).m
def Qn7(m:Q00)(port:Int)(clock:Int):Tree (Int×Q00):=
.br (decide (port≤1)) (.lv (Q78 m.A2 port) λ(x0:Q0b×Int)=> .lf (x0.2,{B1:=m.B1,Mem:=m.Mem,A2:=x0.1,A7:=m.A7,A6:=m.A6,C5:=m.C5,A1:=m.A1,A0:=m.A0,A3:=m.A3,A4:=m.A4})) (.br (port==2) (.lf (clock,m)) (.br (port==3) (.lv (Qj2 m.A7) λ(x1:Int)=> .lf (x1,m)) (.br (decide (port≤6)) (.lv (Qlg m.A6 port) λ(x2:Int)=> .lf (x2,m)) (.br (decide (port≤9)) (.lv (Qkd m.C5 port) λ(x3:Int)=> .lf (x3,m)) (.lv (Q7b m.A1 port) λ(x4:Int)=> .lf (x4,m))))))
def Qg5(m:Q00)(port:Int)(clock:Int):(Int×Q00):=(Qn7 m port clock).m
def Qxj(deadline:Int):Tree Q0i:=
.br (deadline==0) (.lf ({D5:=false,C7:=0,D4:=false})) (.lf ({D5:=true,C7:=deadline,D4:=false}))
def Z0e(deadline:Int):Q0i:=(Qxj deadline).m
def Ql8(x:Int)(n:Int)(z:(Int)×(List Int)):Nat:=(n-z.1).toNat
def Qpi(x:Int)(n:Int):Tree (List UInt8):=
.lp inferInstance (Ql8 x n (0,[])+1) ((rE (x:Int)∧rE (n:Int)∧True∧rE (0:Int)∧True)∧rE ([]:List Int)∧True) (0,[]) λ(v0:Int×List Int)=> .br (decide (v0.1<n)) (.cn (decide (0≤wrap u64 (wrap i64 (8*v0.1)))) (.cn (decide (1*(v0.2.length+1)≤140737488355328)) (.nx ((rE (x:Int)∧rE (n:Int)∧True∧rE ((wrap i64 (v0.1+1)):Int)∧True)∧rE ((v0.2++[wrap u8 (ishr u32 x (wrap u64 (wrap i64 (8*v0.1))))]):List Int)∧True) (Sum.inl (wrap i64 (v0.1+1),v0.2++[wrap u8 (ishr u32 x (wrap u64 (wrap i64 (8*v0.1))))]))))) (.lf (Sum.inr (bytesOf v0.2)))
def Z7a(x:Int)(n:Int):(List UInt8):=(Qpi x n).m
def Z1l(x:Int)(n:Int):Prop:=
n≤1000000000000
def Qee(m:(List Int))(frame:Int)(z:(Int)×(List Int)):Nat:=(32-z.1).toNat
def Q9c(m:(List Int))(frame:Int):Tree ((List UInt8)×Bool):=
.br (decide (frame<0)) (.lf ([],false)) (.lv (Q4 m) λ(x0:Int)=> .br (decide (frame≥x0)) (.lf ([],false)) (.lp inferInstance (Qee m frame (0,[])+1) ((((Els.Nil (Els.ints u32 m)∨rE (1:Nat))∧rE (m:List Int))∧rE (frame:Int)∧True∧rE (0:Int)∧True)∧rE ([]:List Int)∧True) (0,[]) λ(v0:Int×List Int)=> .br (decide (v0.1<32)) (.cn (Nat.beq 1 1&&Nat.blt 0 1&&decide (0≤wrap i64 (wrap i64 (frame*32)+v0.1)∧wrap i64 (wrap i64 (frame*32)+v0.1)<(m.length:Int))) (let E1:=m.getD (Int.toNat (wrap i64 (wrap i64 (frame*32)+v0.1))) 0; .an (Z1l E1 4) (.lv (Z7a E1 4) λ(x1:List UInt8)=> .cn (decide (1*(v0.2.length+List.length (Q4q x1))≤140737488355328)) (.nx ((((Els.Nil (Els.ints u32 m)∨rE (1:Nat))∧rE (m:List Int))∧rE (frame:Int)∧True∧rE ((wrap i64 (v0.1+1)):Int)∧True)∧rE ((v0.2++Q4q x1):List Int)∧True) (Sum.inl (wrap i64 (v0.1+1),v0.2++Q4q x1)))))) (.lf (Sum.inr (bytesOf v0.2,true)))))
def Qgc(m:(List Int))(frame:Int):((List UInt8)×Bool):=(Q9c m frame).m
abbrev Qht(m:(List Int))(frame:Int):Prop:=(Q9c m frame).p
def Qv7(d0:Q0a)(at0:Int):Tree (Q06×Bool):=
.br (d0.B8 !=1) (.lf ({B2:=0,At:=0,B3:=0,C3:=[]},false)) (.br (d0.D6==1) (.lf ({B2:=3,At:=at0,B3:=d0.B5,C3:=[]},true)) (.br (d0.D6==2) (.lf ({B2:=4,At:=at0,B3:=d0.B5,C3:=d0.C1},true)) (.lf ({B2:=0,At:=0,B3:=0,C3:=[]},false))))
def Qjj(d0:Q0a)(at0:Int):(Q06×Bool):=(Qv7 d0 at0).m
def Q90(d0:Q0a)(m:(List Int))(port:Int)(v:Int)(at0:Int):Tree (Q0a×(List Q06)):=
.br (port==4) (.lf ({Blocks:=d0.Blocks,B3:=v,B0:=d0.B0,B8:=d0.B8,D6:=d0.D6,B5:=d0.B5,A9:=d0.A9,C1:=d0.C1},[])) (.br (port==5) (.lf ({Blocks:=d0.Blocks,B3:=d0.B3,B0:=v,B8:=d0.B8,D6:=d0.D6,B5:=d0.B5,A9:=d0.A9,C1:=d0.C1},[])) (.br (port !=6) (.lf (d0,[])) (let T1:Tree ((Q0a×(List Q06))):= .br (d0.B8==0) (let T2:Tree ((Q0a×(List Q06))):= .lf ({Blocks:=d0.Blocks,B3:=d0.B3,B0:=d0.B0,B8:=3,D6:=d0.D6,B5:=d0.B5,A9:=d0.A9,C1:=d0.C1},[]); .br (decide (d0.B3≥d0.Blocks)) T2 (.lv (Q22 m d0.B0) λ(x0:Bool)=> .br (!x0) T2 (.br (v==2) (.an (Qht m (wrap i64 d0.B0)) (.lv (Qgc m (wrap i64 d0.B0)) λ(x1:List UInt8×Bool)=>let E4:=({Blocks:=d0.Blocks,B3:=d0.B3,B0:=d0.B0,B8:=1,D6:=wrap i64 v,B5:=d0.B3,A9:=d0.B0,C1:=x1.1}:Q0a); .lv (Qjj E4 at0) λ(x2:Q06×Bool)=> .lf (E4,[x2.1]))) (let E5:=({Blocks:=d0.Blocks,B3:=d0.B3,B0:=d0.B0,B8:=1,D6:=wrap i64 v,B5:=d0.B3,A9:=d0.B0,C1:=[]}:Q0a); .lv (Qjj E5 at0) λ(x3:Q06×Bool)=> .lf (E5,[x3.1]))))) (.lf (d0,[])); .br (v==0) (let T3:Tree ((Q0a×(List Q06))):= .lf ({Blocks:=d0.Blocks,B3:=d0.B3,B0:=d0.B0,B8:=0,D6:=d0.D6,B5:=d0.B5,A9:=d0.A9,C1:=d0.C1},[]); .br (d0.B8==2) T3 (.br (d0.B8==3) T3 (.br (v==1) T1 (.br (v==2) T1 (.lf (d0,[])))))) (.br (v==1) T1 (.br (v==2) T1 (.lf (d0,[])))))))
def Qjc(d0:Q0a)(m:(List Int))(port:Int)(v:Int)(at0:Int):(Q0a×(List Q06)):=(Q90 d0 m port v at0).m
abbrev Qqi(d0:Q0a)(m:(List Int))(port:Int)(v:Int)(at0:Int):Prop:=(Q90 d0 m port v at0).p
def Qaf(n:Q0n)(m:(List Int))(port:Int)(v:Int)(at0:Int):Tree (Q0n×(List Q06)):=
.br (port==7) (.lf ({B0:=v,D9:=n.D9,C4:=n.C4,B9:=n.B9,B7:=n.B7,F0:=n.F0},[])) (.br (port==8) (.lf ({B0:=n.B0,D9:=v,C4:=n.C4,B9:=n.B9,B7:=n.B7,F0:=n.F0},[])) (.br (port !=9) (.lf (n,[])) (.br (v==0) (.lf ({B0:=n.B0,D9:=n.D9,C4:=n.C4,B9:=n.B9,B7:=false,F0:=0},[])) (let T1:Tree ((Q0n×(List Q06))):= .br (v==2) (.lv (Q22 m n.B0) λ(x2:Bool)=> .br x2 (.br (!n.C4) (.br (!n.B7) (.lf ({B0:=n.B0,D9:=n.D9,C4:=true,B9:=n.B0,B7:=n.B7,F0:=n.F0},[])) (.lf (n,[]))) (.lf (n,[]))) (.lf (n,[]))) (.lf (n,[])); .br (v==1) (.br (decide (n.D9≥1)) (.br (decide (n.D9≤128)) (.lv (Q22 m n.B0) λ(x0:Bool)=> .br x0 (.an (Qht m (wrap i64 n.B0)) (.lv (Qgc m (wrap i64 n.B0)) λ(x1:List UInt8×Bool)=> .cn (decide ((0:Int)≤(0:Int)∧0≤n.D9∧n.D9≤(x1.1.length:Int))) (.lf (n,[{B2:=2,At:=at0,B3:=0,C3:=List.take (Int.toNat n.D9-Int.toNat 0) (List.drop (Int.toNat 0) x1.1)}])))) T1) T1) T1) T1))))
def Qls(n:Q0n)(m:(List Int))(port:Int)(v:Int)(at0:Int):(Q0n×(List Q06)):=(Qaf n m port v at0).m
abbrev Qsx(n:Q0n)(m:(List Int))(port:Int)(v:Int)(at0:Int):Prop:=(Qaf n m port v at0).p
def Qf2(b:Q07)(m:(List Int))(port:Int)(v:Int)(z:(Int)×(List Int)):Nat:=(32-z.1).toNat
def Q4v(b:Q07)(m:(List Int))(port:Int)(v:Int):Tree (Q07×(List Int)):=
let T1:Tree ((Q07×(List Int))):= .br (port==11) (.br (decide (v<32)) (.cn (decide (0≤v)) (.lf ({C6:=b.C6,C0:=Qd8 u32 b.C0 (ishl u32 1 v)},m))) (.lf (b,m))) (.lf (b,m)); .br (port==10) (.lv (Q22 m v) λ(x0:Bool)=> .br x0 (.cn (decide (0≤v)) (.br (iand u32 (ishr u32 b.C0 v) (1:Int)==(0:Int)) (.cn (decide (0≤v)) (.lp inferInstance (Qf2 b m port v (0,m)+1) ((True∧rE (v:Int)∧(rE (0:Nat)∧rE (0:Nat))∧(rE (0:Nat)∧rE (0:Nat))∧rE (0:Int)∧True)∧rE (m:List Int)∧(rE b.C6∧rE ((ior u32 b.C0 (ishl u32 1 v)):Int)∧True)∧(rE (0:Int)∧rE (0:Int)∧True)∧True) (0,m) λ(v0:Int×List Int)=> .br (decide (v0.1<32)) (let E2:=wrap i64 (wrap i64 v*32)+v0.1; .cn (Nat.beq 1 1&&Nat.blt 0 1&&decide (0≤wrap i64 E2∧wrap i64 E2<(v0.2.length:Int))) (.nx ((True∧rE (v:Int)∧(rE (0:Nat)∧rE (0:Nat))∧(rE (0:Nat)∧rE (0:Nat))∧rE ((wrap i64 (v0.1+1)):Int)∧True)∧rE ((List.set v0.2 (Int.toNat (wrap i64 (wrap i64 (wrap i64 v*32)+v0.1))) 0):List Int)∧(rE b.C6∧rE ((ior u32 b.C0 (ishl u32 1 v)):Int)∧True)∧(rE (0:Int)∧rE (0:Int)∧True)∧True) (Sum.inl (wrap i64 (v0.1+1),List.set v0.2 (Int.toNat (wrap i64 E2)) 0)))) (.lf (Sum.inr ({C6:=b.C6,C0:=ior u32 b.C0 (ishl u32 1 v)},v0.2))))) T1)) T1) T1
def Q76(b:Q07)(m:(List Int))(port:Int)(v:Int):(Q07×(List Int)):=(Q4v b m port v).m
abbrev Qz5(b:Q07)(m:(List Int))(port:Int)(v:Int):Prop:=(Q4v b m port v).p
def Qgf(m:Q00)(port:Int)(v:Int):Tree ((List Q06)×Q00):=
.br (port==0) (.lf ([{B2:=1,At:=m.A0,B3:=0,C3:=[(λ(n:Int)=>UInt8.ofNat n.toNat) (wrap u8 v)]}],m)) (.br (decide (port≤2)) (.lf ([],m)) (.br (port==3) (.lv (Z0e v) λ(x0:Q0i)=> .lf ([],{B1:=m.B1,Mem:=m.Mem,A2:=m.A2,A7:=x0,A6:=m.A6,C5:=m.C5,A1:=m.A1,A0:=m.A0,A3:=m.A3,A4:=m.A4})) (.br (decide (port≤6)) (.an (Qqi m.A6 m.Mem port v m.A0) (.lv (Qjc m.A6 m.Mem port v m.A0) λ(x1:Q0a×List Q06)=> .lf (x1.2,{B1:=m.B1,Mem:=m.Mem,A2:=m.A2,A7:=m.A7,A6:=x1.1,C5:=m.C5,A1:=m.A1,A0:=m.A0,A3:=m.A3,A4:=m.A4}))) (.br (decide (port≤9)) (.an (Qsx m.C5 m.Mem port v m.A0) (.lv (Qls m.C5 m.Mem port v m.A0) λ(x2:Q0n×List Q06)=> .lf (x2.2,{B1:=m.B1,Mem:=m.Mem,A2:=m.A2,A7:=m.A7,A6:=m.A6,C5:=x2.1,A1:=m.A1,A0:=m.A0,A3:=m.A3,A4:=m.A4}))) (.an (Qz5 m.A1 m.Mem port v) (.lv (Q76 m.A1 m.Mem port v) λ(x3:Q07×List Int)=> .lf ([],{B1:=m.B1,Mem:=x3.2,A2:=m.A2,A7:=m.A7,A6:=m.A6,C5:=m.C5,A1:=x3.1,A0:=m.A0,A3:=m.A3,A4:=m.A4})))))))
def Qdj(m:Q00)(port:Int)(v:Int):((List Q06)×Q00):=(Qgf m port v).m
abbrev Z4(m:Q00)(port:Int)(v:Int):Prop:=(Qgf m port v).p
def Qg6(m:Q00)(clock:Int):Tree ((List Q06)×Q00):=
.an (Qd0 m) (.lv (Q0j m) λ(x0:Q02)=> .an (Z5i x0 m.Mem) (.lv (Qay x0 m.Mem) λ(x1:Q02×Q0z×List Int)=>let E1:=({B1:=x1.1,Mem:=x1.2.2,A2:=m.A2,A7:=m.A7,A6:=m.A6,C5:=m.C5,A1:=m.A1,A0:=m.A0,A3:=false,A4:=m.A4}:Q00); .br (x1.2.1.B2==1) (.lv (Qg5 E1 x1.2.1.C8 clock) λ(x2:Int×Q00)=> .an (Q3o x2.2.B1 x1.2.1.D7 x2.1) (.lv (Q1o x2.2.B1 x1.2.1.D7 x2.1) λ(x3:Q02)=> .lf ([],{B1:=x3,Mem:=x2.2.Mem,A2:=x2.2.A2,A7:=x2.2.A7,A6:=x2.2.A6,C5:=x2.2.C5,A1:=x2.2.A1,A0:=wrap u64 (x2.2.A0+1),A3:=x2.2.A3,A4:=x2.2.A4}))) (.br (x1.2.1.B2==2) (.an (Z4 E1 x1.2.1.C8 x1.2.1.Value) (.lv (Qdj E1 x1.2.1.C8 x1.2.1.Value) λ(x4:List Q06×Q00)=> .lf (x4.1,{B1:=x4.2.B1,Mem:=x4.2.Mem,A2:=x4.2.A2,A7:=x4.2.A7,A6:=x4.2.A6,C5:=x4.2.C5,A1:=x4.2.A1,A0:=wrap u64 (x4.2.A0+1),A3:=x4.2.A3,A4:=x4.2.A4}))) (.br (x1.2.1.B2==3) (.lf ([],{B1:=x1.1,Mem:=x1.2.2,A2:=m.A2,A7:=m.A7,A6:=m.A6,C5:=m.C5,A1:=m.A1,A0:=wrap u64 (m.A0+1),A3:=true,A4:=m.A4})) (.br (x1.2.1.B2==4) (.lf ([],{B1:=x1.1,Mem:=x1.2.2,A2:=m.A2,A7:=m.A7,A6:=m.A6,C5:=m.C5,A1:=m.A1,A0:=wrap u64 (m.A0+1),A3:=false,A4:=true})) (.lf ([],{B1:=x1.1,Mem:=x1.2.2,A2:=m.A2,A7:=m.A7,A6:=m.A6,C5:=m.C5,A1:=m.A1,A0:=wrap u64 (m.A0+1),A3:=false,A4:=m.A4})))))))
def Q09(m:Q00)(clock:Int):((List Q06)×Q00):=(Qg6 m clock).m
end
end Go.Proofs.YtjaifpiopmhmlaaGreat

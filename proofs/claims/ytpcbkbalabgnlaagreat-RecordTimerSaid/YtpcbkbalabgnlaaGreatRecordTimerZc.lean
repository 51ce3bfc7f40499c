/-
  Functions of the program: models, and that its calls come to them (by a program: gen3.py).
-/
import Derived.Test.YtpcbkbalabgnlaaGreatRecordTimerBase
import Derived.Test.YtpcbkbalabgnlaaGreatRecordTimerZa
import Derived.Test.YtpcbkbalabgnlaaGreatRecordTimerZb
set_option linter.unusedVariables false
set_option linter.unusedSimpArgs false
namespace Go.Proofs.YtpcbkbalabgnlaaGreat
open Go Go.GD Go.IntKind
set_option maxRecDepth 100000
noncomputable section
def Qex(steps:Int):Tree Int:=
.lf (if 4000<if 0>steps then 0 else steps then 4000 else if 0>steps then 0 else steps)
def Q18(steps:Int):Int:=(Qex steps).m
def Qwu(t:Q0g)(now:Int):Tree Bool:=
.br t.D4 (.lf (decide (now≥t.C6))) (.lf false)
def Qa4(t:Q0g)(now:Int):Bool:=(Qwu t now).m
def Qbq(m:Q00)(z:(Int)):Nat:=(32-z).toNat
def Q69(m:Q00):Tree Q03:=
.an (Qia m) (.lv (Q3l m) λ(x0:Int)=> .br (iand u32 m.B2.B5.a0 (2:Int)==(0:Int)) (.lf m.B2) (.br (x0==0) (.lf m.B2) (.lp inferInstance (Qbq m 0+1) (((rE (0:Nat)∧rE (0:Nat))∧(rE (0:Nat)∧rE (0:Nat))∧rE (x0:Int)∧rE (0:Int)∧True)∧(mE m (((Els.Nil (Els.ints u32 m.Mem)∨rE (1:Nat))∧rE m.Mem)) True)∧(rE (0:Int)∧rE (0:Int)∧rE (0:Int)∧rE (0:Int)∧rE (0:Int)∧rE (0:Int)∧rE (0:Int)∧rE (0:Int)∧rE (0:Int)∧rE (0:Int)∧rE (0:Int)∧rE (0:Int)∧rE (0:Int)∧rE (0:Int)∧rE (0:Int)∧rE (0:Int)∧rE (0:Int)∧rE (0:Int)∧rE (0:Int)∧rE (0:Int)∧rE (0:Int)∧rE (0:Int)∧rE (0:Int)∧rE (0:Int)∧rE (0:Int)∧True)∧True) 0 λ(v0:Int)=> .cn (decide (0≤wrap u64 v0)) (.br (iand u32 (ishr u32 x0 (wrap u64 v0)) (1:Int)==(0:Int)) (.nx (((rE (0:Nat)∧rE (0:Nat))∧(rE (0:Nat)∧rE (0:Nat))∧rE (x0:Int)∧rE ((wrap i64 (v0+1)):Int)∧True)∧(mE m (((Els.Nil (Els.ints u32 m.Mem)∨rE (1:Nat))∧rE m.Mem)) True)∧(rE (0:Int)∧rE (0:Int)∧rE (0:Int)∧rE (0:Int)∧rE (0:Int)∧rE (0:Int)∧rE (0:Int)∧rE (0:Int)∧rE (0:Int)∧rE (0:Int)∧rE (0:Int)∧rE (0:Int)∧rE (0:Int)∧rE (0:Int)∧rE (0:Int)∧rE (0:Int)∧rE (0:Int)∧rE (0:Int)∧rE (0:Int)∧rE (0:Int)∧rE (0:Int)∧rE (0:Int)∧rE (0:Int)∧rE (0:Int)∧rE (0:Int)∧True)∧True) (Sum.inl (wrap i64 (v0+1)))) (.lv (Q35 m.B2 (wrap i64 (16+v0)) 0) λ(x1:Q03)=> .lf (Sum.inr x1))))))
def Q0i(m:Q00):Q03:=(Q69 m).m
abbrev Qdp(m:Q00):Prop:=(Q69 m).p
def Qqh(m:Q00):Tree Bool:=
.an (Qdp m) (.lv (Q0i m) λ(x0:Q03)=> .br (iand u32 x0.B5.a0 (1:Int)==(0:Int)) (.lf false) (.an (Qdx m.Mem x0.Pc 4) (.lv (Q15 m.Mem x0.Pc 4) λ(x1:Int×Bool)=> .lv (Q1w x1.1) λ(x2:Q0h×Bool)=> .br x1.2 (.br x2.2 (.br (x2.1.Op==60) (.lf (x2.1.Imm==2)) (.lf false)) (.lf false)) (.lf false))))
def Qgq(m:Q00):Bool:=(Qqh m).m
abbrev Qvi(m:Q00):Prop:=(Qqh m).p
def Qow(m:Q00):Tree Bool:=
.an (Qw3 m) (.lv (Q1b m) λ(x0:Bool)=> .br x0 (.lf false) (.an (Qvi m) (.lv (Qgq m) λ(x1:Bool)=> .lf x1)))
def Q4(m:Q00):Bool:=(Qow m).m
def Q7r(c:Q0d)(port:Int):Tree (Q0d×Int):=
let T1:Tree ((Q0d×Int)):= .br (port==0) (.cn (decide ((0:Int)≤(1:Int)∧1≤(c.D3.length:Int)∧(c.D3.length:Int)≤(c.D3.length:Int))) (.cn (decide ((0:Int)≤(0:Int)∧0<(c.D3.length:Int))) (.lf ({D3:=List.take (Int.toNat (c.D3.length:Int)-Int.toNat 1) (List.drop (Int.toNat 1) c.D3)},wrap u32 (↑(UInt8.toNat (c.D3.getD (Int.toNat 0) (0:UInt8))):Int))))) (.br (port==1) (.lf (c,wrap u32 (c.D3.length:Int))) (.lf (c,0))); .br (port==0) (.br ((c.D3.length:Int)==(0:Int)) (.lf (c,4294967295)) T1) T1
def Q7v(c:Q0d)(port:Int):(Q0d×Int):=(Q7r c port).m
def Qg7(t:Q0g):Tree Int:=
.br t.D6 (.lf 1) (.lf 0)
def Qjj(t:Q0g):Int:=(Qg7 t).m
def Qhi(d0:Q0b)(port:Int):Tree Int:=
.br (port==4) (.lf d0.C0) (.br (port==5) (.lf d0.B1) (.br (port==6) (.lf (wrap u32 d0.B8)) (.lf 0)))
def Qlx(d0:Q0b)(port:Int):Int:=(Qhi d0 port).m
def Qfw(n:Q0m)(port:Int):Tree Int:=
.br (port==7) (.lf n.B1) (.br (port==8) (.lf n.F3) (.br (port==9) (.br n.C4 (.br n.B7 (.lf (wrap u32 ((1:Int)+(2:Int)))) (.lf 1)) (.br n.B7 (.lf (wrap u32 ((0:Int)+(2:Int)))) (.lf 0))) (.lf 0)))
def Qk4(n:Q0m)(port:Int):Int:=(Qfw n port).m
def Q7n(b:Q07)(port:Int):Tree Int:=
.br (port==10) (.lf b.C7) (.br (port==11) (.lv (Qe8 b) λ(x0:Int)=> .lf (wrap u32 x0)) (.lf 0))
def Q7t(b:Q07)(port:Int):Int:=(Q7n b port).m
def Qn(m:Q00)(port:Int)(clock:Int):Tree (Int×Q00):=
.br (decide (port≤1)) (.lv (Q7v m.A2 port) λ(x0:Q0d×Int)=> .lf (x0.2,{B2:=m.B2,Mem:=m.Mem,A2:=x0.1,A7:=m.A7,B0:=m.B0,C5:=m.C5,A1:=m.A1,A4:=m.A4,A3:=m.A3,A6:=m.A6})) (.br (port==2) (.lf (clock,m)) (.br (port==3) (.lv (Qjj m.A7) λ(x1:Int)=> .lf (x1,m)) (.br (decide (port≤6)) (.lv (Qlx m.B0 port) λ(x2:Int)=> .lf (x2,m)) (.br (decide (port≤9)) (.lv (Qk4 m.C5 port) λ(x3:Int)=> .lf (x3,m)) (.lv (Q7t m.A1 port) λ(x4:Int)=> .lf (x4,m))))))
def Qg6(m:Q00)(port:Int)(clock:Int):(Int×Q00):=(Qn m port clock).m
def Qwr(deadline:Int):Tree Q0g:=
.br (deadline==0) (.lf ({D4:=false,C6:=0,D6:=false})) (.lf ({D4:=true,C6:=deadline,D6:=false}))
def Qys(deadline:Int):Q0g:=(Qwr deadline).m
def Ql(x:Int)(n:Int)(z:(Int)×(List Int)):Nat:=(n-z.1).toNat
def Qo5(x:Int)(n:Int):Tree (List UInt8):=
.lp inferInstance (Ql x n (0,[])+1) ((rE (x:Int)∧rE (n:Int)∧True∧rE (0:Int)∧True)∧rE ([]:List Int)∧True) (0,[]) λ(v0:Int×List Int)=> .br (decide (v0.1<n)) (.cn (decide (0≤wrap u64 (wrap i64 (8*v0.1)))) (.cn (decide (1*(v0.2.length+1)≤140737488355328)) (.nx ((rE (x:Int)∧rE (n:Int)∧True∧rE ((wrap i64 (v0.1+1)):Int)∧True)∧rE ((v0.2++[wrap u8 (ishr u32 x (wrap u64 (wrap i64 (8*v0.1))))]):List Int)∧True) (Sum.inl (wrap i64 (v0.1+1),v0.2++[wrap u8 (ishr u32 x (wrap u64 (wrap i64 (8*v0.1))))]))))) (.lf (Sum.inr (bytesOf v0.2)))
def Z8v(x:Int)(n:Int):(List UInt8):=(Qo5 x n).m
def Z2e(x:Int)(n:Int):Prop:=
n≤1000000000000
def Qfm(m:(List Int))(frame:Int)(z:(Int)×(List Int)):Nat:=(32-z.1).toNat
def Qa9(m:(List Int))(frame:Int):Tree ((List UInt8)×Bool):=
.br (decide (frame<0)) (.lf ([],false)) (.lv (Q4f m) λ(x0:Int)=> .br (decide (frame≥x0)) (.lf ([],false)) (.lp inferInstance (Qfm m frame (0,[])+1) ((((Els.Nil (Els.ints u32 m)∨rE (1:Nat))∧rE (m:List Int))∧rE (frame:Int)∧True∧rE (0:Int)∧True)∧rE ([]:List Int)∧True) (0,[]) λ(v0:Int×List Int)=> .br (decide (v0.1<32)) (.cn (Nat.beq 1 1&&Nat.blt 0 1&&decide (0≤wrap i64 (wrap i64 (frame*32)+v0.1)∧wrap i64 (wrap i64 (frame*32)+v0.1)<(m.length:Int))) (let E1:=m.getD (Int.toNat (wrap i64 (wrap i64 (frame*32)+v0.1))) 0; .an (Z2e E1 4) (.lv (Z8v E1 4) λ(x1:List UInt8)=> .cn (decide (1*(v0.2.length+List.length (Qa0 x1))≤140737488355328)) (.nx ((((Els.Nil (Els.ints u32 m)∨rE (1:Nat))∧rE (m:List Int))∧rE (frame:Int)∧True∧rE ((wrap i64 (v0.1+1)):Int)∧True)∧rE ((v0.2++Qa0 x1):List Int)∧True) (Sum.inl (wrap i64 (v0.1+1),v0.2++Qa0 x1)))))) (.lf (Sum.inr (bytesOf v0.2,true)))))
def Qh0(m:(List Int))(frame:Int):((List UInt8)×Bool):=(Qa9 m frame).m
abbrev Qi4(m:(List Int))(frame:Int):Prop:=(Qa9 m frame).p
def Qvv(d0:Q0b)(at0:Int):Tree (Q0a×Bool):=
.br (d0.B8 !=1) (.lf ({C3:=0,At:=0,C0:=0,C8:=[]},false)) (.br (d0.D9==1) (.lf ({C3:=3,At:=at0,C0:=d0.B6,C8:=[]},true)) (.br (d0.D9==2) (.lf ({C3:=4,At:=at0,C0:=d0.B6,C8:=d0.C2},true)) (.lf ({C3:=0,At:=0,C0:=0,C8:=[]},false))))
def Qjb(d0:Q0b)(at0:Int):(Q0a×Bool):=(Qvv d0 at0).m
def Q9k(d0:Q0b)(m:(List Int))(port:Int)(v:Int)(at0:Int):Tree (Q0b×(List Q0a)):=
.br (port==4) (.lf ({Blocks:=d0.Blocks,C0:=v,B1:=d0.B1,B8:=d0.B8,D9:=d0.D9,B6:=d0.B6,A9:=d0.A9,C2:=d0.C2},[])) (.br (port==5) (.lf ({Blocks:=d0.Blocks,C0:=d0.C0,B1:=v,B8:=d0.B8,D9:=d0.D9,B6:=d0.B6,A9:=d0.A9,C2:=d0.C2},[])) (.br (port !=6) (.lf (d0,[])) (let T1:Tree ((Q0b×(List Q0a))):= .br (d0.B8==0) (let T2:Tree ((Q0b×(List Q0a))):= .lf ({Blocks:=d0.Blocks,C0:=d0.C0,B1:=d0.B1,B8:=3,D9:=d0.D9,B6:=d0.B6,A9:=d0.A9,C2:=d0.C2},[]); .br (decide (d0.C0≥d0.Blocks)) T2 (.lv (Q25 m d0.B1) λ(x0:Bool)=> .br (!x0) T2 (.br (v==2) (.an (Qi4 m (wrap i64 d0.B1)) (.lv (Qh0 m (wrap i64 d0.B1)) λ(x1:List UInt8×Bool)=>let E4:=({Blocks:=d0.Blocks,C0:=d0.C0,B1:=d0.B1,B8:=1,D9:=wrap i64 v,B6:=d0.C0,A9:=d0.B1,C2:=x1.1}:Q0b); .lv (Qjb E4 at0) λ(x2:Q0a×Bool)=> .lf (E4,[x2.1]))) (let E5:=({Blocks:=d0.Blocks,C0:=d0.C0,B1:=d0.B1,B8:=1,D9:=wrap i64 v,B6:=d0.C0,A9:=d0.B1,C2:=[]}:Q0b); .lv (Qjb E5 at0) λ(x3:Q0a×Bool)=> .lf (E5,[x3.1]))))) (.lf (d0,[])); .br (v==0) (let T3:Tree ((Q0b×(List Q0a))):= .lf ({Blocks:=d0.Blocks,C0:=d0.C0,B1:=d0.B1,B8:=0,D9:=d0.D9,B6:=d0.B6,A9:=d0.A9,C2:=d0.C2},[]); .br (d0.B8==2) T3 (.br (d0.B8==3) T3 (.br (v==1) T1 (.br (v==2) T1 (.lf (d0,[])))))) (.br (v==1) T1 (.br (v==2) T1 (.lf (d0,[])))))))
def Qjg(d0:Q0b)(m:(List Int))(port:Int)(v:Int)(at0:Int):(Q0b×(List Q0a)):=(Q9k d0 m port v at0).m
abbrev Qqx(d0:Q0b)(m:(List Int))(port:Int)(v:Int)(at0:Int):Prop:=(Q9k d0 m port v at0).p
def Qbh(n:Q0m)(m:(List Int))(port:Int)(v:Int)(at0:Int):Tree (Q0m×(List Q0a)):=
.br (port==7) (.lf ({B1:=v,F1:=n.F1,C4:=n.C4,B9:=n.B9,B7:=n.B7,F3:=n.F3},[])) (.br (port==8) (.lf ({B1:=n.B1,F1:=v,C4:=n.C4,B9:=n.B9,B7:=n.B7,F3:=n.F3},[])) (.br (port !=9) (.lf (n,[])) (.br (v==0) (.lf ({B1:=n.B1,F1:=n.F1,C4:=n.C4,B9:=n.B9,B7:=false,F3:=0},[])) (let T1:Tree ((Q0m×(List Q0a))):= .br (v==2) (.lv (Q25 m n.B1) λ(x2:Bool)=> .br x2 (.br (!n.C4) (.br (!n.B7) (.lf ({B1:=n.B1,F1:=n.F1,C4:=true,B9:=n.B1,B7:=n.B7,F3:=n.F3},[])) (.lf (n,[]))) (.lf (n,[]))) (.lf (n,[]))) (.lf (n,[])); .br (v==1) (.br (decide (n.F1≥1)) (.br (decide (n.F1≤128)) (.lv (Q25 m n.B1) λ(x0:Bool)=> .br x0 (.an (Qi4 m (wrap i64 n.B1)) (.lv (Qh0 m (wrap i64 n.B1)) λ(x1:List UInt8×Bool)=> .cn (decide ((0:Int)≤(0:Int)∧0≤n.F1∧n.F1≤(x1.1.length:Int))) (.lf (n,[{C3:=2,At:=at0,C0:=0,C8:=List.take (Int.toNat n.F1-Int.toNat 0) (List.drop (Int.toNat 0) x1.1)}])))) T1) T1) T1) T1))))
def Qlf(n:Q0m)(m:(List Int))(port:Int)(v:Int)(at0:Int):(Q0m×(List Q0a)):=(Qbh n m port v at0).m
abbrev Qu(n:Q0m)(m:(List Int))(port:Int)(v:Int)(at0:Int):Prop:=(Qbh n m port v at0).p
def Qew(b:Q07)(m:(List Int))(port:Int)(v:Int)(z:(Int)×(List Int)):Nat:=(32-z.1).toNat
def Q5h(b:Q07)(m:(List Int))(port:Int)(v:Int):Tree (Q07×(List Int)):=
let T1:Tree ((Q07×(List Int))):= .br (port==11) (.br (decide (v<32)) (.cn (decide (0≤v)) (.lf ({C7:=b.C7,C1:=Qdr u32 b.C1 (ishl u32 1 v)},m))) (.lf (b,m))) (.lf (b,m)); .br (port==10) (.lv (Q25 m v) λ(x0:Bool)=> .br x0 (.cn (decide (0≤v)) (.br (iand u32 (ishr u32 b.C1 v) (1:Int)==(0:Int)) (.cn (decide (0≤v)) (.lp inferInstance (Qew b m port v (0,m)+1) ((True∧rE (v:Int)∧(rE (0:Nat)∧rE (0:Nat))∧(rE (0:Nat)∧rE (0:Nat))∧rE (0:Int)∧True)∧rE (m:List Int)∧(rE b.C7∧rE ((ior u32 b.C1 (ishl u32 1 v)):Int)∧True)∧(rE (0:Int)∧rE (0:Int)∧True)∧True) (0,m) λ(v0:Int×List Int)=> .br (decide (v0.1<32)) (let E2:=wrap i64 (wrap i64 v*32)+v0.1; .cn (Nat.beq 1 1&&Nat.blt 0 1&&decide (0≤wrap i64 E2∧wrap i64 E2<(v0.2.length:Int))) (.nx ((True∧rE (v:Int)∧(rE (0:Nat)∧rE (0:Nat))∧(rE (0:Nat)∧rE (0:Nat))∧rE ((wrap i64 (v0.1+1)):Int)∧True)∧rE ((List.set v0.2 (Int.toNat (wrap i64 (wrap i64 (wrap i64 v*32)+v0.1))) 0):List Int)∧(rE b.C7∧rE ((ior u32 b.C1 (ishl u32 1 v)):Int)∧True)∧(rE (0:Int)∧rE (0:Int)∧True)∧True) (Sum.inl (wrap i64 (v0.1+1),List.set v0.2 (Int.toNat (wrap i64 E2)) 0)))) (.lf (Sum.inr ({C7:=b.C7,C1:=ior u32 b.C1 (ishl u32 1 v)},v0.2))))) T1)) T1) T1
def Q7p(b:Q07)(m:(List Int))(port:Int)(v:Int):(Q07×(List Int)):=(Q5h b m port v).m
abbrev Z0(b:Q07)(m:(List Int))(port:Int)(v:Int):Prop:=(Q5h b m port v).p
def Qgm(m:Q00)(port:Int)(v:Int):Tree ((List Q0a)×Q00):=
.br (port==0) (.lf ([{C3:=1,At:=m.A4,C0:=0,C8:=[(λ(n:Int)=>UInt8.ofNat n.toNat) (wrap u8 v)]}],m)) (.br (decide (port≤2)) (.lf ([],m)) (.br (port==3) (.lv (Qys v) λ(x0:Q0g)=> .lf ([],{B2:=m.B2,Mem:=m.Mem,A2:=m.A2,A7:=x0,B0:=m.B0,C5:=m.C5,A1:=m.A1,A4:=m.A4,A3:=m.A3,A6:=m.A6})) (.br (decide (port≤6)) (.an (Qqx m.B0 m.Mem port v m.A4) (.lv (Qjg m.B0 m.Mem port v m.A4) λ(x1:Q0b×List Q0a)=> .lf (x1.2,{B2:=m.B2,Mem:=m.Mem,A2:=m.A2,A7:=m.A7,B0:=x1.1,C5:=m.C5,A1:=m.A1,A4:=m.A4,A3:=m.A3,A6:=m.A6}))) (.br (decide (port≤9)) (.an (Qu m.C5 m.Mem port v m.A4) (.lv (Qlf m.C5 m.Mem port v m.A4) λ(x2:Q0m×List Q0a)=> .lf (x2.2,{B2:=m.B2,Mem:=m.Mem,A2:=m.A2,A7:=m.A7,B0:=m.B0,C5:=x2.1,A1:=m.A1,A4:=m.A4,A3:=m.A3,A6:=m.A6}))) (.an (Z0 m.A1 m.Mem port v) (.lv (Q7p m.A1 m.Mem port v) λ(x3:Q07×List Int)=> .lf ([],{B2:=m.B2,Mem:=x3.2,A2:=m.A2,A7:=m.A7,B0:=m.B0,C5:=m.C5,A1:=x3.1,A4:=m.A4,A3:=m.A3,A6:=m.A6})))))))
def Qdu(m:Q00)(port:Int)(v:Int):((List Q0a)×Q00):=(Qgm m port v).m
abbrev Z4h(m:Q00)(port:Int)(v:Int):Prop:=(Qgm m port v).p
def Qgh(m:Q00)(clock:Int):Tree ((List Q0a)×Q00):=
.an (Qdp m) (.lv (Q0i m) λ(x0:Q03)=> .an (Z5y x0 m.Mem) (.lv (Qbx x0 m.Mem) λ(x1:Q03×Q13×List Int)=>let E1:=({B2:=x1.1,Mem:=x1.2.2,A2:=m.A2,A7:=m.A7,B0:=m.B0,C5:=m.C5,A1:=m.A1,A4:=m.A4,A3:=false,A6:=m.A6}:Q00); .br (x1.2.1.C3==1) (.lv (Qg6 E1 x1.2.1.C9 clock) λ(x2:Int×Q00)=> .an (Q4b x2.2.B2 x1.2.1.E0 x2.1) (.lv (Q1t x2.2.B2 x1.2.1.E0 x2.1) λ(x3:Q03)=> .lf ([],{B2:=x3,Mem:=x2.2.Mem,A2:=x2.2.A2,A7:=x2.2.A7,B0:=x2.2.B0,C5:=x2.2.C5,A1:=x2.2.A1,A4:=wrap u64 (x2.2.A4+1),A3:=x2.2.A3,A6:=x2.2.A6}))) (.br (x1.2.1.C3==2) (.an (Z4h E1 x1.2.1.C9 x1.2.1.Value) (.lv (Qdu E1 x1.2.1.C9 x1.2.1.Value) λ(x4:List Q0a×Q00)=> .lf (x4.1,{B2:=x4.2.B2,Mem:=x4.2.Mem,A2:=x4.2.A2,A7:=x4.2.A7,B0:=x4.2.B0,C5:=x4.2.C5,A1:=x4.2.A1,A4:=wrap u64 (x4.2.A4+1),A3:=x4.2.A3,A6:=x4.2.A6}))) (.br (x1.2.1.C3==3) (.lf ([],{B2:=x1.1,Mem:=x1.2.2,A2:=m.A2,A7:=m.A7,B0:=m.B0,C5:=m.C5,A1:=m.A1,A4:=wrap u64 (m.A4+1),A3:=true,A6:=m.A6})) (.br (x1.2.1.C3==4) (.lf ([],{B2:=x1.1,Mem:=x1.2.2,A2:=m.A2,A7:=m.A7,B0:=m.B0,C5:=m.C5,A1:=m.A1,A4:=wrap u64 (m.A4+1),A3:=false,A6:=true})) (.lf ([],{B2:=x1.1,Mem:=x1.2.2,A2:=m.A2,A7:=m.A7,B0:=m.B0,C5:=m.C5,A1:=m.A1,A4:=wrap u64 (m.A4+1),A3:=false,A6:=m.A6})))))))
def Q0k(m:Q00)(clock:Int):((List Q0a)×Q00):=(Qgh m clock).m
end
end Go.Proofs.YtpcbkbalabgnlaaGreat

/-
  Functions of the program: models, and that its calls come to them (by a program: gen3.py).
-/
import Derived.Test.YtpcbkbalabgnlaaGreatRecordBareBase
import Derived.Test.YtpcbkbalabgnlaaGreatRecordBareYa
set_option maxRecDepth 100000
set_option linter.unusedVariables false
set_option linter.unusedSimpArgs false
namespace Go.Proofs.YtpcbkbalabgnlaaGreat
open Go Go.GD Go.IntKind
noncomputable section
def tblYc0:List UInt8:=[(0:UInt8),1,2,2,3,3,3,3,4,4,4,4,4,4,4,4,5,5,5,5,5,5,5,5,5,5,5,5,5,5,5,5,6,6,6,6,6,6,6,6,6,6,6,6,6,6,6,6,6,6,6,6,6,6,6,6,6,6,6,6,6,6,6,6]
def Zdb:List UInt8:=[(7:UInt8),7,7,7,7,7,7,7,7,7,7,7,7,7,7,7,7,7,7,7,7,7,7,7,7,7,7,7,7,7,7,7,7,7,7,7,7,7,7,7,7,7,7,7,7,7,7,7,7,7,7,7,7,7,7,7,7,7,7,7,7,7,7,7]
def Qph:List UInt8:=[(8:UInt8),8,8,8,8,8,8,8,8,8,8,8,8,8,8,8,8,8,8,8,8,8,8,8,8,8,8,8,8,8,8,8,8,8,8,8,8,8,8,8,8,8,8,8,8,8,8,8,8,8,8,8,8,8,8,8,8,8,8,8,8,8,8,8]
def Zi7:List UInt8:=[(1:UInt8),2,2,3,3,3,3,4,4,4,4,4,4,4,4,5,5,5,5,5,5,5,5,5,5,5,5,5,5,5,5,6,6,6,6,6,6,6,6,6,6,6,6,6,6,6,6,6,6,6,6,6,6,6,6,6,6,6,6,6,6,6,6]
def tblYc4:List UInt8:=[(0:UInt8),1,1,2,1,2,2,3,1,2,2,3,2,3,3,4,1,2,2,3,2,3,3,4,2,3,3,4,3,4,4,5,1,2,2,3,2,3,3,4,2,3,3,4,3,4,4,5,2,3,3,4,3,4,4,5,3,4,4,5,4,5,5,6]
def Qpf:List UInt8:=[(1:UInt8),2,2,3,2,3,3,4,2,3,3,4,3,4,4,5,2,3,3,4,3,4,4,5,3,4,4,5,4,5,5,6,2,3,3,4,3,4,4,5,3,4,4,5,4,5,5,6,3,4,4,5,4,5,5,6,4,5,5,6,5,6,6,7]
def Zbe:List UInt8:=[(2:UInt8),3,3,4,3,4,4,5,3,4,4,5,4,5,5,6,3,4,4,5,4,5,5,6,4,5,5,6,5,6,6,7,3,4,4,5,4,5,5,6,4,5,5,6,5,6,6,7,4,5,5,6,5,6,6,7,5,6,6,7,6,7,7,8]
def Zio:List UInt8:=[(1:UInt8),1,2,1,2,2,3,1,2,2,3,2,3,3,4,1,2,2,3,2,3,3,4,2,3,3,4,3,4,4,5,1,2,2,3,2,3,3,4,2,3,3,4,3,4,4,5,2,3,3,4,3,4,4,5,3,4,4,5,4,5,5,6]
def Qrm(c:Q0b):Tree Bool:=
.lf (decide ((c.D3.length:Int)≤(16:Int)))
def Q2p(c:Q0b):Bool:=(Qrm c).m
def Z7:Q0d:=mkR 119 [] true [.agg Q0b.sig] [] (λargs rows=>Q2p (Q0b.of (args.getD 0 .dead).cells)) (λX=> .bool X) (λX=>[])
theorem Z2x:Q07 Tryz.prog Z7:=Q10 Q0j Q0k (.nil) Tryz.func119 Tryz.call119 (λargs rows=>Qrm (Q0b.of (args.getD 0 .dead).cells)) [] [] 2 (λ_ _ _=>by kernel_rfl) (λ_ _=>rfl) (λ_ _=>Tree.free_ok (by kernel_rfl)) (λ_ X=>by kernel_rfl)
def Qlc(t:Q0g):Tree Bool:=
.br t.D2 (.br (!t.D5) (.lf (t.C8 !=0)) (.lf false)) (.br t.D5 (.lf true) (.lf (t.C8==0)))
def Q4y(t:Q0g):Bool:=(Qlc t).m
def Zew:Q0d:=mkR 120 [] true [.agg Q0g.sig] [] (λargs rows=>Q4y (Q0g.of (args.getD 0 .dead).cells)) (λX=> .bool X) (λX=>[])
theorem Zcv:Q07 Tryz.prog Zew:=Q10 Q0j Q0k (.nil) Tryz.func120 Tryz.call120 (λargs rows=>Qlc (Q0g.of (args.getD 0 .dead).cells)) [] [] 2 (λ_ _ _=>by kernel_rfl) (λ_ _=>rfl) (λ_ _=>Tree.free_ok (by kernel_rfl)) (λ_ X=>by kernel_rfl)
def Q81(d0:Q0c):Tree Bool:=
.br (d0.D8==1) (.lf (decide (d0.C4=[]))) (.br (d0.D8==2) (.lf ((d0.C4.length:Int)==(128:Int))) (.lf false))
def Qa7(d0:Q0c):Bool:=(Q81 d0).m
def Qty:Q0d:=mkR 171 [] true [.agg Q0c.sig] [] (λargs rows=>Qa7 (Q0c.of (args.getD 0 .dead).cells)) (λX=> .bool X) (λX=>[])
theorem Qs2:Q07 Tryz.prog Qty:=Q10 Q0j Q0k (.nil) Tryz.func171 Tryz.call171 (λargs rows=>Q81 (Q0c.of (args.getD 0 .dead).cells)) [] [] 2 (λ_ _ _=>by kernel_rfl) (λ_ _=>rfl) (λ_ _=>Tree.free_ok (by kernel_rfl)) (λ_ X=>by kernel_rfl)
def Q6o(d0:Q0c)(pages:Int):Tree Bool:=
.br (decide (d0.Blocks>64)) (.lf false) (let T1:Tree (Bool):= .br (d0.D8==0) (.br (d0.B7==0) (.br (d0.B3==0) (.lf (decide (d0.C4=[]))) (.lf false)) (.lf false)) (.lf false); .br (d0.C0==0) T1 (.br (d0.C0==2) T1 (.br (d0.C0==3) T1 (.br (d0.C0==1) (.lv (Qa7 d0) λ(x0:Bool)=> .br x0 (.br (decide (d0.B7<d0.Blocks)) (.lf (decide (wrap i64 d0.B3<pages))) (.lf false)) (.lf false)) (.lf false)))))
def Q1k(d0:Q0c)(pages:Int):Bool:=(Q6o d0 pages).m
def Zkw:Q0d:=mkR 121 [] true [.agg Q0c.sig, .one (.int .i64)] [] (λargs rows=>Q1k (Q0c.of (args.getD 0 .dead).cells) (argI args 1)) (λX=> .bool X) (λX=>[])
theorem Zg2:Q07 Tryz.prog Zkw:=Q10 Q0j Q0k (.cons Qs2 (.nil)) Tryz.func121 Tryz.call121 (λargs rows=>Q6o (Q0c.of (args.getD 0 .dead).cells) (argI args 1)) [] [] 2 (λ_ _ _=>by kernel_rfl) (λ_ _=>rfl) (λ_ _=>Tree.free_ok (by kernel_rfl)) (λ_ X=>by kernel_rfl)
def Qkp(n:Q0o)(pages:Int):Tree Bool:=
let T1:Tree (Bool):=let T2:Tree (Bool):= .br n.B8 (.br (decide (n.F1≥1)) (.lf (decide (n.F1≤128))) (.lf false)) (.lf (n.F1==0)); .br n.C7 (.br (decide (wrap i64 n.B9≥pages)) (.lf false) T2) (.br (n.B9 !=0) (.lf false) T2); .br n.C7 (.br n.B8 (.lf false) T1) T1
def Q6l(n:Q0o)(pages:Int):Bool:=(Qkp n pages).m
def nic_May_m:Q0d:=mkR 122 [] true [.agg Q0o.sig, .one (.int .i64)] [] (λargs rows=>Q6l (Q0o.of (args.getD 0 .dead).cells) (argI args 1)) (λX=> .bool X) (λX=>[])
theorem Zm0:Q07 Tryz.prog nic_May_m:=Q10 Q0j Q0k (.nil) Tryz.func122 Tryz.call122 (λargs rows=>Qkp (Q0o.of (args.getD 0 .dead).cells) (argI args 1)) [] [] 2 (λ_ _ _=>by kernel_rfl) (λ_ _=>rfl) (λ_ _=>Tree.free_ok (by kernel_rfl)) (λ_ X=>by kernel_rfl)
def Q24(x:Int):Tree Int:=
let E1:=(↑(List.length (List.append (List.append tblYc0 Zdb) (List.append Qph Qph))):Int); .br (decide (x≥65536)) (.br (decide (ishr u32 x (16:Int)≥(256:Int))) (.cn (decide (0≤wrap u8 (ishr u32 (ishr u32 x 16) 8)∧wrap u8 (ishr u32 (ishr u32 x 16) 8)<E1)) (.lf (wrap i64 (wrap i64 ((16:Int)+(8:Int))+wrap i64 (↑(UInt8.toNat (List.getD ((0:UInt8)::(Zi7++Zdb++(Qph++Qph))) (Int.toNat (wrap u8 (ishr u32 (ishr u32 x 16) 8))) (0:UInt8))):Int))))) (.cn (decide (0≤wrap u8 (ishr u32 x 16)∧wrap u8 (ishr u32 x 16)<E1)) (.lf (wrap i64 (16+wrap i64 (↑(UInt8.toNat (List.getD ((0:UInt8)::(Zi7++Zdb++(Qph++Qph))) (Int.toNat (wrap u8 (ishr u32 x 16))) (0:UInt8))):Int)))))) (.br (decide (x≥256)) (.cn (decide (0≤wrap u8 (ishr u32 x 8)∧wrap u8 (ishr u32 x 8)<E1)) (.lf (wrap i64 (wrap i64 ((0:Int)+(8:Int))+wrap i64 (↑(UInt8.toNat (List.getD ((0:UInt8)::(Zi7++Zdb++(Qph++Qph))) (Int.toNat (wrap u8 (ishr u32 x 8))) (0:UInt8))):Int))))) (.cn (decide (0≤wrap u8 x∧wrap u8 x<E1)) (.lf (wrap i64 (0+wrap i64 (↑(UInt8.toNat (List.getD ((0:UInt8)::(Zi7++Zdb++(Qph++Qph))) (Int.toNat (wrap u8 x)) (0:UInt8))):Int))))))
def Q1o(x:Int):Int:=(Q24 x).m
abbrev Q69(x:Int):Prop:=(Q24 x).p
def Qv5:Q0d:=mkP 172 [] true [.one (.int .u32)] [] (λargs rows=>Q69 (argI args 0)) (λargs rows=>Q1o (argI args 0)) (λX=> .int .i64 X) (λX=>[])
theorem Qro:Q07 Tryz.prog Qv5:=Q0p Q0j Q0k (.nil) Tryz.func172 Tryz.call172 (λargs rows=>Q24 (argI args 0)) [] [] 2 (λ_ _ _=>by kernel_rfl) (λ_ _=>rfl) (λ_ _ h=>h) (λ_ X=>by kernel_rfl)
def Q41(b:Q06)(pages:Int):Tree Bool:=
.an (Q69 b.C3) (.lv (Q1o b.C3) λ(x0:Int)=> .lf (decide (x0≤if 0>pages then 0 else pages)))
def Q3(b:Q06)(pages:Int):Bool:=(Q41 b pages).m
abbrev Q7t(b:Q06)(pages:Int):Prop:=(Q41 b pages).p
def Z7a:Q0d:=mkP 123 [] true [.agg Q06.sig, .one (.int .i64)] [] (λargs rows=>Q7t (Q06.of (args.getD 0 .dead).cells) (argI args 1)) (λargs rows=>Q3 (Q06.of (args.getD 0 .dead).cells) (argI args 1)) (λX=> .bool X) (λX=>[])
theorem Z3n:Q07 Tryz.prog Z7a:=Q0p Q0j Q0k (.cons Qro (.nil)) Tryz.func123 Tryz.call123 (λargs rows=>Q41 (Q06.of (args.getD 0 .dead).cells) (argI args 1)) [] [] 2 (λ_ _ _=>by kernel_rfl) (λ_ _=>rfl) (λ_ _ h=>h) (λ_ X=>by kernel_rfl)
def Q1j(m:Q00):Tree Bool:=
.lv (Q0w m.Mem) λ(x0:Int)=> .lv (Q2p m.A6) λ(x1:Bool)=> .br x1 (.lv (Q4y m.B0) λ(x2:Bool)=> .br x2 (.lv (Q1k m.B1 x0) λ(x3:Bool)=> .br x3 (.lv (Q6l m.C5 x0) λ(x4:Bool)=> .br x4 (.an (Q7t m.A2 x0) (.lv (Q3 m.A2 x0) λ(x5:Bool)=> .lf x5)) (.lf false)) (.lf false)) (.lf false)) (.lf false)
def Q0y(m:Q00):Bool:=(Q1j m).m
abbrev Q1y(m:Q00):Prop:=(Q1j m).p
def Qp0:Q0d:=mkP 90 [] true [.agg Q00.sig] [] (λargs rows=>Q1y (Q00.of (args.getD 0 .dead).cells)) (λargs rows=>Q0y (Q00.of (args.getD 0 .dead).cells)) (λX=> .bool X) (λX=>[])
theorem Qnm:Q07 Tryz.prog Qp0:=Q0p Q0j Q0k (.cons Q4r (.cons Z2x (.cons Zcv (.cons Zg2 (.cons Zm0 (.cons Z3n (.nil))))))) Tryz.func90 Tryz.call90 (λargs rows=>Q1j (Q00.of (args.getD 0 .dead).cells)) [] [] 2 (λ_ _ _=>by kernel_rfl) (λ_ _=>rfl) (λ_ _ h=>h) (λ_ X=>by kernel_rfl)
def Q4k(m:Q00):Tree Bool:=
.lv (Q0w m.Mem) λ(x0:Int)=> .br (x0==0) (.lf false) (.br (m.B2.X.a0 !=0) (.lf false) (.br (decide (m.B2.B6.a0>31)) (.lf false) (.br (decide (m.B2.B6.a7>31)) (.lf false) (.br (decide (m.B2.B6.a6>255)) (.lf false) (.br (Int.tmod m.B2.B6.a1 (4:Int) !=(0:Int)) (.lf false) (.br (decide (m.A1>1152921504606846976)) (.lf false) (.br m.A7 (.br m.A9 (.lf false) (.an (Q1y m) (.lv (Q0y m) λ(x1:Bool)=> .lf x1))) (.an (Q1y m) (.lv (Q0y m) λ(x2:Bool)=> .lf x2)))))))))
def Q16(m:Q00):Bool:=(Q4k m).m
abbrev Q3b(m:Q00):Prop:=(Q4k m).p
def Z8u:Q0d:=mkP 51 [] true [.agg Q00.sig] [] (λargs rows=>Q3b (Q00.of (args.getD 0 .dead).cells)) (λargs rows=>Q16 (Q00.of (args.getD 0 .dead).cells)) (λX=> .bool X) (λX=>[])
theorem Qer:Q07 Tryz.prog Z8u:=Q0p Q0j Q0k (.cons Q4r (.cons Qnm (.nil))) Tryz.func51 Tryz.call51 (λargs rows=>Q4k (Q00.of (args.getD 0 .dead).cells)) [] [] 2 (λ_ _ _=>by kernel_rfl) (λ_ _=>rfl) (λ_ _ h=>h) (λ_ X=>by kernel_rfl)
def Qnf(t:Q0g):Tree Bool:=
.lf t.D5
def Qgq(t:Q0g):Bool:=(Qnf t).m
def Z08:Q0d:=mkR 175 [] true [.agg Q0g.sig] [] (λargs rows=>Qgq (Q0g.of (args.getD 0 .dead).cells)) (λX=> .bool X) (λX=>[])
theorem Qx3:Q07 Tryz.prog Z08:=Q10 Q0j Q0k (.nil) Tryz.func175 Tryz.call175 (λargs rows=>Qnf (Q0g.of (args.getD 0 .dead).cells)) [] [] 2 (λ_ _ _=>by kernel_rfl) (λ_ _=>rfl) (λ_ _=>Tree.free_ok (by kernel_rfl)) (λ_ X=>by kernel_rfl)
def Qky(c:Q0b):Tree Bool:=
.lf (!decide (c.D3=[]))
def Qa6(c:Q0b):Bool:=(Qky c).m
def Qv8:Q0d:=mkR 176 [] true [.agg Q0b.sig] [] (λargs rows=>Qa6 (Q0b.of (args.getD 0 .dead).cells)) (λX=> .bool X) (λX=>[])
theorem Qsj:Q07 Tryz.prog Qv8:=Q10 Q0j Q0k (.nil) Tryz.func176 Tryz.call176 (λargs rows=>Qky (Q0b.of (args.getD 0 .dead).cells)) [] [] 2 (λ_ _ _=>by kernel_rfl) (λ_ _=>rfl) (λ_ _=>Tree.free_ok (by kernel_rfl)) (λ_ X=>by kernel_rfl)
def Qk1(d0:Q0c):Tree Bool:=
.br (d0.C0==2) (.lf true) (.lf (d0.C0==3))
def Qaf(d0:Q0c):Bool:=(Qk1 d0).m
def Z26:Q0d:=mkR 177 [] true [.agg Q0c.sig] [] (λargs rows=>Qaf (Q0c.of (args.getD 0 .dead).cells)) (λX=> .bool X) (λX=>[])
theorem Qnr:Q07 Tryz.prog Z26:=Q10 Q0j Q0k (.nil) Tryz.func177 Tryz.call177 (λargs rows=>Qk1 (Q0c.of (args.getD 0 .dead).cells)) [] [] 2 (λ_ _ _=>by kernel_rfl) (λ_ _=>rfl) (λ_ _=>Tree.free_ok (by kernel_rfl)) (λ_ X=>by kernel_rfl)
def Qt7(n:Q0o):Tree Bool:=
.lf n.B8
def Ql7(n:Q0o):Bool:=(Qt7 n).m
def Z88:Q0d:=mkR 178 [] true [.agg Q0o.sig] [] (λargs rows=>Ql7 (Q0o.of (args.getD 0 .dead).cells)) (λX=> .bool X) (λX=>[])
theorem Z1z:Q07 Tryz.prog Z88:=Q10 Q0j Q0k (.nil) Tryz.func178 Tryz.call178 (λargs rows=>Qt7 (Q0o.of (args.getD 0 .dead).cells)) [] [] 2 (λ_ _ _=>by kernel_rfl) (λ_ _=>rfl) (λ_ _=>Tree.free_ok (by kernel_rfl)) (λ_ X=>by kernel_rfl)
def Q1s(x:Int):Tree Int:=
let E1:=(↑(List.length (List.append (List.append tblYc4 Qpf) (List.append Qpf Zbe))):Int); .cn (decide (0≤ishr u32 x 24∧ishr u32 x 24<E1)) (.cn (decide (0≤iand u32 (ishr u32 x 16) 255∧iand u32 (ishr u32 x 16) 255<E1)) (.cn (decide (0≤iand u32 (ishr u32 x 8) 255∧iand u32 (ishr u32 x 8) 255<E1)) (.cn (decide (0≤iand u32 x 255∧iand u32 x 255<E1)) (.lf (wrap i64 (wrap u8 (wrap u8 (wrap u8 ((↑(UInt8.toNat (List.getD ((0:UInt8)::(Zio++Qpf++(Qpf++Zbe))) (Int.toNat (ishr u32 x 24)) (0:UInt8))):Int)+(↑(UInt8.toNat (List.getD ((0:UInt8)::(Zio++Qpf++(Qpf++Zbe))) (Int.toNat (iand u32 (ishr u32 x 16) 255)) (0:UInt8))):Int))+(↑(UInt8.toNat (List.getD ((0:UInt8)::(Zio++Qpf++(Qpf++Zbe))) (Int.toNat (iand u32 (ishr u32 x 8) 255)) (0:UInt8))):Int))+(↑(UInt8.toNat (List.getD ((0:UInt8)::(Zio++Qpf++(Qpf++Zbe))) (Int.toNat (iand u32 x 255)) (0:UInt8))):Int))))))))
def Q78(x:Int):Int:=(Q1s x).m
abbrev Q38(x:Int):Prop:=(Q1s x).p
def Qln:Q0d:=mkP 234 [] true [.one (.int .u32)] [] (λargs rows=>Q38 (argI args 0)) (λargs rows=>Q78 (argI args 0)) (λX=> .int .i64 X) (λX=>[])
theorem Qkz:Q07 Tryz.prog Qln:=Q0p Q0j Q0k (.nil) Tryz.func234 Tryz.call234 (λargs rows=>Q1s (argI args 0)) [] [] 2 (λ_ _ _=>by kernel_rfl) (λ_ _=>rfl) (λ_ _ h=>h) (λ_ X=>by kernel_rfl)
def Q4q(b:Q06):Tree Int:=
.an (Q38 b.C3) (.lv (Q78 b.C3) λ(x0:Int)=> .lf x0)
def Qdm(b:Q06):Int:=(Q4q b).m
abbrev Q61(b:Q06):Prop:=(Q4q b).p
def Qz4:Q0d:=mkP 194 [] true [.agg Q06.sig] [] (λargs rows=>Q61 (Q06.of (args.getD 0 .dead).cells)) (λargs rows=>Qdm (Q06.of (args.getD 0 .dead).cells)) (λX=> .int .i64 X) (λX=>[])
theorem Qmb:Q07 Tryz.prog Qz4:=Q0p Q0j Q0k (.cons Qkz (.nil)) Tryz.func194 Tryz.call194 (λargs rows=>Q4q (Q06.of (args.getD 0 .dead).cells)) [] [] 2 (λ_ _ _=>by kernel_rfl) (λ_ _=>rfl) (λ_ _ h=>h) (λ_ X=>by kernel_rfl)
def Q2x(b:Q06):Tree Bool:=
.an (Q61 b) (.lv (Qdm b) λ(x0:Int)=> .lf (wrap u32 x0 !=b.C9))
def Q84(b:Q06):Bool:=(Q2x b).m
abbrev Q6d(b:Q06):Prop:=(Q2x b).p
def Qu2:Q0d:=mkP 179 [] true [.agg Q06.sig] [] (λargs rows=>Q6d (Q06.of (args.getD 0 .dead).cells)) (λargs rows=>Q84 (Q06.of (args.getD 0 .dead).cells)) (λX=> .bool X) (λX=>[])
theorem Qs6:Q07 Tryz.prog Qu2:=Q0p Q0j Q0k (.cons Qmb (.nil)) Tryz.func179 Tryz.call179 (λargs rows=>Q2x (Q06.of (args.getD 0 .dead).cells)) [] [] 2 (λ_ _ _=>by kernel_rfl) (λ_ _=>rfl) (λ_ _ h=>h) (λ_ X=>by kernel_rfl)
def Qir(m:Q00)(z:(Int)×(Int)):Nat:=(5-z.2).toNat
def Q3z(m:Q00):Tree Int:=
.lv (Qgq m.B0) λ(x0:Bool)=> .lv (Qa6 m.A6) λ(x1:Bool)=> .lv (Qaf m.B1) λ(x2:Bool)=> .lv (Ql7 m.C5) λ(x3:Bool)=> .an (Q6d m.A2) (.lv (Q84 m.A2) λ(x4:Bool)=> .lp inferInstance (Qir m (0,0)+1) ((rE (0:Int)∧(rE (x0:Bool)∧rE (x1:Bool)∧rE (x2:Bool)∧rE (x3:Bool)∧rE (x4:Bool)∧True)∧rE (0:Int)∧True)∧True) (0,0) λ(v0:Int×Int)=> .br (decide (v0.2<5)) (.cn (Nat.beq 1 1&&(Nat.beq 5 5&&decide (0≤v0.2∧v0.2<(↑5:Int)))) (.br (List.getD [x0,x1,x2,x3,x4] v0.2.toNat false) (.cn (decide (0≤v0.2)) (.nx ((rE ((ior u32 v0.1 (ishl u32 1 v0.2)):Int)∧(rE (x0:Bool)∧rE (x1:Bool)∧rE (x2:Bool)∧rE (x3:Bool)∧rE (x4:Bool)∧True)∧rE ((wrap i64 (v0.2+1)):Int)∧True)∧True) (Sum.inl (ior u32 v0.1 (ishl u32 1 v0.2),wrap i64 (v0.2+1))))) (.nx ((rE v0.1∧(rE (x0:Bool)∧rE (x1:Bool)∧rE (x2:Bool)∧rE (x3:Bool)∧rE (x4:Bool)∧True)∧rE ((wrap i64 (v0.2+1)):Int)∧True)∧True) (Sum.inl (v0.1,wrap i64 (v0.2+1)))))) (.lf (Sum.inr v0.1)))
def Qda(m:Q00):Int:=(Q3z m).m
abbrev Q85(m:Q00):Prop:=(Q3z m).p
def Qxc:LInv:={
 α:=(Int)×(Int)
 F:=λst a=>([(4, .int u32 a.1),(23,(lk st 23)),(24, .int i64 a.2)],[])
 a0:=λst=>((lk st 4).toInt,(lk st 24).toInt)
 ex0:=λst=>[]++[]
 next:=λst=>((lk st 4).toInt,(lk st 24).toInt)
 ex:=λst=>[]++[]}
def Qrh:List (Nat×LInv):=[(4,Qxc)]
def Z01:Q0d:=mkP 128 [] true [.agg Q00.sig] [] (λargs rows=>Q85 (Q00.of (args.getD 0 .dead).cells)) (λargs rows=>Qda (Q00.of (args.getD 0 .dead).cells)) (λX=> .int .u32 X) (λX=>[])
theorem Qx1:Q07 Tryz.prog Z01:=Q0p Q0j Q0k (.cons Qx3 (.cons Qsj (.cons Qnr (.cons Z1z (.cons Qs6 (.nil)))))) Tryz.func128 Tryz.call128 (λargs rows=>Q3z (Q00.of (args.getD 0 .dead).cells)) [] Qrh 3 (λ_ _ _=>by kernel_rfl) (λ_ _=>rfl) (λ_ _ h=>h) (λ_ X=>by kernel_rfl)
def Q23(m:Q00):Tree Int:=
.an (Q85 m) (.lv (Qda m) λ(x0:Int)=> .lf (iand u32 x0 m.B2.B6.a7))
def Q6c(m:Q00):Int:=(Q23 m).m
abbrev Q4a(m:Q00):Prop:=(Q23 m).p
def Qu1:Q0d:=mkP 95 [] true [.agg Q00.sig] [] (λargs rows=>Q4a (Q00.of (args.getD 0 .dead).cells)) (λargs rows=>Q6c (Q00.of (args.getD 0 .dead).cells)) (λX=> .int .u32 X) (λX=>[])
theorem Qjh:Q07 Tryz.prog Qu1:=Q0p Q0j Q0k (.cons Qx1 (.nil)) Tryz.func95 Tryz.call95 (λargs rows=>Q23 (Q00.of (args.getD 0 .dead).cells)) [] [] 2 (λ_ _ _=>by kernel_rfl) (λ_ _=>rfl) (λ_ _ h=>h) (λ_ X=>by kernel_rfl)
def Q37(m:Q00):Tree Bool:=
.br m.A7 (.an (Q4a m) (.lv (Q6c m) λ(x0:Int)=> .lf (x0==0))) (.lf false)
def Q35(m:Q00):Bool:=(Q37 m).m
abbrev Q2g(m:Q00):Prop:=(Q37 m).p
def Z2y:Q0d:=mkP 56 [] true [.agg Q00.sig] [] (λargs rows=>Q2g (Q00.of (args.getD 0 .dead).cells)) (λargs rows=>Q35 (Q00.of (args.getD 0 .dead).cells)) (λX=> .bool X) (λX=>[])
theorem Qic:Q07 Tryz.prog Z2y:=Q0p Q0j Q0k (.cons Qjh (.nil)) Tryz.func56 Tryz.call56 (λargs rows=>Q37 (Q00.of (args.getD 0 .dead).cells)) [] [] 2 (λ_ _ _=>by kernel_rfl) (λ_ _=>rfl) (λ_ _ h=>h) (λ_ X=>by kernel_rfl)
end
end Go.Proofs.YtpcbkbalabgnlaaGreat

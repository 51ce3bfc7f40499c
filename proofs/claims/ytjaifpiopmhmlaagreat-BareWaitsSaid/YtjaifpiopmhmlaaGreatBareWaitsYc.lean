/-
  Functions of the program: models, and that its calls come to them (by a program: gen3.py).
-/
import Derived.Test.YtjaifpiopmhmlaaGreatBareWaitsBase
import Derived.Test.YtjaifpiopmhmlaaGreatBareWaitsYa
set_option maxRecDepth 100000
set_option linter.unusedVariables false
set_option linter.unusedSimpArgs false
namespace Go.Proofs.YtjaifpiopmhmlaaGreat
open Go Go.GD Go.IntKind
noncomputable section
def tblYc0:List UInt8:=[(0:UInt8),1,2,2,3,3,3,3,4,4,4,4,4,4,4,4,5,5,5,5,5,5,5,5,5,5,5,5,5,5,5,5,6,6,6,6,6,6,6,6,6,6,6,6,6,6,6,6,6,6,6,6,6,6,6,6,6,6,6,6,6,6,6,6]
def Z3:List UInt8:=[(7:UInt8),7,7,7,7,7,7,7,7,7,7,7,7,7,7,7,7,7,7,7,7,7,7,7,7,7,7,7,7,7,7,7,7,7,7,7,7,7,7,7,7,7,7,7,7,7,7,7,7,7,7,7,7,7,7,7,7,7,7,7,7,7,7,7]
def Ql0:List UInt8:=[(8:UInt8),8,8,8,8,8,8,8,8,8,8,8,8,8,8,8,8,8,8,8,8,8,8,8,8,8,8,8,8,8,8,8,8,8,8,8,8,8,8,8,8,8,8,8,8,8,8,8,8,8,8,8,8,8,8,8,8,8,8,8,8,8,8,8]
def Z7s:List UInt8:=[(1:UInt8),2,2,3,3,3,3,4,4,4,4,4,4,4,4,5,5,5,5,5,5,5,5,5,5,5,5,5,5,5,5,6,6,6,6,6,6,6,6,6,6,6,6,6,6,6,6,6,6,6,6,6,6,6,6,6,6,6,6,6,6,6,6]
def tblYc4:List UInt8:=[(0:UInt8),1,1,2,1,2,2,3,1,2,2,3,2,3,3,4,1,2,2,3,2,3,3,4,2,3,3,4,3,4,4,5,1,2,2,3,2,3,3,4,2,3,3,4,3,4,4,5,2,3,3,4,3,4,4,5,3,4,4,5,4,5,5,6]
def Ql1:List UInt8:=[(1:UInt8),2,2,3,2,3,3,4,2,3,3,4,3,4,4,5,2,3,3,4,3,4,4,5,3,4,4,5,4,5,5,6,2,3,3,4,3,4,4,5,3,4,4,5,4,5,5,6,3,4,4,5,4,5,5,6,4,5,5,6,5,6,6,7]
def Z2i:List UInt8:=[(2:UInt8),3,3,4,3,4,4,5,3,4,4,5,4,5,5,6,3,4,4,5,4,5,5,6,4,5,5,6,5,6,6,7,3,4,4,5,4,5,5,6,4,5,5,6,5,6,6,7,4,5,5,6,5,6,6,7,5,6,6,7,6,7,7,8]
def Z8r:List UInt8:=[(1:UInt8),1,2,1,2,2,3,1,2,2,3,2,3,3,4,1,2,2,3,2,3,3,4,2,3,3,4,3,4,4,5,1,2,2,3,2,3,3,4,2,3,3,4,3,4,4,5,2,3,3,4,3,4,4,5,3,4,4,5,4,5,5,6]
def Qmr(c:Q0b):Tree Bool:=
.lf (decide ((c.C9.length:Int)≤(16:Int)))
def Q2t(c:Q0b):Bool:=(Qmr c).m
def Z0l:Q0e:=mkR 147 [] true [.agg Q0b.sig] [] (λargs rows=>Q2t (Q0b.of (args.getD 0 .dead).cells)) (λX=> .bool X) (λX=>[])
theorem Qw8:Q09 Tryz.prog Z0l:=Q2l Q0s Q0r (.nil) Tryz.func147 Tryz.call147 (λargs rows=>Qmr (Q0b.of (args.getD 0 .dead).cells)) [] [] 2 (λ_ _ _=>by kernel_rfl) (λ_ _=>rfl) (λ_ _=>Tree.free_ok (by kernel_rfl)) (λ_ X=>by kernel_rfl)
def Qi(t:Q0i):Tree Bool:=
.br t.D4 (.br (!t.D3) (.lf (t.C7 !=0)) (.lf false)) (.br t.D3 (.lf true) (.lf (t.C7==0)))
def Q4p(t:Q0i):Bool:=(Qi t).m
def Z5o:Q0e:=mkR 148 [] true [.agg Q0i.sig] [] (λargs rows=>Q4p (Q0i.of (args.getD 0 .dead).cells)) (λX=> .bool X) (λX=>[])
theorem Z1x:Q09 Tryz.prog Z5o:=Q2l Q0s Q0r (.nil) Tryz.func148 Tryz.call148 (λargs rows=>Qi (Q0i.of (args.getD 0 .dead).cells)) [] [] 2 (λ_ _ _=>by kernel_rfl) (λ_ _=>rfl) (λ_ _=>Tree.free_ok (by kernel_rfl)) (λ_ X=>by kernel_rfl)
def Q65(d0:Q0a):Tree Bool:=
.br (d0.D6==1) (.lf (decide (d0.C1=[]))) (.br (d0.D6==2) (.lf ((d0.C1.length:Int)==(128:Int))) (.lf false))
def Q7q(d0:Q0a):Bool:=(Q65 d0).m
def Qpa:Q0e:=mkR 206 [] true [.agg Q0a.sig] [] (λargs rows=>Q7q (Q0a.of (args.getD 0 .dead).cells)) (λX=> .bool X) (λX=>[])
theorem Qn4:Q09 Tryz.prog Qpa:=Q2l Q0s Q0r (.nil) Tryz.func206 Tryz.call206 (λargs rows=>Q65 (Q0a.of (args.getD 0 .dead).cells)) [] [] 2 (λ_ _ _=>by kernel_rfl) (λ_ _=>rfl) (λ_ _=>Tree.free_ok (by kernel_rfl)) (λ_ X=>by kernel_rfl)
def Q56(d0:Q0a)(pages:Int):Tree Bool:=
.br (decide (d0.Blocks>64)) (.lf false) (let T1:Tree (Bool):= .br (d0.D6==0) (.br (d0.B4==0) (.br (d0.A9==0) (.lf (decide (d0.C1=[]))) (.lf false)) (.lf false)) (.lf false); .br (d0.B8==0) T1 (.br (d0.B8==2) T1 (.br (d0.B8==3) T1 (.br (d0.B8==1) (.lv (Q7q d0) λ(x0:Bool)=> .br x0 (.br (decide (d0.B4<d0.Blocks)) (.lf (decide (wrap i64 d0.A9<pages))) (.lf false)) (.lf false)) (.lf false)))))
def Q19(d0:Q0a)(pages:Int):Bool:=(Q56 d0 pages).m
def Z8z:Q0e:=mkR 149 [] true [.agg Q0a.sig, .one (.int .i64)] [] (λargs rows=>Q19 (Q0a.of (args.getD 0 .dead).cells) (argI args 1)) (λX=> .bool X) (λX=>[])
theorem Z68:Q09 Tryz.prog Z8z:=Q2l Q0s Q0r (.cons Qn4 (.nil)) Tryz.func149 Tryz.call149 (λargs rows=>Q56 (Q0a.of (args.getD 0 .dead).cells) (argI args 1)) [] [] 2 (λ_ _ _=>by kernel_rfl) (λ_ _=>rfl) (λ_ _=>Tree.free_ok (by kernel_rfl)) (λ_ X=>by kernel_rfl)
def Qgr(n:Q0n)(pages:Int):Tree Bool:=
let T1:Tree (Bool):=let T2:Tree (Bool):= .br n.B7 (.br (decide (n.F0≥1)) (.lf (decide (n.F0≤128))) (.lf false)) (.lf (n.F0==0)); .br n.C2 (.br (decide (wrap i64 n.B9≥pages)) (.lf false) T2) (.br (n.B9 !=0) (.lf false) T2); .br n.C2 (.br n.B7 (.lf false) T1) T1
def Q6(n:Q0n)(pages:Int):Bool:=(Qgr n pages).m
def nic_May_m:Q0e:=mkR 150 [] true [.agg Q0n.sig, .one (.int .i64)] [] (λargs rows=>Q6 (Q0n.of (args.getD 0 .dead).cells) (argI args 1)) (λX=> .bool X) (λX=>[])
theorem Zau:Q09 Tryz.prog nic_May_m:=Q2l Q0s Q0r (.nil) Tryz.func150 Tryz.call150 (λargs rows=>Qgr (Q0n.of (args.getD 0 .dead).cells) (argI args 1)) [] [] 2 (λ_ _ _=>by kernel_rfl) (λ_ _=>rfl) (λ_ _=>Tree.free_ok (by kernel_rfl)) (λ_ X=>by kernel_rfl)
def Q1k(x:Int):Tree Int:=
let E1:=(↑(List.length (List.append (List.append tblYc0 Z3) (List.append Ql0 Ql0))):Int); .br (decide (x≥65536)) (.br (decide (ishr u32 x (16:Int)≥(256:Int))) (.cn (decide (0≤wrap u8 (ishr u32 (ishr u32 x 16) 8)∧wrap u8 (ishr u32 (ishr u32 x 16) 8)<E1)) (.lf (wrap i64 (wrap i64 ((16:Int)+(8:Int))+wrap i64 (↑(UInt8.toNat (List.getD ((0:UInt8)::(Z7s++Z3++(Ql0++Ql0))) (Int.toNat (wrap u8 (ishr u32 (ishr u32 x 16) 8))) (0:UInt8))):Int))))) (.cn (decide (0≤wrap u8 (ishr u32 x 16)∧wrap u8 (ishr u32 x 16)<E1)) (.lf (wrap i64 (16+wrap i64 (↑(UInt8.toNat (List.getD ((0:UInt8)::(Z7s++Z3++(Ql0++Ql0))) (Int.toNat (wrap u8 (ishr u32 x 16))) (0:UInt8))):Int)))))) (.br (decide (x≥256)) (.cn (decide (0≤wrap u8 (ishr u32 x 8)∧wrap u8 (ishr u32 x 8)<E1)) (.lf (wrap i64 (wrap i64 ((0:Int)+(8:Int))+wrap i64 (↑(UInt8.toNat (List.getD ((0:UInt8)::(Z7s++Z3++(Ql0++Ql0))) (Int.toNat (wrap u8 (ishr u32 x 8))) (0:UInt8))):Int))))) (.cn (decide (0≤wrap u8 x∧wrap u8 x<E1)) (.lf (wrap i64 (0+wrap i64 (↑(UInt8.toNat (List.getD ((0:UInt8)::(Z7s++Z3++(Ql0++Ql0))) (Int.toNat (wrap u8 x)) (0:UInt8))):Int))))))
def Q1m(x:Int):Int:=(Q1k x).m
abbrev Q7(x:Int):Prop:=(Q1k x).p
def Qor:Q0e:=mkP 207 [] true [.one (.int .u32)] [] (λargs rows=>Q7 (argI args 0)) (λargs rows=>Q1m (argI args 0)) (λX=> .int .i64 X) (λX=>[])
theorem Qm4:Q09 Tryz.prog Qor:=Q0z Q0s Q0r (.nil) Tryz.func207 Tryz.call207 (λargs rows=>Q1k (argI args 0)) [] [] 2 (λ_ _ _=>by kernel_rfl) (λ_ _=>rfl) (λ_ _ h=>h) (λ_ X=>by kernel_rfl)
def Q31(b:Q07)(pages:Int):Tree Bool:=
.an (Q7 b.C0) (.lv (Q1m b.C0) λ(x0:Int)=> .lf (decide (x0≤if 0>pages then 0 else pages)))
def Q2z(b:Q07)(pages:Int):Bool:=(Q31 b pages).m
abbrev Qa4(b:Q07)(pages:Int):Prop:=(Q31 b pages).p
def Qz3:Q0e:=mkP 151 [] true [.agg Q07.sig, .one (.int .i64)] [] (λargs rows=>Qa4 (Q07.of (args.getD 0 .dead).cells) (argI args 1)) (λargs rows=>Q2z (Q07.of (args.getD 0 .dead).cells) (argI args 1)) (λX=> .bool X) (λX=>[])
theorem Qvi:Q09 Tryz.prog Qz3:=Q0z Q0s Q0r (.cons Qm4 (.nil)) Tryz.func151 Tryz.call151 (λargs rows=>Q31 (Q07.of (args.getD 0 .dead).cells) (argI args 1)) [] [] 2 (λ_ _ _=>by kernel_rfl) (λ_ _=>rfl) (λ_ _ h=>h) (λ_ X=>by kernel_rfl)
def Q1f(m:Q00):Tree Bool:=
.lv (Q0q m.Mem) λ(x0:Int)=> .lv (Q2t m.A2) λ(x1:Bool)=> .br x1 (.lv (Q4p m.A6) λ(x2:Bool)=> .br x2 (.lv (Q19 m.A7 x0) λ(x3:Bool)=> .br x3 (.lv (Q6 m.C4 x0) λ(x4:Bool)=> .br x4 (.an (Qa4 m.A1 x0) (.lv (Q2z m.A1 x0) λ(x5:Bool)=> .lf x5)) (.lf false)) (.lf false)) (.lf false)) (.lf false)
def Q0v(m:Q00):Bool:=(Q1f m).m
abbrev Q37(m:Q00):Prop:=(Q1f m).p
def Qks:Q0e:=mkP 85 [] true [.agg Q00.sig] [] (λargs rows=>Q37 (Q00.of (args.getD 0 .dead).cells)) (λargs rows=>Q0v (Q00.of (args.getD 0 .dead).cells)) (λX=> .bool X) (λX=>[])
theorem Qiy:Q09 Tryz.prog Qks:=Q0z Q0s Q0r (.cons Q3l (.cons Qw8 (.cons Z1x (.cons Z68 (.cons Zau (.cons Qvi (.nil))))))) Tryz.func85 Tryz.call85 (λargs rows=>Q1f (Q00.of (args.getD 0 .dead).cells)) [] [] 2 (λ_ _ _=>by kernel_rfl) (λ_ _=>rfl) (λ_ _ h=>h) (λ_ X=>by kernel_rfl)
def Q4e(m:Q00):Tree Bool:=
.lv (Q0q m.Mem) λ(x0:Int)=> .br (x0==0) (.lf false) (.br (m.B1.X.a0 !=0) (.lf false) (.br (decide (m.B1.B3.a0>31)) (.lf false) (.br (decide (m.B1.B3.a7>31)) (.lf false) (.br (decide (m.B1.B3.a6>255)) (.lf false) (.br (Int.tmod m.B1.B3.a1 (4:Int) !=(0:Int)) (.lf false) (.br (decide (m.A0>1152921504606846976)) (.lf false) (.br m.A3 (.br m.A4 (.lf false) (.an (Q37 m) (.lv (Q0v m) λ(x1:Bool)=> .lf x1))) (.an (Q37 m) (.lv (Q0v m) λ(x2:Bool)=> .lf x2)))))))))
def Q16(m:Q00):Bool:=(Q4e m).m
abbrev Q64(m:Q00):Prop:=(Q4e m).p
def Qyz:Q0e:=mkP 43 [] true [.agg Q00.sig] [] (λargs rows=>Q64 (Q00.of (args.getD 0 .dead).cells)) (λargs rows=>Q16 (Q00.of (args.getD 0 .dead).cells)) (λX=> .bool X) (λX=>[])
theorem Qfz:Q09 Tryz.prog Qyz:=Q0z Q0s Q0r (.cons Q3l (.cons Qiy (.nil))) Tryz.func43 Tryz.call43 (λargs rows=>Q4e (Q00.of (args.getD 0 .dead).cells)) [] [] 2 (λ_ _ _=>by kernel_rfl) (λ_ _=>rfl) (λ_ _ h=>h) (λ_ X=>by kernel_rfl)
def Qja(t:Q0i):Tree Bool:=
.lf t.D3
def Qde(t:Q0i):Bool:=(Qja t).m
def Quk:Q0e:=mkR 92 [] true [.agg Q0i.sig] [] (λargs rows=>Qde (Q0i.of (args.getD 0 .dead).cells)) (λX=> .bool X) (λX=>[])
theorem Qqn:Q09 Tryz.prog Quk:=Q2l Q0s Q0r (.nil) Tryz.func92 Tryz.call92 (λargs rows=>Qja (Q0i.of (args.getD 0 .dead).cells)) [] [] 2 (λ_ _ _=>by kernel_rfl) (λ_ _=>rfl) (λ_ _=>Tree.free_ok (by kernel_rfl)) (λ_ X=>by kernel_rfl)
def Qh(c:Q0b):Tree Bool:=
.lf (!decide (c.C9=[]))
def Q83(c:Q0b):Bool:=(Qh c).m
def Qnr:Q0e:=mkR 93 [] true [.agg Q0b.sig] [] (λargs rows=>Q83 (Q0b.of (args.getD 0 .dead).cells)) (λX=> .bool X) (λX=>[])
theorem Qn0:Q09 Tryz.prog Qnr:=Q2l Q0s Q0r (.nil) Tryz.func93 Tryz.call93 (λargs rows=>Qh (Q0b.of (args.getD 0 .dead).cells)) [] [] 2 (λ_ _ _=>by kernel_rfl) (λ_ _=>rfl) (λ_ _=>Tree.free_ok (by kernel_rfl)) (λ_ X=>by kernel_rfl)
def Qg9(d0:Q0a):Tree Bool:=
.br (d0.B8==2) (.lf true) (.lf (d0.B8==3))
def Q7o(d0:Q0a):Bool:=(Qg9 d0).m
def Qv3:Q0e:=mkR 94 [] true [.agg Q0a.sig] [] (λargs rows=>Q7o (Q0a.of (args.getD 0 .dead).cells)) (λX=> .bool X) (λX=>[])
theorem Qj1:Q09 Tryz.prog Qv3:=Q2l Q0s Q0r (.nil) Tryz.func94 Tryz.call94 (λargs rows=>Qg9 (Q0a.of (args.getD 0 .dead).cells)) [] [] 2 (λ_ _ _=>by kernel_rfl) (λ_ _=>rfl) (λ_ _=>Tree.free_ok (by kernel_rfl)) (λ_ X=>by kernel_rfl)
def Qn1(n:Q0n):Tree Bool:=
.lf n.B7
def Qha(n:Q0n):Bool:=(Qn1 n).m
def Z11:Q0e:=mkR 95 [] true [.agg Q0n.sig] [] (λargs rows=>Qha (Q0n.of (args.getD 0 .dead).cells)) (λX=> .bool X) (λX=>[])
theorem Qv7:Q09 Tryz.prog Z11:=Q2l Q0s Q0r (.nil) Tryz.func95 Tryz.call95 (λargs rows=>Qn1 (Q0n.of (args.getD 0 .dead).cells)) [] [] 2 (λ_ _ _=>by kernel_rfl) (λ_ _=>rfl) (λ_ _=>Tree.free_ok (by kernel_rfl)) (λ_ X=>by kernel_rfl)
def Q1w(x:Int):Tree Int:=
let E1:=(↑(List.length (List.append (List.append tblYc4 Ql1) (List.append Ql1 Z2i))):Int); .cn (decide (0≤ishr u32 x 24∧ishr u32 x 24<E1)) (.cn (decide (0≤iand u32 (ishr u32 x 16) 255∧iand u32 (ishr u32 x 16) 255<E1)) (.cn (decide (0≤iand u32 (ishr u32 x 8) 255∧iand u32 (ishr u32 x 8) 255<E1)) (.cn (decide (0≤iand u32 x 255∧iand u32 x 255<E1)) (.lf (wrap i64 (wrap u8 (wrap u8 (wrap u8 ((↑(UInt8.toNat (List.getD ((0:UInt8)::(Z8r++Ql1++(Ql1++Z2i))) (Int.toNat (ishr u32 x 24)) (0:UInt8))):Int)+(↑(UInt8.toNat (List.getD ((0:UInt8)::(Z8r++Ql1++(Ql1++Z2i))) (Int.toNat (iand u32 (ishr u32 x 16) 255)) (0:UInt8))):Int))+(↑(UInt8.toNat (List.getD ((0:UInt8)::(Z8r++Ql1++(Ql1++Z2i))) (Int.toNat (iand u32 (ishr u32 x 8) 255)) (0:UInt8))):Int))+(↑(UInt8.toNat (List.getD ((0:UInt8)::(Z8r++Ql1++(Ql1++Z2i))) (Int.toNat (iand u32 x 255)) (0:UInt8))):Int))))))))
def Q5h(x:Int):Int:=(Q1w x).m
abbrev Q5p(x:Int):Prop:=(Q1w x).p
def Qhx:Q0e:=mkP 208 [] true [.one (.int .u32)] [] (λargs rows=>Q5p (argI args 0)) (λargs rows=>Q5h (argI args 0)) (λX=> .int .i64 X) (λX=>[])
theorem Qgy:Q09 Tryz.prog Qhx:=Q0z Q0s Q0r (.nil) Tryz.func208 Tryz.call208 (λargs rows=>Q1w (argI args 0)) [] [] 2 (λ_ _ _=>by kernel_rfl) (λ_ _=>rfl) (λ_ _ h=>h) (λ_ X=>by kernel_rfl)
def Q50(b:Q07):Tree Int:=
.an (Q5p b.C0) (.lv (Q5h b.C0) λ(x0:Int)=> .lf x0)
def Qag(b:Q07):Int:=(Q50 b).m
abbrev Q8k(b:Q07):Prop:=(Q50 b).p
def Qs8:Q0e:=mkP 152 [] true [.agg Q07.sig] [] (λargs rows=>Q8k (Q07.of (args.getD 0 .dead).cells)) (λargs rows=>Qag (Q07.of (args.getD 0 .dead).cells)) (λX=> .int .i64 X) (λX=>[])
theorem Qi5:Q09 Tryz.prog Qs8:=Q0z Q0s Q0r (.cons Qgy (.nil)) Tryz.func152 Tryz.call152 (λargs rows=>Q50 (Q07.of (args.getD 0 .dead).cells)) [] [] 2 (λ_ _ _=>by kernel_rfl) (λ_ _=>rfl) (λ_ _ h=>h) (λ_ X=>by kernel_rfl)
def Q2u(b:Q07):Tree Bool:=
.an (Q8k b) (.lv (Qag b) λ(x0:Int)=> .lf (wrap u32 x0 !=b.C6))
def Q60(b:Q07):Bool:=(Q2u b).m
abbrev Q9i(b:Q07):Prop:=(Q2u b).p
def Qoy:Q0e:=mkP 96 [] true [.agg Q07.sig] [] (λargs rows=>Q9i (Q07.of (args.getD 0 .dead).cells)) (λargs rows=>Q60 (Q07.of (args.getD 0 .dead).cells)) (λX=> .bool X) (λX=>[])
theorem Qm7:Q09 Tryz.prog Qoy:=Q0z Q0s Q0r (.cons Qi5 (.nil)) Tryz.func96 Tryz.call96 (λargs rows=>Q2u (Q07.of (args.getD 0 .dead).cells)) [] [] 2 (λ_ _ _=>by kernel_rfl) (λ_ _=>rfl) (λ_ _ h=>h) (λ_ X=>by kernel_rfl)
def Qeo(m:Q00)(z:(Int)×(Int)):Nat:=(5-z.2).toNat
def Q3v(m:Q00):Tree Int:=
.lv (Qde m.A6) λ(x0:Bool)=> .lv (Q83 m.A2) λ(x1:Bool)=> .lv (Q7o m.A7) λ(x2:Bool)=> .lv (Qha m.C4) λ(x3:Bool)=> .an (Q9i m.A1) (.lv (Q60 m.A1) λ(x4:Bool)=> .lp inferInstance (Qeo m (0,0)+1) ((rE (0:Int)∧(rE (x0:Bool)∧rE (x1:Bool)∧rE (x2:Bool)∧rE (x3:Bool)∧rE (x4:Bool)∧True)∧rE (0:Int)∧True)∧True) (0,0) λ(v0:Int×Int)=> .br (decide (v0.2<5)) (.cn (Nat.beq 1 1&&(Nat.beq 5 5&&decide (0≤v0.2∧v0.2<(↑5:Int)))) (.br (List.getD [x0,x1,x2,x3,x4] v0.2.toNat false) (.cn (decide (0≤v0.2)) (.nx ((rE ((ior u32 v0.1 (ishl u32 1 v0.2)):Int)∧(rE (x0:Bool)∧rE (x1:Bool)∧rE (x2:Bool)∧rE (x3:Bool)∧rE (x4:Bool)∧True)∧rE ((wrap i64 (v0.2+1)):Int)∧True)∧True) (Sum.inl (ior u32 v0.1 (ishl u32 1 v0.2),wrap i64 (v0.2+1))))) (.nx ((rE v0.1∧(rE (x0:Bool)∧rE (x1:Bool)∧rE (x2:Bool)∧rE (x3:Bool)∧rE (x4:Bool)∧True)∧rE ((wrap i64 (v0.2+1)):Int)∧True)∧True) (Sum.inl (v0.1,wrap i64 (v0.2+1)))))) (.lf (Sum.inr v0.1)))
def Qae(m:Q00):Int:=(Q3v m).m
abbrev Qbb(m:Q00):Prop:=(Q3v m).p
def Qqq:LInv:={
 α:=(Int)×(Int)
 F:=λst a=>([(4, .int u32 a.1),(23,(lk st 23)),(24, .int i64 a.2)],[])
 a0:=λst=>((lk st 4).toInt,(lk st 24).toInt)
 ex0:=λst=>[]++[]
 next:=λst=>((lk st 4).toInt,(lk st 24).toInt)
 ex:=λst=>[]++[]}
def Qmm:List (Nat×LInv):=[(4,Qqq)]
def Qu0:Q0e:=mkP 45 [] true [.agg Q00.sig] [] (λargs rows=>Qbb (Q00.of (args.getD 0 .dead).cells)) (λargs rows=>Qae (Q00.of (args.getD 0 .dead).cells)) (λX=> .int .u32 X) (λX=>[])
theorem Qqf:Q09 Tryz.prog Qu0:=Q0z Q0s Q0r (.cons Qqn (.cons Qn0 (.cons Qj1 (.cons Qv7 (.cons Qm7 (.nil)))))) Tryz.func45 Tryz.call45 (λargs rows=>Q3v (Q00.of (args.getD 0 .dead).cells)) [] Qmm 3 (λ_ _ _=>by kernel_rfl) (λ_ _=>rfl) (λ_ _ h=>h) (λ_ X=>by kernel_rfl)
def Q2(m:Q00):Tree Int:=
.an (Qbb m) (.lv (Qae m) λ(x0:Int)=> .lf (iand u32 x0 m.B1.B3.a7))
def Q5(m:Q00):Int:=(Q2 m).m
abbrev Q6w(m:Q00):Prop:=(Q2 m).p
def Qpd:Q0e:=mkP 103 [] true [.agg Q00.sig] [] (λargs rows=>Q6w (Q00.of (args.getD 0 .dead).cells)) (λargs rows=>Q5 (Q00.of (args.getD 0 .dead).cells)) (λX=> .int .u32 X) (λX=>[])
theorem Qfr:Q09 Tryz.prog Qpd:=Q0z Q0s Q0r (.cons Qqf (.nil)) Tryz.func103 Tryz.call103 (λargs rows=>Q2 (Q00.of (args.getD 0 .dead).cells)) [] [] 2 (λ_ _ _=>by kernel_rfl) (λ_ _=>rfl) (λ_ _ h=>h) (λ_ X=>by kernel_rfl)
def Q2c(m:Q00):Tree Bool:=
.br m.A3 (.an (Q6w m) (.lv (Q5 m) λ(x0:Int)=> .lf (x0==0))) (.lf false)
def Q1o(m:Q00):Bool:=(Q2c m).m
abbrev Q34(m:Q00):Prop:=(Q2c m).p
def Qwf:Q0e:=mkP 47 [] true [.agg Q00.sig] [] (λargs rows=>Q34 (Q00.of (args.getD 0 .dead).cells)) (λargs rows=>Q1o (Q00.of (args.getD 0 .dead).cells)) (λX=> .bool X) (λX=>[])
theorem Qiu:Q09 Tryz.prog Qwf:=Q0z Q0s Q0r (.cons Qfr (.nil)) Tryz.func47 Tryz.call47 (λargs rows=>Q2c (Q00.of (args.getD 0 .dead).cells)) [] [] 2 (λ_ _ _=>by kernel_rfl) (λ_ _=>rfl) (λ_ _ h=>h) (λ_ X=>by kernel_rfl)
end
end Go.Proofs.YtjaifpiopmhmlaaGreat

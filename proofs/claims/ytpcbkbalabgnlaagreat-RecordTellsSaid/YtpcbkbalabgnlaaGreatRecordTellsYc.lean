/-
  Functions of the program: models, and that its calls come to them (by a program: gen3.py).
-/
import Derived.Test.YtpcbkbalabgnlaaGreatRecordTellsBase
import Derived.Test.YtpcbkbalabgnlaaGreatRecordTellsYa
set_option maxRecDepth 100000
set_option linter.unusedVariables false
set_option linter.unusedSimpArgs false
namespace Go.Proofs.YtpcbkbalabgnlaaGreat
open Go Go.GD Go.IntKind
noncomputable section
def tblYc0:List UInt8:=[(0:UInt8),1,2,2,3,3,3,3,4,4,4,4,4,4,4,4,5,5,5,5,5,5,5,5,5,5,5,5,5,5,5,5,6,6,6,6,6,6,6,6,6,6,6,6,6,6,6,6,6,6,6,6,6,6,6,6,6,6,6,6,6,6,6,6]
def Zax:List UInt8:=[(7:UInt8),7,7,7,7,7,7,7,7,7,7,7,7,7,7,7,7,7,7,7,7,7,7,7,7,7,7,7,7,7,7,7,7,7,7,7,7,7,7,7,7,7,7,7,7,7,7,7,7,7,7,7,7,7,7,7,7,7,7,7,7,7,7,7]
def Qq2:List UInt8:=[(8:UInt8),8,8,8,8,8,8,8,8,8,8,8,8,8,8,8,8,8,8,8,8,8,8,8,8,8,8,8,8,8,8,8,8,8,8,8,8,8,8,8,8,8,8,8,8,8,8,8,8,8,8,8,8,8,8,8,8,8,8,8,8,8,8,8]
def Zit:List UInt8:=[(1:UInt8),2,2,3,3,3,3,4,4,4,4,4,4,4,4,5,5,5,5,5,5,5,5,5,5,5,5,5,5,5,5,6,6,6,6,6,6,6,6,6,6,6,6,6,6,6,6,6,6,6,6,6,6,6,6,6,6,6,6,6,6,6,6]
def tblYc4:List UInt8:=[(0:UInt8),1,1,2,1,2,2,3,1,2,2,3,2,3,3,4,1,2,2,3,2,3,3,4,2,3,3,4,3,4,4,5,1,2,2,3,2,3,3,4,2,3,3,4,3,4,4,5,2,3,3,4,3,4,4,5,3,4,4,5,4,5,5,6]
def Qqf:List UInt8:=[(1:UInt8),2,2,3,2,3,3,4,2,3,3,4,3,4,4,5,2,3,3,4,3,4,4,5,3,4,4,5,4,5,5,6,2,3,3,4,3,4,4,5,3,4,4,5,4,5,5,6,3,4,4,5,4,5,5,6,4,5,5,6,5,6,6,7]
def Zbd:List UInt8:=[(2:UInt8),3,3,4,3,4,4,5,3,4,4,5,4,5,5,6,3,4,4,5,4,5,5,6,4,5,5,6,5,6,6,7,3,4,4,5,4,5,5,6,4,5,5,6,5,6,6,7,4,5,5,6,5,6,6,7,5,6,6,7,6,7,7,8]
def Zjo:List UInt8:=[(1:UInt8),1,2,1,2,2,3,1,2,2,3,2,3,3,4,1,2,2,3,2,3,3,4,2,3,3,4,3,4,4,5,1,2,2,3,2,3,3,4,2,3,3,4,3,4,4,5,2,3,3,4,3,4,4,5,3,4,4,5,4,5,5,6]
def Qt8(c:Q0c):Tree Bool:=
.lf (decide ((c.D1.length:Int)≤(16:Int)))
def Q2s(c:Q0c):Bool:=(Qt8 c).m
def Z9e:Q0d:=mkR 119 [] true [.agg Q0c.sig] [] (λargs rows=>Q2s (Q0c.of (args.getD 0 .dead).cells)) (λX=> .bool X) (λX=>[])
theorem Z4j:Q05 Tryz.prog Z9e:=Q11 Q0j Q0i (.nil) Tryz.func119 Tryz.call119 (λargs rows=>Qt8 (Q0c.of (args.getD 0 .dead).cells)) [] [] 2 (λ_ _ _=>by kernel_rfl) (λ_ _=>rfl) (λ_ _=>Tree.free_ok (by kernel_rfl)) (λ_ X=>by kernel_rfl)
def Qma(t:Q0f):Tree Bool:=
.br t.D4 (.br (!t.D3) (.lf (t.C8 !=0)) (.lf false)) (.br t.D3 (.lf true) (.lf (t.C8==0)))
def Q55(t:Q0f):Bool:=(Qma t).m
def Zge:Q0d:=mkR 120 [] true [.agg Q0f.sig] [] (λargs rows=>Q55 (Q0f.of (args.getD 0 .dead).cells)) (λX=> .bool X) (λX=>[])
theorem Zbc:Q05 Tryz.prog Zge:=Q11 Q0j Q0i (.nil) Tryz.func120 Tryz.call120 (λargs rows=>Qma (Q0f.of (args.getD 0 .dead).cells)) [] [] 2 (λ_ _ _=>by kernel_rfl) (λ_ _=>rfl) (λ_ _=>Tree.free_ok (by kernel_rfl)) (λ_ X=>by kernel_rfl)
def Q8l(d0:Q0e):Tree Bool:=
.br (d0.D7==1) (.lf (decide (d0.C4=[]))) (.br (d0.D7==2) (.lf ((d0.C4.length:Int)==(128:Int))) (.lf false))
def Qas(d0:Q0e):Bool:=(Q8l d0).m
def Qvt:Q0d:=mkR 171 [] true [.agg Q0e.sig] [] (λargs rows=>Qas (Q0e.of (args.getD 0 .dead).cells)) (λX=> .bool X) (λX=>[])
theorem Qsh:Q05 Tryz.prog Qvt:=Q11 Q0j Q0i (.nil) Tryz.func171 Tryz.call171 (λargs rows=>Q8l (Q0e.of (args.getD 0 .dead).cells)) [] [] 2 (λ_ _ _=>by kernel_rfl) (λ_ _=>rfl) (λ_ _=>Tree.free_ok (by kernel_rfl)) (λ_ X=>by kernel_rfl)
def Q72(d0:Q0e)(pages:Int):Tree Bool:=
.br (decide (d0.Blocks>64)) (.lf false) (let T1:Tree (Bool):= .br (d0.D7==0) (.br (d0.B6==0) (.br (d0.B3==0) (.lf (decide (d0.C4=[]))) (.lf false)) (.lf false)) (.lf false); .br (d0.C0==0) T1 (.br (d0.C0==2) T1 (.br (d0.C0==3) T1 (.br (d0.C0==1) (.lv (Qas d0) λ(x0:Bool)=> .br x0 (.br (decide (d0.B6<d0.Blocks)) (.lf (decide (wrap i64 d0.B3<pages))) (.lf false)) (.lf false)) (.lf false)))))
def Q1n(d0:Q0e)(pages:Int):Bool:=(Q72 d0 pages).m
def Zko:Q0d:=mkR 121 [] true [.agg Q0e.sig, .one (.int .i64)] [] (λargs rows=>Q1n (Q0e.of (args.getD 0 .dead).cells) (argI args 1)) (λX=> .bool X) (λX=>[])
theorem Zfk:Q05 Tryz.prog Zko:=Q11 Q0j Q0i (.cons Qsh (.nil)) Tryz.func121 Tryz.call121 (λargs rows=>Q72 (Q0e.of (args.getD 0 .dead).cells) (argI args 1)) [] [] 2 (λ_ _ _=>by kernel_rfl) (λ_ _=>rfl) (λ_ _=>Tree.free_ok (by kernel_rfl)) (λ_ X=>by kernel_rfl)
def Qlb(n:Q0n)(pages:Int):Tree Bool:=
let T1:Tree (Bool):=let T2:Tree (Bool):= .br n.B7 (.br (decide (n.F1≥1)) (.lf (decide (n.F1≤128))) (.lf false)) (.lf (n.F1==0)); .br n.C7 (.br (decide (wrap i64 n.C3≥pages)) (.lf false) T2) (.br (n.C3 !=0) (.lf false) T2); .br n.C7 (.br n.B7 (.lf false) T1) T1
def Q70(n:Q0n)(pages:Int):Bool:=(Qlb n pages).m
def nic_May_m:Q0d:=mkR 122 [] true [.agg Q0n.sig, .one (.int .i64)] [] (λargs rows=>Q70 (Q0n.of (args.getD 0 .dead).cells) (argI args 1)) (λX=> .bool X) (λX=>[])
theorem Zkk:Q05 Tryz.prog nic_May_m:=Q11 Q0j Q0i (.nil) Tryz.func122 Tryz.call122 (λargs rows=>Qlb (Q0n.of (args.getD 0 .dead).cells) (argI args 1)) [] [] 2 (λ_ _ _=>by kernel_rfl) (λ_ _=>rfl) (λ_ _=>Tree.free_ok (by kernel_rfl)) (λ_ X=>by kernel_rfl)
def Q20(x:Int):Tree Int:=
let E1:=(↑(List.length (List.append (List.append tblYc0 Zax) (List.append Qq2 Qq2))):Int); .br (decide (x≥65536)) (.br (decide (ishr u32 x (16:Int)≥(256:Int))) (.cn (decide (0≤wrap u8 (ishr u32 (ishr u32 x 16) 8)∧wrap u8 (ishr u32 (ishr u32 x 16) 8)<E1)) (.lf (wrap i64 (wrap i64 ((16:Int)+(8:Int))+wrap i64 (↑(UInt8.toNat (List.getD ((0:UInt8)::(Zit++Zax++(Qq2++Qq2))) (Int.toNat (wrap u8 (ishr u32 (ishr u32 x 16) 8))) (0:UInt8))):Int))))) (.cn (decide (0≤wrap u8 (ishr u32 x 16)∧wrap u8 (ishr u32 x 16)<E1)) (.lf (wrap i64 (16+wrap i64 (↑(UInt8.toNat (List.getD ((0:UInt8)::(Zit++Zax++(Qq2++Qq2))) (Int.toNat (wrap u8 (ishr u32 x 16))) (0:UInt8))):Int)))))) (.br (decide (x≥256)) (.cn (decide (0≤wrap u8 (ishr u32 x 8)∧wrap u8 (ishr u32 x 8)<E1)) (.lf (wrap i64 (wrap i64 ((0:Int)+(8:Int))+wrap i64 (↑(UInt8.toNat (List.getD ((0:UInt8)::(Zit++Zax++(Qq2++Qq2))) (Int.toNat (wrap u8 (ishr u32 x 8))) (0:UInt8))):Int))))) (.cn (decide (0≤wrap u8 x∧wrap u8 x<E1)) (.lf (wrap i64 (0+wrap i64 (↑(UInt8.toNat (List.getD ((0:UInt8)::(Zit++Zax++(Qq2++Qq2))) (Int.toNat (wrap u8 x)) (0:UInt8))):Int))))))
def Q1q(x:Int):Int:=(Q20 x).m
abbrev Q6l(x:Int):Prop:=(Q20 x).p
def Qv:Q0d:=mkP 172 [] true [.one (.int .u32)] [] (λargs rows=>Q6l (argI args 0)) (λargs rows=>Q1q (argI args 0)) (λX=> .int .i64 X) (λX=>[])
theorem Qs2:Q05 Tryz.prog Qv:=Q0k Q0j Q0i (.nil) Tryz.func172 Tryz.call172 (λargs rows=>Q20 (argI args 0)) [] [] 2 (λ_ _ _=>by kernel_rfl) (λ_ _=>rfl) (λ_ _ h=>h) (λ_ X=>by kernel_rfl)
def Q40(b:Q07)(pages:Int):Tree Bool:=
.an (Q6l b.C5) (.lv (Q1q b.C5) λ(x0:Int)=> .lf (decide (x0≤if 0>pages then 0 else pages)))
def Q33(b:Q07)(pages:Int):Bool:=(Q40 b pages).m
abbrev Q8h(b:Q07)(pages:Int):Prop:=(Q40 b pages).p
def Z9r:Q0d:=mkP 123 [] true [.agg Q07.sig, .one (.int .i64)] [] (λargs rows=>Q8h (Q07.of (args.getD 0 .dead).cells) (argI args 1)) (λargs rows=>Q33 (Q07.of (args.getD 0 .dead).cells) (argI args 1)) (λX=> .bool X) (λX=>[])
theorem Z46:Q05 Tryz.prog Z9r:=Q0k Q0j Q0i (.cons Qs2 (.nil)) Tryz.func123 Tryz.call123 (λargs rows=>Q40 (Q07.of (args.getD 0 .dead).cells) (argI args 1)) [] [] 2 (λ_ _ _=>by kernel_rfl) (λ_ _=>rfl) (λ_ _ h=>h) (λ_ X=>by kernel_rfl)
def Q1l(m:Q01):Tree Bool:=
.lv (Q0v m.Mem) λ(x0:Int)=> .lv (Q2s m.A3) λ(x1:Bool)=> .br x1 (.lv (Q55 m.A9) λ(x2:Bool)=> .br x2 (.lv (Q1n m.B1 x0) λ(x3:Bool)=> .br x3 (.lv (Q70 m.C2 x0) λ(x4:Bool)=> .br x4 (.an (Q8h m.A1 x0) (.lv (Q33 m.A1 x0) λ(x5:Bool)=> .lf x5)) (.lf false)) (.lf false)) (.lf false)) (.lf false)
def Q0z(m:Q01):Bool:=(Q1l m).m
abbrev Q1x(m:Q01):Prop:=(Q1l m).p
def Qpw:Q0d:=mkP 90 [] true [.agg Q01.sig] [] (λargs rows=>Q1x (Q01.of (args.getD 0 .dead).cells)) (λargs rows=>Q0z (Q01.of (args.getD 0 .dead).cells)) (λX=> .bool X) (λX=>[])
theorem Qny:Q05 Tryz.prog Qpw:=Q0k Q0j Q0i (.cons Q54 (.cons Z4j (.cons Zbc (.cons Zfk (.cons Zkk (.cons Z46 (.nil))))))) Tryz.func90 Tryz.call90 (λargs rows=>Q1l (Q01.of (args.getD 0 .dead).cells)) [] [] 2 (λ_ _ _=>by kernel_rfl) (λ_ _=>rfl) (λ_ _ h=>h) (λ_ X=>by kernel_rfl)
def Q4r(m:Q01):Tree Bool:=
.lv (Q0v m.Mem) λ(x0:Int)=> .br (x0==0) (.lf false) (.br (m.B2.X.a0 !=0) (.lf false) (.br (decide (m.B2.B5.a0>31)) (.lf false) (.br (decide (m.B2.B5.a7>31)) (.lf false) (.br (decide (m.B2.B5.a6>255)) (.lf false) (.br (Int.tmod m.B2.B5.a1 (4:Int) !=(0:Int)) (.lf false) (.br (decide (m.A6>1152921504606846976)) (.lf false) (.br m.A4 (.br m.A7 (.lf false) (.an (Q1x m) (.lv (Q0z m) λ(x1:Bool)=> .lf x1))) (.an (Q1x m) (.lv (Q0z m) λ(x2:Bool)=> .lf x2)))))))))
def Q13(m:Q01):Bool:=(Q4r m).m
abbrev Q48(m:Q01):Prop:=(Q4r m).p
def Z8k:Q0d:=mkP 51 [] true [.agg Q01.sig] [] (λargs rows=>Q48 (Q01.of (args.getD 0 .dead).cells)) (λargs rows=>Q13 (Q01.of (args.getD 0 .dead).cells)) (λX=> .bool X) (λX=>[])
theorem Qkc:Q05 Tryz.prog Z8k:=Q0k Q0j Q0i (.cons Q54 (.cons Qny (.nil))) Tryz.func51 Tryz.call51 (λargs rows=>Q4r (Q01.of (args.getD 0 .dead).cells)) [] [] 2 (λ_ _ _=>by kernel_rfl) (λ_ _=>rfl) (λ_ _ h=>h) (λ_ X=>by kernel_rfl)
def Qo0(t:Q0f):Tree Bool:=
.lf t.D3
def Qh7(t:Q0f):Bool:=(Qo0 t).m
def Z1c:Q0d:=mkR 175 [] true [.agg Q0f.sig] [] (λargs rows=>Qh7 (Q0f.of (args.getD 0 .dead).cells)) (λX=> .bool X) (λX=>[])
theorem Qxz:Q05 Tryz.prog Z1c:=Q11 Q0j Q0i (.nil) Tryz.func175 Tryz.call175 (λargs rows=>Qo0 (Q0f.of (args.getD 0 .dead).cells)) [] [] 2 (λ_ _ _=>by kernel_rfl) (λ_ _=>rfl) (λ_ _=>Tree.free_ok (by kernel_rfl)) (λ_ X=>by kernel_rfl)
def Ql2(c:Q0c):Tree Bool:=
.lf (!decide (c.D1=[]))
def Qaf(c:Q0c):Bool:=(Ql2 c).m
def Qui:Q0d:=mkR 176 [] true [.agg Q0c.sig] [] (λargs rows=>Qaf (Q0c.of (args.getD 0 .dead).cells)) (λX=> .bool X) (λX=>[])
theorem Qtu:Q05 Tryz.prog Qui:=Q11 Q0j Q0i (.nil) Tryz.func176 Tryz.call176 (λargs rows=>Ql2 (Q0c.of (args.getD 0 .dead).cells)) [] [] 2 (λ_ _ _=>by kernel_rfl) (λ_ _=>rfl) (λ_ _=>Tree.free_ok (by kernel_rfl)) (λ_ X=>by kernel_rfl)
def Qkk(d0:Q0e):Tree Bool:=
.br (d0.C0==2) (.lf true) (.lf (d0.C0==3))
def Qaa(d0:Q0e):Bool:=(Qkk d0).m
def Z3l:Q0d:=mkR 177 [] true [.agg Q0e.sig] [] (λargs rows=>Qaa (Q0e.of (args.getD 0 .dead).cells)) (λX=> .bool X) (λX=>[])
theorem Qoe:Q05 Tryz.prog Z3l:=Q11 Q0j Q0i (.nil) Tryz.func177 Tryz.call177 (λargs rows=>Qkk (Q0e.of (args.getD 0 .dead).cells)) [] [] 2 (λ_ _ _=>by kernel_rfl) (λ_ _=>rfl) (λ_ _=>Tree.free_ok (by kernel_rfl)) (λ_ X=>by kernel_rfl)
def Qtc(n:Q0n):Tree Bool:=
.lf n.B7
def Qm6(n:Q0n):Bool:=(Qtc n).m
def Z76:Q0d:=mkR 178 [] true [.agg Q0n.sig] [] (λargs rows=>Qm6 (Q0n.of (args.getD 0 .dead).cells)) (λX=> .bool X) (λX=>[])
theorem Z4i:Q05 Tryz.prog Z76:=Q11 Q0j Q0i (.nil) Tryz.func178 Tryz.call178 (λargs rows=>Qtc (Q0n.of (args.getD 0 .dead).cells)) [] [] 2 (λ_ _ _=>by kernel_rfl) (λ_ _=>rfl) (λ_ _=>Tree.free_ok (by kernel_rfl)) (λ_ X=>by kernel_rfl)
def Q1t(x:Int):Tree Int:=
let E1:=(↑(List.length (List.append (List.append tblYc4 Qqf) (List.append Qqf Zbd))):Int); .cn (decide (0≤ishr u32 x 24∧ishr u32 x 24<E1)) (.cn (decide (0≤iand u32 (ishr u32 x 16) 255∧iand u32 (ishr u32 x 16) 255<E1)) (.cn (decide (0≤iand u32 (ishr u32 x 8) 255∧iand u32 (ishr u32 x 8) 255<E1)) (.cn (decide (0≤iand u32 x 255∧iand u32 x 255<E1)) (.lf (wrap i64 (wrap u8 (wrap u8 (wrap u8 ((↑(UInt8.toNat (List.getD ((0:UInt8)::(Zjo++Qqf++(Qqf++Zbd))) (Int.toNat (ishr u32 x 24)) (0:UInt8))):Int)+(↑(UInt8.toNat (List.getD ((0:UInt8)::(Zjo++Qqf++(Qqf++Zbd))) (Int.toNat (iand u32 (ishr u32 x 16) 255)) (0:UInt8))):Int))+(↑(UInt8.toNat (List.getD ((0:UInt8)::(Zjo++Qqf++(Qqf++Zbd))) (Int.toNat (iand u32 (ishr u32 x 8) 255)) (0:UInt8))):Int))+(↑(UInt8.toNat (List.getD ((0:UInt8)::(Zjo++Qqf++(Qqf++Zbd))) (Int.toNat (iand u32 x 255)) (0:UInt8))):Int))))))))
def Q7b(x:Int):Int:=(Q1t x).m
abbrev Q3e(x:Int):Prop:=(Q1t x).p
def Qm7:Q0d:=mkP 234 [] true [.one (.int .u32)] [] (λargs rows=>Q3e (argI args 0)) (λargs rows=>Q7b (argI args 0)) (λX=> .int .i64 X) (λX=>[])
theorem Qkv:Q05 Tryz.prog Qm7:=Q0k Q0j Q0i (.nil) Tryz.func234 Tryz.call234 (λargs rows=>Q1t (argI args 0)) [] [] 2 (λ_ _ _=>by kernel_rfl) (λ_ _=>rfl) (λ_ _ h=>h) (λ_ X=>by kernel_rfl)
def Q51(b:Q07):Tree Int:=
.an (Q3e b.C5) (.lv (Q7b b.C5) λ(x0:Int)=> .lf x0)
def Qe3(b:Q07):Int:=(Q51 b).m
abbrev Q6f(b:Q07):Prop:=(Q51 b).p
def Qzx:Q0d:=mkP 194 [] true [.agg Q07.sig] [] (λargs rows=>Q6f (Q07.of (args.getD 0 .dead).cells)) (λargs rows=>Qe3 (Q07.of (args.getD 0 .dead).cells)) (λX=> .int .i64 X) (λX=>[])
theorem Qn0:Q05 Tryz.prog Qzx:=Q0k Q0j Q0i (.cons Qkv (.nil)) Tryz.func194 Tryz.call194 (λargs rows=>Q51 (Q07.of (args.getD 0 .dead).cells)) [] [] 2 (λ_ _ _=>by kernel_rfl) (λ_ _=>rfl) (λ_ _ h=>h) (λ_ X=>by kernel_rfl)
def Q3(b:Q07):Tree Bool:=
.an (Q6f b) (.lv (Qe3 b) λ(x0:Int)=> .lf (wrap u32 x0 !=b.C9))
def Q8k(b:Q07):Bool:=(Q3 b).m
abbrev Q6u(b:Q07):Prop:=(Q3 b).p
def Qv6:Q0d:=mkP 179 [] true [.agg Q07.sig] [] (λargs rows=>Q6u (Q07.of (args.getD 0 .dead).cells)) (λargs rows=>Q8k (Q07.of (args.getD 0 .dead).cells)) (λX=> .bool X) (λX=>[])
theorem Qtt:Q05 Tryz.prog Qv6:=Q0k Q0j Q0i (.cons Qn0 (.nil)) Tryz.func179 Tryz.call179 (λargs rows=>Q3 (Q07.of (args.getD 0 .dead).cells)) [] [] 2 (λ_ _ _=>by kernel_rfl) (λ_ _=>rfl) (λ_ _ h=>h) (λ_ X=>by kernel_rfl)
def Qiu(m:Q01)(z:(Int)×(Int)):Nat:=(5-z.2).toNat
def Q42(m:Q01):Tree Int:=
.lv (Qh7 m.A9) λ(x0:Bool)=> .lv (Qaf m.A3) λ(x1:Bool)=> .lv (Qaa m.B1) λ(x2:Bool)=> .lv (Qm6 m.C2) λ(x3:Bool)=> .an (Q6u m.A1) (.lv (Q8k m.A1) λ(x4:Bool)=> .lp inferInstance (Qiu m (0,0)+1) ((rE (0:Int)∧(rE (x0:Bool)∧rE (x1:Bool)∧rE (x2:Bool)∧rE (x3:Bool)∧rE (x4:Bool)∧True)∧rE (0:Int)∧True)∧True) (0,0) λ(v0:Int×Int)=> .br (decide (v0.2<5)) (.cn (Nat.beq 1 1&&(Nat.beq 5 5&&decide (0≤v0.2∧v0.2<(↑5:Int)))) (.br (List.getD [x0,x1,x2,x3,x4] v0.2.toNat false) (.cn (decide (0≤v0.2)) (.nx ((rE ((ior u32 v0.1 (ishl u32 1 v0.2)):Int)∧(rE (x0:Bool)∧rE (x1:Bool)∧rE (x2:Bool)∧rE (x3:Bool)∧rE (x4:Bool)∧True)∧rE ((wrap i64 (v0.2+1)):Int)∧True)∧True) (Sum.inl (ior u32 v0.1 (ishl u32 1 v0.2),wrap i64 (v0.2+1))))) (.nx ((rE v0.1∧(rE (x0:Bool)∧rE (x1:Bool)∧rE (x2:Bool)∧rE (x3:Bool)∧rE (x4:Bool)∧True)∧rE ((wrap i64 (v0.2+1)):Int)∧True)∧True) (Sum.inl (v0.1,wrap i64 (v0.2+1)))))) (.lf (Sum.inr v0.1)))
def Qdq(m:Q01):Int:=(Q42 m).m
abbrev Q8p(m:Q01):Prop:=(Q42 m).p
def Qyk:LInv:={
 α:=(Int)×(Int)
 F:=λst a=>([(4, .int u32 a.1),(23,(lk st 23)),(24, .int i64 a.2)],[])
 a0:=λst=>((lk st 4).toInt,(lk st 24).toInt)
 ex0:=λst=>[]++[]
 next:=λst=>((lk st 4).toInt,(lk st 24).toInt)
 ex:=λst=>[]++[]}
def Qsv:List (Nat×LInv):=[(4,Qyk)]
def Z10:Q0d:=mkP 128 [] true [.agg Q01.sig] [] (λargs rows=>Q8p (Q01.of (args.getD 0 .dead).cells)) (λargs rows=>Qdq (Q01.of (args.getD 0 .dead).cells)) (λX=> .int .u32 X) (λX=>[])
theorem Qyq:Q05 Tryz.prog Z10:=Q0k Q0j Q0i (.cons Qxz (.cons Qtu (.cons Qoe (.cons Z4i (.cons Qtt (.nil)))))) Tryz.func128 Tryz.call128 (λargs rows=>Q42 (Q01.of (args.getD 0 .dead).cells)) [] Qsv 3 (λ_ _ _=>by kernel_rfl) (λ_ _=>rfl) (λ_ _ h=>h) (λ_ X=>by kernel_rfl)
def Q22(m:Q01):Tree Int:=
.an (Q8p m) (.lv (Qdq m) λ(x0:Int)=> .lf (iand u32 x0 m.B2.B5.a7))
def Q6n(m:Q01):Int:=(Q22 m).m
abbrev Q4n(m:Q01):Prop:=(Q22 m).p
def Qv4:Q0d:=mkP 95 [] true [.agg Q01.sig] [] (λargs rows=>Q4n (Q01.of (args.getD 0 .dead).cells)) (λargs rows=>Q6n (Q01.of (args.getD 0 .dead).cells)) (λX=> .int .u32 X) (λX=>[])
theorem Qjx:Q05 Tryz.prog Qv4:=Q0k Q0j Q0i (.cons Qyq (.nil)) Tryz.func95 Tryz.call95 (λargs rows=>Q22 (Q01.of (args.getD 0 .dead).cells)) [] [] 2 (λ_ _ _=>by kernel_rfl) (λ_ _=>rfl) (λ_ _ h=>h) (λ_ X=>by kernel_rfl)
def Q3a(m:Q01):Tree Bool:=
.br m.A4 (.an (Q4n m) (.lv (Q6n m) λ(x0:Int)=> .lf (x0==0))) (.lf false)
def Q7y(m:Q01):Bool:=(Q3a m).m
abbrev Q3f(m:Q01):Prop:=(Q3a m).p
def Z4t:Q0d:=mkP 56 [] true [.agg Q01.sig] [] (λargs rows=>Q3f (Q01.of (args.getD 0 .dead).cells)) (λargs rows=>Q7y (Q01.of (args.getD 0 .dead).cells)) (λX=> .bool X) (λX=>[])
theorem Qnj:Q05 Tryz.prog Z4t:=Q0k Q0j Q0i (.cons Qjx (.nil)) Tryz.func56 Tryz.call56 (λargs rows=>Q3a (Q01.of (args.getD 0 .dead).cells)) [] [] 2 (λ_ _ _=>by kernel_rfl) (λ_ _=>rfl) (λ_ _ h=>h) (λ_ X=>by kernel_rfl)
end
end Go.Proofs.YtpcbkbalabgnlaaGreat

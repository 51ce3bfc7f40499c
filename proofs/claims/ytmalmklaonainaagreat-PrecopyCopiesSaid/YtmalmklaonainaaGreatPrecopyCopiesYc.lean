/-
  Functions of the program: models, and that its calls come to them (by a program: gen3.py).
-/
import Derived.Test.YtmalmklaonainaaGreatPrecopyCopiesBase
import Derived.Test.YtmalmklaonainaaGreatPrecopyCopiesYa
set_option maxRecDepth 100000
set_option linter.unusedVariables false
set_option linter.unusedSimpArgs false
namespace Go.Proofs.YtmalmklaonainaaGreat
open Go Go.GD Go.IntKind
noncomputable section
def tblYc0:List UInt8:=[(0:UInt8),1,2,2,3,3,3,3,4,4,4,4,4,4,4,4,5,5,5,5,5,5,5,5,5,5,5,5,5,5,5,5,6,6,6,6,6,6,6,6,6,6,6,6,6,6,6,6,6,6,6,6,6,6,6,6,6,6,6,6,6,6,6,6]
def Z8p:List UInt8:=[(7:UInt8),7,7,7,7,7,7,7,7,7,7,7,7,7,7,7,7,7,7,7,7,7,7,7,7,7,7,7,7,7,7,7,7,7,7,7,7,7,7,7,7,7,7,7,7,7,7,7,7,7,7,7,7,7,7,7,7,7,7,7,7,7,7,7]
def Qli:List UInt8:=[(8:UInt8),8,8,8,8,8,8,8,8,8,8,8,8,8,8,8,8,8,8,8,8,8,8,8,8,8,8,8,8,8,8,8,8,8,8,8,8,8,8,8,8,8,8,8,8,8,8,8,8,8,8,8,8,8,8,8,8,8,8,8,8,8,8,8]
def Zcj:List UInt8:=[(1:UInt8),2,2,3,3,3,3,4,4,4,4,4,4,4,4,5,5,5,5,5,5,5,5,5,5,5,5,5,5,5,5,6,6,6,6,6,6,6,6,6,6,6,6,6,6,6,6,6,6,6,6,6,6,6,6,6,6,6,6,6,6,6,6]
def tblYc4:List UInt8:=[(0:UInt8),1,1,2,1,2,2,3,1,2,2,3,2,3,3,4,1,2,2,3,2,3,3,4,2,3,3,4,3,4,4,5,1,2,2,3,2,3,3,4,2,3,3,4,3,4,4,5,2,3,3,4,3,4,4,5,3,4,4,5,4,5,5,6]
def Qlw:List UInt8:=[(1:UInt8),2,2,3,2,3,3,4,2,3,3,4,3,4,4,5,2,3,3,4,3,4,4,5,3,4,4,5,4,5,5,6,2,3,3,4,3,4,4,5,3,4,4,5,4,5,5,6,3,4,4,5,4,5,5,6,4,5,5,6,5,6,6,7]
def Z7l:List UInt8:=[(2:UInt8),3,3,4,3,4,4,5,3,4,4,5,4,5,5,6,3,4,4,5,4,5,5,6,4,5,5,6,5,6,6,7,3,4,4,5,4,5,5,6,4,5,5,6,5,6,6,7,4,5,5,6,5,6,6,7,5,6,6,7,6,7,7,8]
def Zd2:List UInt8:=[(1:UInt8),1,2,1,2,2,3,1,2,2,3,2,3,3,4,1,2,2,3,2,3,3,4,2,3,3,4,3,4,4,5,1,2,2,3,2,3,3,4,2,3,3,4,3,4,4,5,2,3,3,4,3,4,4,5,3,4,4,5,4,5,5,6]
def Qnb(c:Q0a):Tree Bool:=
.lf (decide ((c.D0.length:Int)≤(16:Int)))
def Q35(c:Q0a):Bool:=(Qnb c).m
def Z2v:Q09:=mkR 171 [] true [.agg Q0a.sig] [] (λargs rows=>Q35 (Q0a.of (args.getD 0 .dead).cells)) (λX=> .bool X) (λX=>[])
theorem Qz0:Q01 Tryz.prog Z2v:=Q0p drawn Q0g (.nil) Tryz.func171 Tryz.call171 (λargs rows=>Qnb (Q0a.of (args.getD 0 .dead).cells)) [] [] 2 (λ_ _ _=>by kernel_rfl) (λ_ _=>rfl) (λ_ _=>Tree.free_ok (by kernel_rfl)) (λ_ X=>by kernel_rfl)
def Qmo(t:Q0k):Tree Bool:=
.br t.D6 (.br (!t.D4) (.lf (t.C4 !=0)) (.lf false)) (.br t.D4 (.lf true) (.lf (t.C4==0)))
def Q8i(t:Q0k):Bool:=(Qmo t).m
def Zbo:Q09:=mkR 172 [] true [.agg Q0k.sig] [] (λargs rows=>Q8i (Q0k.of (args.getD 0 .dead).cells)) (λX=> .bool X) (λX=>[])
theorem Z97:Q01 Tryz.prog Zbo:=Q0p drawn Q0g (.nil) Tryz.func172 Tryz.call172 (λargs rows=>Qmo (Q0k.of (args.getD 0 .dead).cells)) [] [] 2 (λ_ _ _=>by kernel_rfl) (λ_ _=>rfl) (λ_ _=>Tree.free_ok (by kernel_rfl)) (λ_ X=>by kernel_rfl)
def Q5y(d0:Q0b):Tree Bool:=
.br (d0.D7==1) (.lf (decide (d0.B7=[]))) (.br (d0.D7==2) (.lf ((d0.B7.length:Int)==(128:Int))) (.lf false))
def Q8y(d0:Q0b):Bool:=(Q5y d0).m
def Qpp:Q09:=mkR 227 [] true [.agg Q0b.sig] [] (λargs rows=>Q8y (Q0b.of (args.getD 0 .dead).cells)) (λX=> .bool X) (λX=>[])
theorem Qnk:Q01 Tryz.prog Qpp:=Q0p drawn Q0g (.nil) Tryz.func227 Tryz.call227 (λargs rows=>Q5y (Q0b.of (args.getD 0 .dead).cells)) [] [] 2 (λ_ _ _=>by kernel_rfl) (λ_ _=>rfl) (λ_ _=>Tree.free_ok (by kernel_rfl)) (λ_ X=>by kernel_rfl)
def Q7u(d0:Q0b)(pages:Int):Tree Bool:=
.br (decide (d0.Blocks>64)) (.lf false) (let T1:Tree (Bool):= .br (d0.D7==0) (.br (d0.B3==0) (.br (d0.B4==0) (.lf (decide (d0.B7=[]))) (.lf false)) (.lf false)) (.lf false); .br (d0.C0==0) T1 (.br (d0.C0==2) T1 (.br (d0.C0==3) T1 (.br (d0.C0==1) (.lv (Q8y d0) λ(x0:Bool)=> .br x0 (.br (decide (d0.B3<d0.Blocks)) (.lf (decide (wrap i64 d0.B4<pages))) (.lf false)) (.lf false)) (.lf false)))))
def Q3k(d0:Q0b)(pages:Int):Bool:=(Q7u d0 pages).m
def Zfi:Q09:=mkR 173 [] true [.agg Q0b.sig, .one (.int .i64)] [] (λargs rows=>Q3k (Q0b.of (args.getD 0 .dead).cells) (argI args 1)) (λX=> .bool X) (λX=>[])
theorem Zb5:Q01 Tryz.prog Zfi:=Q0p drawn Q0g (.cons Qnk (.nil)) Tryz.func173 Tryz.call173 (λargs rows=>Q7u (Q0b.of (args.getD 0 .dead).cells) (argI args 1)) [] [] 2 (λ_ _ _=>by kernel_rfl) (λ_ _=>rfl) (λ_ _=>Tree.free_ok (by kernel_rfl)) (λ_ X=>by kernel_rfl)
def Qo4(n:Q0m)(pages:Int):Tree Bool:=
let T1:Tree (Bool):=let T2:Tree (Bool):= .br n.B2 (.br (decide (n.E0≥1)) (.lf (decide (n.E0≤128))) (.lf false)) (.lf (n.E0==0)); .br n.B8 (.br (decide (wrap i64 n.B9≥pages)) (.lf false) T2) (.br (n.B9 !=0) (.lf false) T2); .br n.B8 (.br n.B2 (.lf false) T1) T1
def Qd9(n:Q0m)(pages:Int):Bool:=(Qo4 n pages).m
def nic_May_m:Q09:=mkR 174 [] true [.agg Q0m.sig, .one (.int .i64)] [] (λargs rows=>Qd9 (Q0m.of (args.getD 0 .dead).cells) (argI args 1)) (λX=> .bool X) (λX=>[])
theorem Zfx:Q01 Tryz.prog nic_May_m:=Q0p drawn Q0g (.nil) Tryz.func174 Tryz.call174 (λargs rows=>Qo4 (Q0m.of (args.getD 0 .dead).cells) (argI args 1)) [] [] 2 (λ_ _ _=>by kernel_rfl) (λ_ _=>rfl) (λ_ _=>Tree.free_ok (by kernel_rfl)) (λ_ X=>by kernel_rfl)
def Q1p(x:Int):Tree Int:=
let E1:=(↑(List.length (List.append (List.append tblYc0 Z8p) (List.append Qli Qli))):Int); .br (decide (x≥65536)) (.br (decide (ishr u32 x (16:Int)≥(256:Int))) (.cn (decide (0≤wrap u8 (ishr u32 (ishr u32 x 16) 8)∧wrap u8 (ishr u32 (ishr u32 x 16) 8)<E1)) (.lf (wrap i64 (wrap i64 ((16:Int)+(8:Int))+wrap i64 (↑(UInt8.toNat (List.getD ((0:UInt8)::(Zcj++Z8p++(Qli++Qli))) (Int.toNat (wrap u8 (ishr u32 (ishr u32 x 16) 8))) (0:UInt8))):Int))))) (.cn (decide (0≤wrap u8 (ishr u32 x 16)∧wrap u8 (ishr u32 x 16)<E1)) (.lf (wrap i64 (16+wrap i64 (↑(UInt8.toNat (List.getD ((0:UInt8)::(Zcj++Z8p++(Qli++Qli))) (Int.toNat (wrap u8 (ishr u32 x 16))) (0:UInt8))):Int)))))) (.br (decide (x≥256)) (.cn (decide (0≤wrap u8 (ishr u32 x 8)∧wrap u8 (ishr u32 x 8)<E1)) (.lf (wrap i64 (wrap i64 ((0:Int)+(8:Int))+wrap i64 (↑(UInt8.toNat (List.getD ((0:UInt8)::(Zcj++Z8p++(Qli++Qli))) (Int.toNat (wrap u8 (ishr u32 x 8))) (0:UInt8))):Int))))) (.cn (decide (0≤wrap u8 x∧wrap u8 x<E1)) (.lf (wrap i64 (0+wrap i64 (↑(UInt8.toNat (List.getD ((0:UInt8)::(Zcj++Z8p++(Qli++Qli))) (Int.toNat (wrap u8 x)) (0:UInt8))):Int))))))
def Q11(x:Int):Int:=(Q1p x).m
abbrev Qdi(x:Int):Prop:=(Q1p x).p
def Qq0:Q09:=mkP 228 [] true [.one (.int .u32)] [] (λargs rows=>Qdi (argI args 0)) (λargs rows=>Q11 (argI args 0)) (λX=> .int .i64 X) (λX=>[])
theorem Qo2:Q01 Tryz.prog Qq0:=Q0j drawn Q0g (.nil) Tryz.func228 Tryz.call228 (λargs rows=>Q1p (argI args 0)) [] [] 2 (λ_ _ _=>by kernel_rfl) (λ_ _=>rfl) (λ_ _ h=>h) (λ_ X=>by kernel_rfl)
def Q69(b:Q07)(pages:Int):Tree Bool:=
.an (Qdi b.C5) (.lv (Q11 b.C5) λ(x0:Int)=> .lf (decide (x0≤if 0>pages then 0 else pages)))
def Q3r(b:Q07)(pages:Int):Bool:=(Q69 b pages).m
abbrev Qiz(b:Q07)(pages:Int):Prop:=(Q69 b pages).p
def Z5n:Q09:=mkP 175 [] true [.agg Q07.sig, .one (.int .i64)] [] (λargs rows=>Qiz (Q07.of (args.getD 0 .dead).cells) (argI args 1)) (λargs rows=>Q3r (Q07.of (args.getD 0 .dead).cells) (argI args 1)) (λX=> .bool X) (λX=>[])
theorem Qys:Q01 Tryz.prog Z5n:=Q0j drawn Q0g (.cons Qo2 (.nil)) Tryz.func175 Tryz.call175 (λargs rows=>Q69 (Q07.of (args.getD 0 .dead).cells) (argI args 1)) [] [] 2 (λ_ _ _=>by kernel_rfl) (λ_ _=>rfl) (λ_ _ h=>h) (λ_ X=>by kernel_rfl)
def Q1y(m:Q00):Tree Bool:=
.lv (Q0f m.Mem) λ(x0:Int)=> .lv (Q35 m.A1) λ(x1:Bool)=> .br x1 (.lv (Q8i m.A9) λ(x2:Bool)=> .br x2 (.lv (Q3k m.B0 x0) λ(x3:Bool)=> .br x3 (.lv (Qd9 m.C2 x0) λ(x4:Bool)=> .br x4 (.an (Qiz m.A0 x0) (.lv (Q3r m.A0 x0) λ(x5:Bool)=> .lf x5)) (.lf false)) (.lf false)) (.lf false)) (.lf false)
def Q0r(m:Q00):Bool:=(Q1y m).m
abbrev Q51(m:Q00):Prop:=(Q1y m).p
def Ql4:Q09:=mkP 92 [] true [.agg Q00.sig] [] (λargs rows=>Q51 (Q00.of (args.getD 0 .dead).cells)) (λargs rows=>Q0r (Q00.of (args.getD 0 .dead).cells)) (λX=> .bool X) (λX=>[])
theorem Qjk:Q01 Tryz.prog Ql4:=Q0j drawn Q0g (.cons Q1a (.cons Qz0 (.cons Z97 (.cons Zb5 (.cons Zfx (.cons Qys (.nil))))))) Tryz.func92 Tryz.call92 (λargs rows=>Q1y (Q00.of (args.getD 0 .dead).cells)) [] [] 2 (λ_ _ _=>by kernel_rfl) (λ_ _=>rfl) (λ_ _ h=>h) (λ_ X=>by kernel_rfl)
def Q95(m:Q00):Tree Bool:=
.lv (Q0f m.Mem) λ(x0:Int)=> .br (x0==0) (.lf false) (.br (m.B1.X.a0 !=0) (.lf false) (.br (decide (m.B1.B5.a0>31)) (.lf false) (.br (decide (m.B1.B5.a7>31)) (.lf false) (.br (decide (m.B1.B5.a6>255)) (.lf false) (.br (Int.tmod m.B1.B5.a1 (4:Int) !=(0:Int)) (.lf false) (.br (decide (m.A4>1152921504606846976)) (.lf false) (.br m.A2 (.br m.A6 (.lf false) (.an (Q51 m) (.lv (Q0r m) λ(x1:Bool)=> .lf x1))) (.an (Q51 m) (.lv (Q0r m) λ(x2:Bool)=> .lf x2)))))))))
def Q5t(m:Q00):Bool:=(Q95 m).m
abbrev Qjl(m:Q00):Prop:=(Q95 m).p
def Z3r:Q09:=mkP 24 [] true [.agg Q00.sig] [] (λargs rows=>Qjl (Q00.of (args.getD 0 .dead).cells)) (λargs rows=>Q5t (Q00.of (args.getD 0 .dead).cells)) (λX=> .bool X) (λX=>[])
theorem Qyt:Q01 Tryz.prog Z3r:=Q0j drawn Q0g (.cons Q1a (.cons Qjk (.nil))) Tryz.func24 Tryz.call24 (λargs rows=>Q95 (Q00.of (args.getD 0 .dead).cells)) [] [] 2 (λ_ _ _=>by kernel_rfl) (λ_ _=>rfl) (λ_ _ h=>h) (λ_ X=>by kernel_rfl)
def Qjs(t:Q0k):Tree Bool:=
.lf t.D4
def Qn3(t:Q0k):Bool:=(Qjs t).m
def Qw4:Q09:=mkR 99 [] true [.agg Q0k.sig] [] (λargs rows=>Qn3 (Q0k.of (args.getD 0 .dead).cells)) (λX=> .bool X) (λX=>[])
theorem Qt9:Q01 Tryz.prog Qw4:=Q0p drawn Q0g (.nil) Tryz.func99 Tryz.call99 (λargs rows=>Qjs (Q0k.of (args.getD 0 .dead).cells)) [] [] 2 (λ_ _ _=>by kernel_rfl) (λ_ _=>rfl) (λ_ _=>Tree.free_ok (by kernel_rfl)) (λ_ X=>by kernel_rfl)
def Qfy(c:Q0a):Tree Bool:=
.lf (!decide (c.D0=[]))
def Qk2(c:Q0a):Bool:=(Qfy c).m
def Qqd:Q09:=mkR 100 [] true [.agg Q0a.sig] [] (λargs rows=>Qk2 (Q0a.of (args.getD 0 .dead).cells)) (λX=> .bool X) (λX=>[])
theorem Qnv:Q01 Tryz.prog Qqd:=Q0p drawn Q0g (.nil) Tryz.func100 Tryz.call100 (λargs rows=>Qfy (Q0a.of (args.getD 0 .dead).cells)) [] [] 2 (λ_ _ _=>by kernel_rfl) (λ_ _=>rfl) (λ_ _=>Tree.free_ok (by kernel_rfl)) (λ_ X=>by kernel_rfl)
def Qf9(d0:Q0b):Tree Bool:=
.br (d0.C0==2) (.lf true) (.lf (d0.C0==3))
def Qep(d0:Q0b):Bool:=(Qf9 d0).m
def Qz7:Q09:=mkR 101 [] true [.agg Q0b.sig] [] (λargs rows=>Qep (Q0b.of (args.getD 0 .dead).cells)) (λX=> .bool X) (λX=>[])
theorem Qj1:Q01 Tryz.prog Qz7:=Q0p drawn Q0g (.nil) Tryz.func101 Tryz.call101 (λargs rows=>Qf9 (Q0b.of (args.getD 0 .dead).cells)) [] [] 2 (λ_ _ _=>by kernel_rfl) (λ_ _=>rfl) (λ_ _=>Tree.free_ok (by kernel_rfl)) (λ_ X=>by kernel_rfl)
def Qon(n:Q0m):Tree Bool:=
.lf n.B2
def Quv(n:Q0m):Bool:=(Qon n).m
def Z4l:Q09:=mkR 102 [] true [.agg Q0m.sig] [] (λargs rows=>Quv (Q0m.of (args.getD 0 .dead).cells)) (λX=> .bool X) (λX=>[])
theorem Qyi:Q01 Tryz.prog Z4l:=Q0p drawn Q0g (.nil) Tryz.func102 Tryz.call102 (λargs rows=>Qon (Q0m.of (args.getD 0 .dead).cells)) [] [] 2 (λ_ _ _=>by kernel_rfl) (λ_ _=>rfl) (λ_ _=>Tree.free_ok (by kernel_rfl)) (λ_ X=>by kernel_rfl)
def Q1w(x:Int):Tree Int:=
let E1:=(↑(List.length (List.append (List.append tblYc4 Qlw) (List.append Qlw Z7l))):Int); .cn (decide (0≤ishr u32 x 24∧ishr u32 x 24<E1)) (.cn (decide (0≤iand u32 (ishr u32 x 16) 255∧iand u32 (ishr u32 x 16) 255<E1)) (.cn (decide (0≤iand u32 (ishr u32 x 8) 255∧iand u32 (ishr u32 x 8) 255<E1)) (.cn (decide (0≤iand u32 x 255∧iand u32 x 255<E1)) (.lf (wrap i64 (wrap u8 (wrap u8 (wrap u8 ((↑(UInt8.toNat (List.getD ((0:UInt8)::(Zd2++Qlw++(Qlw++Z7l))) (Int.toNat (ishr u32 x 24)) (0:UInt8))):Int)+(↑(UInt8.toNat (List.getD ((0:UInt8)::(Zd2++Qlw++(Qlw++Z7l))) (Int.toNat (iand u32 (ishr u32 x 16) 255)) (0:UInt8))):Int))+(↑(UInt8.toNat (List.getD ((0:UInt8)::(Zd2++Qlw++(Qlw++Z7l))) (Int.toNat (iand u32 (ishr u32 x 8) 255)) (0:UInt8))):Int))+(↑(UInt8.toNat (List.getD ((0:UInt8)::(Zd2++Qlw++(Qlw++Z7l))) (Int.toNat (iand u32 x 255)) (0:UInt8))):Int))))))))
def Qav(x:Int):Int:=(Q1w x).m
abbrev Q6u(x:Int):Prop:=(Q1w x).p
def Qgj:Q09:=mkP 229 [] true [.one (.int .u32)] [] (λargs rows=>Q6u (argI args 0)) (λargs rows=>Qav (argI args 0)) (λX=> .int .i64 X) (λX=>[])
theorem Qg1:Q01 Tryz.prog Qgj:=Q0j drawn Q0g (.nil) Tryz.func229 Tryz.call229 (λargs rows=>Q1w (argI args 0)) [] [] 2 (λ_ _ _=>by kernel_rfl) (λ_ _=>rfl) (λ_ _ h=>h) (λ_ X=>by kernel_rfl)
def Q5r(b:Q07):Tree Int:=
.an (Q6u b.C5) (.lv (Qav b.C5) λ(x0:Int)=> .lf x0)
def Qgd(b:Q07):Int:=(Q5r b).m
abbrev Q9n(b:Q07):Prop:=(Q5r b).p
def Qx:Q09:=mkP 176 [] true [.agg Q07.sig] [] (λargs rows=>Q9n (Q07.of (args.getD 0 .dead).cells)) (λargs rows=>Qgd (Q07.of (args.getD 0 .dead).cells)) (λX=> .int .i64 X) (λX=>[])
theorem Qh8:Q01 Tryz.prog Qx:=Q0j drawn Q0g (.cons Qg1 (.nil)) Tryz.func176 Tryz.call176 (λargs rows=>Q5r (Q07.of (args.getD 0 .dead).cells)) [] [] 2 (λ_ _ _=>by kernel_rfl) (λ_ _=>rfl) (λ_ _ h=>h) (λ_ X=>by kernel_rfl)
def Q4e(b:Q07):Tree Bool:=
.an (Q9n b) (.lv (Qgd b) λ(x0:Int)=> .lf (wrap u32 x0 !=b.C3))
def Qit(b:Q07):Bool:=(Q4e b).m
abbrev Qd7(b:Q07):Prop:=(Q4e b).p
def Qqw:Q09:=mkP 103 [] true [.agg Q07.sig] [] (λargs rows=>Qd7 (Q07.of (args.getD 0 .dead).cells)) (λargs rows=>Qit (Q07.of (args.getD 0 .dead).cells)) (λX=> .bool X) (λX=>[])
theorem Qpa:Q01 Tryz.prog Qqw:=Q0j drawn Q0g (.cons Qh8 (.nil)) Tryz.func103 Tryz.call103 (λargs rows=>Q4e (Q07.of (args.getD 0 .dead).cells)) [] [] 2 (λ_ _ _=>by kernel_rfl) (λ_ _=>rfl) (λ_ _ h=>h) (λ_ X=>by kernel_rfl)
def Qd0(m:Q00)(z:(Int)×(Int)):Nat:=(5-z.2).toNat
def Q59(m:Q00):Tree Int:=
.lv (Qn3 m.A9) λ(x0:Bool)=> .lv (Qk2 m.A1) λ(x1:Bool)=> .lv (Qep m.B0) λ(x2:Bool)=> .lv (Quv m.C2) λ(x3:Bool)=> .an (Qd7 m.A0) (.lv (Qit m.A0) λ(x4:Bool)=> .lp inferInstance (Qd0 m (0,0)+1) ((rE (0:Int)∧(rE (x0:Bool)∧rE (x1:Bool)∧rE (x2:Bool)∧rE (x3:Bool)∧rE (x4:Bool)∧True)∧rE (0:Int)∧True)∧True) (0,0) λ(v0:Int×Int)=> .br (decide (v0.2<5)) (.cn (Nat.beq 1 1&&(Nat.beq 5 5&&decide (0≤v0.2∧v0.2<(↑5:Int)))) (.br (List.getD [x0,x1,x2,x3,x4] v0.2.toNat false) (.cn (decide (0≤v0.2)) (.nx ((rE ((ior u32 v0.1 (ishl u32 1 v0.2)):Int)∧(rE (x0:Bool)∧rE (x1:Bool)∧rE (x2:Bool)∧rE (x3:Bool)∧rE (x4:Bool)∧True)∧rE ((wrap i64 (v0.2+1)):Int)∧True)∧True) (Sum.inl (ior u32 v0.1 (ishl u32 1 v0.2),wrap i64 (v0.2+1))))) (.nx ((rE v0.1∧(rE (x0:Bool)∧rE (x1:Bool)∧rE (x2:Bool)∧rE (x3:Bool)∧rE (x4:Bool)∧True)∧rE ((wrap i64 (v0.2+1)):Int)∧True)∧True) (Sum.inl (v0.1,wrap i64 (v0.2+1)))))) (.lf (Sum.inr v0.1)))
def Qom(m:Q00):Int:=(Q59 m).m
abbrev Qfs(m:Q00):Prop:=(Q59 m).p
def Qu3:LInv:={
 α:=(Int)×(Int)
 F:=λst a=>([(4, .int u32 a.1),(23,(lk st 23)),(24, .int i64 a.2)],[])
 a0:=λst=>((lk st 4).toInt,(lk st 24).toInt)
 ex0:=λst=>[]++[]
 next:=λst=>((lk st 4).toInt,(lk st 24).toInt)
 ex:=λst=>[]++[]}
def Qoc:List (Nat×LInv):=[(4,Qu3)]
def Qvd:Q09:=mkP 26 [] true [.agg Q00.sig] [] (λargs rows=>Qfs (Q00.of (args.getD 0 .dead).cells)) (λargs rows=>Qom (Q00.of (args.getD 0 .dead).cells)) (λX=> .int .u32 X) (λX=>[])
theorem Qtd:Q01 Tryz.prog Qvd:=Q0j drawn Q0g (.cons Qt9 (.cons Qnv (.cons Qj1 (.cons Qyi (.cons Qpa (.nil)))))) Tryz.func26 Tryz.call26 (λargs rows=>Q59 (Q00.of (args.getD 0 .dead).cells)) [] Qoc 3 (λ_ _ _=>by kernel_rfl) (λ_ _=>rfl) (λ_ _ h=>h) (λ_ X=>by kernel_rfl)
def Q4b(m:Q00):Tree Int:=
.an (Qfs m) (.lv (Qom m) λ(x0:Int)=> .lf (iand u32 x0 m.B1.B5.a7))
def Qd2(m:Q00):Int:=(Q4b m).m
abbrev Q7h(m:Q00):Prop:=(Q4b m).p
def Qqg:Q09:=mkP 110 [] true [.agg Q00.sig] [] (λargs rows=>Q7h (Q00.of (args.getD 0 .dead).cells)) (λargs rows=>Qd2 (Q00.of (args.getD 0 .dead).cells)) (λX=> .int .u32 X) (λX=>[])
theorem Qe9:Q01 Tryz.prog Qqg:=Q0j drawn Q0g (.cons Qtd (.nil)) Tryz.func110 Tryz.call110 (λargs rows=>Q4b (Q00.of (args.getD 0 .dead).cells)) [] [] 2 (λ_ _ _=>by kernel_rfl) (λ_ _=>rfl) (λ_ _ h=>h) (λ_ X=>by kernel_rfl)
def Q6q(m:Q00):Tree Bool:=
.br m.A2 (.an (Q7h m) (.lv (Qd2 m) λ(x0:Int)=> .lf (x0==0))) (.lf false)
def Qjd(m:Q00):Bool:=(Q6q m).m
abbrev Qhl(m:Q00):Prop:=(Q6q m).p
def Qzk:Q09:=mkP 28 [] true [.agg Q00.sig] [] (λargs rows=>Qhl (Q00.of (args.getD 0 .dead).cells)) (λargs rows=>Qjd (Q00.of (args.getD 0 .dead).cells)) (λX=> .bool X) (λX=>[])
theorem Qy8:Q01 Tryz.prog Qzk:=Q0j drawn Q0g (.cons Qe9 (.nil)) Tryz.func28 Tryz.call28 (λargs rows=>Q6q (Q00.of (args.getD 0 .dead).cells)) [] [] 2 (λ_ _ _=>by kernel_rfl) (λ_ _=>rfl) (λ_ _ h=>h) (λ_ X=>by kernel_rfl)
end
end Go.Proofs.YtmalmklaonainaaGreat

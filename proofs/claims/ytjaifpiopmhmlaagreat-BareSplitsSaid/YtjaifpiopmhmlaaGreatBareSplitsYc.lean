/-
  Functions of the program: models, and that its calls come to them (by a program: gen3.py).
-/
import Derived.Test.YtjaifpiopmhmlaaGreatBareSplitsBase
import Derived.Test.YtjaifpiopmhmlaaGreatBareSplitsYa
set_option maxRecDepth 100000
set_option linter.all false
namespace Go.Proofs.YtjaifpiopmhmlaaGreat
open Go Go.GD Go.IntKind
noncomputable section
def tblYc0:List UInt8:=[(0:UInt8),1,2,2,3,3,3,3,4,4,4,4,4,4,4,4,5,5,5,5,5,5,5,5,5,5,5,5,5,5,5,5,6,6,6,6,6,6,6,6,6,6,6,6,6,6,6,6,6,6,6,6,6,6,6,6,6,6,6,6,6,6,6,6]
def Zcs:List UInt8:=[(7:UInt8),7,7,7,7,7,7,7,7,7,7,7,7,7,7,7,7,7,7,7,7,7,7,7,7,7,7,7,7,7,7,7,7,7,7,7,7,7,7,7,7,7,7,7,7,7,7,7,7,7,7,7,7,7,7,7,7,7,7,7,7,7,7,7]
def Qpa:List UInt8:=[(8:UInt8),8,8,8,8,8,8,8,8,8,8,8,8,8,8,8,8,8,8,8,8,8,8,8,8,8,8,8,8,8,8,8,8,8,8,8,8,8,8,8,8,8,8,8,8,8,8,8,8,8,8,8,8,8,8,8,8,8,8,8,8,8,8,8]
def Zi:List UInt8:=[(1:UInt8),2,2,3,3,3,3,4,4,4,4,4,4,4,4,5,5,5,5,5,5,5,5,5,5,5,5,5,5,5,5,6,6,6,6,6,6,6,6,6,6,6,6,6,6,6,6,6,6,6,6,6,6,6,6,6,6,6,6,6,6,6,6]
def tblYc4:List UInt8:=[(0:UInt8),1,1,2,1,2,2,3,1,2,2,3,2,3,3,4,1,2,2,3,2,3,3,4,2,3,3,4,3,4,4,5,1,2,2,3,2,3,3,4,2,3,3,4,3,4,4,5,2,3,3,4,3,4,4,5,3,4,4,5,4,5,5,6]
def Qps:List UInt8:=[(1:UInt8),2,2,3,2,3,3,4,2,3,3,4,3,4,4,5,2,3,3,4,3,4,4,5,3,4,4,5,4,5,5,6,2,3,3,4,3,4,4,5,3,4,4,5,4,5,5,6,3,4,4,5,4,5,5,6,4,5,5,6,5,6,6,7]
def Zba:List UInt8:=[(2:UInt8),3,3,4,3,4,4,5,3,4,4,5,4,5,5,6,3,4,4,5,4,5,5,6,4,5,5,6,5,6,6,7,3,4,4,5,4,5,5,6,4,5,5,6,5,6,6,7,4,5,5,6,5,6,6,7,5,6,6,7,6,7,7,8]
def Zi1:List UInt8:=[(1:UInt8),1,2,1,2,2,3,1,2,2,3,2,3,3,4,1,2,2,3,2,3,3,4,2,3,3,4,3,4,4,5,1,2,2,3,2,3,3,4,2,3,3,4,3,4,4,5,2,3,3,4,3,4,4,5,3,4,4,5,4,5,5,6]
def Qt7(c:Q0b):Tree Bool:=
.lf (decide ((c.D3.length:Int)<=(16:Int)))
def Q23(c:Q0b):Bool:=(Qt7 c).m
def Z6d:Q0c:=mkR 147 [] true [.agg Q0b.sig] [] (λargs rows=>Q23 (Q0b.of (args.getD 0 .dead).cells)) (λX=> .bool X) (λX=>[])
theorem Z3b:Q05 Tryz.prog Z6d:=Q0z Q0j Q0k (.nil) Tryz.func147 Tryz.call147 (λargs rows=>Qt7 (Q0b.of (args.getD 0 .dead).cells)) [] [] 2 (λ_ _ _=>by kernel_rfl) (λ_ _=>rfl) (λ_ _=>Tree.free_ok (by kernel_rfl)) (λ_ X=>by kernel_rfl)
def Ql1(t:Q0g):Tree Bool:=
.br t.D2 (.br (!t.D5) (.lf (t.C9 !=0)) (.lf false)) (.br t.D5 (.lf true) (.lf (t.C9==0)))
def Q3z(t:Q0g):Bool:=(Ql1 t).m
def Zh5:Q0c:=mkR 148 [] true [.agg Q0g.sig] [] (λargs rows=>Q3z (Q0g.of (args.getD 0 .dead).cells)) (λX=> .bool X) (λX=>[])
theorem Zd1:Q05 Tryz.prog Zh5:=Q0z Q0j Q0k (.nil) Tryz.func148 Tryz.call148 (λargs rows=>Ql1 (Q0g.of (args.getD 0 .dead).cells)) [] [] 2 (λ_ _ _=>by kernel_rfl) (λ_ _=>rfl) (λ_ _=>Tree.free_ok (by kernel_rfl)) (λ_ X=>by kernel_rfl)
def Q6s(d0:Q0e):Tree Bool:=
.br (d0.D8==1) (.lf (decide (d0.C3=[]))) (.br (d0.D8==2) (.lf ((d0.C3.length:Int)==(128:Int))) (.lf false))
def Q8z(d0:Q0e):Bool:=(Q6s d0).m
def Qtm:Q0c:=mkR 206 [] true [.agg Q0e.sig] [] (λargs rows=>Q8z (Q0e.of (args.getD 0 .dead).cells)) (λX=> .bool X) (λX=>[])
theorem Qs3:Q05 Tryz.prog Qtm:=Q0z Q0j Q0k (.nil) Tryz.func206 Tryz.call206 (λargs rows=>Q6s (Q0e.of (args.getD 0 .dead).cells)) [] [] 2 (λ_ _ _=>by kernel_rfl) (λ_ _=>rfl) (λ_ _=>Tree.free_ok (by kernel_rfl)) (λ_ X=>by kernel_rfl)
def Q5s(d0:Q0e)(pages:Int):Tree Bool:=
.br (decide (d0.Blocks>64)) (.lf false) (let T1:Tree (Bool):= .br (d0.D8==0) (.br (d0.B7==0) (.br (d0.B3==0) (.lf (decide (d0.C3=[]))) (.lf false)) (.lf false)) (.lf false); .br (d0.C1==0) T1 (.br (d0.C1==2) T1 (.br (d0.C1==3) T1 (.br (d0.C1==1) (.lv (Q8z d0) λ(x0:Bool)=> .br x0 (.br (decide (d0.B7<d0.Blocks)) (.lf (decide (wrap i64 d0.B3<pages))) (.lf false)) (.lf false)) (.lf false)))))
def Q1c(d0:Q0e)(pages:Int):Bool:=(Q5s d0 pages).m
def Zkh:Q0c:=mkR 149 [] true [.agg Q0e.sig, .one (.int .i64)] [] (λargs rows=>Q1c (Q0e.of (args.getD 0 .dead).cells) (argI args 1)) (λX=> .bool X) (λX=>[])
theorem Zfw:Q05 Tryz.prog Zkh:=Q0z Q0j Q0k (.cons Qs3 (.nil)) Tryz.func149 Tryz.call149 (λargs rows=>Q5s (Q0e.of (args.getD 0 .dead).cells) (argI args 1)) [] [] 2 (λ_ _ _=>by kernel_rfl) (λ_ _=>rfl) (λ_ _=>Tree.free_ok (by kernel_rfl)) (λ_ X=>by kernel_rfl)
def Qjs(n:Q0q)(pages:Int):Tree Bool:=
let T1:Tree (Bool):=let T2:Tree (Bool):= .br n.B8 (.br (decide (n.F2>=1)) (.lf (decide (n.F2<=128))) (.lf false)) (.lf (n.F2==0)); .br n.C7 (.br (decide (wrap i64 n.C0>=pages)) (.lf false) T2) (.br (n.C0 !=0) (.lf false) T2); .br n.C7 (.br n.B8 (.lf false) T1) T1
def Q5l(n:Q0q)(pages:Int):Bool:=(Qjs n pages).m
def yA:Q0c:=mkR 150 [] true [.agg Q0q.sig, .one (.int .i64)] [] (λargs rows=>Q5l (Q0q.of (args.getD 0 .dead).cells) (argI args 1)) (λX=> .bool X) (λX=>[])
theorem Zjx:Q05 Tryz.prog yA:=Q0z Q0j Q0k (.nil) Tryz.func150 Tryz.call150 (λargs rows=>Qjs (Q0q.of (args.getD 0 .dead).cells) (argI args 1)) [] [] 2 (λ_ _ _=>by kernel_rfl) (λ_ _=>rfl) (λ_ _=>Tree.free_ok (by kernel_rfl)) (λ_ X=>by kernel_rfl)
def Q1n(x:Int):Tree Int:=
let E1:=(↑(List.length (List.append (List.append tblYc0 Zcs) (List.append Qpa Qpa))):Int); .br (decide (x>=65536)) (.br (decide (ishr u32 x (16:Int)>=(256:Int))) (.cn (decide (0<=wrap u8 (ishr u32 (ishr u32 x 16) 8)/\wrap u8 (ishr u32 (ishr u32 x 16) 8)<E1)) (.lf (wrap i64 (wrap i64 ((16:Int)+(8:Int))+wrap i64 (↑(UInt8.toNat (List.getD ((0:UInt8)::(Zi++Zcs++(Qpa++Qpa))) (Int.toNat (wrap u8 (ishr u32 (ishr u32 x 16) 8))) (0:UInt8))):Int))))) (.cn (decide (0<=wrap u8 (ishr u32 x 16)/\wrap u8 (ishr u32 x 16)<E1)) (.lf (wrap i64 (16+wrap i64 (↑(UInt8.toNat (List.getD ((0:UInt8)::(Zi++Zcs++(Qpa++Qpa))) (Int.toNat (wrap u8 (ishr u32 x 16))) (0:UInt8))):Int)))))) (.br (decide (x>=256)) (.cn (decide (0<=wrap u8 (ishr u32 x 8)/\wrap u8 (ishr u32 x 8)<E1)) (.lf (wrap i64 (wrap i64 ((0:Int)+(8:Int))+wrap i64 (↑(UInt8.toNat (List.getD ((0:UInt8)::(Zi++Zcs++(Qpa++Qpa))) (Int.toNat (wrap u8 (ishr u32 x 8))) (0:UInt8))):Int))))) (.cn (decide (0<=wrap u8 x/\wrap u8 x<E1)) (.lf (wrap i64 (0+wrap i64 (↑(UInt8.toNat (List.getD ((0:UInt8)::(Zi++Zcs++(Qpa++Qpa))) (Int.toNat (wrap u8 x)) (0:UInt8))):Int))))))
def Q1e(x:Int):Int:=(Q1n x).m
abbrev Qb(x:Int):Prop:=(Q1n x).p
def Qu5:Q0c:=mkP 207 [] true [.one (.int .u32)] [] (λargs rows=>Qb (argI args 0)) (λargs rows=>Q1e (argI args 0)) (λX=> .int .i64 X) (λX=>[])
theorem Qs:Q05 Tryz.prog Qu5:=Q0n Q0j Q0k (.nil) Tryz.func207 Tryz.call207 (λargs rows=>Q1n (argI args 0)) [] [] 2 (λ_ _ _=>by kernel_rfl) (λ_ _=>rfl) (λ_ _ h=>h) (λ_ X=>by kernel_rfl)
def Q3n(b:Q07)(pages:Int):Tree Bool:=
.an (Qb b.C2) (.lv (Q1e b.C2) λ(x0:Int)=> .lf (decide (x0<=if 0>pages then 0 else pages)))
def Q2e(b:Q07)(pages:Int):Bool:=(Q3n b pages).m
abbrev Qbm(b:Q07)(pages:Int):Prop:=(Q3n b pages).p
def Z95:Q0c:=mkP 151 [] true [.agg Q07.sig, .one (.int .i64)] [] (λargs rows=>Qbm (Q07.of (args.getD 0 .dead).cells) (argI args 1)) (λargs rows=>Q2e (Q07.of (args.getD 0 .dead).cells) (argI args 1)) (λX=> .bool X) (λX=>[])
theorem Z3t:Q05 Tryz.prog Z95:=Q0n Q0j Q0k (.cons Qs (.nil)) Tryz.func151 Tryz.call151 (λargs rows=>Q3n (Q07.of (args.getD 0 .dead).cells) (argI args 1)) [] [] 2 (λ_ _ _=>by kernel_rfl) (λ_ _=>rfl) (λ_ _ h=>h) (λ_ X=>by kernel_rfl)
def Q1k(m:Q00):Tree Bool:=
.lv (Q0v m.Mem) λ(x0:Int)=> .lv (Q23 m.A3) λ(x1:Bool)=> .br x1 (.lv (Q3z m.B0) λ(x2:Bool)=> .br x2 (.lv (Q1c m.B1 x0) λ(x3:Bool)=> .br x3 (.lv (Q5l m.C5 x0) λ(x4:Bool)=> .br x4 (.an (Qbm m.A2 x0) (.lv (Q2e m.A2 x0) λ(x5:Bool)=> .lf x5)) (.lf false)) (.lf false)) (.lf false)) (.lf false)
def Q0x(m:Q00):Bool:=(Q1k m).m
abbrev Q2h(m:Q00):Prop:=(Q1k m).p
def Qoz:Q0c:=mkP 85 [] true [.agg Q00.sig] [] (λargs rows=>Q2h (Q00.of (args.getD 0 .dead).cells)) (λargs rows=>Q0x (Q00.of (args.getD 0 .dead).cells)) (λX=> .bool X) (λX=>[])
theorem Qm9:Q05 Tryz.prog Qoz:=Q0n Q0j Q0k (.cons Q3t (.cons Z3b (.cons Zd1 (.cons Zfw (.cons Zjx (.cons Z3t (.nil))))))) Tryz.func85 Tryz.call85 (λargs rows=>Q1k (Q00.of (args.getD 0 .dead).cells)) [] [] 2 (λ_ _ _=>by kernel_rfl) (λ_ _=>rfl) (λ_ _ h=>h) (λ_ X=>by kernel_rfl)
def Q4t(m:Q00):Tree Bool:=
.lv (Q0v m.Mem) λ(x0:Int)=> .br (x0==0) (.lf false) (.br (m.B2.X.a0 !=0) (.lf false) (.br (decide (m.B2.B6.a0>31)) (.lf false) (.br (decide (m.B2.B6.a7>31)) (.lf false) (.br (decide (m.B2.B6.a6>255)) (.lf false) (.br (Int.tmod m.B2.B6.a1 (4:Int) !=(0:Int)) (.lf false) (.br (decide (m.A1>1152921504606846976)) (.lf false) (.br m.A4 (.br m.A7 (.lf false) (.an (Q2h m) (.lv (Q0x m) λ(x1:Bool)=> .lf x1))) (.an (Q2h m) (.lv (Q0x m) λ(x2:Bool)=> .lf x2)))))))))
def Q1a(m:Q00):Bool:=(Q4t m).m
abbrev Q56(m:Q00):Prop:=(Q4t m).p
def Z8y:Q0c:=mkP 43 [] true [.agg Q00.sig] [] (λargs rows=>Q56 (Q00.of (args.getD 0 .dead).cells)) (λargs rows=>Q1a (Q00.of (args.getD 0 .dead).cells)) (λX=> .bool X) (λX=>[])
theorem Qj9:Q05 Tryz.prog Z8y:=Q0n Q0j Q0k (.cons Q3t (.cons Qm9 (.nil))) Tryz.func43 Tryz.call43 (λargs rows=>Q4t (Q00.of (args.getD 0 .dead).cells)) [] [] 2 (λ_ _ _=>by kernel_rfl) (λ_ _=>rfl) (λ_ _ h=>h) (λ_ X=>by kernel_rfl)
def Qna(t:Q0g):Tree Bool:=
.lf t.D5
def Qfq(t:Q0g):Bool:=(Qna t).m
def Z1m:Q0c:=mkR 92 [] true [.agg Q0g.sig] [] (λargs rows=>Qfq (Q0g.of (args.getD 0 .dead).cells)) (λX=> .bool X) (λX=>[])
theorem Qxt:Q05 Tryz.prog Z1m:=Q0z Q0j Q0k (.nil) Tryz.func92 Tryz.call92 (λargs rows=>Qna (Q0g.of (args.getD 0 .dead).cells)) [] [] 2 (λ_ _ _=>by kernel_rfl) (λ_ _=>rfl) (λ_ _=>Tree.free_ok (by kernel_rfl)) (λ_ X=>by kernel_rfl)
def Qk2(c:Q0b):Tree Bool:=
.lf (!decide (c.D3=[]))
def Q98(c:Q0b):Bool:=(Qk2 c).m
def Qtn:Q0c:=mkR 93 [] true [.agg Q0b.sig] [] (λargs rows=>Q98 (Q0b.of (args.getD 0 .dead).cells)) (λX=> .bool X) (λX=>[])
theorem Qry:Q05 Tryz.prog Qtn:=Q0z Q0j Q0k (.nil) Tryz.func93 Tryz.call93 (λargs rows=>Qk2 (Q0b.of (args.getD 0 .dead).cells)) [] [] 2 (λ_ _ _=>by kernel_rfl) (λ_ _=>rfl) (λ_ _=>Tree.free_ok (by kernel_rfl)) (λ_ X=>by kernel_rfl)
def Qj1(d0:Q0e):Tree Bool:=
.br (d0.C1==2) (.lf true) (.lf (d0.C1==3))
def Q9i(d0:Q0e):Bool:=(Qj1 d0).m
def Z2r:Q0c:=mkR 94 [] true [.agg Q0e.sig] [] (λargs rows=>Q9i (Q0e.of (args.getD 0 .dead).cells)) (λX=> .bool X) (λX=>[])
theorem Qmj:Q05 Tryz.prog Z2r:=Q0z Q0j Q0k (.nil) Tryz.func94 Tryz.call94 (λargs rows=>Qj1 (Q0e.of (args.getD 0 .dead).cells)) [] [] 2 (λ_ _ _=>by kernel_rfl) (λ_ _=>rfl) (λ_ _=>Tree.free_ok (by kernel_rfl)) (λ_ X=>by kernel_rfl)
def Qr3(n:Q0q):Tree Bool:=
.lf n.B8
def Qkz(n:Q0q):Bool:=(Qr3 n).m
def Z6w:Q0c:=mkR 95 [] true [.agg Q0q.sig] [] (λargs rows=>Qkz (Q0q.of (args.getD 0 .dead).cells)) (λX=> .bool X) (λX=>[])
theorem Z2e:Q05 Tryz.prog Z6w:=Q0z Q0j Q0k (.nil) Tryz.func95 Tryz.call95 (λargs rows=>Qr3 (Q0q.of (args.getD 0 .dead).cells)) [] [] 2 (λ_ _ _=>by kernel_rfl) (λ_ _=>rfl) (λ_ _=>Tree.free_ok (by kernel_rfl)) (λ_ X=>by kernel_rfl)
def Q30(x:Int):Tree Int:=
let E1:=(↑(List.length (List.append (List.append tblYc4 Qps) (List.append Qps Zba))):Int); .cn (decide (0<=ishr u32 x 24/\ishr u32 x 24<E1)) (.cn (decide (0<=iand u32 (ishr u32 x 16) 255/\iand u32 (ishr u32 x 16) 255<E1)) (.cn (decide (0<=iand u32 (ishr u32 x 8) 255/\iand u32 (ishr u32 x 8) 255<E1)) (.cn (decide (0<=iand u32 x 255/\iand u32 x 255<E1)) (.lf (wrap i64 (wrap u8 (wrap u8 (wrap u8 ((↑(UInt8.toNat (List.getD ((0:UInt8)::(Zi1++Qps++(Qps++Zba))) (Int.toNat (ishr u32 x 24)) (0:UInt8))):Int)+(↑(UInt8.toNat (List.getD ((0:UInt8)::(Zi1++Qps++(Qps++Zba))) (Int.toNat (iand u32 (ishr u32 x 16) 255)) (0:UInt8))):Int))+(↑(UInt8.toNat (List.getD ((0:UInt8)::(Zi1++Qps++(Qps++Zba))) (Int.toNat (iand u32 (ishr u32 x 8) 255)) (0:UInt8))):Int))+(↑(UInt8.toNat (List.getD ((0:UInt8)::(Zi1++Qps++(Qps++Zba))) (Int.toNat (iand u32 x 255)) (0:UInt8))):Int))))))))
def Q5t(x:Int):Int:=(Q30 x).m
abbrev Qai(x:Int):Prop:=(Q30 x).p
def Ql:Q0c:=mkP 208 [] true [.one (.int .u32)] [] (λargs rows=>Qai (argI args 0)) (λargs rows=>Q5t (argI args 0)) (λX=> .int .i64 X) (λX=>[])
theorem Qjl:Q05 Tryz.prog Ql:=Q0n Q0j Q0k (.nil) Tryz.func208 Tryz.call208 (λargs rows=>Q30 (argI args 0)) [] [] 2 (λ_ _ _=>by kernel_rfl) (λ_ _=>rfl) (λ_ _ h=>h) (λ_ X=>by kernel_rfl)
def Q90(b:Q07):Tree Int:=
.an (Qai b.C2) (.lv (Q5t b.C2) λ(x0:Int)=> .lf x0)
def Qc6(b:Q07):Int:=(Q90 b).m
abbrev Qcw(b:Q07):Prop:=(Q90 b).p
def Qzi:Q0c:=mkP 152 [] true [.agg Q07.sig] [] (λargs rows=>Qcw (Q07.of (args.getD 0 .dead).cells)) (λargs rows=>Qc6 (Q07.of (args.getD 0 .dead).cells)) (λX=> .int .i64 X) (λX=>[])
theorem Qlk:Q05 Tryz.prog Qzi:=Q0n Q0j Q0k (.cons Qjl (.nil)) Tryz.func152 Tryz.call152 (λargs rows=>Q90 (Q07.of (args.getD 0 .dead).cells)) [] [] 2 (λ_ _ _=>by kernel_rfl) (λ_ _=>rfl) (λ_ _ h=>h) (λ_ X=>by kernel_rfl)
def Q52(b:Q07):Tree Bool:=
.an (Qcw b) (.lv (Qc6 b) λ(x0:Int)=> .lf (wrap u32 x0 !=b.D0))
def Q6n(b:Q07):Bool:=(Q52 b).m
abbrev Qgl(b:Q07):Prop:=(Q52 b).p
def Qv8:Q0c:=mkP 96 [] true [.agg Q07.sig] [] (λargs rows=>Qgl (Q07.of (args.getD 0 .dead).cells)) (λargs rows=>Q6n (Q07.of (args.getD 0 .dead).cells)) (λX=> .bool X) (λX=>[])
theorem Qsp:Q05 Tryz.prog Qv8:=Q0n Q0j Q0k (.cons Qlk (.nil)) Tryz.func96 Tryz.call96 (λargs rows=>Q52 (Q07.of (args.getD 0 .dead).cells)) [] [] 2 (λ_ _ _=>by kernel_rfl) (λ_ _=>rfl) (λ_ _ h=>h) (λ_ X=>by kernel_rfl)
def Qgv(m:Q00)(z:(Int)×(Int)):Nat:=(5-z.2).toNat
def Q6j(m:Q00):Tree Int:=
.lv (Qfq m.B0) λ(x0:Bool)=> .lv (Q98 m.A3) λ(x1:Bool)=> .lv (Q9i m.B1) λ(x2:Bool)=> .lv (Qkz m.C5) λ(x3:Bool)=> .an (Qgl m.A2) (.lv (Q6n m.A2) λ(x4:Bool)=> .lp inferInstance (Qgv m (0,0)+1) ((rE (0:Int)/\(rE (x0:Bool)/\rE (x1:Bool)/\rE (x2:Bool)/\rE (x3:Bool)/\rE (x4:Bool)/\True)/\rE (0:Int)/\True)/\True) (0,0) λ(v0:Int×Int)=> .br (decide (v0.2<5)) (.cn (Nat.beq 1 1&&(Nat.beq 5 5&&decide (0<=v0.2/\v0.2<(↑5:Int)))) (.br (List.getD [x0,x1,x2,x3,x4] v0.2.toNat false) (.cn (decide (0<=v0.2)) (.nx ((rE ((ior u32 v0.1 (ishl u32 1 v0.2)):Int)/\(rE (x0:Bool)/\rE (x1:Bool)/\rE (x2:Bool)/\rE (x3:Bool)/\rE (x4:Bool)/\True)/\rE ((wrap i64 (v0.2+1)):Int)/\True)/\True) (Sum.inl (ior u32 v0.1 (ishl u32 1 v0.2),wrap i64 (v0.2+1))))) (.nx ((rE v0.1/\(rE (x0:Bool)/\rE (x1:Bool)/\rE (x2:Bool)/\rE (x3:Bool)/\rE (x4:Bool)/\True)/\rE ((wrap i64 (v0.2+1)):Int)/\True)/\True) (Sum.inl (v0.1,wrap i64 (v0.2+1)))))) (.lf (Sum.inr v0.1)))
def Qbk(m:Q00):Int:=(Q6j m).m
abbrev Qk8(m:Q00):Prop:=(Q6j m).p
def Qxv:LInv:={
 α:=(Int)×(Int)
 F:=λst a=>([(4, .int u32 a.1),(23,(lk st 23)),(24, .int i64 a.2)],[])
 a0:=λst=>((lk st 4).toInt,(lk st 24).toInt)
 ex0:=λst=>[]++[]
 next:=λst=>((lk st 4).toInt,(lk st 24).toInt)
 ex:=λst=>[]++[]}
def Qsx:List (Nat×LInv):=[(4,Qxv)]
def Qyx:Q0c:=mkP 45 [] true [.agg Q00.sig] [] (λargs rows=>Qk8 (Q00.of (args.getD 0 .dead).cells)) (λargs rows=>Qbk (Q00.of (args.getD 0 .dead).cells)) (λX=> .int .u32 X) (λX=>[])
theorem Qwt:Q05 Tryz.prog Qyx:=Q0n Q0j Q0k (.cons Qxt (.cons Qry (.cons Qmj (.cons Z2e (.cons Qsp (.nil)))))) Tryz.func45 Tryz.call45 (λargs rows=>Q6j (Q00.of (args.getD 0 .dead).cells)) [] Qsx 3 (λ_ _ _=>by kernel_rfl) (λ_ _=>rfl) (λ_ _ h=>h) (λ_ X=>by kernel_rfl)
def Q2p(m:Q00):Tree Int:=
.an (Qk8 m) (.lv (Qbk m) λ(x0:Int)=> .lf (iand u32 x0 m.B2.B6.a7))
def Q5a(m:Q00):Int:=(Q2p m).m
abbrev Qb1(m:Q00):Prop:=(Q2p m).p
def Qv4:Q0c:=mkP 103 [] true [.agg Q00.sig] [] (λargs rows=>Qb1 (Q00.of (args.getD 0 .dead).cells)) (λargs rows=>Q5a (Q00.of (args.getD 0 .dead).cells)) (λX=> .int .u32 X) (λX=>[])
theorem Qip:Q05 Tryz.prog Qv4:=Q0n Q0j Q0k (.cons Qwt (.nil)) Tryz.func103 Tryz.call103 (λargs rows=>Q2p (Q00.of (args.getD 0 .dead).cells)) [] [] 2 (λ_ _ _=>by kernel_rfl) (λ_ _=>rfl) (λ_ _ h=>h) (λ_ X=>by kernel_rfl)
def Q2u(m:Q00):Tree Bool:=
.br m.A4 (.an (Qb1 m) (.lv (Q5a m) λ(x0:Int)=> .lf (x0==0))) (.lf false)
def Q37(m:Q00):Bool:=(Q2u m).m
abbrev Q5q(m:Q00):Prop:=(Q2u m).p
def Z3k:Q0c:=mkP 47 [] true [.agg Q00.sig] [] (λargs rows=>Q5q (Q00.of (args.getD 0 .dead).cells)) (λargs rows=>Q37 (Q00.of (args.getD 0 .dead).cells)) (λX=> .bool X) (λX=>[])
theorem Qmv:Q05 Tryz.prog Z3k:=Q0n Q0j Q0k (.cons Qip (.nil)) Tryz.func47 Tryz.call47 (λargs rows=>Q2u (Q00.of (args.getD 0 .dead).cells)) [] [] 2 (λ_ _ _=>by kernel_rfl) (λ_ _=>rfl) (λ_ _ h=>h) (λ_ X=>by kernel_rfl)
end
end Go.Proofs.YtjaifpiopmhmlaaGreat

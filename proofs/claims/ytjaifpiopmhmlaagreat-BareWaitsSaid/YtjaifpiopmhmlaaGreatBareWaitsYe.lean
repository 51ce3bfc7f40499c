/-
  Functions of the program: models, and that its calls come to them (by a program: gen3.py).
-/
import Derived.Test.YtjaifpiopmhmlaaGreatBareWaitsBase
import Derived.Test.YtjaifpiopmhmlaaGreatBareWaitsYd
import Derived.Test.YtjaifpiopmhmlaaGreatBareWaitsYb
set_option maxRecDepth 100000
set_option linter.unusedVariables false
set_option linter.unusedSimpArgs false
namespace Go.Proofs.YtjaifpiopmhmlaaGreat
open Go Go.GD Go.IntKind
noncomputable section
def Qtx(op:Int):Tree Int:=
let T1:Tree (Int):= .br (op==49) (.lf 3) (let T2:Tree (Int):= .br (op==24) (.lf 6) (.br (op==48) (.lf 7) (.br (op==58) (.lf 8) (.br (op==59) (.lf 8) (.br (op==60) (.lf 9) (.br (op==61) (.lf 9) (.br (op==56) (.lf 1) (.br (op==57) (.lf 1) (.br (decide (op≥62)) (.br (decide (op≤64)) (.lf 1) (.lf 0)) (.lf 0))))))))); .br (decide (op≥17)) (.br (decide (op≤19)) (.lf 4) (.br (decide (op≥20)) (.br (decide (op≤22)) (.lf 5) T2) T2)) (.br (decide (op≥20)) (.br (decide (op≤22)) (.lf 5) T2) T2));let T3:Tree (Int):= .br (op==16) (.lf 3) (.br (op==23) (.lf 3) (.br (decide (op≥32)) (.br (decide (op≤36)) (.lf 3) (.br (decide (op≥40)) (.br (decide (op≤45)) (.lf 3) T1) T1)) (.br (decide (op≥40)) (.br (decide (op≤45)) (.lf 3) T1) T1))); .br (decide (op≥1)) (.br (decide (op≤13)) (.lf 2) T3) T3
def Q2b(op:Int):Int:=(Qtx op).m
def Z6i:Q0e:=mkR 164 [] true [.one (.int .i64)] [] (λargs rows=>Q2b (argI args 0)) (λX=> .int .i64 X) (λX=>[])
theorem Qfv:Q09 Tryz.prog Z6i:=Q2l Q0s Q0r (.nil) Tryz.func164 Tryz.call164 (λargs rows=>Qtx (argI args 0)) [] [] 2 (λ_ _ _=>by kernel_rfl) (λ_ _=>rfl) (λ_ _=>Tree.free_ok (by kernel_rfl)) (λ_ X=>by kernel_rfl)
def Qah(r:Int):Tree Bool:=
.br (decide (r≥0)) (.lf (decide (r≤15))) (.lf false)
def Q6o(r:Int):Bool:=(Qah r).m
def Qt5:Q0e:=mkR 185 [] true [.one (.int .i64)] [] (λargs rows=>Q6o (argI args 0)) (λX=> .bool X) (λX=>[])
theorem Qqy:Q09 Tryz.prog Qt5:=Q2l Q0s Q0r (.nil) Tryz.func185 Tryz.call185 (λargs rows=>Qah (argI args 0)) [] [] 2 (λ_ _ _=>by kernel_rfl) (λ_ _=>rfl) (λ_ _=>Tree.free_ok (by kernel_rfl)) (λ_ X=>by kernel_rfl)
def Qhr(f:Int):Tree (Int×Int):=
.br (f==3) (.lf ((-32768),32767)) (.br (f==7) (.lf ((-32768),32767)) (.br (f==4) (.lf (0,65535)) (.br (f==6) (.lf (0,65535)) (.br (f==5) (.lf (0,31)) (.br (f==8) (.lf (0,7)) (.br (f==9) (.lf (0,11)) (.lf (0,0))))))))
def Qh8(f:Int):(Int×Int):=(Qhr f).m
def Z0b:Q0e:=mkR 165 [] true [.one (.int .i64)] [] (λargs rows=>Qh8 (argI args 0)) (λX=> .tup [.int .i64 (X.1), .int .i64 (X.2)]) (λX=>[])
theorem Ql9:Q09 Tryz.prog Z0b:=Q2l Q0s Q0r (.nil) Tryz.func165 Tryz.call165 (λargs rows=>Qhr (argI args 0)) [] [] 2 (λ_ _ _=>by kernel_rfl) (λ_ _=>rfl) (λ_ _=>Tree.free_ok (by kernel_rfl)) (λ_ X=>by kernel_rfl)
def Qbw(i:Q0f):Tree Bool:=
.lv (Q2b i.Op) λ(x0:Int)=> .br (x0==0) (.lf false) (.lv (Q6o i.A) λ(x1:Bool)=> .br (!x1) (.lf false) (.lv (Q6o i.B) λ(x2:Bool)=> .br (!x2) (.lf false) (.lv (Q6o i.C) λ(x3:Bool)=> .br (!x3) (.lf false) (.lv (Qh8 x0) λ(x4:Int×Int)=> .br (decide (wrap i64 i.Imm<x4.1)) (.lf false) (.br (decide (wrap i64 i.Imm>x4.2)) (.lf false) (let T1:Tree (Bool):= .br (x0==1) (.br (i.A !=0) (.lf false) (.br (i.B==0) (.lf true) (.br (decide (x0≥2)) (.lf (decide (x0≤5))) (.lf false)))) (.br (i.B==0) (.lf true) (.br (decide (x0≥2)) (.lf (decide (x0≤5))) (.lf false))); .br (x0 !=2) (.br (i.C !=0) (.lf false) T1) T1))))))
def Q62(i:Q0f):Bool:=(Qbw i).m
def Z2a:Q0e:=mkR 130 [] true [.agg Q0f.sig] [] (λargs rows=>Q62 (Q0f.of (args.getD 0 .dead).cells)) (λX=> .bool X) (λX=>[])
theorem Z1a:Q09 Tryz.prog Z2a:=Q2l Q0s Q0r (.cons Qfv (.cons Qqy (.cons Ql9 (.nil)))) Tryz.func130 Tryz.call130 (λargs rows=>Qbw (Q0f.of (args.getD 0 .dead).cells)) [] [] 2 (λ_ _ _=>by kernel_rfl) (λ_ _=>rfl) (λ_ _=>Tree.free_ok (by kernel_rfl)) (λ_ X=>by kernel_rfl)
def Qmc(i:Q0f):Tree (Int×Bool):=
.lv (Q62 i) λ(x0:Bool)=> .br (!x0) (.lf (0,false)) (.lf (ior u32 (ior u32 (ior u32 (ior u32 (ishl u32 (wrap u32 i.Op) 24) (ishl u32 (wrap u32 i.A) 20)) (ishl u32 (wrap u32 i.B) 16)) (iand u32 (wrap u32 i.Imm) 65535)) (wrap u32 i.C),true))
def Q1j(i:Q0f):(Int×Bool):=(Qmc i).m
def Z12:Q0e:=mkR 63 [] true [.agg Q0f.sig] [] (λargs rows=>Q1j (Q0f.of (args.getD 0 .dead).cells)) (λX=> .tup [.int .u32 (X.1), .bool (X.2)]) (λX=>[])
theorem Qla:Q09 Tryz.prog Z12:=Q2l Q0s Q0r (.cons Z1a (.nil)) Tryz.func63 Tryz.call63 (λargs rows=>Qmc (Q0f.of (args.getD 0 .dead).cells)) [] [] 2 (λ_ _ _=>by kernel_rfl) (λ_ _=>rfl) (λ_ _=>Tree.free_ok (by kernel_rfl)) (λ_ X=>by kernel_rfl)
def Zap:Tree (List Int):=
.lf ([1,2,3,4,5,6,7,8,9,10,11,12,13,16,16,17,18,19,20,21,22,23,24,24,32,32,33,34,35,35,36,40,41,42,43,44,45,48,49,56,57,58,59,60,60,61,61,62,63,64])
def make_ops:(List Int):=(Zap).m
def Z4y(seed:Int):Tree (Int×Int):=
let E1:=wrap u64 (ixor u64 (wrap u64 (seed+11400714819323198485)) (ishr u64 (wrap u64 (seed+11400714819323198485)) 30)*13787848793156543929);let E2:=wrap u64 (ixor u64 E1 (ishr u64 E1 27)*10723151780598845931); .lf (ixor u64 E2 (ishr u64 E2 31),wrap u64 (seed+11400714819323198485))
def ref1_Next(seed:Int):(Int×Int):=(Z4y seed).m
def Z9t(n:Int)(k:Int):Tree Int:=
.lv (ref1_Next (ixor u64 (wrap u64 n) (wrap u64 (wrap u64 k*11400714819323198485)))) λ(x0:Int×Int)=> .lf (wrap i64 (ishr u64 x0.1 1))
def make_Mix(n:Int)(k:Int):Int:=(Z9t n k).m
def Qfu(n:Int)(k:Int):Tree Int:=
.cn (decide (k≠0)) (.br (decide (Int.tmod n k<0)) (.lf (wrap i64 (Int.tmod n k+k))) (.lf (Int.tmod n k)))
def Qge(n:Int)(k:Int):Int:=(Qfu n k).m
abbrev Q7b(n:Int)(k:Int):Prop:=(Qfu n k).p
def Qh9(n:Int):Tree Q0f:=
.lv make_ops λ(x0:List Int)=> .lv (make_Mix n 1) λ(x1:Int)=> .an (Q7b x1 (x0.length:Int)) (.lv (Qge x1 (x0.length:Int)) λ(x2:Int)=> .cn (Nat.beq 1 1&&Nat.blt 0 1&&decide (0≤x2∧x2<(x0.length:Int))) (.an (Q7b (ishr i64 x1 8) 6) (.lv (Qge (ishr i64 x1 8) 6) λ(x3:Int)=> .an (Q7b (ishr i64 x1 12) 6) (.lv (Qge (ishr i64 x1 12) 6) λ(x4:Int)=> .an (Q7b (ishr i64 x1 16) 6) (.lv (Qge (ishr i64 x1 16) 6) λ(x5:Int)=> .an (Q7b (ishr i64 x1 20) 24) (.lv (Qge (ishr i64 x1 20) 24) λ(x6:Int)=> .br (decide (x0.getD x2.toNat (0:Int)≤(13:Int))) (.lf ({Op:=x0.getD x2.toNat 0,A:=x3,B:=x4,C:=x5,Imm:=0})) (let E4:=({Op:=x0.getD x2.toNat 0,A:=x3,B:=x4,C:=0,Imm:=wrap i32 (wrap i64 (wrap i64 (8*x6)-32))}:Q0f);let T1:Tree (Q0f):= .br (x0.getD x2.toNat (0:Int)==(49:Int)) (.lf (E4)) (.br (x0.getD x2.toNat (0:Int)==(24:Int)) (.lf ({Op:=x0.getD x2.toNat 0,A:=x3,B:=0,C:=0,Imm:=wrap i32 (wrap i64 (x6*iand i64 (ishr i64 x1 40) 1))})) (let T2:Tree (Q0f):=let E6:=({Op:=x0.getD x2.toNat 0,A:=x3,B:=0,C:=0,Imm:=wrap i32 (Int.tmod x6 8)}:Q0f); .br (x0.getD x2.toNat (0:Int)==(58:Int)) (.lf (E6)) (.br (x0.getD x2.toNat (0:Int)==(59:Int)) (.lf (E6)) (let E5:=({Op:=x0.getD x2.toNat 0,A:=x3,B:=0,C:=0,Imm:=wrap i32 (Int.tmod x6 12)}:Q0f); .br (x0.getD x2.toNat (0:Int)==(60:Int)) (.lf (E5)) (.br (x0.getD x2.toNat (0:Int)==(61:Int)) (.lf (E5)) (.lf ({Op:=x0.getD x2.toNat 0,A:=0,B:=0,C:=0,Imm:=0}))))); .br (decide (x0.getD x2.toNat (0:Int)≥(17:Int))) (.br (decide (x0.getD x2.toNat (0:Int)≤(22:Int))) (.lf ({Op:=x0.getD x2.toNat 0,A:=x3,B:=x4,C:=0,Imm:=wrap i32 x6})) T2) T2));let T3:Tree (Q0f):= .br (x0.getD x2.toNat (0:Int)==(16:Int)) (.lf (E4)) (.br (x0.getD x2.toNat (0:Int)==(23:Int)) (.lf (E4)) (.br (decide (x0.getD x2.toNat (0:Int)≥(32:Int))) (.br (decide (x0.getD x2.toNat (0:Int)≤(36:Int))) (.lf (E4)) T1) T1)); .br (decide (x0.getD x2.toNat (0:Int)≥(40:Int))) (.br (decide (x0.getD x2.toNat (0:Int)≤(48:Int))) (.br (x0.getD x2.toNat (0:Int)==(48:Int)) (.lf ({Op:=x0.getD x2.toNat 0,A:=x3,B:=0,C:=0,Imm:=wrap i32 (wrap i64 (x6-12))})) (.lf ({Op:=x0.getD x2.toNat 0,A:=x3,B:=x4,C:=0,Imm:=wrap i32 (wrap i64 (x6-12))}))) T3) T3)))))))
def make_Inst(n:Int):Q0f:=(Qh9 n).m
abbrev Qn8(n:Int):Prop:=(Qh9 n).p
def Qsd(l:(List Int))(z:(Int)×(List Int)):Nat:=(l.length-z.1).toNat
def Qm0(l:(List Int)):Tree (List Int):=
.lp inferInstance (Qsd l (0,[])+1) ((((Els.Nil (Els.ints i64 l)∨rE (1:Nat))∧rE (l:List Int))∧True∧rE (0:Int)∧True)∧rE ([]:List Int)∧True) (0,[]) λ(v0:Int×List Int)=> .br (decide (v0.1<(l.length:Int))) (let E1:=Nat.beq 1 1&&Nat.blt 0 1&&decide (0≤v0.1∧v0.1<(l.length:Int)); .cn E1 (let E2:=decide (4*(v0.2.length+1)≤140737488355328); .br (Int.tmod (l.getD v0.1.toNat 0) (17:Int)==(0:Int)) (.cn E1 (.cn E2 (.nx ((((Els.Nil (Els.ints i64 l)∨rE (1:Nat))∧rE (l:List Int))∧True∧rE ((wrap i64 (v0.1+1)):Int)∧True)∧rE ((v0.2++[wrap u32 (iand i64 (l.getD v0.1.toNat 0) 4294967295)]):List Int)∧True) (Sum.inl (wrap i64 (v0.1+1),v0.2++[wrap u32 (iand i64 (l.getD v0.1.toNat 0) 4294967295)]))))) (.cn E1 (.an (Qn8 (l.getD v0.1.toNat 0)) (.lv (make_Inst (l.getD v0.1.toNat 0)) λ(x0:Q0f)=> .lv (Q1j x0) λ(x1:Int×Bool)=> .cn E2 (.nx ((((Els.Nil (Els.ints i64 l)∨rE (1:Nat))∧rE (l:List Int))∧True∧rE ((wrap i64 (v0.1+1)):Int)∧True)∧rE ((v0.2++[x1.1]):List Int)∧True) (Sum.inl (wrap i64 (v0.1+1),v0.2++[x1.1])))))))) (.lf (Sum.inr v0.2))
abbrev Z0y(l:(List Int)):Prop:=(Qm0 l).p
def Qq9(pc:Int):Tree Q02:=
.lf ({X:={a0:=0,a1:=0,a2:=0,a3:=0,a4:=0,a5:=0,a6:=0,a7:=0,a8:=0,a9:=0,a10:=0,a11:=0,a12:=0,a13:=0,a14:=0,a15:=0},Pc:=pc,B3:={a0:=1,a1:=0,a2:=0,a3:=0,a4:=0,a5:=0,a6:=0,a7:=0}})
def Qxs(pc:Int):Q02:=(Qq9 pc).m
def Z2l:Q0e:=mkR 119 [] true [.one (.int .u32)] [] (λargs rows=>Qxs (argI args 0)) (λX=> .agg (Q02.cells X)) (λX=>[])
theorem Z0c:Q09 Tryz.prog Z2l:=Q2l Q0s Q0r (.nil) Tryz.func119 Tryz.call119 (λargs rows=>Qq9 (argI args 0)) [] [] 2 (λ_ _ _=>by kernel_rfl) (λ_ _=>rfl) (λ_ _=>Tree.free_ok (by kernel_rfl)) (λ_ X=>by kernel_rfl)
def Qau(pages:Int):Tree (List Int):=
.br (decide (pages<1)) (.lf ([])) (.br (decide (pages>32)) (.lf ([])) (.cn (Nat.blt 0 1&&Nat.beq 1 1&&List.all [D.int u32 0] D.plain&&decide (0≤wrap i64 (pages*32)∧wrap i64 (pages*32)≤wrap i64 (pages*32)∧wrap i64 (pages*32)≤9223372036854775807∧(↑4:Int)*wrap i64 (pages*32)≤140737488355328)) (.lf (List.replicate (Int.toNat (wrap i64 (pages*32))) 0))))
def Z7v(pages:Int):(List Int):=(Qau pages).m
abbrev Qfk(pages:Int):Prop:=(Qau pages).p
def Z9j:Q0e:=mkP 120 [] true [.one (.int .i64)] [] (λargs rows=>Qfk (argI args 0)) (λargs rows=>Z7v (argI args 0)) (λX=> .all 0) (λX=>[⟨false,23,1, .ints .u32 X⟩])
theorem Z67:Q09 Tryz.prog Z9j:=Q0z Q0s Q0r (.nil) Tryz.func120 Tryz.call120 (λargs rows=>Qau (argI args 0)) [.row 23 1 (.ints .u32)] [] 2 (λ_ _ _=>by kernel_rfl) (λ_ _=>rfl) (λ_ _ h=>h) (λ_ X=>by kernel_rfl)
def Qaw(pages:Int)(blocks:Int)(image:(List Int)):Tree (Q00×Bool):=
let E2:=({B0:=0,D9:=0,C2:=false,B9:=0,B7:=false,F0:=0}:Q0n);let T1:Tree ((Q00×Bool)):= .lf ({B1:={X:={a0:=0,a1:=0,a2:=0,a3:=0,a4:=0,a5:=0,a6:=0,a7:=0,a8:=0,a9:=0,a10:=0,a11:=0,a12:=0,a13:=0,a14:=0,a15:=0},Pc:=0,B3:={a0:=0,a1:=0,a2:=0,a3:=0,a4:=0,a5:=0,a6:=0,a7:=0}},Mem:=[],A2:={C9:=[]},A6:={D4:=false,C7:=0,D3:=false},A7:={Blocks:=0,B5:=0,B0:=0,B8:=0,D6:=0,B4:=0,A9:=0,C1:=[]},C4:=E2,A1:={C6:=0,C0:=0},A0:=0,A3:=false,A4:=false},false); .br (decide (pages<1)) T1 (.br (decide (pages>32)) T1 (.br (decide (blocks<0)) T1 (.br (decide (blocks>64)) T1 (.br (decide ((image.length:Int)>wrap i64 (pages*32))) T1 (.lv (Qxs 0) λ(x0:Q02)=> .an (Qfk pages) (.lv (Z7v pages) λ(x1:List Int)=> .lf ({B1:=x0,Mem:=List.take (Min.min (image.length) (x1.length)) image++List.drop (Min.min (image.length) (x1.length)) x1,A2:={C9:=[]},A6:={D4:=false,C7:=0,D3:=false},A7:={Blocks:=wrap u32 blocks,B5:=0,B0:=0,B8:=0,D6:=0,B4:=0,A9:=0,C1:=[]},C4:=E2,A1:={C6:=0,C0:=0},A0:=0,A3:=false,A4:=false},true)))))))
def Qzz(pages:Int)(blocks:Int)(image:(List Int)):(Q00×Bool):=(Qaw pages blocks image).m
abbrev Qbt(pages:Int)(blocks:Int)(image:(List Int)):Prop:=(Qaw pages blocks image).p
def Za7:Q0e:=mkP 56 [] true [.one (.int .i64), .one (.int .i64), .one (.ints .u32)] [] (λargs rows=>Qbt (argI args 0) (argI args 1) (argL .u32 args 2)) (λargs rows=>Qzz (argI args 0) (argI args 1) (argL .u32 args 2)) (λX=> .tup [.agg (Q00.cellsW (X.1) (.all 0)), .bool (X.2)]) (λX=>[⟨false,23,1, .ints .u32 (X.1).Mem⟩])
theorem Qur:Q09 Tryz.prog Za7:=Q0z Q0s Q0r (.cons Z0c (.cons Z67 (.nil))) Tryz.func56 Tryz.call56 (λargs rows=>Qaw (argI args 0) (argI args 1) (argL .u32 args 2)) [.row 23 1 (.ints .u32)] [] 2 (λ_ _ _=>by kernel_rfl) (λ_ _=>rfl) (λ_ _ h=>h) (λ_ X=>by kernel_rfl)
def Qkw(a:(List Int))(b:(List Int))(z:(Int)):Nat:=(a.length-z).toNat
def Qr4(a:(List Int))(b:(List Int)):Tree Bool:=
.br ((a.length:Int) !=(b.length:Int)) (.lf false) (.lp inferInstance (Qkw a b 0+1) ((((Els.Nil (Els.ints u32 a)∨rE (1:Nat))∧rE (a:List Int))∧((Els.Nil (Els.ints u32 b)∨rE (1:Nat))∧rE (b:List Int))∧rE (0:Int)∧True)∧True) 0 λ(v0:Int)=> .br (decide (v0<(a.length:Int))) (.cn (Nat.beq 1 1&&Nat.blt 0 1&&decide (0≤v0∧v0<(a.length:Int))) (.cn (Nat.beq 1 1&&Nat.blt 0 1&&decide (0≤v0∧v0<(b.length:Int))) (.br (a.getD v0.toNat 0 !=b.getD v0.toNat 0) (.lf (Sum.inr false)) (.nx ((((Els.Nil (Els.ints u32 a)∨rE (1:Nat))∧rE (a:List Int))∧((Els.Nil (Els.ints u32 b)∨rE (1:Nat))∧rE (b:List Int))∧rE ((wrap i64 (v0+1)):Int)∧True)∧True) (Sum.inl (wrap i64 (v0+1))))))) (.lf (Sum.inr true)))
def Qwc(a:(List Int))(b:(List Int)):Bool:=(Qr4 a b).m
def Q7h(a:(List Int))(b:(List Int)):Prop:=
a.length≤1000000000000
def Qlg(a:Q00)(b:Q00):Tree Bool:=
.br (eqs [D.int u32 a.B1.X.a0,D.int u32 a.B1.X.a1,D.int u32 a.B1.X.a2,D.int u32 a.B1.X.a3,D.int u32 a.B1.X.a4,D.int u32 a.B1.X.a5,D.int u32 a.B1.X.a6,D.int u32 a.B1.X.a7,D.int u32 a.B1.X.a8,D.int u32 a.B1.X.a9,D.int u32 a.B1.X.a10,D.int u32 a.B1.X.a11,D.int u32 a.B1.X.a12,D.int u32 a.B1.X.a13,D.int u32 a.B1.X.a14,D.int u32 a.B1.X.a15,D.int u32 a.B1.Pc,D.int u32 a.B1.B3.a0,D.int u32 a.B1.B3.a1,D.int u32 a.B1.B3.a2,D.int u32 a.B1.B3.a3,D.int u32 a.B1.B3.a4,D.int u32 a.B1.B3.a5,D.int u32 a.B1.B3.a6,D.int u32 a.B1.B3.a7] [D.int u32 b.B1.X.a0,D.int u32 b.B1.X.a1,D.int u32 b.B1.X.a2,D.int u32 b.B1.X.a3,D.int u32 b.B1.X.a4,D.int u32 b.B1.X.a5,D.int u32 b.B1.X.a6,D.int u32 b.B1.X.a7,D.int u32 b.B1.X.a8,D.int u32 b.B1.X.a9,D.int u32 b.B1.X.a10,D.int u32 b.B1.X.a11,D.int u32 b.B1.X.a12,D.int u32 b.B1.X.a13,D.int u32 b.B1.X.a14,D.int u32 b.B1.X.a15,D.int u32 b.B1.Pc,D.int u32 b.B1.B3.a0,D.int u32 b.B1.B3.a1,D.int u32 b.B1.B3.a2,D.int u32 b.B1.B3.a3,D.int u32 b.B1.B3.a4,D.int u32 b.B1.B3.a5,D.int u32 b.B1.B3.a6,D.int u32 b.B1.B3.a7]) (.an (Q7h a.Mem b.Mem) (.lv (Qwc a.Mem b.Mem) λ(x0:Bool)=> .br x0 (.br (eqs [D.str a.A2.C9] [D.str b.A2.C9]) (.br (eqs [D.bool a.A6.D4,D.int u32 a.A6.C7,D.bool a.A6.D3] [D.bool b.A6.D4,D.int u32 b.A6.C7,D.bool b.A6.D3]) (.br (eqs [D.int u32 a.A7.Blocks,D.int u32 a.A7.B5,D.int u32 a.A7.B0,D.int i64 a.A7.B8,D.int i64 a.A7.D6,D.int u32 a.A7.B4,D.int u32 a.A7.A9,D.str a.A7.C1] [D.int u32 b.A7.Blocks,D.int u32 b.A7.B5,D.int u32 b.A7.B0,D.int i64 b.A7.B8,D.int i64 b.A7.D6,D.int u32 b.A7.B4,D.int u32 b.A7.A9,D.str b.A7.C1]) (.br (eqs [D.int u32 a.C4.B0,D.int u32 a.C4.D9,D.bool a.C4.C2,D.int u32 a.C4.B9,D.bool a.C4.B7,D.int u32 a.C4.F0] [D.int u32 b.C4.B0,D.int u32 b.C4.D9,D.bool b.C4.C2,D.int u32 b.C4.B9,D.bool b.C4.B7,D.int u32 b.C4.F0]) (.br (eqs [D.int u32 a.A1.C6,D.int u32 a.A1.C0] [D.int u32 b.A1.C6,D.int u32 b.A1.C0]) (.br (a.A0==b.A0) (.br (a.A3==b.A3) (.lf (a.A4==b.A4)) (.lf false)) (.lf false)) (.lf false)) (.lf false)) (.lf false)) (.lf false)) (.lf false)) (.lf false))) (.lf false)
abbrev Z0m(a:Q00)(b:Q00):Prop:=(Qlg a b).p
def Q1g(m:Q00):Tree Bool:=
.an (Q75 m) (.lv (Q29 m) λ(x0:Bool)=> .br (!x0) (.lf false) (.an (Q5y m) (.lv (Q0h m) λ(x1:Q00)=> .an (Qbr x1.B1 x1.Mem) (.lv (Q4a x1.B1 x1.Mem) λ(x2:Q02×List Int×Q1)=> .br (x2.2.2.B2==1) (.lf (x2.2.2.C8==2)) (.lf false)))))
def Q1l(m:Q00):Bool:=(Q1g m).m
abbrev Q24(m:Q00):Prop:=(Q1g m).p
def Qku:Q0e:=mkP 49 [] true [.agg Q00.sig] [] (λargs rows=>Q24 (Q00.of (args.getD 0 .dead).cells)) (λargs rows=>Q1l (Q00.of (args.getD 0 .dead).cells)) (λX=> .bool X) (λX=>[])
theorem Qis:Q09 Tryz.prog Qku:=Q0z Q0s Q0r (.cons Qjg (.cons Qig (.cons Qtp (.nil)))) Tryz.func49 Tryz.call49 (λargs rows=>Q1g (Q00.of (args.getD 0 .dead).cells)) [] [] 2 (λ_ _ _=>by kernel_rfl) (λ_ _=>rfl) (λ_ _ h=>h) (λ_ X=>by kernel_rfl)
end
end Go.Proofs.YtjaifpiopmhmlaaGreat

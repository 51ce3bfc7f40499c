/-
  Functions of the program: models, and that its calls come to them (by a program: gen3.py).
-/
import Derived.Test.YtjaifpiopmhmlaaGreatBareDriversBase
import Derived.Test.YtjaifpiopmhmlaaGreatBareDriversYd
import Derived.Test.YtjaifpiopmhmlaaGreatBareDriversYb
set_option maxRecDepth 100000
set_option linter.unusedVariables false
set_option linter.unusedSimpArgs false
namespace Go.Proofs.YtjaifpiopmhmlaaGreat
open Go Go.GD Go.IntKind
noncomputable section
def Qtt(op:Int):Tree Int:=
let T1:Tree (Int):= .br (op==49) (.lf 3) (let T2:Tree (Int):= .br (op==24) (.lf 6) (.br (op==48) (.lf 7) (.br (op==58) (.lf 8) (.br (op==59) (.lf 8) (.br (op==60) (.lf 9) (.br (op==61) (.lf 9) (.br (op==56) (.lf 1) (.br (op==57) (.lf 1) (.br (decide (op≥62)) (.br (decide (op≤64)) (.lf 1) (.lf 0)) (.lf 0))))))))); .br (decide (op≥17)) (.br (decide (op≤19)) (.lf 4) (.br (decide (op≥20)) (.br (decide (op≤22)) (.lf 5) T2) T2)) (.br (decide (op≥20)) (.br (decide (op≤22)) (.lf 5) T2) T2));let T3:Tree (Int):= .br (op==16) (.lf 3) (.br (op==23) (.lf 3) (.br (decide (op≥32)) (.br (decide (op≤36)) (.lf 3) (.br (decide (op≥40)) (.br (decide (op≤45)) (.lf 3) T1) T1)) (.br (decide (op≥40)) (.br (decide (op≤45)) (.lf 3) T1) T1))); .br (decide (op≥1)) (.br (decide (op≤13)) (.lf 2) T3) T3
def Q23(op:Int):Int:=(Qtt op).m
def Z6p:Q0e:=mkR 164 [] true [.one (.int .i64)] [] (λargs rows=>Q23 (argI args 0)) (λX=> .int .i64 X) (λX=>[])
theorem Qft:Q08 Tryz.prog Z6p:=Q2j Q0r Q0s (.nil) Tryz.func164 Tryz.call164 (λargs rows=>Qtt (argI args 0)) [] [] 2 (λ_ _ _=>by kernel_rfl) (λ_ _=>rfl) (λ_ _=>Tree.free_ok (by kernel_rfl)) (λ_ X=>by kernel_rfl)
def Q9z(r:Int):Tree Bool:=
.br (decide (r≥0)) (.lf (decide (r≤15))) (.lf false)
def Q6k(r:Int):Bool:=(Q9z r).m
def Quk:Q0e:=mkR 185 [] true [.one (.int .i64)] [] (λargs rows=>Q6k (argI args 0)) (λX=> .bool X) (λX=>[])
theorem Qr2:Q08 Tryz.prog Quk:=Q2j Q0r Q0s (.nil) Tryz.func185 Tryz.call185 (λargs rows=>Q9z (argI args 0)) [] [] 2 (λ_ _ _=>by kernel_rfl) (λ_ _=>rfl) (λ_ _=>Tree.free_ok (by kernel_rfl)) (λ_ X=>by kernel_rfl)
def Qhn(f:Int):Tree (Int×Int):=
.br (f==3) (.lf ((-32768),32767)) (.br (f==7) (.lf ((-32768),32767)) (.br (f==4) (.lf (0,65535)) (.br (f==6) (.lf (0,65535)) (.br (f==5) (.lf (0,31)) (.br (f==8) (.lf (0,7)) (.br (f==9) (.lf (0,11)) (.lf (0,0))))))))
def Qh(f:Int):(Int×Int):=(Qhn f).m
def Qzs:Q0e:=mkR 165 [] true [.one (.int .i64)] [] (λargs rows=>Qh (argI args 0)) (λX=> .tup [.int .i64 (X.1), .int .i64 (X.2)]) (λX=>[])
theorem Qkx:Q08 Tryz.prog Qzs:=Q2j Q0r Q0s (.nil) Tryz.func165 Tryz.call165 (λargs rows=>Qhn (argI args 0)) [] [] 2 (λ_ _ _=>by kernel_rfl) (λ_ _=>rfl) (λ_ _=>Tree.free_ok (by kernel_rfl)) (λ_ X=>by kernel_rfl)
def Qc(i:Q0g):Tree Bool:=
.lv (Q23 i.Op) λ(x0:Int)=> .br (x0==0) (.lf false) (.lv (Q6k i.A) λ(x1:Bool)=> .br (!x1) (.lf false) (.lv (Q6k i.B) λ(x2:Bool)=> .br (!x2) (.lf false) (.lv (Q6k i.C) λ(x3:Bool)=> .br (!x3) (.lf false) (.lv (Qh x0) λ(x4:Int×Int)=> .br (decide (wrap i64 i.Imm<x4.1)) (.lf false) (.br (decide (wrap i64 i.Imm>x4.2)) (.lf false) (let T1:Tree (Bool):= .br (x0==1) (.br (i.A !=0) (.lf false) (.br (i.B==0) (.lf true) (.br (decide (x0≥2)) (.lf (decide (x0≤5))) (.lf false)))) (.br (i.B==0) (.lf true) (.br (decide (x0≥2)) (.lf (decide (x0≤5))) (.lf false))); .br (x0 !=2) (.br (i.C !=0) (.lf false) T1) T1))))))
def Q5v(i:Q0g):Bool:=(Qc i).m
def Z3q:Q0e:=mkR 130 [] true [.agg Q0g.sig] [] (λargs rows=>Q5v (Q0g.of (args.getD 0 .dead).cells)) (λX=> .bool X) (λX=>[])
theorem Z0z:Q08 Tryz.prog Z3q:=Q2j Q0r Q0s (.cons Qft (.cons Qr2 (.cons Qkx (.nil)))) Tryz.func130 Tryz.call130 (λargs rows=>Qc (Q0g.of (args.getD 0 .dead).cells)) [] [] 2 (λ_ _ _=>by kernel_rfl) (λ_ _=>rfl) (λ_ _=>Tree.free_ok (by kernel_rfl)) (λ_ X=>by kernel_rfl)
def Qmv(i:Q0g):Tree (Int×Bool):=
.lv (Q5v i) λ(x0:Bool)=> .br (!x0) (.lf (0,false)) (.lf (ior u32 (ior u32 (ior u32 (ior u32 (ishl u32 (wrap u32 i.Op) 24) (ishl u32 (wrap u32 i.A) 20)) (ishl u32 (wrap u32 i.B) 16)) (iand u32 (wrap u32 i.Imm) 65535)) (wrap u32 i.C),true))
def Q1i(i:Q0g):(Int×Bool):=(Qmv i).m
def Qyy:Q0e:=mkR 63 [] true [.agg Q0g.sig] [] (λargs rows=>Q1i (Q0g.of (args.getD 0 .dead).cells)) (λX=> .tup [.int .u32 (X.1), .bool (X.2)]) (λX=>[])
theorem Ql3:Q08 Tryz.prog Qyy:=Q2j Q0r Q0s (.cons Z0z (.nil)) Tryz.func63 Tryz.call63 (λargs rows=>Qmv (Q0g.of (args.getD 0 .dead).cells)) [] [] 2 (λ_ _ _=>by kernel_rfl) (λ_ _=>rfl) (λ_ _=>Tree.free_ok (by kernel_rfl)) (λ_ X=>by kernel_rfl)
def Zar:Tree (List Int):=
.lf ([1,2,3,4,5,6,7,8,9,10,11,12,13,16,16,17,18,19,20,21,22,23,24,24,32,32,33,34,35,35,36,40,41,42,43,44,45,48,49,56,57,58,59,60,60,61,61,62,63,64])
def make_ops:(List Int):=(Zar).m
def Z5v(seed:Int):Tree (Int×Int):=
let E1:=wrap u64 (ixor u64 (wrap u64 (seed+11400714819323198485)) (ishr u64 (wrap u64 (seed+11400714819323198485)) 30)*13787848793156543929);let E2:=wrap u64 (ixor u64 E1 (ishr u64 E1 27)*10723151780598845931); .lf (ixor u64 E2 (ishr u64 E2 31),wrap u64 (seed+11400714819323198485))
def ref1_Next(seed:Int):(Int×Int):=(Z5v seed).m
def Zae(n:Int)(k:Int):Tree Int:=
.lv (ref1_Next (ixor u64 (wrap u64 n) (wrap u64 (wrap u64 k*11400714819323198485)))) λ(x0:Int×Int)=> .lf (wrap i64 (ishr u64 x0.1 1))
def make_Mix(n:Int)(k:Int):Int:=(Zae n k).m
def Qca(n:Int)(k:Int):Tree Int:=
.cn (decide (k≠0)) (.br (decide (Int.tmod n k<0)) (.lf (wrap i64 (Int.tmod n k+k))) (.lf (Int.tmod n k)))
def Q65(n:Int)(k:Int):Int:=(Qca n k).m
abbrev Q2y(n:Int)(k:Int):Prop:=(Qca n k).p
def Z47:Q0e:=mkP 28 [] true [.one (.int .i64), .one (.int .i64)] [] (λargs rows=>Q2y (argI args 0) (argI args 1)) (λargs rows=>Q65 (argI args 0) (argI args 1)) (λX=> .int .i64 X) (λX=>[])
theorem Qmo:Q08 Tryz.prog Z47:=Q0x Q0r Q0s (.nil) Tryz.func28 Tryz.call28 (λargs rows=>Qca (argI args 0) (argI args 1)) [] [] 2 (λ_ _ _=>by kernel_rfl) (λ_ _=>rfl) (λ_ _ h=>h) (λ_ X=>by kernel_rfl)
def Qho(n:Int):Tree Q0g:=
.lv make_ops λ(x0:List Int)=> .lv (make_Mix n 1) λ(x1:Int)=> .an (Q2y x1 (x0.length:Int)) (.lv (Q65 x1 (x0.length:Int)) λ(x2:Int)=> .cn (Nat.beq 1 1&&Nat.blt 0 1&&decide (0≤x2∧x2<(x0.length:Int))) (.an (Q2y (ishr i64 x1 8) 6) (.lv (Q65 (ishr i64 x1 8) 6) λ(x3:Int)=> .an (Q2y (ishr i64 x1 12) 6) (.lv (Q65 (ishr i64 x1 12) 6) λ(x4:Int)=> .an (Q2y (ishr i64 x1 16) 6) (.lv (Q65 (ishr i64 x1 16) 6) λ(x5:Int)=> .an (Q2y (ishr i64 x1 20) 24) (.lv (Q65 (ishr i64 x1 20) 24) λ(x6:Int)=> .br (decide (x0.getD x2.toNat (0:Int)≤(13:Int))) (.lf ({Op:=x0.getD x2.toNat 0,A:=x3,B:=x4,C:=x5,Imm:=0})) (let E4:=({Op:=x0.getD x2.toNat 0,A:=x3,B:=x4,C:=0,Imm:=wrap i32 (wrap i64 (wrap i64 (8*x6)-32))}:Q0g);let T1:Tree (Q0g):= .br (x0.getD x2.toNat (0:Int)==(49:Int)) (.lf (E4)) (.br (x0.getD x2.toNat (0:Int)==(24:Int)) (.lf ({Op:=x0.getD x2.toNat 0,A:=x3,B:=0,C:=0,Imm:=wrap i32 (wrap i64 (x6*iand i64 (ishr i64 x1 40) 1))})) (let T2:Tree (Q0g):=let E6:=({Op:=x0.getD x2.toNat 0,A:=x3,B:=0,C:=0,Imm:=wrap i32 (Int.tmod x6 8)}:Q0g); .br (x0.getD x2.toNat (0:Int)==(58:Int)) (.lf (E6)) (.br (x0.getD x2.toNat (0:Int)==(59:Int)) (.lf (E6)) (let E5:=({Op:=x0.getD x2.toNat 0,A:=x3,B:=0,C:=0,Imm:=wrap i32 (Int.tmod x6 12)}:Q0g); .br (x0.getD x2.toNat (0:Int)==(60:Int)) (.lf (E5)) (.br (x0.getD x2.toNat (0:Int)==(61:Int)) (.lf (E5)) (.lf ({Op:=x0.getD x2.toNat 0,A:=0,B:=0,C:=0,Imm:=0}))))); .br (decide (x0.getD x2.toNat (0:Int)≥(17:Int))) (.br (decide (x0.getD x2.toNat (0:Int)≤(22:Int))) (.lf ({Op:=x0.getD x2.toNat 0,A:=x3,B:=x4,C:=0,Imm:=wrap i32 x6})) T2) T2));let T3:Tree (Q0g):= .br (x0.getD x2.toNat (0:Int)==(16:Int)) (.lf (E4)) (.br (x0.getD x2.toNat (0:Int)==(23:Int)) (.lf (E4)) (.br (decide (x0.getD x2.toNat (0:Int)≥(32:Int))) (.br (decide (x0.getD x2.toNat (0:Int)≤(36:Int))) (.lf (E4)) T1) T1)); .br (decide (x0.getD x2.toNat (0:Int)≥(40:Int))) (.br (decide (x0.getD x2.toNat (0:Int)≤(48:Int))) (.br (x0.getD x2.toNat (0:Int)==(48:Int)) (.lf ({Op:=x0.getD x2.toNat 0,A:=x3,B:=0,C:=0,Imm:=wrap i32 (wrap i64 (x6-12))})) (.lf ({Op:=x0.getD x2.toNat 0,A:=x3,B:=x4,C:=0,Imm:=wrap i32 (wrap i64 (x6-12))}))) T3) T3)))))))
def make_Inst(n:Int):Q0g:=(Qho n).m
abbrev Qmb(n:Int):Prop:=(Qho n).p
def Qu3(l:(List Int))(z:(Int)×(List Int)):Nat:=(l.length-z.1).toNat
def Qlt(l:(List Int)):Tree (List Int):=
.lp inferInstance (Qu3 l (0,[])+1) ((((Els.Nil (Els.ints i64 l)∨rE (1:Nat))∧rE (l:List Int))∧True∧rE (0:Int)∧True)∧rE ([]:List Int)∧True) (0,[]) λ(v0:Int×List Int)=> .br (decide (v0.1<(l.length:Int))) (let E1:=Nat.beq 1 1&&Nat.blt 0 1&&decide (0≤v0.1∧v0.1<(l.length:Int)); .cn E1 (let E2:=decide (4*(v0.2.length+1)≤140737488355328); .br (Int.tmod (l.getD v0.1.toNat 0) (17:Int)==(0:Int)) (.cn E1 (.cn E2 (.nx ((((Els.Nil (Els.ints i64 l)∨rE (1:Nat))∧rE (l:List Int))∧True∧rE ((wrap i64 (v0.1+1)):Int)∧True)∧rE ((v0.2++[wrap u32 (iand i64 (l.getD v0.1.toNat 0) 4294967295)]):List Int)∧True) (Sum.inl (wrap i64 (v0.1+1),v0.2++[wrap u32 (iand i64 (l.getD v0.1.toNat 0) 4294967295)]))))) (.cn E1 (.an (Qmb (l.getD v0.1.toNat 0)) (.lv (make_Inst (l.getD v0.1.toNat 0)) λ(x0:Q0g)=> .lv (Q1i x0) λ(x1:Int×Bool)=> .cn E2 (.nx ((((Els.Nil (Els.ints i64 l)∨rE (1:Nat))∧rE (l:List Int))∧True∧rE ((wrap i64 (v0.1+1)):Int)∧True)∧rE ((v0.2++[x1.1]):List Int)∧True) (Sum.inl (wrap i64 (v0.1+1),v0.2++[x1.1])))))))) (.lf (Sum.inr v0.2))
abbrev Qzm(l:(List Int)):Prop:=(Qlt l).p
def Qqe(pc:Int):Tree Q02:=
.lf ({X:={a0:=0,a1:=0,a2:=0,a3:=0,a4:=0,a5:=0,a6:=0,a7:=0,a8:=0,a9:=0,a10:=0,a11:=0,a12:=0,a13:=0,a14:=0,a15:=0},Pc:=pc,B4:={a0:=1,a1:=0,a2:=0,a3:=0,a4:=0,a5:=0,a6:=0,a7:=0}})
def Qxo(pc:Int):Q02:=(Qqe pc).m
def Z2f:Q0e:=mkR 119 [] true [.one (.int .u32)] [] (λargs rows=>Qxo (argI args 0)) (λX=> .agg (Q02.cells X)) (λX=>[])
theorem Z05:Q08 Tryz.prog Z2f:=Q2j Q0r Q0s (.nil) Tryz.func119 Tryz.call119 (λargs rows=>Qqe (argI args 0)) [] [] 2 (λ_ _ _=>by kernel_rfl) (λ_ _=>rfl) (λ_ _=>Tree.free_ok (by kernel_rfl)) (λ_ X=>by kernel_rfl)
def Qb6(pages:Int):Tree (List Int):=
.br (decide (pages<1)) (.lf ([])) (.br (decide (pages>32)) (.lf ([])) (.cn (Nat.blt 0 1&&Nat.beq 1 1&&List.all [D.int u32 0] D.plain&&decide (0≤wrap i64 (pages*32)∧wrap i64 (pages*32)≤wrap i64 (pages*32)∧wrap i64 (pages*32)≤9223372036854775807∧(↑4:Int)*wrap i64 (pages*32)≤140737488355328)) (.lf (List.replicate (Int.toNat (wrap i64 (pages*32))) 0))))
def Z7v(pages:Int):(List Int):=(Qb6 pages).m
abbrev Qfh(pages:Int):Prop:=(Qb6 pages).p
def Z9l:Q0e:=mkP 120 [] true [.one (.int .i64)] [] (λargs rows=>Qfh (argI args 0)) (λargs rows=>Z7v (argI args 0)) (λX=> .all 0) (λX=>[⟨false,23,1, .ints .u32 X⟩])
theorem Z6u:Q08 Tryz.prog Z9l:=Q0x Q0r Q0s (.nil) Tryz.func120 Tryz.call120 (λargs rows=>Qb6 (argI args 0)) [.row 23 1 (.ints .u32)] [] 2 (λ_ _ _=>by kernel_rfl) (λ_ _=>rfl) (λ_ _ h=>h) (λ_ X=>by kernel_rfl)
def Qbg(pages:Int)(blocks:Int)(image:(List Int)):Tree (Q00×Bool):=
let E2:=({B0:=0,D9:=0,C4:=false,B9:=0,B7:=false,F0:=0}:Q0n);let T1:Tree ((Q00×Bool)):= .lf ({B1:={X:={a0:=0,a1:=0,a2:=0,a3:=0,a4:=0,a5:=0,a6:=0,a7:=0,a8:=0,a9:=0,a10:=0,a11:=0,a12:=0,a13:=0,a14:=0,a15:=0},Pc:=0,B4:={a0:=0,a1:=0,a2:=0,a3:=0,a4:=0,a5:=0,a6:=0,a7:=0}},Mem:=[],A2:={C9:=[]},A7:={D5:=false,C7:=0,D4:=false},A6:={Blocks:=0,B3:=0,B0:=0,B8:=0,D6:=0,B5:=0,A9:=0,C1:=[]},C5:=E2,A1:={C6:=0,C0:=0},A0:=0,A3:=false,A4:=false},false); .br (decide (pages<1)) T1 (.br (decide (pages>32)) T1 (.br (decide (blocks<0)) T1 (.br (decide (blocks>64)) T1 (.br (decide ((image.length:Int)>wrap i64 (pages*32))) T1 (.lv (Qxo 0) λ(x0:Q02)=> .an (Qfh pages) (.lv (Z7v pages) λ(x1:List Int)=> .lf ({B1:=x0,Mem:=List.take (Min.min (image.length) (x1.length)) image++List.drop (Min.min (image.length) (x1.length)) x1,A2:={C9:=[]},A7:={D5:=false,C7:=0,D4:=false},A6:={Blocks:=wrap u32 blocks,B3:=0,B0:=0,B8:=0,D6:=0,B5:=0,A9:=0,C1:=[]},C5:=E2,A1:={C6:=0,C0:=0},A0:=0,A3:=false,A4:=false},true)))))))
def Qzz(pages:Int)(blocks:Int)(image:(List Int)):(Q00×Bool):=(Qbg pages blocks image).m
abbrev Qc0(pages:Int)(blocks:Int)(image:(List Int)):Prop:=(Qbg pages blocks image).p
def Za8:Q0e:=mkP 56 [] true [.one (.int .i64), .one (.int .i64), .one (.ints .u32)] [] (λargs rows=>Qc0 (argI args 0) (argI args 1) (argL .u32 args 2)) (λargs rows=>Qzz (argI args 0) (argI args 1) (argL .u32 args 2)) (λX=> .tup [.agg (Q00.cellsW (X.1) (.all 0)), .bool (X.2)]) (λX=>[⟨false,23,1, .ints .u32 (X.1).Mem⟩])
theorem Qst:Q08 Tryz.prog Za8:=Q0x Q0r Q0s (.cons Z05 (.cons Z6u (.nil))) Tryz.func56 Tryz.call56 (λargs rows=>Qbg (argI args 0) (argI args 1) (argL .u32 args 2)) [.row 23 1 (.ints .u32)] [] 2 (λ_ _ _=>by kernel_rfl) (λ_ _=>rfl) (λ_ _ h=>h) (λ_ X=>by kernel_rfl)
def Qkt(a:(List Int))(b:(List Int))(z:(Int)):Nat:=(a.length-z).toNat
def Qr8(a:(List Int))(b:(List Int)):Tree Bool:=
.br ((a.length:Int) !=(b.length:Int)) (.lf false) (.lp inferInstance (Qkt a b 0+1) ((((Els.Nil (Els.ints u32 a)∨rE (1:Nat))∧rE (a:List Int))∧((Els.Nil (Els.ints u32 b)∨rE (1:Nat))∧rE (b:List Int))∧rE (0:Int)∧True)∧True) 0 λ(v0:Int)=> .br (decide (v0<(a.length:Int))) (.cn (Nat.beq 1 1&&Nat.blt 0 1&&decide (0≤v0∧v0<(a.length:Int))) (.cn (Nat.beq 1 1&&Nat.blt 0 1&&decide (0≤v0∧v0<(b.length:Int))) (.br (a.getD v0.toNat 0 !=b.getD v0.toNat 0) (.lf (Sum.inr false)) (.nx ((((Els.Nil (Els.ints u32 a)∨rE (1:Nat))∧rE (a:List Int))∧((Els.Nil (Els.ints u32 b)∨rE (1:Nat))∧rE (b:List Int))∧rE ((wrap i64 (v0+1)):Int)∧True)∧True) (Sum.inl (wrap i64 (v0+1))))))) (.lf (Sum.inr true)))
def Qw1(a:(List Int))(b:(List Int)):Bool:=(Qr8 a b).m
def Q7j(a:(List Int))(b:(List Int)):Prop:=
a.length≤1000000000000
def Qlu(a:Q00)(b:Q00):Tree Bool:=
.br (eqs [D.int u32 a.B1.X.a0,D.int u32 a.B1.X.a1,D.int u32 a.B1.X.a2,D.int u32 a.B1.X.a3,D.int u32 a.B1.X.a4,D.int u32 a.B1.X.a5,D.int u32 a.B1.X.a6,D.int u32 a.B1.X.a7,D.int u32 a.B1.X.a8,D.int u32 a.B1.X.a9,D.int u32 a.B1.X.a10,D.int u32 a.B1.X.a11,D.int u32 a.B1.X.a12,D.int u32 a.B1.X.a13,D.int u32 a.B1.X.a14,D.int u32 a.B1.X.a15,D.int u32 a.B1.Pc,D.int u32 a.B1.B4.a0,D.int u32 a.B1.B4.a1,D.int u32 a.B1.B4.a2,D.int u32 a.B1.B4.a3,D.int u32 a.B1.B4.a4,D.int u32 a.B1.B4.a5,D.int u32 a.B1.B4.a6,D.int u32 a.B1.B4.a7] [D.int u32 b.B1.X.a0,D.int u32 b.B1.X.a1,D.int u32 b.B1.X.a2,D.int u32 b.B1.X.a3,D.int u32 b.B1.X.a4,D.int u32 b.B1.X.a5,D.int u32 b.B1.X.a6,D.int u32 b.B1.X.a7,D.int u32 b.B1.X.a8,D.int u32 b.B1.X.a9,D.int u32 b.B1.X.a10,D.int u32 b.B1.X.a11,D.int u32 b.B1.X.a12,D.int u32 b.B1.X.a13,D.int u32 b.B1.X.a14,D.int u32 b.B1.X.a15,D.int u32 b.B1.Pc,D.int u32 b.B1.B4.a0,D.int u32 b.B1.B4.a1,D.int u32 b.B1.B4.a2,D.int u32 b.B1.B4.a3,D.int u32 b.B1.B4.a4,D.int u32 b.B1.B4.a5,D.int u32 b.B1.B4.a6,D.int u32 b.B1.B4.a7]) (.an (Q7j a.Mem b.Mem) (.lv (Qw1 a.Mem b.Mem) λ(x0:Bool)=> .br x0 (.br (eqs [D.str a.A2.C9] [D.str b.A2.C9]) (.br (eqs [D.bool a.A7.D5,D.int u32 a.A7.C7,D.bool a.A7.D4] [D.bool b.A7.D5,D.int u32 b.A7.C7,D.bool b.A7.D4]) (.br (eqs [D.int u32 a.A6.Blocks,D.int u32 a.A6.B3,D.int u32 a.A6.B0,D.int i64 a.A6.B8,D.int i64 a.A6.D6,D.int u32 a.A6.B5,D.int u32 a.A6.A9,D.str a.A6.C1] [D.int u32 b.A6.Blocks,D.int u32 b.A6.B3,D.int u32 b.A6.B0,D.int i64 b.A6.B8,D.int i64 b.A6.D6,D.int u32 b.A6.B5,D.int u32 b.A6.A9,D.str b.A6.C1]) (.br (eqs [D.int u32 a.C5.B0,D.int u32 a.C5.D9,D.bool a.C5.C4,D.int u32 a.C5.B9,D.bool a.C5.B7,D.int u32 a.C5.F0] [D.int u32 b.C5.B0,D.int u32 b.C5.D9,D.bool b.C5.C4,D.int u32 b.C5.B9,D.bool b.C5.B7,D.int u32 b.C5.F0]) (.br (eqs [D.int u32 a.A1.C6,D.int u32 a.A1.C0] [D.int u32 b.A1.C6,D.int u32 b.A1.C0]) (.br (a.A0==b.A0) (.br (a.A3==b.A3) (.lf (a.A4==b.A4)) (.lf false)) (.lf false)) (.lf false)) (.lf false)) (.lf false)) (.lf false)) (.lf false)) (.lf false))) (.lf false)
abbrev Z19(a:Q00)(b:Q00):Prop:=(Qlu a b).p
def Q1f(m:Q00):Tree Bool:=
.an (Q72 m) (.lv (Q25 m) λ(x0:Bool)=> .br (!x0) (.lf false) (.an (Q5y m) (.lv (Q0h m) λ(x1:Q00)=> .an (Qby x1.B1 x1.Mem) (.lv (Q4a x1.B1 x1.Mem) λ(x2:Q02×List Int×Q0z)=> .br (x2.2.2.B2==1) (.lf (x2.2.2.C8==2)) (.lf false)))))
def Q21(m:Q00):Bool:=(Q1f m).m
abbrev Q2l(m:Q00):Prop:=(Q1f m).p
def Qkm:Q0e:=mkP 49 [] true [.agg Q00.sig] [] (λargs rows=>Q2l (Q00.of (args.getD 0 .dead).cells)) (λargs rows=>Q21 (Q00.of (args.getD 0 .dead).cells)) (λX=> .bool X) (λX=>[])
theorem Qjr:Q08 Tryz.prog Qkm:=Q0x Q0r Q0s (.cons Qj1 (.cons Qic (.cons Quo (.nil)))) Tryz.func49 Tryz.call49 (λargs rows=>Q1f (Q00.of (args.getD 0 .dead).cells)) [] [] 2 (λ_ _ _=>by kernel_rfl) (λ_ _=>rfl) (λ_ _ h=>h) (λ_ X=>by kernel_rfl)
end
end Go.Proofs.YtjaifpiopmhmlaaGreat

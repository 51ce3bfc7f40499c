import Derived.Test.YtjaifpiopmhmlaaGreatBareRunsBase
import Derived.Test.YtjaifpiopmhmlaaGreatBareRunsYd
import Derived.Test.YtjaifpiopmhmlaaGreatBareRunsYb
set_option maxRecDepth 100000
set_option linter.all false
namespace Go.Proofs.YtjaifpiopmhmlaaGreat
open Go Go.GD Go.IntKind
noncomputable section
def Z0a(op:Int):Tree Int:=
let T1:Tree (Int):= .br (op==49) (.lf 3) (let T2:Tree (Int):= .br (op==24) (.lf 6) (.br (op==48) (.lf 7) (.br (op==58) (.lf 8) (.br (op==59) (.lf 8) (.br (op==60) (.lf 9) (.br (op==61) (.lf 9) (.br (op==56) (.lf 1) (.br (op==57) (.lf 1) (.br (decide (op>=62)) (.br (decide (op<=64)) (.lf 1) (.lf 0)) (.lf 0))))))))); .br (decide (op>=17)) (.br (decide (op<=19)) (.lf 4) (.br (decide (op>=20)) (.br (decide (op<=22)) (.lf 5) T2) T2)) (.br (decide (op>=20)) (.br (decide (op<=22)) (.lf 5) T2) T2));let T3:Tree (Int):= .br (op==16) (.lf 3) (.br (op==23) (.lf 3) (.br (decide (op>=32)) (.br (decide (op<=36)) (.lf 3) (.br (decide (op>=40)) (.br (decide (op<=45)) (.lf 3) T1) T1)) (.br (decide (op>=40)) (.br (decide (op<=45)) (.lf 3) T1) T1))); .br (decide (op>=1)) (.br (decide (op<=13)) (.lf 2) T3) T3
def Q2d(op:Int):Int:=(Z0a op).m
def Zi8:Q0c:=mkR 164 [] true [.one (.int .i64)] [] (λargs rows=>Q2d (argI args 0)) (λX=> .int .i64 X) (λX=>[])
theorem Qeh:Q06 Tryz.prog Zi8:=Q0z Q0j Q0l (.nil) Tryz.func164 Tryz.call164 (λargs rows=>Z0a (argI args 0)) [] [] 2
def Qcz(r:Int):Tree Bool:=
.br (decide (r>=0)) (.lf (decide (r<=15))) (.lf false)
def Q7q(r:Int):Bool:=(Qcz r).m
def Z0r:Q0c:=mkR 185 [] true [.one (.int .i64)] [] (λargs rows=>Q7q (argI args 0)) (λX=> .bool X) (λX=>[])
theorem Qy6:Q06 Tryz.prog Z0r:=Q0z Q0j Q0l (.nil) Tryz.func185 Tryz.call185 (λargs rows=>Qcz (argI args 0)) [] [] 2
def Qlf(f:Int):Tree (Int×Int):=
.br (f==3) (.lf ((-32768),32767)) (.br (f==7) (.lf ((-32768),32767)) (.br (f==4) (.lf (0,65535)) (.br (f==6) (.lf (0,65535)) (.br (f==5) (.lf (0,31)) (.br (f==8) (.lf (0,7)) (.br (f==9) (.lf (0,11)) (.lf (0,0))))))))
def Qlh(f:Int):(Int×Int):=(Qlf f).m
def Z9j:Q0c:=mkR 165 [] true [.one (.int .i64)] [] (λargs rows=>Qlh (argI args 0)) (λX=> .tup [.int .i64 (X.1), .int .i64 (X.2)]) (λX=>[])
theorem Qqc:Q06 Tryz.prog Z9j:=Q0z Q0j Q0l (.nil) Tryz.func165 Tryz.call165 (λargs rows=>Qlf (argI args 0)) [] [] 2
def Qeq(i:Q0k):Tree Bool:=
.lv (Q2d i.Op) λ(x0:Int)=> .br (x0==0) (.lf false) (.lv (Q7q i.A) λ(x1:Bool)=> .br (!x1) (.lf false) (.lv (Q7q i.B) λ(x2:Bool)=> .br (!x2) (.lf false) (.lv (Q7q i.C) λ(x3:Bool)=> .br (!x3) (.lf false) (.lv (Qlh x0) λ(x4:Int×Int)=> .br (decide (wrap i64 i.Imm<x4.1)) (.lf false) (.br (decide (wrap i64 i.Imm>x4.2)) (.lf false) (let T1:Tree (Bool):= .br (x0==1) (.br (i.A !=0) (.lf false) (.br (i.B==0) (.lf true) (.br (decide (x0>=2)) (.lf (decide (x0<=5))) (.lf false)))) (.br (i.B==0) (.lf true) (.br (decide (x0>=2)) (.lf (decide (x0<=5))) (.lf false))); .br (x0 !=2) (.br (i.C !=0) (.lf false) T1) T1))))))
def Q6x(i:Q0k):Bool:=(Qeq i).m
def Ze2:Q0c:=mkR 130 [] true [.agg Q0k.sig] [] (λargs rows=>Q6x (Q0k.of (aC args 0))) (λX=> .bool X) (λX=>[])
theorem Qrl:Q06 Tryz.prog Ze2:=Q0z Q0j Q0l (.cons Qeh (.cons Qy6 (.cons Qqc (.nil)))) Tryz.func130 Tryz.call130 (λargs rows=>Qeq (Q0k.of (aC args 0))) [] [] 2
def Qgj(i:Q0k):Tree (Int×Bool):=
.lv (Q6x i) λ(x0:Bool)=> .br (!x0) (.lf (0,false)) (.lf (ior u32 (ior u32 (ior u32 (ior u32 (ishl u32 (wrap u32 i.Op) 24) (ishl u32 (wrap u32 i.A) 20)) (ishl u32 (wrap u32 i.B) 16)) (iand u32 (wrap u32 i.Imm) 65535)) (wrap u32 i.C),true))
def Q1h(i:Q0k):(Int×Bool):=(Qgj i).m
def Zal:Q0c:=mkR 63 [] true [.agg Q0k.sig] [] (λargs rows=>Q1h (Q0k.of (aC args 0))) (λX=> .tup [.int .u32 (X.1), .bool (X.2)]) (λX=>[])
theorem Qed:Q06 Tryz.prog Zal:=Q0z Q0j Q0l (.cons Qrl (.nil)) Tryz.func63 Tryz.call63 (λargs rows=>Qgj (Q0k.of (aC args 0))) [] [] 2
def Z6h:Tree (List Int):=
.lf ([1,2,3,4,5,6,7,8,9,10,11,12,13,16,16,17,18,19,20,21,22,23,24,24,32,32,33,34,35,35,36,40,41,42,43,44,45,48,49,56,57,58,59,60,60,61,61,62,63,64])
def Za9:(List Int):=(Z6h).m
def Zmk:Q0c:=mkR 131 [] true [] [] (λargs rows=>Za9) (λX=> .sl 1 (.ints .i64 X) true) (λX=>[])
theorem Zhp:Q06 Tryz.prog Zmk:=Q0z Q0j Q0l (.nil) Tryz.func131 Tryz.call131 (λargs rows=>Z6h) [.sl (.ints .i64) true] [] 2
def Qzq(seed:Int):Tree (Int×Int):=
let E1:=wrap u64 (ixor u64 (wrap u64 (seed+11400714819323198485)) (ishr u64 (wrap u64 (seed+11400714819323198485)) 30)*13787848793156543929);let E2:=wrap u64 (ixor u64 E1 (ishr u64 E1 27)*10723151780598845931); .lf (ixor u64 E2 (ishr u64 E2 31),wrap u64 (seed+11400714819323198485))
def Zc2(seed:Int):(Int×Int):=(Qzq seed).m
def Zgc:Q0c:=mkR 179 [] true [.one (.int .u64)] [] (λargs rows=>Zc2 (argI args 0)) (λX=> .tup [.int .u64 (X.1), .int .u64 (X.2)]) (λX=>[])
theorem Zet:Q06 Tryz.prog Zgc:=Q0z Q0j Q0l (.nil) Tryz.func179 Tryz.call179 (λargs rows=>Qzq (argI args 0)) [] [] 2
def Qp5(n:Int)(k:Int):Tree Int:=
.lv (Zc2 (ixor u64 (wrap u64 n) (wrap u64 (wrap u64 k*11400714819323198485)))) λ(x0:Int×Int)=> .lf (wrap i64 (ishr u64 x0.1 1))
def Q35(n:Int)(k:Int):Int:=(Qp5 n k).m
def Zmf:Q0c:=mkR 127 [] true [.one (.int .i64), .one (.int .i64)] [] (λargs rows=>Q35 (argI args 0) (argI args 1)) (λX=> .int .i64 X) (λX=>[])
theorem Qli:Q06 Tryz.prog Zmf:=Q0z Q0j Q0l (.cons Zet (.nil)) Tryz.func127 Tryz.call127 (λargs rows=>Qp5 (argI args 0) (argI args 1)) [] [] 2
def Qn1(n:Int)(k:Int):Tree Int:=
.cn (decide (k≠0)) (.br (decide (Int.tmod n k<0)) (.lf (wrap i64 (Int.tmod n k+k))) (.lf (Int.tmod n k)))
def Q1s(n:Int)(k:Int):Int:=(Qn1 n k).m
abbrev Q1d(n:Int)(k:Int):Prop:=(Qn1 n k).p
def Zb8:Q0c:=mkP 28 [] true [.one (.int .i64), .one (.int .i64)] [] (λargs rows=>Q1d (argI args 0) (argI args 1)) (λargs rows=>Q1s (argI args 0) (argI args 1)) (λX=> .int .i64 X) (λX=>[])
theorem Qcq:Q06 Tryz.prog Zb8:=Q0n Q0j Q0l (.nil) Tryz.func28 Tryz.call28 (λargs rows=>Qn1 (argI args 0) (argI args 1)) [] [] 2
def Ql7(n:Int):Tree Q0k:=
.lv Za9 λ(x0:List Int)=> .lv (Q35 n 1) λ(x1:Int)=> .an (Q1d x1 (x0.length:Int)) (.lv (Q1s x1 (x0.length:Int)) λ(x2:Int)=> .cn (Nat.beq 1 1&&Nat.blt 0 1&&decide (0<=x2/\x2<(x0.length:Int))) (.an (Q1d (ishr i64 x1 8) 6) (.lv (Q1s (ishr i64 x1 8) 6) λ(x3:Int)=> .an (Q1d (ishr i64 x1 12) 6) (.lv (Q1s (ishr i64 x1 12) 6) λ(x4:Int)=> .an (Q1d (ishr i64 x1 16) 6) (.lv (Q1s (ishr i64 x1 16) 6) λ(x5:Int)=> .an (Q1d (ishr i64 x1 20) 24) (.lv (Q1s (ishr i64 x1 20) 24) λ(x6:Int)=> .br (decide (x0.getD x2.toNat (0:Int)<=(13:Int))) (.lf ({Op:=x0.getD x2.toNat 0,A:=x3,B:=x4,C:=x5,Imm:=0})) (let E4:=({Op:=x0.getD x2.toNat 0,A:=x3,B:=x4,C:=0,Imm:=wrap i32 (wrap i64 (wrap i64 (8*x6)-32))}:Q0k);let T1:Tree (Q0k):= .br (x0.getD x2.toNat (0:Int)==(49:Int)) (.lf (E4)) (.br (x0.getD x2.toNat (0:Int)==(24:Int)) (.lf ({Op:=x0.getD x2.toNat 0,A:=x3,B:=0,C:=0,Imm:=wrap i32 (wrap i64 (x6*iand i64 (ishr i64 x1 40) 1))})) (let T2:Tree (Q0k):=let E6:=({Op:=x0.getD x2.toNat 0,A:=x3,B:=0,C:=0,Imm:=wrap i32 (Int.tmod x6 8)}:Q0k); .br (x0.getD x2.toNat (0:Int)==(58:Int)) (.lf (E6)) (.br (x0.getD x2.toNat (0:Int)==(59:Int)) (.lf (E6)) (let E5:=({Op:=x0.getD x2.toNat 0,A:=x3,B:=0,C:=0,Imm:=wrap i32 (Int.tmod x6 12)}:Q0k); .br (x0.getD x2.toNat (0:Int)==(60:Int)) (.lf (E5)) (.br (x0.getD x2.toNat (0:Int)==(61:Int)) (.lf (E5)) (.lf ({Op:=x0.getD x2.toNat 0,A:=0,B:=0,C:=0,Imm:=0}))))); .br (decide (x0.getD x2.toNat (0:Int)>=(17:Int))) (.br (decide (x0.getD x2.toNat (0:Int)<=(22:Int))) (.lf ({Op:=x0.getD x2.toNat 0,A:=x3,B:=x4,C:=0,Imm:=wrap i32 x6})) T2) T2));let T3:Tree (Q0k):= .br (x0.getD x2.toNat (0:Int)==(16:Int)) (.lf (E4)) (.br (x0.getD x2.toNat (0:Int)==(23:Int)) (.lf (E4)) (.br (decide (x0.getD x2.toNat (0:Int)>=(32:Int))) (.br (decide (x0.getD x2.toNat (0:Int)<=(36:Int))) (.lf (E4)) T1) T1)); .br (decide (x0.getD x2.toNat (0:Int)>=(40:Int))) (.br (decide (x0.getD x2.toNat (0:Int)<=(48:Int))) (.br (x0.getD x2.toNat (0:Int)==(48:Int)) (.lf ({Op:=x0.getD x2.toNat 0,A:=x3,B:=0,C:=0,Imm:=wrap i32 (wrap i64 (x6-12))})) (.lf ({Op:=x0.getD x2.toNat 0,A:=x3,B:=x4,C:=0,Imm:=wrap i32 (wrap i64 (x6-12))}))) T3) T3)))))))
def Z27(n:Int):Q0k:=(Ql7 n).m
abbrev Qc3(n:Int):Prop:=(Ql7 n).p
def Zga:Q0c:=mkP 64 [] true [.one (.int .i64)] [] (λargs rows=>Qc3 (argI args 0)) (λargs rows=>Z27 (argI args 0)) (λX=> .agg (Q0k.cells X)) (λX=>[])
theorem Qwm:Q06 Tryz.prog Zga:=Q0n Q0j Q0l (.cons Zhp (.cons Qli (.cons Qcq (.nil)))) Tryz.func64 Tryz.call64 (λargs rows=>Ql7 (argI args 0)) [] [] 2
def Qq3(l:(List Int))(z:(Int)×(List Int)):Prop:=0<=z.1/\z.1<=l.length/\(z.2.length:Int)=z.1
def Qcl(l:(List Int))(z:(Int)×(List Int)):Nat:=(l.length-z.1).toNat
def Qif(l:(List Int)):Tree (List Int):=
.lp inferInstance (Qcl l (0,[])+1) ((((Els.Nil (Els.ints i64 l)\/rE (1:Nat))/\rE (l:List Int))/\True/\rE (0:Int)/\True)/\rE ([]:List Int)/\True) (0,[]) λ(v0:Int×List Int)=> .br (decide (v0.1<(l.length:Int))) (let E1:=Nat.beq 1 1&&Nat.blt 0 1&&decide (0<=v0.1/\v0.1<(l.length:Int)); .cn E1 (let E2:=decide (4*(v0.2.length+1)<=140737488355328); .br (Int.tmod (l.getD v0.1.toNat 0) (17:Int)==(0:Int)) (.cn E1 (.cn E2 (.nx ((((Els.Nil (Els.ints i64 l)\/rE (1:Nat))/\rE (l:List Int))/\True/\rE ((wrap i64 (v0.1+1)):Int)/\True)/\rE ((v0.2++[wrap u32 (iand i64 (l.getD v0.1.toNat 0) 4294967295)]):List Int)/\True) (Sum.inl (wrap i64 (v0.1+1),v0.2++[wrap u32 (iand i64 (l.getD v0.1.toNat 0) 4294967295)]))))) (.cn E1 (.an (Qc3 (l.getD v0.1.toNat 0)) (.lv (Z27 (l.getD v0.1.toNat 0)) λ(x0:Q0k)=> .lv (Q1h x0) λ(x1:Int×Bool)=> .cn E2 (.nx ((((Els.Nil (Els.ints i64 l)\/rE (1:Nat))/\rE (l:List Int))/\True/\rE ((wrap i64 (v0.1+1)):Int)/\True)/\rE ((v0.2++[x1.1]):List Int)/\True) (Sum.inl (wrap i64 (v0.1+1),v0.2++[x1.1])))))))) (.lf (Sum.inr v0.2))
def Qo2(l:(List Int)):(List Int):=(Qif l).m
abbrev Qlr(l:(List Int)):Prop:=(Qif l).p
def Zar:LInv:={
 α:=(Int)×(List Int)
 F:=λst a=>([(0,(lk st 0)),(3, .all 0),(4, .int i64 a.1)],[⟨false,23,1, .ints u32 a.2⟩])
 a0:=λst=>((lk st 4).toInt,(Q3e st.rows (rN st 3)))
 ex0:=λst=>[]++[(Q0o (lk st 3) (st.rows.length+0))]
 next:=λst=>((lk st 4).toInt,(Q3e st.rows (rN st 3)))
 ex:=λst=>[]++[(Q0o (lk st 3) (st.rows.length+0))]}
def Z4b:List (Nat×LInv):=[(3,Zar)]
def Zgr:Q0c:=mkP 59 [] true [.one (.ints .i64)] [] (λargs rows=>Qlr (argL .i64 args 0)) (λargs rows=>Qo2 (argL .i64 args 0)) (λX=> .all 0) (λX=>[⟨false,23,1, .ints .u32 X⟩])
theorem Zco:Q06 Tryz.prog Zgr:=Q0n Q0j Q0l (.cons Qed (.cons Qwm (.nil))) Tryz.func59 Tryz.call59 (λargs rows=>Qif (argL .i64 args 0)) [.row 23 1 (.ints .u32)] Z4b 3
def Qjc(pc:Int):Tree Q04:=
.lf ({X:={a0:=0,a1:=0,a2:=0,a3:=0,a4:=0,a5:=0,a6:=0,a7:=0,a8:=0,a9:=0,a10:=0,a11:=0,a12:=0,a13:=0,a14:=0,a15:=0},Pc:=pc,B5:={a0:=1,a1:=0,a2:=0,a3:=0,a4:=0,a5:=0,a6:=0,a7:=0}})
def Qpe(pc:Int):Q04:=(Qjc pc).m
def Zcq:Q0c:=mkR 119 [] true [.one (.int .u32)] [] (λargs rows=>Qpe (argI args 0)) (λX=> .agg (Q04.cells X)) (λX=>[])
theorem Za4:Q06 Tryz.prog Zcq:=Q0z Q0j Q0l (.nil) Tryz.func119 Tryz.call119 (λargs rows=>Qjc (argI args 0)) [] [] 2
def Qd9(pages:Int):Tree (List Int):=
.br (decide (pages<1)) (.lf ([])) (.br (decide (pages>32)) (.lf ([])) (.cn (Nat.blt 0 1&&Nat.beq 1 1&&List.all [D.int u32 0] D.plain&&decide (0<=wrap i64 (pages*32)/\wrap i64 (pages*32)<=wrap i64 (pages*32)/\wrap i64 (pages*32)<=9223372036854775807/\(↑4:Int)*wrap i64 (pages*32)<=140737488355328)) (.lf (List.replicate (Int.toNat (wrap i64 (pages*32))) 0))))
def Qt4(pages:Int):(List Int):=(Qd9 pages).m
abbrev Qfc(pages:Int):Prop:=(Qd9 pages).p
def Zly:Q0c:=mkP 120 [] true [.one (.int .i64)] [] (λargs rows=>Qfc (argI args 0)) (λargs rows=>Qt4 (argI args 0)) (λX=> .all 0) (λX=>[⟨false,23,1, .ints .u32 X⟩])
theorem Zgx:Q06 Tryz.prog Zly:=Q0n Q0j Q0l (.nil) Tryz.func120 Tryz.call120 (λargs rows=>Qd9 (argI args 0)) [.row 23 1 (.ints .u32)] [] 2
def Q8k(pages:Int)(blocks:Int)(image:(List Int)):Tree (Q00×Bool):=
let E2:=({B4:=0,F0:=0,C7:=false,C2:=0,B8:=false,F3:=0}:Q0q);let T1:Tree ((Q00×Bool)):= .lf ({B2:={X:={a0:=0,a1:=0,a2:=0,a3:=0,a4:=0,a5:=0,a6:=0,a7:=0,a8:=0,a9:=0,a10:=0,a11:=0,a12:=0,a13:=0,a14:=0,a15:=0},Pc:=0,B5:={a0:=0,a1:=0,a2:=0,a3:=0,a4:=0,a5:=0,a6:=0,a7:=0}},Mem:=[],A3:={D3:=[]},A7:={D2:=false,C8:=0,D5:=false},B0:={Blocks:=0,B9:=0,B4:=0,C1:=0,D8:=0,B6:=0,B3:=0,C3:=[]},C0:=E2,A2:={C9:=0,C5:=0},A1:=0,A4:=false,A6:=false},false); .br (decide (pages<1)) T1 (.br (decide (pages>32)) T1 (.br (decide (blocks<0)) T1 (.br (decide (blocks>64)) T1 (.br (decide ((image.length:Int)>wrap i64 (pages*32))) T1 (.lv (Qpe 0) λ(x0:Q04)=> .an (Qfc pages) (.lv (Qt4 pages) λ(x1:List Int)=> .lf ({B2:=x0,Mem:=List.take (Min.min (image.length) (x1.length)) image++List.drop (Min.min (image.length) (x1.length)) x1,A3:={D3:=[]},A7:={D2:=false,C8:=0,D5:=false},B0:={Blocks:=wrap u32 blocks,B9:=0,B4:=0,C1:=0,D8:=0,B6:=0,B3:=0,C3:=[]},C0:=E2,A2:={C9:=0,C5:=0},A1:=0,A4:=false,A6:=false},true)))))))
def Q1x(pages:Int)(blocks:Int)(image:(List Int)):(Q00×Bool):=(Q8k pages blocks image).m
abbrev Q9e(pages:Int)(blocks:Int)(image:(List Int)):Prop:=(Q8k pages blocks image).p
def Zl:Q0c:=mkP 56 [] true [.one (.int .i64), .one (.int .i64), .one (.ints .u32)] [] (λargs rows=>Q9e (argI args 0) (argI args 1) (argL .u32 args 2)) (λargs rows=>Q1x (argI args 0) (argI args 1) (argL .u32 args 2)) (λX=> .tup [.agg (Q00.cellsW (X.1) (.all 0)), .bool (X.2)]) (λX=>[⟨false,23,1, .ints .u32 (X.1).Mem⟩])
theorem Z1z:Q06 Tryz.prog Zl:=Q0n Q0j Q0l (.cons Za4 (.cons Zgx (.nil))) Tryz.func56 Tryz.call56 (λargs rows=>Q8k (argI args 0) (argI args 1) (argL .u32 args 2)) [.row 23 1 (.ints .u32)] [] 2
def Qh3(a:(List Int))(b:(List Int))(z:(Int)):Prop:=0<=z/\z<=a.length/\a.length=b.length
def Q4x(a:(List Int))(b:(List Int))(z:(Int)):Nat:=(a.length-z).toNat
def Q7z(a:(List Int))(b:(List Int)):Tree Bool:=
.br ((a.length:Int) !=(b.length:Int)) (.lf false) (.lp inferInstance (Q4x a b 0+1) ((((Els.Nil (Els.ints u32 a)\/rE (1:Nat))/\rE (a:List Int))/\((Els.Nil (Els.ints u32 b)\/rE (1:Nat))/\rE (b:List Int))/\rE (0:Int)/\True)/\True) 0 λ(v0:Int)=> .br (decide (v0<(a.length:Int))) (.cn (Nat.beq 1 1&&Nat.blt 0 1&&decide (0<=v0/\v0<(a.length:Int))) (.cn (Nat.beq 1 1&&Nat.blt 0 1&&decide (0<=v0/\v0<(b.length:Int))) (.br (a.getD v0.toNat 0 !=b.getD v0.toNat 0) (.lf (Sum.inr false)) (.nx ((((Els.Nil (Els.ints u32 a)\/rE (1:Nat))/\rE (a:List Int))/\((Els.Nil (Els.ints u32 b)\/rE (1:Nat))/\rE (b:List Int))/\rE ((wrap i64 (v0+1)):Int)/\True)/\True) (Sum.inl (wrap i64 (v0+1))))))) (.lf (Sum.inr true)))
def Qef(a:(List Int))(b:(List Int)):Bool:=(Q7z a b).m
def Q8r(a:(List Int))(b:(List Int)):Prop:=
a.length<=1000000000000
theorem Qrk(a:(List Int))(b:(List Int))(hw:Q8r a b):(Q7z a b).p:=by
 simp only[Q8r]at hw
 unfold Tree.p Q7z
 repeat'(first|refine w_lp (inv:=Qh3 a b) (μ:=Q4x a b) ?_ (Nat.lt_succ_self _) (λ_ _=> ?_)|exact trivial|refine w_br (λ_=> ?_) (λ_=> ?_)|refine w_cn ?_ ?_|refine w_an ?_ ?_|refine w_lv (λ_ _=> ?_)|refine w_nx ?_|refine w_lf ?_|refine And.intro ?_ ?_)
 all_goals((try simp only[Qh3,Q4x]at*);exact fin0)
def Qw6:LInv:={
 α:=(Int)
 F:=λst a=>([(0,(lk st 0)),(1,(lk st 1)),(5, .int i64 a)],[])
 a0:=λst=>(lk st 5).toInt
 ex0:=λst=>[]++[]
 next:=λst=>(lk st 5).toInt
 ex:=λst=>[]++[]}
def Qrj:List (Nat×LInv):=[(4,Qw6)]
def Qxs:Q0c:=mkP 71 [] true [.one (.ints .u32), .one (.ints .u32)] [] (λargs rows=>Q8r (argL .u32 args 0) (argL .u32 args 1)) (λargs rows=>Qef (argL .u32 args 0) (argL .u32 args 1)) (λX=> .bool X) (λX=>[])
theorem Qv2:Q06 Tryz.prog Qxs:=Q0n Q0j Q0l (.nil) Tryz.func71 Tryz.call71 (λargs rows=>Q7z (argL .u32 args 0) (argL .u32 args 1)) [] Qrj 3 (hp:=λargs rows h=>Qrk (argL .u32 args 0) (argL .u32 args 1) h)
def Qig(a:Q00)(b:Q00):Tree Bool:=
.br (eqs [D.int u32 a.B2.X.a0,D.int u32 a.B2.X.a1,D.int u32 a.B2.X.a2,D.int u32 a.B2.X.a3,D.int u32 a.B2.X.a4,D.int u32 a.B2.X.a5,D.int u32 a.B2.X.a6,D.int u32 a.B2.X.a7,D.int u32 a.B2.X.a8,D.int u32 a.B2.X.a9,D.int u32 a.B2.X.a10,D.int u32 a.B2.X.a11,D.int u32 a.B2.X.a12,D.int u32 a.B2.X.a13,D.int u32 a.B2.X.a14,D.int u32 a.B2.X.a15,D.int u32 a.B2.Pc,D.int u32 a.B2.B5.a0,D.int u32 a.B2.B5.a1,D.int u32 a.B2.B5.a2,D.int u32 a.B2.B5.a3,D.int u32 a.B2.B5.a4,D.int u32 a.B2.B5.a5,D.int u32 a.B2.B5.a6,D.int u32 a.B2.B5.a7] [D.int u32 b.B2.X.a0,D.int u32 b.B2.X.a1,D.int u32 b.B2.X.a2,D.int u32 b.B2.X.a3,D.int u32 b.B2.X.a4,D.int u32 b.B2.X.a5,D.int u32 b.B2.X.a6,D.int u32 b.B2.X.a7,D.int u32 b.B2.X.a8,D.int u32 b.B2.X.a9,D.int u32 b.B2.X.a10,D.int u32 b.B2.X.a11,D.int u32 b.B2.X.a12,D.int u32 b.B2.X.a13,D.int u32 b.B2.X.a14,D.int u32 b.B2.X.a15,D.int u32 b.B2.Pc,D.int u32 b.B2.B5.a0,D.int u32 b.B2.B5.a1,D.int u32 b.B2.B5.a2,D.int u32 b.B2.B5.a3,D.int u32 b.B2.B5.a4,D.int u32 b.B2.B5.a5,D.int u32 b.B2.B5.a6,D.int u32 b.B2.B5.a7]) (.an (Q8r a.Mem b.Mem) (.lv (Qef a.Mem b.Mem) λ(x0:Bool)=> .br x0 (.br (eqs [D.str a.A3.D3] [D.str b.A3.D3]) (.br (eqs [D.bool a.A7.D2,D.int u32 a.A7.C8,D.bool a.A7.D5] [D.bool b.A7.D2,D.int u32 b.A7.C8,D.bool b.A7.D5]) (.br (eqs [D.int u32 a.B0.Blocks,D.int u32 a.B0.B9,D.int u32 a.B0.B4,D.int i64 a.B0.C1,D.int i64 a.B0.D8,D.int u32 a.B0.B6,D.int u32 a.B0.B3,D.str a.B0.C3] [D.int u32 b.B0.Blocks,D.int u32 b.B0.B9,D.int u32 b.B0.B4,D.int i64 b.B0.C1,D.int i64 b.B0.D8,D.int u32 b.B0.B6,D.int u32 b.B0.B3,D.str b.B0.C3]) (.br (eqs [D.int u32 a.C0.B4,D.int u32 a.C0.F0,D.bool a.C0.C7,D.int u32 a.C0.C2,D.bool a.C0.B8,D.int u32 a.C0.F3] [D.int u32 b.C0.B4,D.int u32 b.C0.F0,D.bool b.C0.C7,D.int u32 b.C0.C2,D.bool b.C0.B8,D.int u32 b.C0.F3]) (.br (eqs [D.int u32 a.A2.C9,D.int u32 a.A2.C5] [D.int u32 b.A2.C9,D.int u32 b.A2.C5]) (.br (a.A1==b.A1) (.br (a.A4==b.A4) (.lf (a.A6==b.A6)) (.lf false)) (.lf false)) (.lf false)) (.lf false)) (.lf false)) (.lf false)) (.lf false)) (.lf false))) (.lf false)
def Qki(a:Q00)(b:Q00):Bool:=(Qig a b).m
abbrev Qa3(a:Q00)(b:Q00):Prop:=(Qig a b).p
def Zfv:Q0c:=mkP 25 [] true [.agg Q00.sig, .agg Q00.sig] [] (λargs rows=>Qa3 (Q00.of (aC args 0)) (Q00.of (aC args 1))) (λargs rows=>Qki (Q00.of (aC args 0)) (Q00.of (aC args 1))) (λX=> .bool X) (λX=>[])
theorem Zcx:Q06 Tryz.prog Zfv:=Q0n Q0j Q0l (.cons Qv2 (.nil)) Tryz.func25 Tryz.call25 (λargs rows=>Qig (Q00.of (aC args 0)) (Q00.of (aC args 1))) [] [] 2
def Q2k(m:Q00):Tree Bool:=
.an (Qb0 m) (.lv (Q2o m) λ(x0:Bool)=> .br (!x0) (.lf false) (.an (Qaa m) (.lv (Q0v m) λ(x1:Q00)=> .an (Qiz x1.B2 x1.Mem) (.lv (Q7j x1.B2 x1.Mem) λ(x2:Q04×List Int×Q10)=> .br (x2.2.2.B7==1) (.lf (x2.2.2.D1==2)) (.lf false)))))
def Q4l(m:Q00):Bool:=(Q2k m).m
abbrev Q5p(m:Q00):Prop:=(Q2k m).p
def Qpp:Q0c:=mkP 49 [] true [.agg Q00.sig] [] (λargs rows=>Q5p (Q00.of (aC args 0))) (λargs rows=>Q4l (Q00.of (aC args 0))) (λX=> .bool X) (λX=>[])
theorem Qo9:Q06 Tryz.prog Qpp:=Q0n Q0j Q0l (.cons Qnq (.cons Qmi (.cons Z2e (.nil)))) Tryz.func49 Tryz.call49 (λargs rows=>Q2k (Q00.of (aC args 0))) [] [] 2
end
end Go.Proofs.YtjaifpiopmhmlaaGreat

/-
  Functions of the program: models, and that its calls come to them (by a program: gen3.py).
-/
import Derived.Test.YtjaifpiopmhmlaaGreatBareIgnoresBase
import Derived.Test.YtjaifpiopmhmlaaGreatBareIgnoresYd
import Derived.Test.YtjaifpiopmhmlaaGreatBareIgnoresYb
set_option maxRecDepth 100000
set_option linter.all false
namespace Go.Proofs.YtjaifpiopmhmlaaGreat
open Go Go.GD Go.IntKind
noncomputable section
def Qza(op:Int):Tree Int:=
let T1:Tree (Int):= .br (op==49) (.lf 3) (let T2:Tree (Int):= .br (op==24) (.lf 6) (.br (op==48) (.lf 7) (.br (op==58) (.lf 8) (.br (op==59) (.lf 8) (.br (op==60) (.lf 9) (.br (op==61) (.lf 9) (.br (op==56) (.lf 1) (.br (op==57) (.lf 1) (.br (decide (op>=62)) (.br (decide (op<=64)) (.lf 1) (.lf 0)) (.lf 0))))))))); .br (decide (op>=17)) (.br (decide (op<=19)) (.lf 4) (.br (decide (op>=20)) (.br (decide (op<=22)) (.lf 5) T2) T2)) (.br (decide (op>=20)) (.br (decide (op<=22)) (.lf 5) T2) T2));let T3:Tree (Int):= .br (op==16) (.lf 3) (.br (op==23) (.lf 3) (.br (decide (op>=32)) (.br (decide (op<=36)) (.lf 3) (.br (decide (op>=40)) (.br (decide (op<=45)) (.lf 3) T1) T1)) (.br (decide (op>=40)) (.br (decide (op<=45)) (.lf 3) T1) T1))); .br (decide (op>=1)) (.br (decide (op<=13)) (.lf 2) T3) T3
def Q25(op:Int):Int:=(Qza op).m
def Zf9:Q0c:=mkR 164 [] true [.one (.int .i64)] [] (λargs rows=>Q25 (argI args 0)) (λX=> .int .i64 X) (λX=>[])
theorem Qei:Q05 Tryz.prog Zf9:=Q0z Q0j Q0k (.nil) Tryz.func164 Tryz.call164 (λargs rows=>Qza (argI args 0)) [] [] 2 (λ_ _ _=>by kernel_rfl) (λ_ _=>rfl) (λ_ _=>Tree.free_ok (by kernel_rfl)) (λ_ X=>by kernel_rfl)
def Qc7(r:Int):Tree Bool:=
.br (decide (r>=0)) (.lf (decide (r<=15))) (.lf false)
def Q7c(r:Int):Bool:=(Qc7 r).m
def Z0h:Q0c:=mkR 185 [] true [.one (.int .i64)] [] (λargs rows=>Q7c (argI args 0)) (λX=> .bool X) (λX=>[])
theorem Qxk:Q05 Tryz.prog Z0h:=Q0z Q0j Q0k (.nil) Tryz.func185 Tryz.call185 (λargs rows=>Qc7 (argI args 0)) [] [] 2 (λ_ _ _=>by kernel_rfl) (λ_ _=>rfl) (λ_ _=>Tree.free_ok (by kernel_rfl)) (λ_ X=>by kernel_rfl)
def Ql2(f:Int):Tree (Int×Int):=
.br (f==3) (.lf ((-32768),32767)) (.br (f==7) (.lf ((-32768),32767)) (.br (f==4) (.lf (0,65535)) (.br (f==6) (.lf (0,65535)) (.br (f==5) (.lf (0,31)) (.br (f==8) (.lf (0,7)) (.br (f==9) (.lf (0,11)) (.lf (0,0))))))))
def Qky(f:Int):(Int×Int):=(Ql2 f).m
def Z6x:Q0c:=mkR 165 [] true [.one (.int .i64)] [] (λargs rows=>Qky (argI args 0)) (λX=> .tup [.int .i64 (X.1), .int .i64 (X.2)]) (λX=>[])
theorem Qpq:Q05 Tryz.prog Z6x:=Q0z Q0j Q0k (.nil) Tryz.func165 Tryz.call165 (λargs rows=>Ql2 (argI args 0)) [] [] 2 (λ_ _ _=>by kernel_rfl) (λ_ _=>rfl) (λ_ _=>Tree.free_ok (by kernel_rfl)) (λ_ X=>by kernel_rfl)
def Qek(i:Q0i):Tree Bool:=
.lv (Q25 i.Op) λ(x0:Int)=> .br (x0==0) (.lf false) (.lv (Q7c i.A) λ(x1:Bool)=> .br (!x1) (.lf false) (.lv (Q7c i.B) λ(x2:Bool)=> .br (!x2) (.lf false) (.lv (Q7c i.C) λ(x3:Bool)=> .br (!x3) (.lf false) (.lv (Qky x0) λ(x4:Int×Int)=> .br (decide (wrap i64 i.Imm<x4.1)) (.lf false) (.br (decide (wrap i64 i.Imm>x4.2)) (.lf false) (let T1:Tree (Bool):= .br (x0==1) (.br (i.A !=0) (.lf false) (.br (i.B==0) (.lf true) (.br (decide (x0>=2)) (.lf (decide (x0<=5))) (.lf false)))) (.br (i.B==0) (.lf true) (.br (decide (x0>=2)) (.lf (decide (x0<=5))) (.lf false))); .br (x0 !=2) (.br (i.C !=0) (.lf false) T1) T1))))))
def Q6n(i:Q0i):Bool:=(Qek i).m
def Zam:Q0c:=mkR 130 [] true [.agg Q0i.sig] [] (λargs rows=>Q6n (Q0i.of (args.getD 0 .dead).cells)) (λX=> .bool X) (λX=>[])
theorem Qt1:Q05 Tryz.prog Zam:=Q0z Q0j Q0k (.cons Qei (.cons Qxk (.cons Qpq (.nil)))) Tryz.func130 Tryz.call130 (λargs rows=>Qek (Q0i.of (args.getD 0 .dead).cells)) [] [] 2 (λ_ _ _=>by kernel_rfl) (λ_ _=>rfl) (λ_ _=>Tree.free_ok (by kernel_rfl)) (λ_ X=>by kernel_rfl)
def Qg1(i:Q0i):Tree (Int×Bool):=
.lv (Q6n i) λ(x0:Bool)=> .br (!x0) (.lf (0,false)) (.lf (ior u32 (ior u32 (ior u32 (ior u32 (ishl u32 (wrap u32 i.Op) 24) (ishl u32 (wrap u32 i.A) 20)) (ishl u32 (wrap u32 i.B) 16)) (iand u32 (wrap u32 i.Imm) 65535)) (wrap u32 i.C),true))
def Q1f(i:Q0i):(Int×Bool):=(Qg1 i).m
def Z9f:Q0c:=mkR 63 [] true [.agg Q0i.sig] [] (λargs rows=>Q1f (Q0i.of (args.getD 0 .dead).cells)) (λX=> .tup [.int .u32 (X.1), .bool (X.2)]) (λX=>[])
theorem Qjc:Q05 Tryz.prog Z9f:=Q0z Q0j Q0k (.cons Qt1 (.nil)) Tryz.func63 Tryz.call63 (λargs rows=>Qg1 (Q0i.of (args.getD 0 .dead).cells)) [] [] 2 (λ_ _ _=>by kernel_rfl) (λ_ _=>rfl) (λ_ _=>Tree.free_ok (by kernel_rfl)) (λ_ X=>by kernel_rfl)
def Z4x:Tree (List Int):=
.lf ([1,2,3,4,5,6,7,8,9,10,11,12,13,16,16,17,18,19,20,21,22,23,24,24,32,32,33,34,35,35,36,40,41,42,43,44,45,48,49,56,57,58,59,60,60,61,61,62,63,64])
def Z9a:(List Int):=(Z4x).m
def Zkv:Q0c:=mkR 131 [] true [] [] (λargs rows=>Z9a) (λX=> .sl 1 (.ints .i64 X) true) (λX=>[])
theorem Zg7:Q05 Tryz.prog Zkv:=Q0z Q0j Q0k (.nil) Tryz.func131 Tryz.call131 (λargs rows=>Z4x) [.sl (.ints .i64) true] [] 2 (λ_ _ _=>by kernel_rfl) (λ_ _=>rfl) (λ_ _=>Tree.free_ok (by kernel_rfl)) (λ_ X=>by kernel_rfl)
def Z1o(seed:Int):Tree (Int×Int):=
let E1:=wrap u64 (ixor u64 (wrap u64 (seed+11400714819323198485)) (ishr u64 (wrap u64 (seed+11400714819323198485)) 30)*13787848793156543929);let E2:=wrap u64 (ixor u64 E1 (ishr u64 E1 27)*10723151780598845931); .lf (ixor u64 E2 (ishr u64 E2 31),wrap u64 (seed+11400714819323198485))
def Zd8(seed:Int):(Int×Int):=(Z1o seed).m
def Zev:Q0c:=mkR 179 [] true [.one (.int .u64)] [] (λargs rows=>Zd8 (argI args 0)) (λX=> .tup [.int .u64 (X.1), .int .u64 (X.2)]) (λX=>[])
theorem Zbx:Q05 Tryz.prog Zev:=Q0z Q0j Q0k (.nil) Tryz.func179 Tryz.call179 (λargs rows=>Z1o (argI args 0)) [] [] 2 (λ_ _ _=>by kernel_rfl) (λ_ _=>rfl) (λ_ _=>Tree.free_ok (by kernel_rfl)) (λ_ X=>by kernel_rfl)
def Qoc(n:Int)(k:Int):Tree Int:=
.lv (Zd8 (ixor u64 (wrap u64 n) (wrap u64 (wrap u64 k*11400714819323198485)))) λ(x0:Int×Int)=> .lf (wrap i64 (ishr u64 x0.1 1))
def Q2x(n:Int)(k:Int):Int:=(Qoc n k).m
def Zl0:Q0c:=mkR 127 [] true [.one (.int .i64), .one (.int .i64)] [] (λargs rows=>Q2x (argI args 0) (argI args 1)) (λX=> .int .i64 X) (λX=>[])
theorem Ql6:Q05 Tryz.prog Zl0:=Q0z Q0j Q0k (.cons Zbx (.nil)) Tryz.func127 Tryz.call127 (λargs rows=>Qoc (argI args 0) (argI args 1)) [] [] 2 (λ_ _ _=>by kernel_rfl) (λ_ _=>rfl) (λ_ _=>Tree.free_ok (by kernel_rfl)) (λ_ X=>by kernel_rfl)
def Qnu(n:Int)(k:Int):Tree Int:=
.cn (decide (k≠0)) (.br (decide (Int.tmod n k<0)) (.lf (wrap i64 (Int.tmod n k+k))) (.lf (Int.tmod n k)))
def Q3m(n:Int)(k:Int):Int:=(Qnu n k).m
abbrev Q2w(n:Int)(k:Int):Prop:=(Qnu n k).p
def Zdd:Q0c:=mkP 28 [] true [.one (.int .i64), .one (.int .i64)] [] (λargs rows=>Q2w (argI args 0) (argI args 1)) (λargs rows=>Q3m (argI args 0) (argI args 1)) (λX=> .int .i64 X) (λX=>[])
theorem Qfr:Q05 Tryz.prog Zdd:=Q0n Q0j Q0k (.nil) Tryz.func28 Tryz.call28 (λargs rows=>Qnu (argI args 0) (argI args 1)) [] [] 2 (λ_ _ _=>by kernel_rfl) (λ_ _=>rfl) (λ_ _ h=>h) (λ_ X=>by kernel_rfl)
def Qkq(n:Int):Tree Q0i:=
.lv Z9a λ(x0:List Int)=> .lv (Q2x n 1) λ(x1:Int)=> .an (Q2w x1 (x0.length:Int)) (.lv (Q3m x1 (x0.length:Int)) λ(x2:Int)=> .cn (Nat.beq 1 1&&Nat.blt 0 1&&decide (0<=x2/\x2<(x0.length:Int))) (.an (Q2w (ishr i64 x1 8) 6) (.lv (Q3m (ishr i64 x1 8) 6) λ(x3:Int)=> .an (Q2w (ishr i64 x1 12) 6) (.lv (Q3m (ishr i64 x1 12) 6) λ(x4:Int)=> .an (Q2w (ishr i64 x1 16) 6) (.lv (Q3m (ishr i64 x1 16) 6) λ(x5:Int)=> .an (Q2w (ishr i64 x1 20) 24) (.lv (Q3m (ishr i64 x1 20) 24) λ(x6:Int)=> .br (decide (x0.getD x2.toNat (0:Int)<=(13:Int))) (.lf ({Op:=x0.getD x2.toNat 0,A:=x3,B:=x4,C:=x5,Imm:=0})) (let E4:=({Op:=x0.getD x2.toNat 0,A:=x3,B:=x4,C:=0,Imm:=wrap i32 (wrap i64 (wrap i64 (8*x6)-32))}:Q0i);let T1:Tree (Q0i):= .br (x0.getD x2.toNat (0:Int)==(49:Int)) (.lf (E4)) (.br (x0.getD x2.toNat (0:Int)==(24:Int)) (.lf ({Op:=x0.getD x2.toNat 0,A:=x3,B:=0,C:=0,Imm:=wrap i32 (wrap i64 (x6*iand i64 (ishr i64 x1 40) 1))})) (let T2:Tree (Q0i):=let E6:=({Op:=x0.getD x2.toNat 0,A:=x3,B:=0,C:=0,Imm:=wrap i32 (Int.tmod x6 8)}:Q0i); .br (x0.getD x2.toNat (0:Int)==(58:Int)) (.lf (E6)) (.br (x0.getD x2.toNat (0:Int)==(59:Int)) (.lf (E6)) (let E5:=({Op:=x0.getD x2.toNat 0,A:=x3,B:=0,C:=0,Imm:=wrap i32 (Int.tmod x6 12)}:Q0i); .br (x0.getD x2.toNat (0:Int)==(60:Int)) (.lf (E5)) (.br (x0.getD x2.toNat (0:Int)==(61:Int)) (.lf (E5)) (.lf ({Op:=x0.getD x2.toNat 0,A:=0,B:=0,C:=0,Imm:=0}))))); .br (decide (x0.getD x2.toNat (0:Int)>=(17:Int))) (.br (decide (x0.getD x2.toNat (0:Int)<=(22:Int))) (.lf ({Op:=x0.getD x2.toNat 0,A:=x3,B:=x4,C:=0,Imm:=wrap i32 x6})) T2) T2));let T3:Tree (Q0i):= .br (x0.getD x2.toNat (0:Int)==(16:Int)) (.lf (E4)) (.br (x0.getD x2.toNat (0:Int)==(23:Int)) (.lf (E4)) (.br (decide (x0.getD x2.toNat (0:Int)>=(32:Int))) (.br (decide (x0.getD x2.toNat (0:Int)<=(36:Int))) (.lf (E4)) T1) T1)); .br (decide (x0.getD x2.toNat (0:Int)>=(40:Int))) (.br (decide (x0.getD x2.toNat (0:Int)<=(48:Int))) (.br (x0.getD x2.toNat (0:Int)==(48:Int)) (.lf ({Op:=x0.getD x2.toNat 0,A:=x3,B:=0,C:=0,Imm:=wrap i32 (wrap i64 (x6-12))})) (.lf ({Op:=x0.getD x2.toNat 0,A:=x3,B:=x4,C:=0,Imm:=wrap i32 (wrap i64 (x6-12))}))) T3) T3)))))))
def Zdi(n:Int):Q0i:=(Qkq n).m
abbrev Qg7(n:Int):Prop:=(Qkq n).p
def Zfe:Q0c:=mkP 64 [] true [.one (.int .i64)] [] (λargs rows=>Qg7 (argI args 0)) (λargs rows=>Zdi (argI args 0)) (λX=> .agg (Q0i.cells X)) (λX=>[])
theorem Zdx:Q05 Tryz.prog Zfe:=Q0n Q0j Q0k (.cons Zg7 (.cons Ql6 (.cons Qfr (.nil)))) Tryz.func64 Tryz.call64 (λargs rows=>Qkq (argI args 0)) [] [] 2 (λ_ _ _=>by kernel_rfl) (λ_ _=>rfl) (λ_ _ h=>h) (λ_ X=>by kernel_rfl)
def Qpv(l:(List Int))(z:(Int)×(List Int)):Prop:=0<=z.1/\z.1<=l.length/\(z.2.length:Int)=z.1
def Qc5(l:(List Int))(z:(Int)×(List Int)):Nat:=(l.length-z.1).toNat
def Qhr(l:(List Int)):Tree (List Int):=
.lp inferInstance (Qc5 l (0,[])+1) ((((Els.Nil (Els.ints i64 l)\/rE (1:Nat))/\rE (l:List Int))/\True/\rE (0:Int)/\True)/\rE ([]:List Int)/\True) (0,[]) λ(v0:Int×List Int)=> .br (decide (v0.1<(l.length:Int))) (let E1:=Nat.beq 1 1&&Nat.blt 0 1&&decide (0<=v0.1/\v0.1<(l.length:Int)); .cn E1 (let E2:=decide (4*(v0.2.length+1)<=140737488355328); .br (Int.tmod (l.getD v0.1.toNat 0) (17:Int)==(0:Int)) (.cn E1 (.cn E2 (.nx ((((Els.Nil (Els.ints i64 l)\/rE (1:Nat))/\rE (l:List Int))/\True/\rE ((wrap i64 (v0.1+1)):Int)/\True)/\rE ((v0.2++[wrap u32 (iand i64 (l.getD v0.1.toNat 0) 4294967295)]):List Int)/\True) (Sum.inl (wrap i64 (v0.1+1),v0.2++[wrap u32 (iand i64 (l.getD v0.1.toNat 0) 4294967295)]))))) (.cn E1 (.an (Qg7 (l.getD v0.1.toNat 0)) (.lv (Zdi (l.getD v0.1.toNat 0)) λ(x0:Q0i)=> .lv (Q1f x0) λ(x1:Int×Bool)=> .cn E2 (.nx ((((Els.Nil (Els.ints i64 l)\/rE (1:Nat))/\rE (l:List Int))/\True/\rE ((wrap i64 (v0.1+1)):Int)/\True)/\rE ((v0.2++[x1.1]):List Int)/\True) (Sum.inl (wrap i64 (v0.1+1),v0.2++[x1.1])))))))) (.lf (Sum.inr v0.2))
def Qnp(l:(List Int)):(List Int):=(Qhr l).m
abbrev Qlg(l:(List Int)):Prop:=(Qhr l).p
def Za5:LInv:={
 α:=(Int)×(List Int)
 F:=λst a=>([(0,(lk st 0)),(3, .all 0),(4, .int i64 a.1)],[⟨false,23,1, .ints u32 a.2⟩])
 a0:=λst=>((lk st 4).toInt,(Q4e st.rows (rN st 3)))
 ex0:=λst=>[]++[(Q0r (lk st 3) (st.rows.length+0))]
 next:=λst=>((lk st 4).toInt,(Q4e st.rows (rN st 3)))
 ex:=λst=>[]++[(Q0r (lk st 3) (st.rows.length+0))]}
def Z37:List (Nat×LInv):=[(3,Za5)]
def Zf:Q0c:=mkP 59 [] true [.one (.ints .i64)] [] (λargs rows=>Qlg (argL .i64 args 0)) (λargs rows=>Qnp (argL .i64 args 0)) (λX=> .all 0) (λX=>[⟨false,23,1, .ints .u32 X⟩])
theorem Zaa:Q05 Tryz.prog Zf:=Q0n Q0j Q0k (.cons Qjc (.cons Zdx (.nil))) Tryz.func59 Tryz.call59 (λargs rows=>Qhr (argL .i64 args 0)) [.row 23 1 (.ints .u32)] Z37 3 (λ_ _ _=>by kernel_rfl) (λ_ _=>rfl) (λ_ _ h=>h) (λ_ X=>by kernel_rfl)
def Qix(pc:Int):Tree Q04:=
.lf ({X:={a0:=0,a1:=0,a2:=0,a3:=0,a4:=0,a5:=0,a6:=0,a7:=0,a8:=0,a9:=0,a10:=0,a11:=0,a12:=0,a13:=0,a14:=0,a15:=0},Pc:=pc,B6:={a0:=1,a1:=0,a2:=0,a3:=0,a4:=0,a5:=0,a6:=0,a7:=0}})
def Qnz(pc:Int):Q04:=(Qix pc).m
def Zdg:Q0c:=mkR 119 [] true [.one (.int .u32)] [] (λargs rows=>Qnz (argI args 0)) (λX=> .agg (Q04.cells X)) (λX=>[])
theorem Z7p:Q05 Tryz.prog Zdg:=Q0z Q0j Q0k (.nil) Tryz.func119 Tryz.call119 (λargs rows=>Qix (argI args 0)) [] [] 2 (λ_ _ _=>by kernel_rfl) (λ_ _=>rfl) (λ_ _=>Tree.free_ok (by kernel_rfl)) (λ_ X=>by kernel_rfl)
def Qdq(pages:Int):Tree (List Int):=
.br (decide (pages<1)) (.lf ([])) (.br (decide (pages>32)) (.lf ([])) (.cn (Nat.blt 0 1&&Nat.beq 1 1&&List.all [D.int u32 0] D.plain&&decide (0<=wrap i64 (pages*32)/\wrap i64 (pages*32)<=wrap i64 (pages*32)/\wrap i64 (pages*32)<=9223372036854775807/\(↑4:Int)*wrap i64 (pages*32)<=140737488355328)) (.lf (List.replicate (Int.toNat (wrap i64 (pages*32))) 0))))
def Qru(pages:Int):(List Int):=(Qdq pages).m
abbrev Qej(pages:Int):Prop:=(Qdq pages).p
def Zjk:Q0c:=mkP 120 [] true [.one (.int .i64)] [] (λargs rows=>Qej (argI args 0)) (λargs rows=>Qru (argI args 0)) (λX=> .all 0) (λX=>[⟨false,23,1, .ints .u32 X⟩])
theorem Zgq:Q05 Tryz.prog Zjk:=Q0n Q0j Q0k (.nil) Tryz.func120 Tryz.call120 (λargs rows=>Qdq (argI args 0)) [.row 23 1 (.ints .u32)] [] 2 (λ_ _ _=>by kernel_rfl) (λ_ _=>rfl) (λ_ _ h=>h) (λ_ X=>by kernel_rfl)
def Q80(pages:Int)(blocks:Int)(image:(List Int)):Tree (Q00×Bool):=
let E2:=({B4:=0,F0:=0,C7:=false,C1:=0,B8:=false,F2:=0}:Q0q);let T1:Tree ((Q00×Bool)):= .lf ({B2:={X:={a0:=0,a1:=0,a2:=0,a3:=0,a4:=0,a5:=0,a6:=0,a7:=0,a8:=0,a9:=0,a10:=0,a11:=0,a12:=0,a13:=0,a14:=0,a15:=0},Pc:=0,B6:={a0:=0,a1:=0,a2:=0,a3:=0,a4:=0,a5:=0,a6:=0,a7:=0}},Mem:=[],A3:={D3:=[]},B0:={D2:=false,C9:=0,D5:=false},B1:={Blocks:=0,B9:=0,B4:=0,C2:=0,D8:=0,B7:=0,B3:=0,C4:=[]},C5:=E2,A2:={D0:=0,C3:=0},A1:=0,A4:=false,A7:=false},false); .br (decide (pages<1)) T1 (.br (decide (pages>32)) T1 (.br (decide (blocks<0)) T1 (.br (decide (blocks>64)) T1 (.br (decide ((image.length:Int)>wrap i64 (pages*32))) T1 (.lv (Qnz 0) λ(x0:Q04)=> .an (Qej pages) (.lv (Qru pages) λ(x1:List Int)=> .lf ({B2:=x0,Mem:=List.take (Min.min (image.length) (x1.length)) image++List.drop (Min.min (image.length) (x1.length)) x1,A3:={D3:=[]},B0:={D2:=false,C9:=0,D5:=false},B1:={Blocks:=wrap u32 blocks,B9:=0,B4:=0,C2:=0,D8:=0,B7:=0,B3:=0,C4:=[]},C5:=E2,A2:={D0:=0,C3:=0},A1:=0,A4:=false,A7:=false},true)))))))
def Q1q(pages:Int)(blocks:Int)(image:(List Int)):(Q00×Bool):=(Q80 pages blocks image).m
abbrev Q9g(pages:Int)(blocks:Int)(image:(List Int)):Prop:=(Q80 pages blocks image).p
def Zkb:Q0c:=mkP 56 [] true [.one (.int .i64), .one (.int .i64), .one (.ints .u32)] [] (λargs rows=>Q9g (argI args 0) (argI args 1) (argL .u32 args 2)) (λargs rows=>Q1q (argI args 0) (argI args 1) (argL .u32 args 2)) (λX=> .tup [.agg (Q00.cellsW (X.1) (.all 0)), .bool (X.2)]) (λX=>[⟨false,23,1, .ints .u32 (X.1).Mem⟩])
theorem Z22:Q05 Tryz.prog Zkb:=Q0n Q0j Q0k (.cons Z7p (.cons Zgq (.nil))) Tryz.func56 Tryz.call56 (λargs rows=>Q80 (argI args 0) (argI args 1) (argL .u32 args 2)) [.row 23 1 (.ints .u32)] [] 2 (λ_ _ _=>by kernel_rfl) (λ_ _=>rfl) (λ_ _ h=>h) (λ_ X=>by kernel_rfl)
def Qhj(a:(List Int))(b:(List Int))(z:(Int)):Prop:=0<=z/\z<=a.length/\a.length=b.length
def Q4q(a:(List Int))(b:(List Int))(z:(Int)):Nat:=(a.length-z).toNat
def Q7z(a:(List Int))(b:(List Int)):Tree Bool:=
.br ((a.length:Int) !=(b.length:Int)) (.lf false) (.lp inferInstance (Q4q a b 0+1) ((((Els.Nil (Els.ints u32 a)\/rE (1:Nat))/\rE (a:List Int))/\((Els.Nil (Els.ints u32 b)\/rE (1:Nat))/\rE (b:List Int))/\rE (0:Int)/\True)/\True) 0 λ(v0:Int)=> .br (decide (v0<(a.length:Int))) (.cn (Nat.beq 1 1&&Nat.blt 0 1&&decide (0<=v0/\v0<(a.length:Int))) (.cn (Nat.beq 1 1&&Nat.blt 0 1&&decide (0<=v0/\v0<(b.length:Int))) (.br (a.getD v0.toNat 0 !=b.getD v0.toNat 0) (.lf (Sum.inr false)) (.nx ((((Els.Nil (Els.ints u32 a)\/rE (1:Nat))/\rE (a:List Int))/\((Els.Nil (Els.ints u32 b)\/rE (1:Nat))/\rE (b:List Int))/\rE ((wrap i64 (v0+1)):Int)/\True)/\True) (Sum.inl (wrap i64 (v0+1))))))) (.lf (Sum.inr true)))
def Qdz(a:(List Int))(b:(List Int)):Bool:=(Q7z a b).m
def Q8g(a:(List Int))(b:(List Int)):Prop:=
a.length<=1000000000000
theorem Qsu(a:(List Int))(b:(List Int))(hw:Q8g a b):(Q7z a b).p:=by
 simp only[Q8g]at hw
 unfold Tree.p Q7z
 repeat'(first|refine w_lp (inv:=Qhj a b) (μ:=Q4q a b) ?_ (Nat.lt_succ_self _) (λ_ _=> ?_)|exact trivial|refine w_br (λ_=> ?_) (λ_=> ?_)|refine w_cn ?_ ?_|refine w_an ?_ ?_|refine w_lv (λ_ _=> ?_)|refine w_nx ?_|refine w_lf ?_|refine And.intro ?_ ?_)
 all_goals((try simp only[Qhj,Q4q]at*);((subst_vars;first|trivial|assumption|omega|((simp(config:={decide:=true,failIfUnchanged:=false}) only[Bool.and_eq_true,Bool.or_eq_true,Bool.and_eq_false_iff,Bool.or_eq_false_iff,Bool.not_eq_true',Bool.not_eq_false',Bool.not_eq_true,Bool.not_eq_false,decide_eq_true_eq,decide_eq_false_iff_not,Q4j,Q2t,Q4f,Q2u,beq_iff_eq,beq_eq_false_iff_ne,bne_iff_ne,bne_eq_false_iff_eq,ne_eq,List.all_cons,List.all_nil,D.plain,List.length_cons,List.length_nil,List.length_append,List.length_set,List.length_replicate,IntKind.wrap_i64,IntKind.wrap_u64,IntKind.wrap_u32,IntKind.wrap_i32,IntKind.wrap_u8,true_and,and_true,or_false,false_or,or_true,true_or,not_true_eq_false,not_false_eq_true,Prod.fst,Prod.snd]at*);first|done|assumption|omega)|((simp(config:={decide:=true,failIfUnchanged:=false}) only[Bool.and_eq_true,Bool.or_eq_true,Bool.and_eq_false_iff,Bool.or_eq_false_iff,Bool.not_eq_true',Bool.not_eq_false',Bool.not_eq_true,Bool.not_eq_false,decide_eq_true_eq,decide_eq_false_iff_not,Q4j,Q2t,Q4f,Q2u,beq_iff_eq,beq_eq_false_iff_ne,bne_iff_ne,bne_eq_false_iff_eq,ne_eq,List.all_cons,List.all_nil,D.plain,List.length_cons,List.length_nil,List.length_append,List.length_set,List.length_replicate,IntKind.wrap_i64,IntKind.wrap_u64,IntKind.wrap_u32,IntKind.wrap_i32,IntKind.wrap_u8,true_and,and_true,or_false,false_or,or_true,true_or,not_true_eq_false,not_false_eq_true,Prod.fst,Prod.snd]at*);simp only[<-List.length_pos_iff]at*;omega)|(simp_all;done)|(have:= @Qfc;simp_all;try omega))))
def Qvg:LInv:={
 α:=(Int)
 F:=λst a=>([(0,(lk st 0)),(1,(lk st 1)),(5, .int i64 a)],[])
 a0:=λst=>(lk st 5).toInt
 ex0:=λst=>[]++[]
 next:=λst=>(lk st 5).toInt
 ex:=λst=>[]++[]}
def Qqa:List (Nat×LInv):=[(4,Qvg)]
def Qx7:Q0c:=mkP 71 [] true [.one (.ints .u32), .one (.ints .u32)] [] (λargs rows=>Q8g (argL .u32 args 0) (argL .u32 args 1)) (λargs rows=>Qdz (argL .u32 args 0) (argL .u32 args 1)) (λX=> .bool X) (λX=>[])
theorem Qv1:Q05 Tryz.prog Qx7:=Q0n Q0j Q0k (.nil) Tryz.func71 Tryz.call71 (λargs rows=>Q7z (argL .u32 args 0) (argL .u32 args 1)) [] Qqa 3 (λ_ _ _=>by kernel_rfl) (λ_ _=>rfl) (λargs rows h=>Qsu (argL .u32 args 0) (argL .u32 args 1) h) (λ_ X=>by kernel_rfl)
def Qht(a:Q00)(b:Q00):Tree Bool:=
.br (eqs [D.int u32 a.B2.X.a0,D.int u32 a.B2.X.a1,D.int u32 a.B2.X.a2,D.int u32 a.B2.X.a3,D.int u32 a.B2.X.a4,D.int u32 a.B2.X.a5,D.int u32 a.B2.X.a6,D.int u32 a.B2.X.a7,D.int u32 a.B2.X.a8,D.int u32 a.B2.X.a9,D.int u32 a.B2.X.a10,D.int u32 a.B2.X.a11,D.int u32 a.B2.X.a12,D.int u32 a.B2.X.a13,D.int u32 a.B2.X.a14,D.int u32 a.B2.X.a15,D.int u32 a.B2.Pc,D.int u32 a.B2.B6.a0,D.int u32 a.B2.B6.a1,D.int u32 a.B2.B6.a2,D.int u32 a.B2.B6.a3,D.int u32 a.B2.B6.a4,D.int u32 a.B2.B6.a5,D.int u32 a.B2.B6.a6,D.int u32 a.B2.B6.a7] [D.int u32 b.B2.X.a0,D.int u32 b.B2.X.a1,D.int u32 b.B2.X.a2,D.int u32 b.B2.X.a3,D.int u32 b.B2.X.a4,D.int u32 b.B2.X.a5,D.int u32 b.B2.X.a6,D.int u32 b.B2.X.a7,D.int u32 b.B2.X.a8,D.int u32 b.B2.X.a9,D.int u32 b.B2.X.a10,D.int u32 b.B2.X.a11,D.int u32 b.B2.X.a12,D.int u32 b.B2.X.a13,D.int u32 b.B2.X.a14,D.int u32 b.B2.X.a15,D.int u32 b.B2.Pc,D.int u32 b.B2.B6.a0,D.int u32 b.B2.B6.a1,D.int u32 b.B2.B6.a2,D.int u32 b.B2.B6.a3,D.int u32 b.B2.B6.a4,D.int u32 b.B2.B6.a5,D.int u32 b.B2.B6.a6,D.int u32 b.B2.B6.a7]) (.an (Q8g a.Mem b.Mem) (.lv (Qdz a.Mem b.Mem) λ(x0:Bool)=> .br x0 (.br (eqs [D.str a.A3.D3] [D.str b.A3.D3]) (.br (eqs [D.bool a.B0.D2,D.int u32 a.B0.C9,D.bool a.B0.D5] [D.bool b.B0.D2,D.int u32 b.B0.C9,D.bool b.B0.D5]) (.br (eqs [D.int u32 a.B1.Blocks,D.int u32 a.B1.B9,D.int u32 a.B1.B4,D.int i64 a.B1.C2,D.int i64 a.B1.D8,D.int u32 a.B1.B7,D.int u32 a.B1.B3,D.str a.B1.C4] [D.int u32 b.B1.Blocks,D.int u32 b.B1.B9,D.int u32 b.B1.B4,D.int i64 b.B1.C2,D.int i64 b.B1.D8,D.int u32 b.B1.B7,D.int u32 b.B1.B3,D.str b.B1.C4]) (.br (eqs [D.int u32 a.C5.B4,D.int u32 a.C5.F0,D.bool a.C5.C7,D.int u32 a.C5.C1,D.bool a.C5.B8,D.int u32 a.C5.F2] [D.int u32 b.C5.B4,D.int u32 b.C5.F0,D.bool b.C5.C7,D.int u32 b.C5.C1,D.bool b.C5.B8,D.int u32 b.C5.F2]) (.br (eqs [D.int u32 a.A2.D0,D.int u32 a.A2.C3] [D.int u32 b.A2.D0,D.int u32 b.A2.C3]) (.br (a.A1==b.A1) (.br (a.A4==b.A4) (.lf (a.A7==b.A7)) (.lf false)) (.lf false)) (.lf false)) (.lf false)) (.lf false)) (.lf false)) (.lf false)) (.lf false))) (.lf false)
def Z1d(a:Q00)(b:Q00):Bool:=(Qht a b).m
abbrev Ql5(a:Q00)(b:Q00):Prop:=(Qht a b).p
def Zej:Q0c:=mkP 25 [] true [.agg Q00.sig, .agg Q00.sig] [] (λargs rows=>Ql5 (Q00.of (args.getD 0 .dead).cells) (Q00.of (args.getD 1 .dead).cells)) (λargs rows=>Z1d (Q00.of (args.getD 0 .dead).cells) (Q00.of (args.getD 1 .dead).cells)) (λX=> .bool X) (λX=>[])
theorem Zdn:Q05 Tryz.prog Zej:=Q0n Q0j Q0k (.cons Qv1 (.nil)) Tryz.func25 Tryz.call25 (λargs rows=>Qht (Q00.of (args.getD 0 .dead).cells) (Q00.of (args.getD 1 .dead).cells)) [] [] 2 (λ_ _ _=>by kernel_rfl) (λ_ _=>rfl) (λ_ _ h=>h) (λ_ X=>by kernel_rfl)
def Q20(m:Q00):Tree Bool:=
.an (Qaq m) (.lv (Q23 m) λ(x0:Bool)=> .br (!x0) (.lf false) (.an (Q9r m) (.lv (Q0p m) λ(x1:Q00)=> .an (Qiz x1.B2 x1.Mem) (.lv (Q4s x1.B2 x1.Mem) λ(x2:Q04×List Int×Q11)=> .br (x2.2.2.B5==1) (.lf (x2.2.2.D1==2)) (.lf false)))))
def Q21(m:Q00):Bool:=(Q20 m).m
abbrev Q3d(m:Q00):Prop:=(Q20 m).p
def Qoy:Q0c:=mkP 49 [] true [.agg Q00.sig] [] (λargs rows=>Q3d (Q00.of (args.getD 0 .dead).cells)) (λargs rows=>Q21 (Q00.of (args.getD 0 .dead).cells)) (λX=> .bool X) (λX=>[])
theorem Qnl:Q05 Tryz.prog Qoy:=Q0n Q0j Q0k (.cons Qnj (.cons Qlu (.cons Z1l (.nil)))) Tryz.func49 Tryz.call49 (λargs rows=>Q20 (Q00.of (args.getD 0 .dead).cells)) [] [] 2 (λ_ _ _=>by kernel_rfl) (λ_ _=>rfl) (λ_ _ h=>h) (λ_ X=>by kernel_rfl)
end
end Go.Proofs.YtjaifpiopmhmlaaGreat

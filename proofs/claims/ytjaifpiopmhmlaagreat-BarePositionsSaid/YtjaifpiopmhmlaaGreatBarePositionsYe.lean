/-
  Functions of the program: models, and that its calls come to them (by a program: gen3.py).
-/
import Derived.Test.YtjaifpiopmhmlaaGreatBarePositionsBase
import Derived.Test.YtjaifpiopmhmlaaGreatBarePositionsYd
import Derived.Test.YtjaifpiopmhmlaaGreatBarePositionsYb
set_option maxRecDepth 100000
set_option linter.unusedVariables false
set_option linter.unusedSimpArgs false
namespace Go.Proofs.YtjaifpiopmhmlaaGreat
open Go Go.GD Go.IntKind
noncomputable section
def Z08(op:Int):Tree Int:=
let T1:Tree (Int):= .br (op==49) (.lf 3) (let T2:Tree (Int):= .br (op==24) (.lf 6) (.br (op==48) (.lf 7) (.br (op==58) (.lf 8) (.br (op==59) (.lf 8) (.br (op==60) (.lf 9) (.br (op==61) (.lf 9) (.br (op==56) (.lf 1) (.br (op==57) (.lf 1) (.br (decide (op≥62)) (.br (decide (op≤64)) (.lf 1) (.lf 0)) (.lf 0))))))))); .br (decide (op≥17)) (.br (decide (op≤19)) (.lf 4) (.br (decide (op≥20)) (.br (decide (op≤22)) (.lf 5) T2) T2)) (.br (decide (op≥20)) (.br (decide (op≤22)) (.lf 5) T2) T2));let T3:Tree (Int):= .br (op==16) (.lf 3) (.br (op==23) (.lf 3) (.br (decide (op≥32)) (.br (decide (op≤36)) (.lf 3) (.br (decide (op≥40)) (.br (decide (op≤45)) (.lf 3) T1) T1)) (.br (decide (op≥40)) (.br (decide (op≤45)) (.lf 3) T1) T1))); .br (decide (op≥1)) (.br (decide (op≤13)) (.lf 2) T3) T3
def Q26(op:Int):Int:=(Z08 op).m
def Zdu:Q0c:=mkR 164 [] true [.one (.int .i64)] [] (λargs rows=>Q26 (argI args 0)) (λX=> .int .i64 X) (λX=>[])
theorem Qet:Q05 Tryz.prog Zdu:=Q0z Q0k Q0l (.nil) Tryz.func164 Tryz.call164 (λargs rows=>Z08 (argI args 0)) [] [] 2 (λ_ _ _=>by kernel_rfl) (λ_ _=>rfl) (λ_ _=>Tree.free_ok (by kernel_rfl)) (λ_ X=>by kernel_rfl)
def Qce(r:Int):Tree Bool:=
.br (decide (r≥0)) (.lf (decide (r≤15))) (.lf false)
def Q7l(r:Int):Bool:=(Qce r).m
def Z0r:Q0c:=mkR 185 [] true [.one (.int .i64)] [] (λargs rows=>Q7l (argI args 0)) (λX=> .bool X) (λX=>[])
theorem Qwp:Q05 Tryz.prog Z0r:=Q0z Q0k Q0l (.nil) Tryz.func185 Tryz.call185 (λargs rows=>Qce (argI args 0)) [] [] 2 (λ_ _ _=>by kernel_rfl) (λ_ _=>rfl) (λ_ _=>Tree.free_ok (by kernel_rfl)) (λ_ X=>by kernel_rfl)
def Ql8(f:Int):Tree (Int×Int):=
.br (f==3) (.lf ((-32768),32767)) (.br (f==7) (.lf ((-32768),32767)) (.br (f==4) (.lf (0,65535)) (.br (f==6) (.lf (0,65535)) (.br (f==5) (.lf (0,31)) (.br (f==8) (.lf (0,7)) (.br (f==9) (.lf (0,11)) (.lf (0,0))))))))
def Qkt(f:Int):(Int×Int):=(Ql8 f).m
def Z5r:Q0c:=mkR 165 [] true [.one (.int .i64)] [] (λargs rows=>Qkt (argI args 0)) (λX=> .tup [.int .i64 (X.1), .int .i64 (X.2)]) (λX=>[])
theorem Qpe:Q05 Tryz.prog Z5r:=Q0z Q0k Q0l (.nil) Tryz.func165 Tryz.call165 (λargs rows=>Ql8 (argI args 0)) [] [] 2 (λ_ _ _=>by kernel_rfl) (λ_ _=>rfl) (λ_ _=>Tree.free_ok (by kernel_rfl)) (λ_ X=>by kernel_rfl)
def Qeg(i:Q0i):Tree Bool:=
.lv (Q26 i.Op) λ(x0:Int)=> .br (x0==0) (.lf false) (.lv (Q7l i.A) λ(x1:Bool)=> .br (!x1) (.lf false) (.lv (Q7l i.B) λ(x2:Bool)=> .br (!x2) (.lf false) (.lv (Q7l i.C) λ(x3:Bool)=> .br (!x3) (.lf false) (.lv (Qkt x0) λ(x4:Int×Int)=> .br (decide (wrap i64 i.Imm<x4.1)) (.lf false) (.br (decide (wrap i64 i.Imm>x4.2)) (.lf false) (let T1:Tree (Bool):= .br (x0==1) (.br (i.A !=0) (.lf false) (.br (i.B==0) (.lf true) (.br (decide (x0≥2)) (.lf (decide (x0≤5))) (.lf false)))) (.br (i.B==0) (.lf true) (.br (decide (x0≥2)) (.lf (decide (x0≤5))) (.lf false))); .br (x0 !=2) (.br (i.C !=0) (.lf false) T1) T1))))))
def Q6m(i:Q0i):Bool:=(Qeg i).m
def Zaw:Q0c:=mkR 130 [] true [.agg Q0i.sig] [] (λargs rows=>Q6m (Q0i.of (args.getD 0 .dead).cells)) (λX=> .bool X) (λX=>[])
theorem Qsk:Q05 Tryz.prog Zaw:=Q0z Q0k Q0l (.cons Qet (.cons Qwp (.cons Qpe (.nil)))) Tryz.func130 Tryz.call130 (λargs rows=>Qeg (Q0i.of (args.getD 0 .dead).cells)) [] [] 2 (λ_ _ _=>by kernel_rfl) (λ_ _=>rfl) (λ_ _=>Tree.free_ok (by kernel_rfl)) (λ_ X=>by kernel_rfl)
def Qfu(i:Q0i):Tree (Int×Bool):=
.lv (Q6m i) λ(x0:Bool)=> .br (!x0) (.lf (0,false)) (.lf (ior u32 (ior u32 (ior u32 (ior u32 (ishl u32 (wrap u32 i.Op) 24) (ishl u32 (wrap u32 i.A) 20)) (ishl u32 (wrap u32 i.B) 16)) (iand u32 (wrap u32 i.Imm) 65535)) (wrap u32 i.C),true))
def Q1f(i:Q0i):(Int×Bool):=(Qfu i).m
def Z66:Q0c:=mkR 63 [] true [.agg Q0i.sig] [] (λargs rows=>Q1f (Q0i.of (args.getD 0 .dead).cells)) (λX=> .tup [.int .u32 (X.1), .bool (X.2)]) (λX=>[])
theorem Qiq:Q05 Tryz.prog Z66:=Q0z Q0k Q0l (.cons Qsk (.nil)) Tryz.func63 Tryz.call63 (λargs rows=>Qfu (Q0i.of (args.getD 0 .dead).cells)) [] [] 2 (λ_ _ _=>by kernel_rfl) (λ_ _=>rfl) (λ_ _=>Tree.free_ok (by kernel_rfl)) (λ_ X=>by kernel_rfl)
def Z4u:Tree (List Int):=
.lf ([1,2,3,4,5,6,7,8,9,10,11,12,13,16,16,17,18,19,20,21,22,23,24,24,32,32,33,34,35,35,36,40,41,42,43,44,45,48,49,56,57,58,59,60,60,61,61,62,63,64])
def Z9:(List Int):=(Z4u).m
def Zka:Q0c:=mkR 131 [] true [] [] (λargs rows=>Z9) (λX=> .sl 1 (.ints .i64 X) true) (λX=>[])
theorem Zez:Q05 Tryz.prog Zka:=Q0z Q0k Q0l (.nil) Tryz.func131 Tryz.call131 (λargs rows=>Z4u) [.sl (.ints .i64) true] [] 2 (λ_ _ _=>by kernel_rfl) (λ_ _=>rfl) (λ_ _=>Tree.free_ok (by kernel_rfl)) (λ_ X=>by kernel_rfl)
def Z0h(seed:Int):Tree (Int×Int):=
let E1:=wrap u64 (ixor u64 (wrap u64 (seed+11400714819323198485)) (ishr u64 (wrap u64 (seed+11400714819323198485)) 30)*13787848793156543929);let E2:=wrap u64 (ixor u64 E1 (ishr u64 E1 27)*10723151780598845931); .lf (ixor u64 E2 (ishr u64 E2 31),wrap u64 (seed+11400714819323198485))
def Zch(seed:Int):(Int×Int):=(Z0h seed).m
def Zet:Q0c:=mkR 179 [] true [.one (.int .u64)] [] (λargs rows=>Zch (argI args 0)) (λX=> .tup [.int .u64 (X.1), .int .u64 (X.2)]) (λX=>[])
theorem Zbi:Q05 Tryz.prog Zet:=Q0z Q0k Q0l (.nil) Tryz.func179 Tryz.call179 (λargs rows=>Z0h (argI args 0)) [] [] 2 (λ_ _ _=>by kernel_rfl) (λ_ _=>rfl) (λ_ _=>Tree.free_ok (by kernel_rfl)) (λ_ X=>by kernel_rfl)
def Qo9(n:Int)(k:Int):Tree Int:=
.lv (Zch (ixor u64 (wrap u64 n) (wrap u64 (wrap u64 k*11400714819323198485)))) λ(x0:Int×Int)=> .lf (wrap i64 (ishr u64 x0.1 1))
def Q2x(n:Int)(k:Int):Int:=(Qo9 n k).m
def Zis:Q0c:=mkR 127 [] true [.one (.int .i64), .one (.int .i64)] [] (λargs rows=>Q2x (argI args 0) (argI args 1)) (λX=> .int .i64 X) (λX=>[])
theorem Qkm:Q05 Tryz.prog Zis:=Q0z Q0k Q0l (.cons Zbi (.nil)) Tryz.func127 Tryz.call127 (λargs rows=>Qo9 (argI args 0) (argI args 1)) [] [] 2 (λ_ _ _=>by kernel_rfl) (λ_ _=>rfl) (λ_ _=>Tree.free_ok (by kernel_rfl)) (λ_ X=>by kernel_rfl)
def Qmt(n:Int)(k:Int):Tree Int:=
.cn (decide (k≠0)) (.br (decide (Int.tmod n k<0)) (.lf (wrap i64 (Int.tmod n k+k))) (.lf (Int.tmod n k)))
def Q46(n:Int)(k:Int):Int:=(Qmt n k).m
abbrev Q3l(n:Int)(k:Int):Prop:=(Qmt n k).p
def Zcb:Q0c:=mkP 28 [] true [.one (.int .i64), .one (.int .i64)] [] (λargs rows=>Q3l (argI args 0) (argI args 1)) (λargs rows=>Q46 (argI args 0) (argI args 1)) (λX=> .int .i64 X) (λX=>[])
theorem Qkf:Q05 Tryz.prog Zcb:=Q0n Q0k Q0l (.nil) Tryz.func28 Tryz.call28 (λargs rows=>Qmt (argI args 0) (argI args 1)) [] [] 2 (λ_ _ _=>by kernel_rfl) (λ_ _=>rfl) (λ_ _ h=>h) (λ_ X=>by kernel_rfl)
def Qko(n:Int):Tree Q0i:=
.lv Z9 λ(x0:List Int)=> .lv (Q2x n 1) λ(x1:Int)=> .an (Q3l x1 (x0.length:Int)) (.lv (Q46 x1 (x0.length:Int)) λ(x2:Int)=> .cn (Nat.beq 1 1&&Nat.blt 0 1&&decide (0≤x2∧x2<(x0.length:Int))) (.an (Q3l (ishr i64 x1 8) 6) (.lv (Q46 (ishr i64 x1 8) 6) λ(x3:Int)=> .an (Q3l (ishr i64 x1 12) 6) (.lv (Q46 (ishr i64 x1 12) 6) λ(x4:Int)=> .an (Q3l (ishr i64 x1 16) 6) (.lv (Q46 (ishr i64 x1 16) 6) λ(x5:Int)=> .an (Q3l (ishr i64 x1 20) 24) (.lv (Q46 (ishr i64 x1 20) 24) λ(x6:Int)=> .br (decide (x0.getD x2.toNat (0:Int)≤(13:Int))) (.lf ({Op:=x0.getD x2.toNat 0,A:=x3,B:=x4,C:=x5,Imm:=0})) (let E4:=({Op:=x0.getD x2.toNat 0,A:=x3,B:=x4,C:=0,Imm:=wrap i32 (wrap i64 (wrap i64 (8*x6)-32))}:Q0i);let T1:Tree (Q0i):= .br (x0.getD x2.toNat (0:Int)==(49:Int)) (.lf (E4)) (.br (x0.getD x2.toNat (0:Int)==(24:Int)) (.lf ({Op:=x0.getD x2.toNat 0,A:=x3,B:=0,C:=0,Imm:=wrap i32 (wrap i64 (x6*iand i64 (ishr i64 x1 40) 1))})) (let T2:Tree (Q0i):=let E6:=({Op:=x0.getD x2.toNat 0,A:=x3,B:=0,C:=0,Imm:=wrap i32 (Int.tmod x6 8)}:Q0i); .br (x0.getD x2.toNat (0:Int)==(58:Int)) (.lf (E6)) (.br (x0.getD x2.toNat (0:Int)==(59:Int)) (.lf (E6)) (let E5:=({Op:=x0.getD x2.toNat 0,A:=x3,B:=0,C:=0,Imm:=wrap i32 (Int.tmod x6 12)}:Q0i); .br (x0.getD x2.toNat (0:Int)==(60:Int)) (.lf (E5)) (.br (x0.getD x2.toNat (0:Int)==(61:Int)) (.lf (E5)) (.lf ({Op:=x0.getD x2.toNat 0,A:=0,B:=0,C:=0,Imm:=0}))))); .br (decide (x0.getD x2.toNat (0:Int)≥(17:Int))) (.br (decide (x0.getD x2.toNat (0:Int)≤(22:Int))) (.lf ({Op:=x0.getD x2.toNat 0,A:=x3,B:=x4,C:=0,Imm:=wrap i32 x6})) T2) T2));let T3:Tree (Q0i):= .br (x0.getD x2.toNat (0:Int)==(16:Int)) (.lf (E4)) (.br (x0.getD x2.toNat (0:Int)==(23:Int)) (.lf (E4)) (.br (decide (x0.getD x2.toNat (0:Int)≥(32:Int))) (.br (decide (x0.getD x2.toNat (0:Int)≤(36:Int))) (.lf (E4)) T1) T1)); .br (decide (x0.getD x2.toNat (0:Int)≥(40:Int))) (.br (decide (x0.getD x2.toNat (0:Int)≤(48:Int))) (.br (x0.getD x2.toNat (0:Int)==(48:Int)) (.lf ({Op:=x0.getD x2.toNat 0,A:=x3,B:=0,C:=0,Imm:=wrap i32 (wrap i64 (x6-12))})) (.lf ({Op:=x0.getD x2.toNat 0,A:=x3,B:=x4,C:=0,Imm:=wrap i32 (wrap i64 (x6-12))}))) T3) T3)))))))
def Zao(n:Int):Q0i:=(Qko n).m
abbrev Qg(n:Int):Prop:=(Qko n).p
def Zdt:Q0c:=mkP 64 [] true [.one (.int .i64)] [] (λargs rows=>Qg (argI args 0)) (λargs rows=>Zao (argI args 0)) (λX=> .agg (Q0i.cells X)) (λX=>[])
theorem Zct:Q05 Tryz.prog Zdt:=Q0n Q0k Q0l (.cons Zez (.cons Qkm (.cons Qkf (.nil)))) Tryz.func64 Tryz.call64 (λargs rows=>Qko (argI args 0)) [] [] 2 (λ_ _ _=>by kernel_rfl) (λ_ _=>rfl) (λ_ _ h=>h) (λ_ X=>by kernel_rfl)
def Qp4(l:(List Int))(z:(Int)×(List Int)):Prop:=0≤z.1∧z.1≤l.length∧(z.2.length:Int)=z.1
def Qc(l:(List Int))(z:(Int)×(List Int)):Nat:=(l.length-z.1).toNat
def Qgw(l:(List Int)):Tree (List Int):=
.lp inferInstance (Qc l (0,[])+1) ((((Els.Nil (Els.ints i64 l)∨rE (1:Nat))∧rE (l:List Int))∧True∧rE (0:Int)∧True)∧rE ([]:List Int)∧True) (0,[]) λ(v0:Int×List Int)=> .br (decide (v0.1<(l.length:Int))) (let E1:=Nat.beq 1 1&&Nat.blt 0 1&&decide (0≤v0.1∧v0.1<(l.length:Int)); .cn E1 (let E2:=decide (4*(v0.2.length+1)≤140737488355328); .br (Int.tmod (l.getD v0.1.toNat 0) (17:Int)==(0:Int)) (.cn E1 (.cn E2 (.nx ((((Els.Nil (Els.ints i64 l)∨rE (1:Nat))∧rE (l:List Int))∧True∧rE ((wrap i64 (v0.1+1)):Int)∧True)∧rE ((v0.2++[wrap u32 (iand i64 (l.getD v0.1.toNat 0) 4294967295)]):List Int)∧True) (Sum.inl (wrap i64 (v0.1+1),v0.2++[wrap u32 (iand i64 (l.getD v0.1.toNat 0) 4294967295)]))))) (.cn E1 (.an (Qg (l.getD v0.1.toNat 0)) (.lv (Zao (l.getD v0.1.toNat 0)) λ(x0:Q0i)=> .lv (Q1f x0) λ(x1:Int×Bool)=> .cn E2 (.nx ((((Els.Nil (Els.ints i64 l)∨rE (1:Nat))∧rE (l:List Int))∧True∧rE ((wrap i64 (v0.1+1)):Int)∧True)∧rE ((v0.2++[x1.1]):List Int)∧True) (Sum.inl (wrap i64 (v0.1+1),v0.2++[x1.1])))))))) (.lf (Sum.inr v0.2))
def Qn6(l:(List Int)):(List Int):=(Qgw l).m
abbrev Qkk(l:(List Int)):Prop:=(Qgw l).p
def Zbd:LInv:={
 α:=(Int)×(List Int)
 F:=λst a=>([(0,(lk st 0)),(3, .all 0),(4, .int i64 a.1)],[⟨false,23,1, .ints u32 a.2⟩])
 a0:=λst=>((lk st 4).toInt,(Q49 st.rows (rN st 3)))
 ex0:=λst=>[]++[(Q0o (lk st 3) (st.rows.length+0))]
 next:=λst=>((lk st 4).toInt,(Q49 st.rows (rN st 3)))
 ex:=λst=>[]++[(Q0o (lk st 3) (st.rows.length+0))]}
def Z1w:List (Nat×LInv):=[(3,Zbd)]
def Zg1:Q0c:=mkP 59 [] true [.one (.ints .i64)] [] (λargs rows=>Qkk (argL .i64 args 0)) (λargs rows=>Qn6 (argL .i64 args 0)) (λX=> .all 0) (λX=>[⟨false,23,1, .ints .u32 X⟩])
theorem Zba:Q05 Tryz.prog Zg1:=Q0n Q0k Q0l (.cons Qiq (.cons Zct (.nil))) Tryz.func59 Tryz.call59 (λargs rows=>Qgw (argL .i64 args 0)) [.row 23 1 (.ints .u32)] Z1w 3 (λ_ _ _=>by kernel_rfl) (λ_ _=>rfl) (λ_ _ h=>h) (λ_ X=>by kernel_rfl)
def Qig(pc:Int):Tree Q04:=
.lf ({X:={a0:=0,a1:=0,a2:=0,a3:=0,a4:=0,a5:=0,a6:=0,a7:=0,a8:=0,a9:=0,a10:=0,a11:=0,a12:=0,a13:=0,a14:=0,a15:=0},Pc:=pc,B6:={a0:=1,a1:=0,a2:=0,a3:=0,a4:=0,a5:=0,a6:=0,a7:=0}})
def Qoa(pc:Int):Q04:=(Qig pc).m
def Zcw:Q0c:=mkR 119 [] true [.one (.int .u32)] [] (λargs rows=>Qoa (argI args 0)) (λX=> .agg (Q04.cells X)) (λX=>[])
theorem Z8q:Q05 Tryz.prog Zcw:=Q0z Q0k Q0l (.nil) Tryz.func119 Tryz.call119 (λargs rows=>Qig (argI args 0)) [] [] 2 (λ_ _ _=>by kernel_rfl) (λ_ _=>rfl) (λ_ _=>Tree.free_ok (by kernel_rfl)) (λ_ X=>by kernel_rfl)
def Qde(pages:Int):Tree (List Int):=
.br (decide (pages<1)) (.lf ([])) (.br (decide (pages>32)) (.lf ([])) (.cn (Nat.blt 0 1&&Nat.beq 1 1&&List.all [D.int u32 0] D.plain&&decide (0≤wrap i64 (pages*32)∧wrap i64 (pages*32)≤wrap i64 (pages*32)∧wrap i64 (pages*32)≤9223372036854775807∧(↑4:Int)*wrap i64 (pages*32)≤140737488355328)) (.lf (List.replicate (Int.toNat (wrap i64 (pages*32))) 0))))
def Qrh(pages:Int):(List Int):=(Qde pages).m
abbrev Qe9(pages:Int):Prop:=(Qde pages).p
def Zj9:Q0c:=mkP 120 [] true [.one (.int .i64)] [] (λargs rows=>Qe9 (argI args 0)) (λargs rows=>Qrh (argI args 0)) (λX=> .all 0) (λX=>[⟨false,23,1, .ints .u32 X⟩])
theorem Zgg:Q05 Tryz.prog Zj9:=Q0n Q0k Q0l (.nil) Tryz.func120 Tryz.call120 (λargs rows=>Qde (argI args 0)) [.row 23 1 (.ints .u32)] [] 2 (λ_ _ _=>by kernel_rfl) (λ_ _=>rfl) (λ_ _ h=>h) (λ_ X=>by kernel_rfl)
def Q83(pages:Int)(blocks:Int)(image:(List Int)):Tree (Q00×Bool):=
let E2:=({B4:=0,F0:=0,C6:=false,C1:=0,B8:=false,F2:=0}:Q0p);let T1:Tree ((Q00×Bool)):= .lf ({B3:={X:={a0:=0,a1:=0,a2:=0,a3:=0,a4:=0,a5:=0,a6:=0,a7:=0,a8:=0,a9:=0,a10:=0,a11:=0,a12:=0,a13:=0,a14:=0,a15:=0},Pc:=0,B6:={a0:=0,a1:=0,a2:=0,a3:=0,a4:=0,a5:=0,a6:=0,a7:=0}},Mem:=[],A3:={D3:=[]},B0:={D2:=false,D0:=0,D6:=false},B1:={Blocks:=0,B9:=0,B4:=0,C0:=0,D8:=0,B7:=0,B2:=0,C3:=[]},C5:=E2,A2:={C9:=0,C2:=0},A1:=0,A6:=false,A7:=false},false); .br (decide (pages<1)) T1 (.br (decide (pages>32)) T1 (.br (decide (blocks<0)) T1 (.br (decide (blocks>64)) T1 (.br (decide ((image.length:Int)>wrap i64 (pages*32))) T1 (.lv (Qoa 0) λ(x0:Q04)=> .an (Qe9 pages) (.lv (Qrh pages) λ(x1:List Int)=> .lf ({B3:=x0,Mem:=List.take (Min.min (image.length) (x1.length)) image++List.drop (Min.min (image.length) (x1.length)) x1,A3:={D3:=[]},B0:={D2:=false,D0:=0,D6:=false},B1:={Blocks:=wrap u32 blocks,B9:=0,B4:=0,C0:=0,D8:=0,B7:=0,B2:=0,C3:=[]},C5:=E2,A2:={C9:=0,C2:=0},A1:=0,A6:=false,A7:=false},true)))))))
def Q1q(pages:Int)(blocks:Int)(image:(List Int)):(Q00×Bool):=(Q83 pages blocks image).m
abbrev Q9(pages:Int)(blocks:Int)(image:(List Int)):Prop:=(Q83 pages blocks image).p
def Zj6:Q0c:=mkP 56 [] true [.one (.int .i64), .one (.int .i64), .one (.ints .u32)] [] (λargs rows=>Q9 (argI args 0) (argI args 1) (argL .u32 args 2)) (λargs rows=>Q1q (argI args 0) (argI args 1) (argL .u32 args 2)) (λX=> .tup [.agg (Q00.cellsW (X.1) (.all 0)), .bool (X.2)]) (λX=>[⟨false,23,1, .ints .u32 (X.1).Mem⟩])
theorem Z0k:Q05 Tryz.prog Zj6:=Q0n Q0k Q0l (.cons Z8q (.cons Zgg (.nil))) Tryz.func56 Tryz.call56 (λargs rows=>Q83 (argI args 0) (argI args 1) (argL .u32 args 2)) [.row 23 1 (.ints .u32)] [] 2 (λ_ _ _=>by kernel_rfl) (λ_ _=>rfl) (λ_ _ h=>h) (λ_ X=>by kernel_rfl)
def Q20(m:Q00):Tree Bool:=
.an (Qaj m) (.lv (Q23 m) λ(x0:Bool)=> .br (!x0) (.lf false) (.an (Q9t m) (.lv (Q0r m) λ(x1:Q00)=> .an (Qi7 x1.B3 x1.Mem) (.lv (Q4q x1.B3 x1.Mem) λ(x2:Q04×List Int×Q11)=> .br (x2.2.2.B5==1) (.lf (x2.2.2.D1==2)) (.lf false)))))
def Q21(m:Q00):Bool:=(Q20 m).m
abbrev Q37(m:Q00):Prop:=(Q20 m).p
def Qok:Q0c:=mkP 49 [] true [.agg Q00.sig] [] (λargs rows=>Q37 (Q00.of (args.getD 0 .dead).cells)) (λargs rows=>Q21 (Q00.of (args.getD 0 .dead).cells)) (λX=> .bool X) (λX=>[])
theorem Qnn:Q05 Tryz.prog Qok:=Q0n Q0k Q0l (.cons Qnj (.cons Qlp (.cons Qz1 (.nil)))) Tryz.func49 Tryz.call49 (λargs rows=>Q20 (Q00.of (args.getD 0 .dead).cells)) [] [] 2 (λ_ _ _=>by kernel_rfl) (λ_ _=>rfl) (λ_ _ h=>h) (λ_ X=>by kernel_rfl)
end
end Go.Proofs.YtjaifpiopmhmlaaGreat

/-
  Functions of the program: models, and that its calls come to them (by a program: gen3.py).
-/
import Derived.Test.YtpcbkbalabgnlaaGreatRecordOrderedBase
import Derived.Test.YtpcbkbalabgnlaaGreatRecordOrderedYd
import Derived.Test.YtpcbkbalabgnlaaGreatRecordOrderedYb
set_option linter.unusedVariables false
set_option linter.unusedSimpArgs false
namespace Go.Proofs.YtpcbkbalabgnlaaGreat
open Go Go.GD Go.IntKind
set_option maxRecDepth 100000
noncomputable section
def Qyj(op:Int):Tree Int:=
let T1:Tree (Int):= .br (op==49) (.lf 3) (let T2:Tree (Int):= .br (op==24) (.lf 6) (.br (op==48) (.lf 7) (.br (op==58) (.lf 8) (.br (op==59) (.lf 8) (.br (op==60) (.lf 9) (.br (op==61) (.lf 9) (.br (op==56) (.lf 1) (.br (op==57) (.lf 1) (.br (decide (op≥62)) (.br (decide (op≤64)) (.lf 1) (.lf 0)) (.lf 0))))))))); .br (decide (op≥17)) (.br (decide (op≤19)) (.lf 4) (.br (decide (op≥20)) (.br (decide (op≤22)) (.lf 5) T2) T2)) (.br (decide (op≥20)) (.br (decide (op≤22)) (.lf 5) T2) T2));let T3:Tree (Int):= .br (op==16) (.lf 3) (.br (op==23) (.lf 3) (.br (decide (op≥32)) (.br (decide (op≤36)) (.lf 3) (.br (decide (op≥40)) (.br (decide (op≤45)) (.lf 3) T1) T1)) (.br (decide (op≥40)) (.br (decide (op≤45)) (.lf 3) T1) T1))); .br (decide (op≥1)) (.br (decide (op≤13)) (.lf 2) T3) T3
def Q2i(op:Int):Int:=(Qyj op).m
def Zd6:Q0d:=mkR 113 [] true [.one (.int .i64)] [] (λargs rows=>Q2i (argI args 0)) (λX=> .int .i64 X) (λX=>[])
theorem Qfa:Q05 Tryz.prog Zd6:=Q0z Q0i Q0j (.nil) Tryz.func113 Tryz.call113 (λargs rows=>Qyj (argI args 0)) [] [] 2 (λ_ _ _=>by kernel_rfl) (λ_ _=>rfl) (λ_ _=>Tree.free_ok (by kernel_rfl)) (λ_ X=>by kernel_rfl)
def Qda(r:Int):Tree Bool:=
.br (decide (r≥0)) (.lf (decide (r≤15))) (.lf false)
def Q8f(r:Int):Bool:=(Qda r).m
def Qzt:Q0d:=mkR 118 [] true [.one (.int .i64)] [] (λargs rows=>Q8f (argI args 0)) (λX=> .bool X) (λX=>[])
theorem Qwj:Q05 Tryz.prog Qzt:=Q0z Q0i Q0j (.nil) Tryz.func118 Tryz.call118 (λargs rows=>Qda (argI args 0)) [] [] 2 (λ_ _ _=>by kernel_rfl) (λ_ _=>rfl) (λ_ _=>Tree.free_ok (by kernel_rfl)) (λ_ X=>by kernel_rfl)
def Qkw(f:Int):Tree (Int×Int):=
.br (f==3) (.lf ((-32768),32767)) (.br (f==7) (.lf ((-32768),32767)) (.br (f==4) (.lf (0,65535)) (.br (f==6) (.lf (0,65535)) (.br (f==5) (.lf (0,31)) (.br (f==8) (.lf (0,7)) (.br (f==9) (.lf (0,11)) (.lf (0,0))))))))
def Ql0(f:Int):(Int×Int):=(Qkw f).m
def Z4q:Q0d:=mkR 114 [] true [.one (.int .i64)] [] (λargs rows=>Ql0 (argI args 0)) (λX=> .tup [.int .i64 (X.1), .int .i64 (X.2)]) (λX=>[])
theorem Qp1:Q05 Tryz.prog Z4q:=Q0z Q0i Q0j (.nil) Tryz.func114 Tryz.call114 (λargs rows=>Qkw (argI args 0)) [] [] 2 (λ_ _ _=>by kernel_rfl) (λ_ _=>rfl) (λ_ _=>Tree.free_ok (by kernel_rfl)) (λ_ X=>by kernel_rfl)
def Qez(i:Q0g):Tree Bool:=
.lv (Q2i i.Op) λ(x0:Int)=> .br (x0==0) (.lf false) (.lv (Q8f i.A) λ(x1:Bool)=> .br (!x1) (.lf false) (.lv (Q8f i.B) λ(x2:Bool)=> .br (!x2) (.lf false) (.lv (Q8f i.C) λ(x3:Bool)=> .br (!x3) (.lf false) (.lv (Ql0 x0) λ(x4:Int×Int)=> .br (decide (wrap i64 i.Imm<x4.1)) (.lf false) (.br (decide (wrap i64 i.Imm>x4.2)) (.lf false) (let T1:Tree (Bool):= .br (x0==1) (.br (i.A !=0) (.lf false) (.br (i.B==0) (.lf true) (.br (decide (x0≥2)) (.lf (decide (x0≤5))) (.lf false)))) (.br (i.B==0) (.lf true) (.br (decide (x0≥2)) (.lf (decide (x0≤5))) (.lf false))); .br (x0 !=2) (.br (i.C !=0) (.lf false) T1) T1))))))
def Q7j(i:Q0g):Bool:=(Qez i).m
def Zb8:Q0d:=mkR 84 [] true [.agg Q0g.sig] [] (λargs rows=>Q7j (Q0g.of (args.getD 0 .dead).cells)) (λX=> .bool X) (λX=>[])
theorem Qr:Q05 Tryz.prog Zb8:=Q0z Q0i Q0j (.cons Qfa (.cons Qwj (.cons Qp1 (.nil)))) Tryz.func84 Tryz.call84 (λargs rows=>Qez (Q0g.of (args.getD 0 .dead).cells)) [] [] 2 (λ_ _ _=>by kernel_rfl) (λ_ _=>rfl) (λ_ _=>Tree.free_ok (by kernel_rfl)) (λ_ X=>by kernel_rfl)
def Qg0(i:Q0g):Tree (Int×Bool):=
.lv (Q7j i) λ(x0:Bool)=> .br (!x0) (.lf (0,false)) (.lf (ior u32 (ior u32 (ior u32 (ior u32 (ishl u32 (wrap u32 i.Op) 24) (ishl u32 (wrap u32 i.A) 20)) (ishl u32 (wrap u32 i.B) 16)) (iand u32 (wrap u32 i.Imm) 65535)) (wrap u32 i.C),true))
def Q1k(i:Q0g):(Int×Bool):=(Qg0 i).m
def Z7z:Q0d:=mkR 44 [] true [.agg Q0g.sig] [] (λargs rows=>Q1k (Q0g.of (args.getD 0 .dead).cells)) (λX=> .tup [.int .u32 (X.1), .bool (X.2)]) (λX=>[])
theorem Qj8:Q05 Tryz.prog Z7z:=Q0z Q0i Q0j (.cons Qr (.nil)) Tryz.func44 Tryz.call44 (λargs rows=>Qg0 (Q0g.of (args.getD 0 .dead).cells)) [] [] 2 (λ_ _ _=>by kernel_rfl) (λ_ _=>rfl) (λ_ _=>Tree.free_ok (by kernel_rfl)) (λ_ X=>by kernel_rfl)
def Z2k:Tree (List Int):=
.lf ([1,2,3,4,5,6,7,8,9,10,11,12,13,16,16,17,18,19,20,21,22,23,24,24,32,32,33,34,35,35,36,40,41,42,43,44,45,48,49,56,57,58,59,60,60,61,61,62,63,64])
def Z61:(List Int):=(Z2k).m
def Zhz:Q0d:=mkR 85 [] true [] [] (λargs rows=>Z61) (λX=> .sl 1 (.ints .i64 X) true) (λX=>[])
theorem Zds:Q05 Tryz.prog Zhz:=Q0z Q0i Q0j (.nil) Tryz.func85 Tryz.call85 (λargs rows=>Z2k) [.sl (.ints .i64) true] [] 2 (λ_ _ _=>by kernel_rfl) (λ_ _=>rfl) (λ_ _=>Tree.free_ok (by kernel_rfl)) (λ_ X=>by kernel_rfl)
def Qy8(seed:Int):Tree (Int×Int):=
let E1:=wrap u64 (ixor u64 (wrap u64 (seed+11400714819323198485)) (ishr u64 (wrap u64 (seed+11400714819323198485)) 30)*13787848793156543929);let E2:=wrap u64 (ixor u64 E1 (ishr u64 E1 27)*10723151780598845931); .lf (ixor u64 E2 (ishr u64 E2 31),wrap u64 (seed+11400714819323198485))
def Z8i(seed:Int):(Int×Int):=(Qy8 seed).m
def Zdk:Q0d:=mkR 86 [] true [.one (.int .u64)] [] (λargs rows=>Z8i (argI args 0)) (λX=> .tup [.int .u64 (X.1), .int .u64 (X.2)]) (λX=>[])
theorem Zcd:Q05 Tryz.prog Zdk:=Q0z Q0i Q0j (.nil) Tryz.func86 Tryz.call86 (λargs rows=>Qy8 (argI args 0)) [] [] 2 (λ_ _ _=>by kernel_rfl) (λ_ _=>rfl) (λ_ _=>Tree.free_ok (by kernel_rfl)) (λ_ X=>by kernel_rfl)
def Qnt(n:Int)(k:Int):Tree Int:=
.lv (Z8i (ixor u64 (wrap u64 n) (wrap u64 (wrap u64 k*11400714819323198485)))) λ(x0:Int×Int)=> .lf (wrap i64 (ishr u64 x0.1 1))
def Q4x(n:Int)(k:Int):Int:=(Qnt n k).m
def Zjs:Q0d:=mkR 47 [] true [.one (.int .i64), .one (.int .i64)] [] (λargs rows=>Q4x (argI args 0) (argI args 1)) (λX=> .int .i64 X) (λX=>[])
theorem Qkq:Q05 Tryz.prog Zjs:=Q0z Q0i Q0j (.cons Zcd (.nil)) Tryz.func47 Tryz.call47 (λargs rows=>Qnt (argI args 0) (argI args 1)) [] [] 2 (λ_ _ _=>by kernel_rfl) (λ_ _=>rfl) (λ_ _=>Tree.free_ok (by kernel_rfl)) (λ_ X=>by kernel_rfl)
def Qc5(n:Int)(k:Int):Tree Int:=
.cn (decide (k≠0)) (.br (decide (Int.tmod n k<0)) (.lf (wrap i64 (Int.tmod n k+k))) (.lf (Int.tmod n k)))
def Q46(n:Int)(k:Int):Int:=(Qc5 n k).m
abbrev Q27(n:Int)(k:Int):Prop:=(Qc5 n k).p
def Z9w:Q0d:=mkP 39 [] true [.one (.int .i64), .one (.int .i64)] [] (λargs rows=>Q27 (argI args 0) (argI args 1)) (λargs rows=>Q46 (argI args 0) (argI args 1)) (λX=> .int .i64 X) (λX=>[])
theorem Qla:Q05 Tryz.prog Z9w:=Q0n Q0i Q0j (.nil) Tryz.func39 Tryz.call39 (λargs rows=>Qc5 (argI args 0) (argI args 1)) [] [] 2 (λ_ _ _=>by kernel_rfl) (λ_ _=>rfl) (λ_ _ h=>h) (λ_ X=>by kernel_rfl)
def Qbr(n:Int):Tree Q0g:=
.lv Z61 λ(x0:List Int)=> .lv (Q4x n 1) λ(x1:Int)=> .an (Q27 x1 (x0.length:Int)) (.lv (Q46 x1 (x0.length:Int)) λ(x2:Int)=> .cn (Nat.beq 1 1&&Nat.blt 0 1&&decide (0≤x2∧x2<(x0.length:Int))) (.an (Q27 (ishr i64 x1 8) 6) (.lv (Q46 (ishr i64 x1 8) 6) λ(x3:Int)=> .an (Q27 (ishr i64 x1 12) 6) (.lv (Q46 (ishr i64 x1 12) 6) λ(x4:Int)=> .an (Q27 (ishr i64 x1 16) 6) (.lv (Q46 (ishr i64 x1 16) 6) λ(x5:Int)=> .an (Q27 (ishr i64 x1 20) 24) (.lv (Q46 (ishr i64 x1 20) 24) λ(x6:Int)=> .br (decide (x0.getD x2.toNat (0:Int)≤(13:Int))) (.lf ({Op:=x0.getD x2.toNat 0,A:=x3,B:=x4,C:=x5,Imm:=0})) (let E4:=({Op:=x0.getD x2.toNat 0,A:=x3,B:=x4,C:=0,Imm:=wrap i32 (wrap i64 (wrap i64 (8*x6)-32))}:Q0g);let T1:Tree (Q0g):= .br (x0.getD x2.toNat (0:Int)==(49:Int)) (.lf (E4)) (.br (x0.getD x2.toNat (0:Int)==(24:Int)) (.lf ({Op:=x0.getD x2.toNat 0,A:=x3,B:=0,C:=0,Imm:=wrap i32 (wrap i64 (x6*iand i64 (ishr i64 x1 40) 1))})) (let T2:Tree (Q0g):=let E6:=({Op:=x0.getD x2.toNat 0,A:=x3,B:=0,C:=0,Imm:=wrap i32 (Int.tmod x6 8)}:Q0g); .br (x0.getD x2.toNat (0:Int)==(58:Int)) (.lf (E6)) (.br (x0.getD x2.toNat (0:Int)==(59:Int)) (.lf (E6)) (let E5:=({Op:=x0.getD x2.toNat 0,A:=x3,B:=0,C:=0,Imm:=wrap i32 (Int.tmod x6 12)}:Q0g); .br (x0.getD x2.toNat (0:Int)==(60:Int)) (.lf (E5)) (.br (x0.getD x2.toNat (0:Int)==(61:Int)) (.lf (E5)) (.lf ({Op:=x0.getD x2.toNat 0,A:=0,B:=0,C:=0,Imm:=0}))))); .br (decide (x0.getD x2.toNat (0:Int)≥(17:Int))) (.br (decide (x0.getD x2.toNat (0:Int)≤(22:Int))) (.lf ({Op:=x0.getD x2.toNat 0,A:=x3,B:=x4,C:=0,Imm:=wrap i32 x6})) T2) T2));let T3:Tree (Q0g):= .br (x0.getD x2.toNat (0:Int)==(16:Int)) (.lf (E4)) (.br (x0.getD x2.toNat (0:Int)==(23:Int)) (.lf (E4)) (.br (decide (x0.getD x2.toNat (0:Int)≥(32:Int))) (.br (decide (x0.getD x2.toNat (0:Int)≤(36:Int))) (.lf (E4)) T1) T1)); .br (decide (x0.getD x2.toNat (0:Int)≥(40:Int))) (.br (decide (x0.getD x2.toNat (0:Int)≤(48:Int))) (.br (x0.getD x2.toNat (0:Int)==(48:Int)) (.lf ({Op:=x0.getD x2.toNat 0,A:=x3,B:=0,C:=0,Imm:=wrap i32 (wrap i64 (x6-12))})) (.lf ({Op:=x0.getD x2.toNat 0,A:=x3,B:=x4,C:=0,Imm:=wrap i32 (wrap i64 (x6-12))}))) T3) T3)))))))
def Zac(n:Int):Q0g:=(Qbr n).m
abbrev Q87(n:Int):Prop:=(Qbr n).p
def Ze0:Q0d:=mkP 45 [] true [.one (.int .i64)] [] (λargs rows=>Q87 (argI args 0)) (λargs rows=>Zac (argI args 0)) (λX=> .agg (Q0g.cells X)) (λX=>[])
theorem Zc0:Q05 Tryz.prog Ze0:=Q0n Q0i Q0j (.cons Zds (.cons Qkq (.cons Qla (.nil)))) Tryz.func45 Tryz.call45 (λargs rows=>Qbr (argI args 0)) [] [] 2 (λ_ _ _=>by kernel_rfl) (λ_ _=>rfl) (λ_ _ h=>h) (λ_ X=>by kernel_rfl)
def Qp3(l:(List Int))(z:(Int)×(List Int)):Prop:=0≤z.1∧z.1≤l.length∧(z.2.length:Int)=z.1
def Qcf(l:(List Int))(z:(Int)×(List Int)):Nat:=(l.length-z.1).toNat
def Q9s(l:(List Int)):Tree (List Int):=
.lp inferInstance (Qcf l (0,[])+1) ((((Els.Nil (Els.ints i64 l)∨rE (1:Nat))∧rE (l:List Int))∧True∧rE (0:Int)∧True)∧rE ([]:List Int)∧True) (0,[]) λ(v0:Int×List Int)=> .br (decide (v0.1<(l.length:Int))) (let E1:=Nat.beq 1 1&&Nat.blt 0 1&&decide (0≤v0.1∧v0.1<(l.length:Int)); .cn E1 (let E2:=decide (4*(v0.2.length+1)≤140737488355328); .br (Int.tmod (l.getD v0.1.toNat 0) (17:Int)==(0:Int)) (.cn E1 (.cn E2 (.nx ((((Els.Nil (Els.ints i64 l)∨rE (1:Nat))∧rE (l:List Int))∧True∧rE ((wrap i64 (v0.1+1)):Int)∧True)∧rE ((v0.2++[wrap u32 (iand i64 (l.getD v0.1.toNat 0) 4294967295)]):List Int)∧True) (Sum.inl (wrap i64 (v0.1+1),v0.2++[wrap u32 (iand i64 (l.getD v0.1.toNat 0) 4294967295)]))))) (.cn E1 (.an (Q87 (l.getD v0.1.toNat 0)) (.lv (Zac (l.getD v0.1.toNat 0)) λ(x0:Q0g)=> .lv (Q1k x0) λ(x1:Int×Bool)=> .cn E2 (.nx ((((Els.Nil (Els.ints i64 l)∨rE (1:Nat))∧rE (l:List Int))∧True∧rE ((wrap i64 (v0.1+1)):Int)∧True)∧rE ((v0.2++[x1.1]):List Int)∧True) (Sum.inl (wrap i64 (v0.1+1),v0.2++[x1.1])))))))) (.lf (Sum.inr v0.2))
def Qme(l:(List Int)):(List Int):=(Q9s l).m
abbrev Qap(l:(List Int)):Prop:=(Q9s l).p
def Z88:LInv:={
 α:=(Int)×(List Int)
 F:=λst a=>([(0,(lk st 0)),(3, .all 0),(4, .int i64 a.1)],[⟨false,23,1, .ints u32 a.2⟩])
 a0:=λst=>((lk st 4).toInt,(Q8 st.rows (rN st 3)))
 ex0:=λst=>[]++[(Q1 (lk st 3) (st.rows.length+0))]
 next:=λst=>((lk st 4).toInt,(Q8 st.rows (rN st 3)))
 ex:=λst=>[]++[(Q1 (lk st 3) (st.rows.length+0))]}
def Z0y:List (Nat×LInv):=[(3,Z88)]
def Zdr:Q0d:=mkP 41 [] true [.one (.ints .i64)] [] (λargs rows=>Qap (argL .i64 args 0)) (λargs rows=>Qme (argL .i64 args 0)) (λX=> .all 0) (λX=>[⟨false,23,1, .ints .u32 X⟩])
theorem Z87:Q05 Tryz.prog Zdr:=Q0n Q0i Q0j (.cons Qj8 (.cons Zc0 (.nil))) Tryz.func41 Tryz.call41 (λargs rows=>Q9s (argL .i64 args 0)) [.row 23 1 (.ints .u32)] Z0y 3 (λ_ _ _=>by kernel_rfl) (λ_ _=>rfl) (λ_ _ h=>h) (λ_ X=>by kernel_rfl)
def Qip(pc:Int):Tree Q03:=
.lf ({X:={a0:=0,a1:=0,a2:=0,a3:=0,a4:=0,a5:=0,a6:=0,a7:=0,a8:=0,a9:=0,a10:=0,a11:=0,a12:=0,a13:=0,a14:=0,a15:=0},Pc:=pc,B6:={a0:=1,a1:=0,a2:=0,a3:=0,a4:=0,a5:=0,a6:=0,a7:=0}})
def Qo1(pc:Int):Q03:=(Qip pc).m
def Zc2:Q0d:=mkR 75 [] true [.one (.int .u32)] [] (λargs rows=>Qo1 (argI args 0)) (λX=> .agg (Q03.cells X)) (λX=>[])
theorem Z7v:Q05 Tryz.prog Zc2:=Q0z Q0i Q0j (.nil) Tryz.func75 Tryz.call75 (λargs rows=>Qip (argI args 0)) [] [] 2 (λ_ _ _=>by kernel_rfl) (λ_ _=>rfl) (λ_ _=>Tree.free_ok (by kernel_rfl)) (λ_ X=>by kernel_rfl)
def Qc9(pages:Int):Tree (List Int):=
.br (decide (pages<1)) (.lf ([])) (.br (decide (pages>32)) (.lf ([])) (.cn (Nat.blt 0 1&&Nat.beq 1 1&&List.all [D.int u32 0] D.plain&&decide (0≤wrap i64 (pages*32)∧wrap i64 (pages*32)≤wrap i64 (pages*32)∧wrap i64 (pages*32)≤9223372036854775807∧(↑4:Int)*wrap i64 (pages*32)≤140737488355328)) (.lf (List.replicate (Int.toNat (wrap i64 (pages*32))) 0))))
def Qqf(pages:Int):(List Int):=(Qc9 pages).m
abbrev Q9r(pages:Int):Prop:=(Qc9 pages).p
def Zhu:Q0d:=mkP 76 [] true [.one (.int .i64)] [] (λargs rows=>Q9r (argI args 0)) (λargs rows=>Qqf (argI args 0)) (λX=> .all 0) (λX=>[⟨false,23,1, .ints .u32 X⟩])
theorem Zf6:Q05 Tryz.prog Zhu:=Q0n Q0i Q0j (.nil) Tryz.func76 Tryz.call76 (λargs rows=>Qc9 (argI args 0)) [.row 23 1 (.ints .u32)] [] 2 (λ_ _ _=>by kernel_rfl) (λ_ _=>rfl) (λ_ _ h=>h) (λ_ X=>by kernel_rfl)
def Q7i(pages:Int)(blocks:Int)(image:(List Int)):Tree (Q00×Bool):=
let E2:=({B4:=0,F0:=0,C7:=false,C0:=0,B8:=false,F2:=0}:Q0m);let T1:Tree ((Q00×Bool)):= .lf ({B3:={X:={a0:=0,a1:=0,a2:=0,a3:=0,a4:=0,a5:=0,a6:=0,a7:=0,a8:=0,a9:=0,a10:=0,a11:=0,a12:=0,a13:=0,a14:=0,a15:=0},Pc:=0,B6:={a0:=0,a1:=0,a2:=0,a3:=0,a4:=0,a5:=0,a6:=0,a7:=0}},Mem:=[],A3:={D1:=[]},B0:={D7:=false,C8:=0,D6:=false},B1:={Blocks:=0,C2:=0,B4:=0,B9:=0,D8:=0,B7:=0,B2:=0,C3:=[]},C5:=E2,A1:={C9:=0,C1:=0},A2:=0,A6:=false,A9:=false},false); .br (decide (pages<1)) T1 (.br (decide (pages>32)) T1 (.br (decide (blocks<0)) T1 (.br (decide (blocks>64)) T1 (.br (decide ((image.length:Int)>wrap i64 (pages*32))) T1 (.lv (Qo1 0) λ(x0:Q03)=> .an (Q9r pages) (.lv (Qqf pages) λ(x1:List Int)=> .lf ({B3:=x0,Mem:=List.take (Min.min (image.length) (x1.length)) image++List.drop (Min.min (image.length) (x1.length)) x1,A3:={D1:=[]},B0:={D7:=false,C8:=0,D6:=false},B1:={Blocks:=wrap u32 blocks,C2:=0,B4:=0,B9:=0,D8:=0,B7:=0,B2:=0,C3:=[]},C5:=E2,A1:={C9:=0,C1:=0},A2:=0,A6:=false,A9:=false},true)))))))
def Q1q(pages:Int)(blocks:Int)(image:(List Int)):(Q00×Bool):=(Q7i pages blocks image).m
abbrev Q6i(pages:Int)(blocks:Int)(image:(List Int)):Prop:=(Q7i pages blocks image).p
def Zhm:Q0d:=mkP 38 [] true [.one (.int .i64), .one (.int .i64), .one (.ints .u32)] [] (λargs rows=>Q6i (argI args 0) (argI args 1) (argL .u32 args 2)) (λargs rows=>Q1q (argI args 0) (argI args 1) (argL .u32 args 2)) (λX=> .tup [.agg (Q00.cellsW (X.1) (.all 0)), .bool (X.2)]) (λX=>[⟨false,23,1, .ints .u32 (X.1).Mem⟩])
theorem Qzv:Q05 Tryz.prog Zhm:=Q0n Q0i Q0j (.cons Z7v (.cons Zf6 (.nil))) Tryz.func38 Tryz.call38 (λargs rows=>Q7i (argI args 0) (argI args 1) (argL .u32 args 2)) [.row 23 1 (.ints .u32)] [] 2 (λ_ _ _=>by kernel_rfl) (λ_ _=>rfl) (λ_ _ h=>h) (λ_ X=>by kernel_rfl)
def Qog(a:(List Int))(b:(List Int))(z:(Int)):Nat:=(a.length-z).toNat
def Qvi(a:(List Int))(b:(List Int)):Tree Bool:=
.br ((a.length:Int) !=(b.length:Int)) (.lf false) (.lp inferInstance (Qog a b 0+1) ((((Els.Nil (Els.ints u32 a)∨rE (1:Nat))∧rE (a:List Int))∧((Els.Nil (Els.ints u32 b)∨rE (1:Nat))∧rE (b:List Int))∧rE (0:Int)∧True)∧True) 0 λ(v0:Int)=> .br (decide (v0<(a.length:Int))) (.cn (Nat.beq 1 1&&Nat.blt 0 1&&decide (0≤v0∧v0<(a.length:Int))) (.cn (Nat.beq 1 1&&Nat.blt 0 1&&decide (0≤v0∧v0<(b.length:Int))) (.br (a.getD v0.toNat 0 !=b.getD v0.toNat 0) (.lf (Sum.inr false)) (.nx ((((Els.Nil (Els.ints u32 a)∨rE (1:Nat))∧rE (a:List Int))∧((Els.Nil (Els.ints u32 b)∨rE (1:Nat))∧rE (b:List Int))∧rE ((wrap i64 (v0+1)):Int)∧True)∧True) (Sum.inl (wrap i64 (v0+1))))))) (.lf (Sum.inr true)))
def Z2e(a:(List Int))(b:(List Int)):Bool:=(Qvi a b).m
def Q4t(a:(List Int))(b:(List Int)):Prop:=
a.length≤1000000000000
def Qki(a:Q00)(b:Q00):Tree Bool:=
.br (eqs [D.int u32 a.B3.X.a0,D.int u32 a.B3.X.a1,D.int u32 a.B3.X.a2,D.int u32 a.B3.X.a3,D.int u32 a.B3.X.a4,D.int u32 a.B3.X.a5,D.int u32 a.B3.X.a6,D.int u32 a.B3.X.a7,D.int u32 a.B3.X.a8,D.int u32 a.B3.X.a9,D.int u32 a.B3.X.a10,D.int u32 a.B3.X.a11,D.int u32 a.B3.X.a12,D.int u32 a.B3.X.a13,D.int u32 a.B3.X.a14,D.int u32 a.B3.X.a15,D.int u32 a.B3.Pc,D.int u32 a.B3.B6.a0,D.int u32 a.B3.B6.a1,D.int u32 a.B3.B6.a2,D.int u32 a.B3.B6.a3,D.int u32 a.B3.B6.a4,D.int u32 a.B3.B6.a5,D.int u32 a.B3.B6.a6,D.int u32 a.B3.B6.a7] [D.int u32 b.B3.X.a0,D.int u32 b.B3.X.a1,D.int u32 b.B3.X.a2,D.int u32 b.B3.X.a3,D.int u32 b.B3.X.a4,D.int u32 b.B3.X.a5,D.int u32 b.B3.X.a6,D.int u32 b.B3.X.a7,D.int u32 b.B3.X.a8,D.int u32 b.B3.X.a9,D.int u32 b.B3.X.a10,D.int u32 b.B3.X.a11,D.int u32 b.B3.X.a12,D.int u32 b.B3.X.a13,D.int u32 b.B3.X.a14,D.int u32 b.B3.X.a15,D.int u32 b.B3.Pc,D.int u32 b.B3.B6.a0,D.int u32 b.B3.B6.a1,D.int u32 b.B3.B6.a2,D.int u32 b.B3.B6.a3,D.int u32 b.B3.B6.a4,D.int u32 b.B3.B6.a5,D.int u32 b.B3.B6.a6,D.int u32 b.B3.B6.a7]) (.an (Q4t a.Mem b.Mem) (.lv (Z2e a.Mem b.Mem) λ(x0:Bool)=> .br x0 (.br (eqs [D.str a.A3.D1] [D.str b.A3.D1]) (.br (eqs [D.bool a.B0.D7,D.int u32 a.B0.C8,D.bool a.B0.D6] [D.bool b.B0.D7,D.int u32 b.B0.C8,D.bool b.B0.D6]) (.br (eqs [D.int u32 a.B1.Blocks,D.int u32 a.B1.C2,D.int u32 a.B1.B4,D.int i64 a.B1.B9,D.int i64 a.B1.D8,D.int u32 a.B1.B7,D.int u32 a.B1.B2,D.str a.B1.C3] [D.int u32 b.B1.Blocks,D.int u32 b.B1.C2,D.int u32 b.B1.B4,D.int i64 b.B1.B9,D.int i64 b.B1.D8,D.int u32 b.B1.B7,D.int u32 b.B1.B2,D.str b.B1.C3]) (.br (eqs [D.int u32 a.C5.B4,D.int u32 a.C5.F0,D.bool a.C5.C7,D.int u32 a.C5.C0,D.bool a.C5.B8,D.int u32 a.C5.F2] [D.int u32 b.C5.B4,D.int u32 b.C5.F0,D.bool b.C5.C7,D.int u32 b.C5.C0,D.bool b.C5.B8,D.int u32 b.C5.F2]) (.br (eqs [D.int u32 a.A1.C9,D.int u32 a.A1.C1] [D.int u32 b.A1.C9,D.int u32 b.A1.C1]) (.br (a.A2==b.A2) (.br (a.A6==b.A6) (.lf (a.A9==b.A9)) (.lf false)) (.lf false)) (.lf false)) (.lf false)) (.lf false)) (.lf false)) (.lf false)) (.lf false))) (.lf false)
abbrev Qkt(a:Q00)(b:Q00):Prop:=(Qki a b).p
def Q28(m:Q00):Tree Bool:=
.an (Q6c m) (.lv (Q2x m) λ(x0:Bool)=> .br (!x0) (.lf false) (.an (Q5u m) (.lv (Q0t m) λ(x1:Q00)=> .an (Qc3 x1.B3 x1.Mem) (.lv (Q84 x1.B3 x1.Mem) λ(x2:Q03×List Int×Q11)=> .br (x2.2.2.B5==1) (.lf (x2.2.2.D0==2)) (.lf false)))))
def Q7(m:Q00):Bool:=(Q28 m).m
abbrev Q29(m:Q00):Prop:=(Q28 m).p
def Qoj:Q0d:=mkP 57 [] true [.agg Q00.sig] [] (λargs rows=>Q29 (Q00.of (args.getD 0 .dead).cells)) (λargs rows=>Q7 (Q00.of (args.getD 0 .dead).cells)) (λX=> .bool X) (λX=>[])
theorem Qn2:Q05 Tryz.prog Qoj:=Q0n Q0i Q0j (.cons Qm0 (.cons Qlu (.cons Qxy (.nil)))) Tryz.func57 Tryz.call57 (λargs rows=>Q28 (Q00.of (args.getD 0 .dead).cells)) [] [] 2 (λ_ _ _=>by kernel_rfl) (λ_ _=>rfl) (λ_ _ h=>h) (λ_ X=>by kernel_rfl)
end
end Go.Proofs.YtpcbkbalabgnlaaGreat

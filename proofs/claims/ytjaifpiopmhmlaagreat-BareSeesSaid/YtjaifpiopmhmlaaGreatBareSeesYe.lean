/-
  Functions of the program: models, and that its calls come to them (by a program: gen3.py).
-/
import Derived.Test.YtjaifpiopmhmlaaGreatBareSeesBase
import Derived.Test.YtjaifpiopmhmlaaGreatBareSeesYd
import Derived.Test.YtjaifpiopmhmlaaGreatBareSeesYb
set_option maxRecDepth 100000
set_option linter.all false
namespace Go.Proofs.YtjaifpiopmhmlaaGreat
open Go Go.GD Go.IntKind
noncomputable section
def Z0n(op:Int):Tree Int:=
let T1:Tree (Int):= .br (op==49) (.lf 3) (let T2:Tree (Int):= .br (op==24) (.lf 6) (.br (op==48) (.lf 7) (.br (op==58) (.lf 8) (.br (op==59) (.lf 8) (.br (op==60) (.lf 9) (.br (op==61) (.lf 9) (.br (op==56) (.lf 1) (.br (op==57) (.lf 1) (.br (decide (op>=62)) (.br (decide (op<=64)) (.lf 1) (.lf 0)) (.lf 0))))))))); .br (decide (op>=17)) (.br (decide (op<=19)) (.lf 4) (.br (decide (op>=20)) (.br (decide (op<=22)) (.lf 5) T2) T2)) (.br (decide (op>=20)) (.br (decide (op<=22)) (.lf 5) T2) T2));let T3:Tree (Int):= .br (op==16) (.lf 3) (.br (op==23) (.lf 3) (.br (decide (op>=32)) (.br (decide (op<=36)) (.lf 3) (.br (decide (op>=40)) (.br (decide (op<=45)) (.lf 3) T1) T1)) (.br (decide (op>=40)) (.br (decide (op<=45)) (.lf 3) T1) T1))); .br (decide (op>=1)) (.br (decide (op<=13)) (.lf 2) T3) T3
def Q26(op:Int):Int:=(Z0n op).m
def Zer:Q0b:=mkR 164 [] true [.one (.int .i64)] [] (λargs rows=>Q26 (argI args 0)) (λX=> .int .i64 X) (λX=>[])
theorem Qej:Q05 Tryz.prog Zer:=Q0x Q0j Q0h (.nil) Tryz.func164 Tryz.call164 (λargs rows=>Z0n (argI args 0)) [] [] 2 (λ_ _ _=>by kernel_rfl) (λ_ _=>rfl) (λ_ _=>Tree.free_ok (by kernel_rfl)) (λ_ X=>by kernel_rfl)
def Qcd(r:Int):Tree Bool:=
.br (decide (r>=0)) (.lf (decide (r<=15))) (.lf false)
def Q7j(r:Int):Bool:=(Qcd r).m
def Qyv:Q0b:=mkR 185 [] true [.one (.int .i64)] [] (λargs rows=>Q7j (argI args 0)) (λX=> .bool X) (λX=>[])
theorem Qx0:Q05 Tryz.prog Qyv:=Q0x Q0j Q0h (.nil) Tryz.func185 Tryz.call185 (λargs rows=>Qcd (argI args 0)) [] [] 2 (λ_ _ _=>by kernel_rfl) (λ_ _=>rfl) (λ_ _=>Tree.free_ok (by kernel_rfl)) (λ_ X=>by kernel_rfl)
def Ql0(f:Int):Tree (Int×Int):=
.br (f==3) (.lf ((-32768),32767)) (.br (f==7) (.lf ((-32768),32767)) (.br (f==4) (.lf (0,65535)) (.br (f==6) (.lf (0,65535)) (.br (f==5) (.lf (0,31)) (.br (f==8) (.lf (0,7)) (.br (f==9) (.lf (0,11)) (.lf (0,0))))))))
def Ql3(f:Int):(Int×Int):=(Ql0 f).m
def Z9r:Q0b:=mkR 165 [] true [.one (.int .i64)] [] (λargs rows=>Ql3 (argI args 0)) (λX=> .tup [.int .i64 (X.1), .int .i64 (X.2)]) (λX=>[])
theorem Qpv:Q05 Tryz.prog Z9r:=Q0x Q0j Q0h (.nil) Tryz.func165 Tryz.call165 (λargs rows=>Ql0 (argI args 0)) [] [] 2 (λ_ _ _=>by kernel_rfl) (λ_ _=>rfl) (λ_ _=>Tree.free_ok (by kernel_rfl)) (λ_ X=>by kernel_rfl)
def Qen(i:Q0i):Tree Bool:=
.lv (Q26 i.Op) λ(x0:Int)=> .br (x0==0) (.lf false) (.lv (Q7j i.A) λ(x1:Bool)=> .br (!x1) (.lf false) (.lv (Q7j i.B) λ(x2:Bool)=> .br (!x2) (.lf false) (.lv (Q7j i.C) λ(x3:Bool)=> .br (!x3) (.lf false) (.lv (Ql3 x0) λ(x4:Int×Int)=> .br (decide (wrap i64 i.Imm<x4.1)) (.lf false) (.br (decide (wrap i64 i.Imm>x4.2)) (.lf false) (let T1:Tree (Bool):= .br (x0==1) (.br (i.A !=0) (.lf false) (.br (i.B==0) (.lf true) (.br (decide (x0>=2)) (.lf (decide (x0<=5))) (.lf false)))) (.br (i.B==0) (.lf true) (.br (decide (x0>=2)) (.lf (decide (x0<=5))) (.lf false))); .br (x0 !=2) (.br (i.C !=0) (.lf false) T1) T1))))))
def Q71(i:Q0i):Bool:=(Qen i).m
def Zdz:Q0b:=mkR 130 [] true [.agg Q0i.sig] [] (λargs rows=>Q71 (Q0i.of (args.getD 0 .dead).cells)) (λX=> .bool X) (λX=>[])
theorem Qte:Q05 Tryz.prog Zdz:=Q0x Q0j Q0h (.cons Qej (.cons Qx0 (.cons Qpv (.nil)))) Tryz.func130 Tryz.call130 (λargs rows=>Qen (Q0i.of (args.getD 0 .dead).cells)) [] [] 2 (λ_ _ _=>by kernel_rfl) (λ_ _=>rfl) (λ_ _=>Tree.free_ok (by kernel_rfl)) (λ_ X=>by kernel_rfl)
def Qgh(i:Q0i):Tree (Int×Bool):=
.lv (Q71 i) λ(x0:Bool)=> .br (!x0) (.lf (0,false)) (.lf (ior u32 (ior u32 (ior u32 (ior u32 (ishl u32 (wrap u32 i.Op) 24) (ishl u32 (wrap u32 i.A) 20)) (ishl u32 (wrap u32 i.B) 16)) (iand u32 (wrap u32 i.Imm) 65535)) (wrap u32 i.C),true))
def Q1e(i:Q0i):(Int×Bool):=(Qgh i).m
def Z8:Q0b:=mkR 63 [] true [.agg Q0i.sig] [] (λargs rows=>Q1e (Q0i.of (args.getD 0 .dead).cells)) (λX=> .tup [.int .u32 (X.1), .bool (X.2)]) (λX=>[])
theorem Qjj:Q05 Tryz.prog Z8:=Q0x Q0j Q0h (.cons Qte (.nil)) Tryz.func63 Tryz.call63 (λargs rows=>Qgh (Q0i.of (args.getD 0 .dead).cells)) [] [] 2 (λ_ _ _=>by kernel_rfl) (λ_ _=>rfl) (λ_ _=>Tree.free_ok (by kernel_rfl)) (λ_ X=>by kernel_rfl)
def Z4r:Tree (List Int):=
.lf ([1,2,3,4,5,6,7,8,9,10,11,12,13,16,16,17,18,19,20,21,22,23,24,24,32,32,33,34,35,35,36,40,41,42,43,44,45,48,49,56,57,58,59,60,60,61,61,62,63,64])
def Z7p:(List Int):=(Z4r).m
def Zjp:Q0b:=mkR 131 [] true [] [] (λargs rows=>Z7p) (λX=> .sl 1 (.ints .i64 X) true) (λX=>[])
theorem Zgc:Q05 Tryz.prog Zjp:=Q0x Q0j Q0h (.nil) Tryz.func131 Tryz.call131 (λargs rows=>Z4r) [.sl (.ints .i64) true] [] 2 (λ_ _ _=>by kernel_rfl) (λ_ _=>rfl) (λ_ _=>Tree.free_ok (by kernel_rfl)) (λ_ X=>by kernel_rfl)
def Z0u(seed:Int):Tree (Int×Int):=
let E1:=wrap u64 (ixor u64 (wrap u64 (seed+11400714819323198485)) (ishr u64 (wrap u64 (seed+11400714819323198485)) 30)*13787848793156543929);let E2:=wrap u64 (ixor u64 E1 (ishr u64 E1 27)*10723151780598845931); .lf (ixor u64 E2 (ishr u64 E2 31),wrap u64 (seed+11400714819323198485))
def Zb5(seed:Int):(Int×Int):=(Z0u seed).m
def Zhq:Q0b:=mkR 179 [] true [.one (.int .u64)] [] (λargs rows=>Zb5 (argI args 0)) (λX=> .tup [.int .u64 (X.1), .int .u64 (X.2)]) (λX=>[])
theorem Zd1:Q05 Tryz.prog Zhq:=Q0x Q0j Q0h (.nil) Tryz.func179 Tryz.call179 (λargs rows=>Z0u (argI args 0)) [] [] 2 (λ_ _ _=>by kernel_rfl) (λ_ _=>rfl) (λ_ _=>Tree.free_ok (by kernel_rfl)) (λ_ X=>by kernel_rfl)
def Qoe(n:Int)(k:Int):Tree Int:=
.lv (Zb5 (ixor u64 (wrap u64 n) (wrap u64 (wrap u64 k*11400714819323198485)))) λ(x0:Int×Int)=> .lf (wrap i64 (ishr u64 x0.1 1))
def Q2u(n:Int)(k:Int):Int:=(Qoe n k).m
def Zkc:Q0b:=mkR 127 [] true [.one (.int .i64), .one (.int .i64)] [] (λargs rows=>Q2u (argI args 0) (argI args 1)) (λX=> .int .i64 X) (λX=>[])
theorem Ql7:Q05 Tryz.prog Zkc:=Q0x Q0j Q0h (.cons Zd1 (.nil)) Tryz.func127 Tryz.call127 (λargs rows=>Qoe (argI args 0) (argI args 1)) [] [] 2 (λ_ _ _=>by kernel_rfl) (λ_ _=>rfl) (λ_ _=>Tree.free_ok (by kernel_rfl)) (λ_ X=>by kernel_rfl)
def Qmy(n:Int)(k:Int):Tree Int:=
.cn (decide (k≠0)) (.br (decide (Int.tmod n k<0)) (.lf (wrap i64 (Int.tmod n k+k))) (.lf (Int.tmod n k)))
def Q49(n:Int)(k:Int):Int:=(Qmy n k).m
abbrev Q3s(n:Int)(k:Int):Prop:=(Qmy n k).p
def Zek:Q0b:=mkP 28 [] true [.one (.int .i64), .one (.int .i64)] [] (λargs rows=>Q3s (argI args 0) (argI args 1)) (λargs rows=>Q49 (argI args 0) (argI args 1)) (λX=> .int .i64 X) (λX=>[])
theorem Ql5:Q05 Tryz.prog Zek:=Q0k Q0j Q0h (.nil) Tryz.func28 Tryz.call28 (λargs rows=>Qmy (argI args 0) (argI args 1)) [] [] 2 (λ_ _ _=>by kernel_rfl) (λ_ _=>rfl) (λ_ _ h=>h) (λ_ X=>by kernel_rfl)
def Qlo(n:Int):Tree Q0i:=
.lv Z7p λ(x0:List Int)=> .lv (Q2u n 1) λ(x1:Int)=> .an (Q3s x1 (x0.length:Int)) (.lv (Q49 x1 (x0.length:Int)) λ(x2:Int)=> .cn (Nat.beq 1 1&&Nat.blt 0 1&&decide (0<=x2/\x2<(x0.length:Int))) (.an (Q3s (ishr i64 x1 8) 6) (.lv (Q49 (ishr i64 x1 8) 6) λ(x3:Int)=> .an (Q3s (ishr i64 x1 12) 6) (.lv (Q49 (ishr i64 x1 12) 6) λ(x4:Int)=> .an (Q3s (ishr i64 x1 16) 6) (.lv (Q49 (ishr i64 x1 16) 6) λ(x5:Int)=> .an (Q3s (ishr i64 x1 20) 24) (.lv (Q49 (ishr i64 x1 20) 24) λ(x6:Int)=> .br (decide (x0.getD x2.toNat (0:Int)<=(13:Int))) (.lf ({Op:=x0.getD x2.toNat 0,A:=x3,B:=x4,C:=x5,Imm:=0})) (let E4:=({Op:=x0.getD x2.toNat 0,A:=x3,B:=x4,C:=0,Imm:=wrap i32 (wrap i64 (wrap i64 (8*x6)-32))}:Q0i);let T1:Tree (Q0i):= .br (x0.getD x2.toNat (0:Int)==(49:Int)) (.lf (E4)) (.br (x0.getD x2.toNat (0:Int)==(24:Int)) (.lf ({Op:=x0.getD x2.toNat 0,A:=x3,B:=0,C:=0,Imm:=wrap i32 (wrap i64 (x6*iand i64 (ishr i64 x1 40) 1))})) (let T2:Tree (Q0i):=let E6:=({Op:=x0.getD x2.toNat 0,A:=x3,B:=0,C:=0,Imm:=wrap i32 (Int.tmod x6 8)}:Q0i); .br (x0.getD x2.toNat (0:Int)==(58:Int)) (.lf (E6)) (.br (x0.getD x2.toNat (0:Int)==(59:Int)) (.lf (E6)) (let E5:=({Op:=x0.getD x2.toNat 0,A:=x3,B:=0,C:=0,Imm:=wrap i32 (Int.tmod x6 12)}:Q0i); .br (x0.getD x2.toNat (0:Int)==(60:Int)) (.lf (E5)) (.br (x0.getD x2.toNat (0:Int)==(61:Int)) (.lf (E5)) (.lf ({Op:=x0.getD x2.toNat 0,A:=0,B:=0,C:=0,Imm:=0}))))); .br (decide (x0.getD x2.toNat (0:Int)>=(17:Int))) (.br (decide (x0.getD x2.toNat (0:Int)<=(22:Int))) (.lf ({Op:=x0.getD x2.toNat 0,A:=x3,B:=x4,C:=0,Imm:=wrap i32 x6})) T2) T2));let T3:Tree (Q0i):= .br (x0.getD x2.toNat (0:Int)==(16:Int)) (.lf (E4)) (.br (x0.getD x2.toNat (0:Int)==(23:Int)) (.lf (E4)) (.br (decide (x0.getD x2.toNat (0:Int)>=(32:Int))) (.br (decide (x0.getD x2.toNat (0:Int)<=(36:Int))) (.lf (E4)) T1) T1)); .br (decide (x0.getD x2.toNat (0:Int)>=(40:Int))) (.br (decide (x0.getD x2.toNat (0:Int)<=(48:Int))) (.br (x0.getD x2.toNat (0:Int)==(48:Int)) (.lf ({Op:=x0.getD x2.toNat 0,A:=x3,B:=0,C:=0,Imm:=wrap i32 (wrap i64 (x6-12))})) (.lf ({Op:=x0.getD x2.toNat 0,A:=x3,B:=x4,C:=0,Imm:=wrap i32 (wrap i64 (x6-12))}))) T3) T3)))))))
def Ze0(n:Int):Q0i:=(Qlo n).m
abbrev Qgj(n:Int):Prop:=(Qlo n).p
def Zh5:Q0b:=mkP 64 [] true [.one (.int .i64)] [] (λargs rows=>Qgj (argI args 0)) (λargs rows=>Ze0 (argI args 0)) (λX=> .agg (Q0i.cells X)) (λX=>[])
theorem Zei:Q05 Tryz.prog Zh5:=Q0k Q0j Q0h (.cons Zgc (.cons Ql7 (.cons Ql5 (.nil)))) Tryz.func64 Tryz.call64 (λargs rows=>Qlo (argI args 0)) [] [] 2 (λ_ _ _=>by kernel_rfl) (λ_ _=>rfl) (λ_ _ h=>h) (λ_ X=>by kernel_rfl)
def Qq9(l:(List Int))(z:(Int)×(List Int)):Prop:=0<=z.1/\z.1<=l.length/\(z.2.length:Int)=z.1
def Qbl(l:(List Int))(z:(Int)×(List Int)):Nat:=(l.length-z.1).toNat
def Qia(l:(List Int)):Tree (List Int):=
.lp inferInstance (Qbl l (0,[])+1) ((((Els.Nil (Els.ints i64 l)\/rE (1:Nat))/\rE (l:List Int))/\True/\rE (0:Int)/\True)/\rE ([]:List Int)/\True) (0,[]) λ(v0:Int×List Int)=> .br (decide (v0.1<(l.length:Int))) (let E1:=Nat.beq 1 1&&Nat.blt 0 1&&decide (0<=v0.1/\v0.1<(l.length:Int)); .cn E1 (let E2:=decide (4*(v0.2.length+1)<=140737488355328); .br (Int.tmod (l.getD v0.1.toNat 0) (17:Int)==(0:Int)) (.cn E1 (.cn E2 (.nx ((((Els.Nil (Els.ints i64 l)\/rE (1:Nat))/\rE (l:List Int))/\True/\rE ((wrap i64 (v0.1+1)):Int)/\True)/\rE ((v0.2++[wrap u32 (iand i64 (l.getD v0.1.toNat 0) 4294967295)]):List Int)/\True) (Sum.inl (wrap i64 (v0.1+1),v0.2++[wrap u32 (iand i64 (l.getD v0.1.toNat 0) 4294967295)]))))) (.cn E1 (.an (Qgj (l.getD v0.1.toNat 0)) (.lv (Ze0 (l.getD v0.1.toNat 0)) λ(x0:Q0i)=> .lv (Q1e x0) λ(x1:Int×Bool)=> .cn E2 (.nx ((((Els.Nil (Els.ints i64 l)\/rE (1:Nat))/\rE (l:List Int))/\True/\rE ((wrap i64 (v0.1+1)):Int)/\True)/\rE ((v0.2++[x1.1]):List Int)/\True) (Sum.inl (wrap i64 (v0.1+1),v0.2++[x1.1])))))))) (.lf (Sum.inr v0.2))
def Qoa(l:(List Int)):(List Int):=(Qia l).m
abbrev Qle(l:(List Int)):Prop:=(Qia l).p
def Zbd:LInv:={
 α:=(Int)×(List Int)
 F:=λst a=>([(0,(lk st 0)),(3, .all 0),(4, .int i64 a.1)],[⟨false,23,1, .ints u32 a.2⟩])
 a0:=λst=>((lk st 4).toInt,(Q3k st.rows (rN st 3)))
 ex0:=λst=>[]++[(Q0n (lk st 3) (st.rows.length+0))]
 next:=λst=>((lk st 4).toInt,(Q3k st.rows (rN st 3)))
 ex:=λst=>[]++[(Q0n (lk st 3) (st.rows.length+0))]}
def Z2v:List (Nat×LInv):=[(3,Zbd)]
def Zes:Q0b:=mkP 59 [] true [.one (.ints .i64)] [] (λargs rows=>Qle (argL .i64 args 0)) (λargs rows=>Qoa (argL .i64 args 0)) (λX=> .all 0) (λX=>[⟨false,23,1, .ints .u32 X⟩])
theorem Zdo:Q05 Tryz.prog Zes:=Q0k Q0j Q0h (.cons Qjj (.cons Zei (.nil))) Tryz.func59 Tryz.call59 (λargs rows=>Qia (argL .i64 args 0)) [.row 23 1 (.ints .u32)] Z2v 3 (λ_ _ _=>by kernel_rfl) (λ_ _=>rfl) (λ_ _ h=>h) (λ_ X=>by kernel_rfl)
def Qj4(pc:Int):Tree Q03:=
.lf ({X:={a0:=0,a1:=0,a2:=0,a3:=0,a4:=0,a5:=0,a6:=0,a7:=0,a8:=0,a9:=0,a10:=0,a11:=0,a12:=0,a13:=0,a14:=0,a15:=0},Pc:=pc,B7:={a0:=1,a1:=0,a2:=0,a3:=0,a4:=0,a5:=0,a6:=0,a7:=0}})
def Qom(pc:Int):Q03:=(Qj4 pc).m
def Zbu:Q0b:=mkR 119 [] true [.one (.int .u32)] [] (λargs rows=>Qom (argI args 0)) (λX=> .agg (Q03.cells X)) (λX=>[])
theorem Z7f:Q05 Tryz.prog Zbu:=Q0x Q0j Q0h (.nil) Tryz.func119 Tryz.call119 (λargs rows=>Qj4 (argI args 0)) [] [] 2 (λ_ _ _=>by kernel_rfl) (λ_ _=>rfl) (λ_ _=>Tree.free_ok (by kernel_rfl)) (λ_ X=>by kernel_rfl)
def Qdl(pages:Int):Tree (List Int):=
.br (decide (pages<1)) (.lf ([])) (.br (decide (pages>32)) (.lf ([])) (.cn (Nat.blt 0 1&&Nat.beq 1 1&&List.all [D.int u32 0] D.plain&&decide (0<=wrap i64 (pages*32)/\wrap i64 (pages*32)<=wrap i64 (pages*32)/\wrap i64 (pages*32)<=9223372036854775807/\(↑4:Int)*wrap i64 (pages*32)<=140737488355328)) (.lf (List.replicate (Int.toNat (wrap i64 (pages*32))) 0))))
def Qsa(pages:Int):(List Int):=(Qdl pages).m
abbrev Qee(pages:Int):Prop:=(Qdl pages).p
def Zke:Q0b:=mkP 120 [] true [.one (.int .i64)] [] (λargs rows=>Qee (argI args 0)) (λargs rows=>Qsa (argI args 0)) (λX=> .all 0) (λX=>[⟨false,23,1, .ints .u32 X⟩])
theorem Zg3:Q05 Tryz.prog Zke:=Q0k Q0j Q0h (.nil) Tryz.func120 Tryz.call120 (λargs rows=>Qdl (argI args 0)) [.row 23 1 (.ints .u32)] [] 2 (λ_ _ _=>by kernel_rfl) (λ_ _=>rfl) (λ_ _ h=>h) (λ_ X=>by kernel_rfl)
def Q86(pages:Int)(blocks:Int)(image:(List Int)):Tree (Q00×Bool):=
let E2:=({B4:=0,F4:=0,C9:=false,C3:=0,C0:=false,F6:=0}:Q0p);let T1:Tree ((Q00×Bool)):= .lf ({B3:={X:={a0:=0,a1:=0,a2:=0,a3:=0,a4:=0,a5:=0,a6:=0,a7:=0,a8:=0,a9:=0,a10:=0,a11:=0,a12:=0,a13:=0,a14:=0,a15:=0},Pc:=0,B7:={a0:=0,a1:=0,a2:=0,a3:=0,a4:=0,a5:=0,a6:=0,a7:=0}},Mem:=[],A1:={D5:=[]},B1:={D4:=false,D1:=0,D9:=false},B0:={Blocks:=0,B6:=0,B4:=0,C1:=0,F1:=0,B8:=0,B2:=0,C5:=[]},C7:=E2,A2:={D0:=0,C4:=0},A3:=0,A6:=false,A7:=false},false); .br (decide (pages<1)) T1 (.br (decide (pages>32)) T1 (.br (decide (blocks<0)) T1 (.br (decide (blocks>64)) T1 (.br (decide ((image.length:Int)>wrap i64 (pages*32))) T1 (.lv (Qom 0) λ(x0:Q03)=> .an (Qee pages) (.lv (Qsa pages) λ(x1:List Int)=> .lf ({B3:=x0,Mem:=List.take (Min.min (image.length) (x1.length)) image++List.drop (Min.min (image.length) (x1.length)) x1,A1:={D5:=[]},B1:={D4:=false,D1:=0,D9:=false},B0:={Blocks:=wrap u32 blocks,B6:=0,B4:=0,C1:=0,F1:=0,B8:=0,B2:=0,C5:=[]},C7:=E2,A2:={D0:=0,C4:=0},A3:=0,A6:=false,A7:=false},true)))))))
def Q1r(pages:Int)(blocks:Int)(image:(List Int)):(Q00×Bool):=(Q86 pages blocks image).m
abbrev Q93(pages:Int)(blocks:Int)(image:(List Int)):Prop:=(Q86 pages blocks image).p
def Zkr:Q0b:=mkP 56 [] true [.one (.int .i64), .one (.int .i64), .one (.ints .u32)] [] (λargs rows=>Q93 (argI args 0) (argI args 1) (argL .u32 args 2)) (λargs rows=>Q1r (argI args 0) (argI args 1) (argL .u32 args 2)) (λX=> .tup [.agg (Q00.cellsW (X.1) (.all 0)), .bool (X.2)]) (λX=>[⟨false,23,1, .ints .u32 (X.1).Mem⟩])
theorem Z1l:Q05 Tryz.prog Zkr:=Q0k Q0j Q0h (.cons Z7f (.cons Zg3 (.nil))) Tryz.func56 Tryz.call56 (λargs rows=>Q86 (argI args 0) (argI args 1) (argL .u32 args 2)) [.row 23 1 (.ints .u32)] [] 2 (λ_ _ _=>by kernel_rfl) (λ_ _=>rfl) (λ_ _ h=>h) (λ_ X=>by kernel_rfl)
def Q4n(m:Q00):Tree Bool:=
.an (Qam m) (.lv (Q41 m) λ(x0:Bool)=> .br (!x0) (.lf false) (.an (Q9k m) (.lv (Q0y m) λ(x1:Q00)=> .an (Qiu x1.B3 x1.Mem) (.lv (Q9l x1.B3 x1.Mem) λ(x2:Q03×List Int×Q1)=> .br (x2.2.2.B5==1) (.lf (x2.2.2.D3==2)) (.lf false)))))
def Qc1(m:Q00):Bool:=(Q4n m).m
abbrev Q5g(m:Q00):Prop:=(Q4n m).p
def Qpf:Q0b:=mkP 49 [] true [.agg Q00.sig] [] (λargs rows=>Q5g (Q00.of (args.getD 0 .dead).cells)) (λargs rows=>Qc1 (Q00.of (args.getD 0 .dead).cells)) (λX=> .bool X) (λX=>[])
theorem Qni:Q05 Tryz.prog Qpf:=Q0k Q0j Q0h (.cons Qmu (.cons Qm5 (.cons Qzp (.nil)))) Tryz.func49 Tryz.call49 (λargs rows=>Q4n (Q00.of (args.getD 0 .dead).cells)) [] [] 2 (λ_ _ _=>by kernel_rfl) (λ_ _=>rfl) (λ_ _ h=>h) (λ_ X=>by kernel_rfl)
end
end Go.Proofs.YtjaifpiopmhmlaaGreat

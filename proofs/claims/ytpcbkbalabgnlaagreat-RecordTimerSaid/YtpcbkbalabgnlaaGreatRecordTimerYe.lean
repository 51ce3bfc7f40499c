/-
  Functions of the program: models, and that its calls come to them (by a program: gen3.py).
-/
import Derived.Test.YtpcbkbalabgnlaaGreatRecordTimerBase
import Derived.Test.YtpcbkbalabgnlaaGreatRecordTimerYd
import Derived.Test.YtpcbkbalabgnlaaGreatRecordTimerYb
set_option linter.unusedVariables false
set_option linter.unusedSimpArgs false
namespace Go.Proofs.YtpcbkbalabgnlaaGreat
open Go Go.GD Go.IntKind
set_option maxRecDepth 100000
noncomputable section
def Quv(op:Int):Tree Int:=
let T1:Tree (Int):= .br (op==49) (.lf 3) (let T2:Tree (Int):= .br (op==24) (.lf 6) (.br (op==48) (.lf 7) (.br (op==58) (.lf 8) (.br (op==59) (.lf 8) (.br (op==60) (.lf 9) (.br (op==61) (.lf 9) (.br (op==56) (.lf 1) (.br (op==57) (.lf 1) (.br (decide (op≥62)) (.br (decide (op≤64)) (.lf 1) (.lf 0)) (.lf 0))))))))); .br (decide (op≥17)) (.br (decide (op≤19)) (.lf 4) (.br (decide (op≥20)) (.br (decide (op≤22)) (.lf 5) T2) T2)) (.br (decide (op≥20)) (.br (decide (op≤22)) (.lf 5) T2) T2));let T3:Tree (Int):= .br (op==16) (.lf 3) (.br (op==23) (.lf 3) (.br (decide (op≥32)) (.br (decide (op≤36)) (.lf 3) (.br (decide (op≥40)) (.br (decide (op≤45)) (.lf 3) T1) T1)) (.br (decide (op≥40)) (.br (decide (op≤45)) (.lf 3) T1) T1))); .br (decide (op≥1)) (.br (decide (op≤13)) (.lf 2) T3) T3
def Q26(op:Int):Int:=(Quv op).m
def Z5:Q0f:=mkR 113 [] true [.one (.int .i64)] [] (λargs rows=>Q26 (argI args 0)) (λX=> .int .i64 X) (λX=>[])
theorem Qg0:Q08 Tryz.prog Z5:=Q2c Q0s Q0t (.nil) Tryz.func113 Tryz.call113 (λargs rows=>Quv (argI args 0)) [] [] 2 (λ_ _ _=>by kernel_rfl) (λ_ _=>rfl) (λ_ _=>Tree.free_ok (by kernel_rfl)) (λ_ X=>by kernel_rfl)
def Qax(r:Int):Tree Bool:=
.br (decide (r≥0)) (.lf (decide (r≤15))) (.lf false)
def Q7f(r:Int):Bool:=(Qax r).m
def Qsu:Q0f:=mkR 118 [] true [.one (.int .i64)] [] (λargs rows=>Q7f (argI args 0)) (λX=> .bool X) (λX=>[])
theorem Qrk:Q08 Tryz.prog Qsu:=Q2c Q0s Q0t (.nil) Tryz.func118 Tryz.call118 (λargs rows=>Qax (argI args 0)) [] [] 2 (λ_ _ _=>by kernel_rfl) (λ_ _=>rfl) (λ_ _=>Tree.free_ok (by kernel_rfl)) (λ_ X=>by kernel_rfl)
def Qhu(f:Int):Tree (Int×Int):=
.br (f==3) (.lf ((-32768),32767)) (.br (f==7) (.lf ((-32768),32767)) (.br (f==4) (.lf (0,65535)) (.br (f==6) (.lf (0,65535)) (.br (f==5) (.lf (0,31)) (.br (f==8) (.lf (0,7)) (.br (f==9) (.lf (0,11)) (.lf (0,0))))))))
def Qhb(f:Int):(Int×Int):=(Qhu f).m
def Z11:Q0f:=mkR 114 [] true [.one (.int .i64)] [] (λargs rows=>Qhb (argI args 0)) (λX=> .tup [.int .i64 (X.1), .int .i64 (X.2)]) (λX=>[])
theorem Qkz:Q08 Tryz.prog Z11:=Q2c Q0s Q0t (.nil) Tryz.func114 Tryz.call114 (λargs rows=>Qhu (argI args 0)) [] [] 2 (λ_ _ _=>by kernel_rfl) (λ_ _=>rfl) (λ_ _=>Tree.free_ok (by kernel_rfl)) (λ_ X=>by kernel_rfl)
def Qcq(i:Q0h):Tree Bool:=
.lv (Q26 i.Op) λ(x0:Int)=> .br (x0==0) (.lf false) (.lv (Q7f i.A) λ(x1:Bool)=> .br (!x1) (.lf false) (.lv (Q7f i.B) λ(x2:Bool)=> .br (!x2) (.lf false) (.lv (Q7f i.C) λ(x3:Bool)=> .br (!x3) (.lf false) (.lv (Qhb x0) λ(x4:Int×Int)=> .br (decide (wrap i64 i.Imm<x4.1)) (.lf false) (.br (decide (wrap i64 i.Imm>x4.2)) (.lf false) (let T1:Tree (Bool):= .br (x0==1) (.br (i.A !=0) (.lf false) (.br (i.B==0) (.lf true) (.br (decide (x0≥2)) (.lf (decide (x0≤5))) (.lf false)))) (.br (i.B==0) (.lf true) (.br (decide (x0≥2)) (.lf (decide (x0≤5))) (.lf false))); .br (x0 !=2) (.br (i.C !=0) (.lf false) T1) T1))))))
def Q6u(i:Q0h):Bool:=(Qcq i).m
def Z3o:Q0f:=mkR 84 [] true [.agg Q0h.sig] [] (λargs rows=>Q6u (Q0h.of (args.getD 0 .dead).cells)) (λX=> .bool X) (λX=>[])
theorem Qyy:Q08 Tryz.prog Z3o:=Q2c Q0s Q0t (.cons Qg0 (.cons Qrk (.cons Qkz (.nil)))) Tryz.func84 Tryz.call84 (λargs rows=>Qcq (Q0h.of (args.getD 0 .dead).cells)) [] [] 2 (λ_ _ _=>by kernel_rfl) (λ_ _=>rfl) (λ_ _=>Tree.free_ok (by kernel_rfl)) (λ_ X=>by kernel_rfl)
def Qnm(i:Q0h):Tree (Int×Bool):=
.lv (Q6u i) λ(x0:Bool)=> .br (!x0) (.lf (0,false)) (.lf (ior u32 (ior u32 (ior u32 (ior u32 (ishl u32 (wrap u32 i.Op) 24) (ishl u32 (wrap u32 i.A) 20)) (ishl u32 (wrap u32 i.B) 16)) (iand u32 (wrap u32 i.Imm) 65535)) (wrap u32 i.C),true))
def Q1i(i:Q0h):(Int×Bool):=(Qnm i).m
def Qz2:Q0f:=mkR 44 [] true [.agg Q0h.sig] [] (λargs rows=>Q1i (Q0h.of (args.getD 0 .dead).cells)) (λX=> .tup [.int .u32 (X.1), .bool (X.2)]) (λX=>[])
theorem Qld:Q08 Tryz.prog Qz2:=Q2c Q0s Q0t (.cons Qyy (.nil)) Tryz.func44 Tryz.call44 (λargs rows=>Qnm (Q0h.of (args.getD 0 .dead).cells)) [] [] 2 (λ_ _ _=>by kernel_rfl) (λ_ _=>rfl) (λ_ _=>Tree.free_ok (by kernel_rfl)) (λ_ X=>by kernel_rfl)
def Z9n:Tree (List Int):=
.lf ([1,2,3,4,5,6,7,8,9,10,11,12,13,16,16,17,18,19,20,21,22,23,24,24,32,32,33,34,35,35,36,40,41,42,43,44,45,48,49,56,57,58,59,60,60,61,61,62,63,64])
def make_ops:(List Int):=(Z9n).m
def Z5n(seed:Int):Tree (Int×Int):=
let E1:=wrap u64 (ixor u64 (wrap u64 (seed+11400714819323198485)) (ishr u64 (wrap u64 (seed+11400714819323198485)) 30)*13787848793156543929);let E2:=wrap u64 (ixor u64 E1 (ishr u64 E1 27)*10723151780598845931); .lf (ixor u64 E2 (ishr u64 E2 31),wrap u64 (seed+11400714819323198485))
def ref1_Next(seed:Int):(Int×Int):=(Z5n seed).m
def Za3(n:Int)(k:Int):Tree Int:=
.lv (ref1_Next (ixor u64 (wrap u64 n) (wrap u64 (wrap u64 k*11400714819323198485)))) λ(x0:Int×Int)=> .lf (wrap i64 (ishr u64 x0.1 1))
def make_Mix(n:Int)(k:Int):Int:=(Za3 n k).m
def Qd5(n:Int)(k:Int):Tree Int:=
.cn (decide (k≠0)) (.br (decide (Int.tmod n k<0)) (.lf (wrap i64 (Int.tmod n k+k))) (.lf (Int.tmod n k)))
def Qgs(n:Int)(k:Int):Int:=(Qd5 n k).m
abbrev Q52(n:Int)(k:Int):Prop:=(Qd5 n k).p
def Qf5(n:Int):Tree Q0h:=
.lv make_ops λ(x0:List Int)=> .lv (make_Mix n 1) λ(x1:Int)=> .an (Q52 x1 (x0.length:Int)) (.lv (Qgs x1 (x0.length:Int)) λ(x2:Int)=> .cn (Nat.beq 1 1&&Nat.blt 0 1&&decide (0≤x2∧x2<(x0.length:Int))) (.an (Q52 (ishr i64 x1 8) 6) (.lv (Qgs (ishr i64 x1 8) 6) λ(x3:Int)=> .an (Q52 (ishr i64 x1 12) 6) (.lv (Qgs (ishr i64 x1 12) 6) λ(x4:Int)=> .an (Q52 (ishr i64 x1 16) 6) (.lv (Qgs (ishr i64 x1 16) 6) λ(x5:Int)=> .an (Q52 (ishr i64 x1 20) 24) (.lv (Qgs (ishr i64 x1 20) 24) λ(x6:Int)=> .br (decide (x0.getD x2.toNat (0:Int)≤(13:Int))) (.lf ({Op:=x0.getD x2.toNat 0,A:=x3,B:=x4,C:=x5,Imm:=0})) (let E4:=({Op:=x0.getD x2.toNat 0,A:=x3,B:=x4,C:=0,Imm:=wrap i32 (wrap i64 (wrap i64 (8*x6)-32))}:Q0h);let T1:Tree (Q0h):= .br (x0.getD x2.toNat (0:Int)==(49:Int)) (.lf (E4)) (.br (x0.getD x2.toNat (0:Int)==(24:Int)) (.lf ({Op:=x0.getD x2.toNat 0,A:=x3,B:=0,C:=0,Imm:=wrap i32 (wrap i64 (x6*iand i64 (ishr i64 x1 40) 1))})) (let T2:Tree (Q0h):=let E6:=({Op:=x0.getD x2.toNat 0,A:=x3,B:=0,C:=0,Imm:=wrap i32 (Int.tmod x6 8)}:Q0h); .br (x0.getD x2.toNat (0:Int)==(58:Int)) (.lf (E6)) (.br (x0.getD x2.toNat (0:Int)==(59:Int)) (.lf (E6)) (let E5:=({Op:=x0.getD x2.toNat 0,A:=x3,B:=0,C:=0,Imm:=wrap i32 (Int.tmod x6 12)}:Q0h); .br (x0.getD x2.toNat (0:Int)==(60:Int)) (.lf (E5)) (.br (x0.getD x2.toNat (0:Int)==(61:Int)) (.lf (E5)) (.lf ({Op:=x0.getD x2.toNat 0,A:=0,B:=0,C:=0,Imm:=0}))))); .br (decide (x0.getD x2.toNat (0:Int)≥(17:Int))) (.br (decide (x0.getD x2.toNat (0:Int)≤(22:Int))) (.lf ({Op:=x0.getD x2.toNat 0,A:=x3,B:=x4,C:=0,Imm:=wrap i32 x6})) T2) T2));let T3:Tree (Q0h):= .br (x0.getD x2.toNat (0:Int)==(16:Int)) (.lf (E4)) (.br (x0.getD x2.toNat (0:Int)==(23:Int)) (.lf (E4)) (.br (decide (x0.getD x2.toNat (0:Int)≥(32:Int))) (.br (decide (x0.getD x2.toNat (0:Int)≤(36:Int))) (.lf (E4)) T1) T1)); .br (decide (x0.getD x2.toNat (0:Int)≥(40:Int))) (.br (decide (x0.getD x2.toNat (0:Int)≤(48:Int))) (.br (x0.getD x2.toNat (0:Int)==(48:Int)) (.lf ({Op:=x0.getD x2.toNat 0,A:=x3,B:=0,C:=0,Imm:=wrap i32 (wrap i64 (x6-12))})) (.lf ({Op:=x0.getD x2.toNat 0,A:=x3,B:=x4,C:=0,Imm:=wrap i32 (wrap i64 (x6-12))}))) T3) T3)))))))
def make_Inst(n:Int):Q0h:=(Qf5 n).m
abbrev Qds(n:Int):Prop:=(Qf5 n).p
def Qsl(l:(List Int))(z:(Int)×(List Int)):Nat:=(l.length-z.1).toNat
def Qi3(l:(List Int)):Tree (List Int):=
.lp inferInstance (Qsl l (0,[])+1) ((((Els.Nil (Els.ints i64 l)∨rE (1:Nat))∧rE (l:List Int))∧True∧rE (0:Int)∧True)∧rE ([]:List Int)∧True) (0,[]) λ(v0:Int×List Int)=> .br (decide (v0.1<(l.length:Int))) (let E1:=Nat.beq 1 1&&Nat.blt 0 1&&decide (0≤v0.1∧v0.1<(l.length:Int)); .cn E1 (let E2:=decide (4*(v0.2.length+1)≤140737488355328); .br (Int.tmod (l.getD v0.1.toNat 0) (17:Int)==(0:Int)) (.cn E1 (.cn E2 (.nx ((((Els.Nil (Els.ints i64 l)∨rE (1:Nat))∧rE (l:List Int))∧True∧rE ((wrap i64 (v0.1+1)):Int)∧True)∧rE ((v0.2++[wrap u32 (iand i64 (l.getD v0.1.toNat 0) 4294967295)]):List Int)∧True) (Sum.inl (wrap i64 (v0.1+1),v0.2++[wrap u32 (iand i64 (l.getD v0.1.toNat 0) 4294967295)]))))) (.cn E1 (.an (Qds (l.getD v0.1.toNat 0)) (.lv (make_Inst (l.getD v0.1.toNat 0)) λ(x0:Q0h)=> .lv (Q1i x0) λ(x1:Int×Bool)=> .cn E2 (.nx ((((Els.Nil (Els.ints i64 l)∨rE (1:Nat))∧rE (l:List Int))∧True∧rE ((wrap i64 (v0.1+1)):Int)∧True)∧rE ((v0.2++[x1.1]):List Int)∧True) (Sum.inl (wrap i64 (v0.1+1),v0.2++[x1.1])))))))) (.lf (Sum.inr v0.2))
abbrev Qha(l:(List Int)):Prop:=(Qi3 l).p
def Qq7(pc:Int):Tree Q03:=
.lf ({X:={a0:=0,a1:=0,a2:=0,a3:=0,a4:=0,a5:=0,a6:=0,a7:=0,a8:=0,a9:=0,a10:=0,a11:=0,a12:=0,a13:=0,a14:=0,a15:=0},Pc:=pc,B5:={a0:=1,a1:=0,a2:=0,a3:=0,a4:=0,a5:=0,a6:=0,a7:=0}})
def Qxm(pc:Int):Q03:=(Qq7 pc).m
def Z1s:Q0f:=mkR 75 [] true [.one (.int .u32)] [] (λargs rows=>Qxm (argI args 0)) (λX=> .agg (Q03.cells X)) (λX=>[])
theorem Qzx:Q08 Tryz.prog Z1s:=Q2c Q0s Q0t (.nil) Tryz.func75 Tryz.call75 (λargs rows=>Qq7 (argI args 0)) [] [] 2 (λ_ _ _=>by kernel_rfl) (λ_ _=>rfl) (λ_ _=>Tree.free_ok (by kernel_rfl)) (λ_ X=>by kernel_rfl)
def Qef(pages:Int):Tree (List Int):=
.br (decide (pages<1)) (.lf ([])) (.br (decide (pages>32)) (.lf ([])) (.cn (Nat.blt 0 1&&Nat.beq 1 1&&List.all [D.int u32 0] D.plain&&decide (0≤wrap i64 (pages*32)∧wrap i64 (pages*32)≤wrap i64 (pages*32)∧wrap i64 (pages*32)≤9223372036854775807∧(↑4:Int)*wrap i64 (pages*32)≤140737488355328)) (.lf (List.replicate (Int.toNat (wrap i64 (pages*32))) 0))))
def Z7p(pages:Int):(List Int):=(Qef pages).m
abbrev Qda(pages:Int):Prop:=(Qef pages).p
def Zb2:Q0f:=mkP 76 [] true [.one (.int .i64)] [] (λargs rows=>Qda (argI args 0)) (λargs rows=>Z7p (argI args 0)) (λX=> .all 0) (λX=>[⟨false,23,1, .ints .u32 X⟩])
theorem Z5p:Q08 Tryz.prog Zb2:=Q0z Q0s Q0t (.nil) Tryz.func76 Tryz.call76 (λargs rows=>Qef (argI args 0)) [.row 23 1 (.ints .u32)] [] 2 (λ_ _ _=>by kernel_rfl) (λ_ _=>rfl) (λ_ _ h=>h) (λ_ X=>by kernel_rfl)
def Qeb(pages:Int)(blocks:Int)(image:(List Int)):Tree (Q00×Bool):=
let E2:=({B1:=0,F1:=0,C4:=false,B9:=0,B7:=false,F3:=0}:Q0m);let T1:Tree ((Q00×Bool)):= .lf ({B2:={X:={a0:=0,a1:=0,a2:=0,a3:=0,a4:=0,a5:=0,a6:=0,a7:=0,a8:=0,a9:=0,a10:=0,a11:=0,a12:=0,a13:=0,a14:=0,a15:=0},Pc:=0,B5:={a0:=0,a1:=0,a2:=0,a3:=0,a4:=0,a5:=0,a6:=0,a7:=0}},Mem:=[],A2:={D3:=[]},A7:={D4:=false,C6:=0,D6:=false},B0:={Blocks:=0,C0:=0,B1:=0,B8:=0,D9:=0,B6:=0,A9:=0,C2:=[]},C5:=E2,A1:={C7:=0,C1:=0},A4:=0,A3:=false,A6:=false},false); .br (decide (pages<1)) T1 (.br (decide (pages>32)) T1 (.br (decide (blocks<0)) T1 (.br (decide (blocks>64)) T1 (.br (decide ((image.length:Int)>wrap i64 (pages*32))) T1 (.lv (Qxm 0) λ(x0:Q03)=> .an (Qda pages) (.lv (Z7p pages) λ(x1:List Int)=> .lf ({B2:=x0,Mem:=List.take (Min.min (image.length) (x1.length)) image++List.drop (Min.min (image.length) (x1.length)) x1,A2:={D3:=[]},A7:={D4:=false,C6:=0,D6:=false},B0:={Blocks:=wrap u32 blocks,C0:=0,B1:=0,B8:=0,D9:=0,B6:=0,A9:=0,C2:=[]},C5:=E2,A1:={C7:=0,C1:=0},A4:=0,A3:=false,A6:=false},true)))))))
def Qzt(pages:Int)(blocks:Int)(image:(List Int)):(Q00×Bool):=(Qeb pages blocks image).m
abbrev Qaq(pages:Int)(blocks:Int)(image:(List Int)):Prop:=(Qeb pages blocks image).p
def Zb1:Q0f:=mkP 38 [] true [.one (.int .i64), .one (.int .i64), .one (.ints .u32)] [] (λargs rows=>Qaq (argI args 0) (argI args 1) (argL .u32 args 2)) (λargs rows=>Qzt (argI args 0) (argI args 1) (argL .u32 args 2)) (λX=> .tup [.agg (Q00.cellsW (X.1) (.all 0)), .bool (X.2)]) (λX=>[⟨false,23,1, .ints .u32 (X.1).Mem⟩])
theorem Qt9:Q08 Tryz.prog Zb1:=Q0z Q0s Q0t (.cons Qzx (.cons Z5p (.nil))) Tryz.func38 Tryz.call38 (λargs rows=>Qeb (argI args 0) (argI args 1) (argL .u32 args 2)) [.row 23 1 (.ints .u32)] [] 2 (λ_ _ _=>by kernel_rfl) (λ_ _=>rfl) (λ_ _ h=>h) (λ_ X=>by kernel_rfl)
def Qkn(a:(List Int))(b:(List Int))(z:(Int)):Nat:=(a.length-z).toNat
def Qqy(a:(List Int))(b:(List Int)):Tree Bool:=
.br ((a.length:Int) !=(b.length:Int)) (.lf false) (.lp inferInstance (Qkn a b 0+1) ((((Els.Nil (Els.ints u32 a)∨rE (1:Nat))∧rE (a:List Int))∧((Els.Nil (Els.ints u32 b)∨rE (1:Nat))∧rE (b:List Int))∧rE (0:Int)∧True)∧True) 0 λ(v0:Int)=> .br (decide (v0<(a.length:Int))) (.cn (Nat.beq 1 1&&Nat.blt 0 1&&decide (0≤v0∧v0<(a.length:Int))) (.cn (Nat.beq 1 1&&Nat.blt 0 1&&decide (0≤v0∧v0<(b.length:Int))) (.br (a.getD v0.toNat 0 !=b.getD v0.toNat 0) (.lf (Sum.inr false)) (.nx ((((Els.Nil (Els.ints u32 a)∨rE (1:Nat))∧rE (a:List Int))∧((Els.Nil (Els.ints u32 b)∨rE (1:Nat))∧rE (b:List Int))∧rE ((wrap i64 (v0+1)):Int)∧True)∧True) (Sum.inl (wrap i64 (v0+1))))))) (.lf (Sum.inr true)))
def Qwg(a:(List Int))(b:(List Int)):Bool:=(Qqy a b).m
def Q4g(a:(List Int))(b:(List Int)):Prop:=
a.length≤1000000000000
def Qhk(a:Q00)(b:Q00):Tree Bool:=
.br (eqs [D.int u32 a.B2.X.a0,D.int u32 a.B2.X.a1,D.int u32 a.B2.X.a2,D.int u32 a.B2.X.a3,D.int u32 a.B2.X.a4,D.int u32 a.B2.X.a5,D.int u32 a.B2.X.a6,D.int u32 a.B2.X.a7,D.int u32 a.B2.X.a8,D.int u32 a.B2.X.a9,D.int u32 a.B2.X.a10,D.int u32 a.B2.X.a11,D.int u32 a.B2.X.a12,D.int u32 a.B2.X.a13,D.int u32 a.B2.X.a14,D.int u32 a.B2.X.a15,D.int u32 a.B2.Pc,D.int u32 a.B2.B5.a0,D.int u32 a.B2.B5.a1,D.int u32 a.B2.B5.a2,D.int u32 a.B2.B5.a3,D.int u32 a.B2.B5.a4,D.int u32 a.B2.B5.a5,D.int u32 a.B2.B5.a6,D.int u32 a.B2.B5.a7] [D.int u32 b.B2.X.a0,D.int u32 b.B2.X.a1,D.int u32 b.B2.X.a2,D.int u32 b.B2.X.a3,D.int u32 b.B2.X.a4,D.int u32 b.B2.X.a5,D.int u32 b.B2.X.a6,D.int u32 b.B2.X.a7,D.int u32 b.B2.X.a8,D.int u32 b.B2.X.a9,D.int u32 b.B2.X.a10,D.int u32 b.B2.X.a11,D.int u32 b.B2.X.a12,D.int u32 b.B2.X.a13,D.int u32 b.B2.X.a14,D.int u32 b.B2.X.a15,D.int u32 b.B2.Pc,D.int u32 b.B2.B5.a0,D.int u32 b.B2.B5.a1,D.int u32 b.B2.B5.a2,D.int u32 b.B2.B5.a3,D.int u32 b.B2.B5.a4,D.int u32 b.B2.B5.a5,D.int u32 b.B2.B5.a6,D.int u32 b.B2.B5.a7]) (.an (Q4g a.Mem b.Mem) (.lv (Qwg a.Mem b.Mem) λ(x0:Bool)=> .br x0 (.br (eqs [D.str a.A2.D3] [D.str b.A2.D3]) (.br (eqs [D.bool a.A7.D4,D.int u32 a.A7.C6,D.bool a.A7.D6] [D.bool b.A7.D4,D.int u32 b.A7.C6,D.bool b.A7.D6]) (.br (eqs [D.int u32 a.B0.Blocks,D.int u32 a.B0.C0,D.int u32 a.B0.B1,D.int i64 a.B0.B8,D.int i64 a.B0.D9,D.int u32 a.B0.B6,D.int u32 a.B0.A9,D.str a.B0.C2] [D.int u32 b.B0.Blocks,D.int u32 b.B0.C0,D.int u32 b.B0.B1,D.int i64 b.B0.B8,D.int i64 b.B0.D9,D.int u32 b.B0.B6,D.int u32 b.B0.A9,D.str b.B0.C2]) (.br (eqs [D.int u32 a.C5.B1,D.int u32 a.C5.F1,D.bool a.C5.C4,D.int u32 a.C5.B9,D.bool a.C5.B7,D.int u32 a.C5.F3] [D.int u32 b.C5.B1,D.int u32 b.C5.F1,D.bool b.C5.C4,D.int u32 b.C5.B9,D.bool b.C5.B7,D.int u32 b.C5.F3]) (.br (eqs [D.int u32 a.A1.C7,D.int u32 a.A1.C1] [D.int u32 b.A1.C7,D.int u32 b.A1.C1]) (.br (a.A4==b.A4) (.br (a.A3==b.A3) (.lf (a.A6==b.A6)) (.lf false)) (.lf false)) (.lf false)) (.lf false)) (.lf false)) (.lf false)) (.lf false)) (.lf false))) (.lf false)
abbrev Qi5(a:Q00)(b:Q00):Prop:=(Qhk a b).p
def Q2(m:Q00):Tree Bool:=
.an (Q5w m) (.lv (Q2n m) λ(x0:Bool)=> .br (!x0) (.lf false) (.an (Q5b m) (.lv (Q0p m) λ(x1:Q00)=> .an (Qap x1.B2 x1.Mem) (.lv (Q74 x1.B2 x1.Mem) λ(x2:Q03×List Int×Q13)=> .br (x2.2.2.C3==1) (.lf (x2.2.2.C9==2)) (.lf false)))))
def Q68(m:Q00):Bool:=(Q2 m).m
abbrev Q22(m:Q00):Prop:=(Q2 m).p
def Qkp:Q0f:=mkP 57 [] true [.agg Q00.sig] [] (λargs rows=>Q22 (Q00.of (args.getD 0 .dead).cells)) (λargs rows=>Q68 (Q00.of (args.getD 0 .dead).cells)) (λX=> .bool X) (λX=>[])
theorem Qjm:Q08 Tryz.prog Qkp:=Q0z Q0s Q0t (.cons Qiw (.cons Qim (.cons Qtl (.nil)))) Tryz.func57 Tryz.call57 (λargs rows=>Q2 (Q00.of (args.getD 0 .dead).cells)) [] [] 2 (λ_ _ _=>by kernel_rfl) (λ_ _=>rfl) (λ_ _ h=>h) (λ_ X=>by kernel_rfl)
end
end Go.Proofs.YtpcbkbalabgnlaaGreat

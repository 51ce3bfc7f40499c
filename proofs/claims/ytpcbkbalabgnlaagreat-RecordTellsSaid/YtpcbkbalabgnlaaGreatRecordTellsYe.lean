/-
  Functions of the program: models, and that its calls come to them (by a program: gen3.py).
-/
import Derived.Test.YtpcbkbalabgnlaaGreatRecordTellsBase
import Derived.Test.YtpcbkbalabgnlaaGreatRecordTellsYd
import Derived.Test.YtpcbkbalabgnlaaGreatRecordTellsYb
set_option maxRecDepth 100000
set_option linter.unusedVariables false
set_option linter.unusedSimpArgs false
namespace Go.Proofs.YtpcbkbalabgnlaaGreat
open Go Go.GD Go.IntKind
noncomputable section
def Z05(op:Int):Tree Int:=
let T1:Tree (Int):= .br (op==49) (.lf 3) (let T2:Tree (Int):= .br (op==24) (.lf 6) (.br (op==48) (.lf 7) (.br (op==58) (.lf 8) (.br (op==59) (.lf 8) (.br (op==60) (.lf 9) (.br (op==61) (.lf 9) (.br (op==56) (.lf 1) (.br (op==57) (.lf 1) (.br (decide (op≥62)) (.br (decide (op≤64)) (.lf 1) (.lf 0)) (.lf 0))))))))); .br (decide (op≥17)) (.br (decide (op≤19)) (.lf 4) (.br (decide (op≥20)) (.br (decide (op≤22)) (.lf 5) T2) T2)) (.br (decide (op≥20)) (.br (decide (op≤22)) (.lf 5) T2) T2));let T3:Tree (Int):= .br (op==16) (.lf 3) (.br (op==23) (.lf 3) (.br (decide (op≥32)) (.br (decide (op≤36)) (.lf 3) (.br (decide (op≥40)) (.br (decide (op≤45)) (.lf 3) T1) T1)) (.br (decide (op≥40)) (.br (decide (op≤45)) (.lf 3) T1) T1))); .br (decide (op≥1)) (.br (decide (op≤13)) (.lf 2) T3) T3
def Q2u(op:Int):Int:=(Z05 op).m
def Zhf:Q0d:=mkR 113 [] true [.one (.int .i64)] [] (λargs rows=>Q2u (argI args 0)) (λX=> .int .i64 X) (λX=>[])
theorem Qg8:Q05 Tryz.prog Zhf:=Q11 Q0j Q0i (.nil) Tryz.func113 Tryz.call113 (λargs rows=>Z05 (argI args 0)) [] [] 2 (λ_ _ _=>by kernel_rfl) (λ_ _=>rfl) (λ_ _=>Tree.free_ok (by kernel_rfl)) (λ_ X=>by kernel_rfl)
def Qe4(r:Int):Tree Bool:=
.br (decide (r≥0)) (.lf (decide (r≤15))) (.lf false)
def Q96(r:Int):Bool:=(Qe4 r).m
def Z2w:Q0d:=mkR 118 [] true [.one (.int .i64)] [] (λargs rows=>Q96 (argI args 0)) (λX=> .bool X) (λX=>[])
theorem Qyp:Q05 Tryz.prog Z2w:=Q11 Q0j Q0i (.nil) Tryz.func118 Tryz.call118 (λargs rows=>Qe4 (argI args 0)) [] [] 2 (λ_ _ _=>by kernel_rfl) (λ_ _=>rfl) (λ_ _=>Tree.free_ok (by kernel_rfl)) (λ_ X=>by kernel_rfl)
def Qls(f:Int):Tree (Int×Int):=
.br (f==3) (.lf ((-32768),32767)) (.br (f==7) (.lf ((-32768),32767)) (.br (f==4) (.lf (0,65535)) (.br (f==6) (.lf (0,65535)) (.br (f==5) (.lf (0,31)) (.br (f==8) (.lf (0,7)) (.br (f==9) (.lf (0,11)) (.lf (0,0))))))))
def Qmh(f:Int):(Int×Int):=(Qls f).m
def Z7e:Q0d:=mkR 114 [] true [.one (.int .i64)] [] (λargs rows=>Qmh (argI args 0)) (λX=> .tup [.int .i64 (X.1), .int .i64 (X.2)]) (λX=>[])
theorem Qq3:Q05 Tryz.prog Z7e:=Q11 Q0j Q0i (.nil) Tryz.func114 Tryz.call114 (λargs rows=>Qls (argI args 0)) [] [] 2 (λ_ _ _=>by kernel_rfl) (λ_ _=>rfl) (λ_ _=>Tree.free_ok (by kernel_rfl)) (λ_ X=>by kernel_rfl)
def Qfy(i:Q0h):Tree Bool:=
.lv (Q2u i.Op) λ(x0:Int)=> .br (x0==0) (.lf false) (.lv (Q96 i.A) λ(x1:Bool)=> .br (!x1) (.lf false) (.lv (Q96 i.B) λ(x2:Bool)=> .br (!x2) (.lf false) (.lv (Q96 i.C) λ(x3:Bool)=> .br (!x3) (.lf false) (.lv (Qmh x0) λ(x4:Int×Int)=> .br (decide (wrap i64 i.Imm<x4.1)) (.lf false) (.br (decide (wrap i64 i.Imm>x4.2)) (.lf false) (let T1:Tree (Bool):= .br (x0==1) (.br (i.A !=0) (.lf false) (.br (i.B==0) (.lf true) (.br (decide (x0≥2)) (.lf (decide (x0≤5))) (.lf false)))) (.br (i.B==0) (.lf true) (.br (decide (x0≥2)) (.lf (decide (x0≤5))) (.lf false))); .br (x0 !=2) (.br (i.C !=0) (.lf false) T1) T1))))))
def Q8j(i:Q0h):Bool:=(Qfy i).m
def Zai:Q0d:=mkR 84 [] true [.agg Q0h.sig] [] (λargs rows=>Q8j (Q0h.of (args.getD 0 .dead).cells)) (λX=> .bool X) (λX=>[])
theorem Qsn:Q05 Tryz.prog Zai:=Q11 Q0j Q0i (.cons Qg8 (.cons Qyp (.cons Qq3 (.nil)))) Tryz.func84 Tryz.call84 (λargs rows=>Qfy (Q0h.of (args.getD 0 .dead).cells)) [] [] 2 (λ_ _ _=>by kernel_rfl) (λ_ _=>rfl) (λ_ _=>Tree.free_ok (by kernel_rfl)) (λ_ X=>by kernel_rfl)
def Qhl(i:Q0h):Tree (Int×Bool):=
.lv (Q8j i) λ(x0:Bool)=> .br (!x0) (.lf (0,false)) (.lf (ior u32 (ior u32 (ior u32 (ior u32 (ishl u32 (wrap u32 i.Op) 24) (ishl u32 (wrap u32 i.A) 20)) (ishl u32 (wrap u32 i.B) 16)) (iand u32 (wrap u32 i.Imm) 65535)) (wrap u32 i.C),true))
def Q1m(i:Q0h):(Int×Bool):=(Qhl i).m
def Z97:Q0d:=mkR 44 [] true [.agg Q0h.sig] [] (λargs rows=>Q1m (Q0h.of (args.getD 0 .dead).cells)) (λX=> .tup [.int .u32 (X.1), .bool (X.2)]) (λX=>[])
theorem Qfg:Q05 Tryz.prog Z97:=Q11 Q0j Q0i (.cons Qsn (.nil)) Tryz.func44 Tryz.call44 (λargs rows=>Qhl (Q0h.of (args.getD 0 .dead).cells)) [] [] 2 (λ_ _ _=>by kernel_rfl) (λ_ _=>rfl) (λ_ _=>Tree.free_ok (by kernel_rfl)) (λ_ X=>by kernel_rfl)
def Z66:Tree (List Int):=
.lf ([1,2,3,4,5,6,7,8,9,10,11,12,13,16,16,17,18,19,20,21,22,23,24,24,32,32,33,34,35,35,36,40,41,42,43,44,45,48,49,56,57,58,59,60,60,61,61,62,63,64])
def Z8p:(List Int):=(Z66).m
def Zlk:Q0d:=mkR 85 [] true [] [] (λargs rows=>Z8p) (λX=> .sl 1 (.ints .i64 X) true) (λX=>[])
theorem Zh5:Q05 Tryz.prog Zlk:=Q11 Q0j Q0i (.nil) Tryz.func85 Tryz.call85 (λargs rows=>Z66) [.sl (.ints .i64) true] [] 2 (λ_ _ _=>by kernel_rfl) (λ_ _=>rfl) (λ_ _=>Tree.free_ok (by kernel_rfl)) (λ_ X=>by kernel_rfl)
def Z1i(seed:Int):Tree (Int×Int):=
let E1:=wrap u64 (ixor u64 (wrap u64 (seed+11400714819323198485)) (ishr u64 (wrap u64 (seed+11400714819323198485)) 30)*13787848793156543929);let E2:=wrap u64 (ixor u64 E1 (ishr u64 E1 27)*10723151780598845931); .lf (ixor u64 E2 (ishr u64 E2 31),wrap u64 (seed+11400714819323198485))
def Zcj(seed:Int):(Int×Int):=(Z1i seed).m
def Zf0:Q0d:=mkR 86 [] true [.one (.int .u64)] [] (λargs rows=>Zcj (argI args 0)) (λX=> .tup [.int .u64 (X.1), .int .u64 (X.2)]) (λX=>[])
theorem Zbi:Q05 Tryz.prog Zf0:=Q11 Q0j Q0i (.nil) Tryz.func86 Tryz.call86 (λargs rows=>Z1i (argI args 0)) [] [] 2 (λ_ _ _=>by kernel_rfl) (λ_ _=>rfl) (λ_ _=>Tree.free_ok (by kernel_rfl)) (λ_ X=>by kernel_rfl)
def Z6c(n:Int)(k:Int):Tree Int:=
.lv (Zcj (ixor u64 (wrap u64 n) (wrap u64 (wrap u64 k*11400714819323198485)))) λ(x0:Int×Int)=> .lf (wrap i64 (ishr u64 x0.1 1))
def Qch(n:Int)(k:Int):Int:=(Z6c n k).m
def Zk8:Q0d:=mkR 47 [] true [.one (.int .i64), .one (.int .i64)] [] (λargs rows=>Qch (argI args 0) (argI args 1)) (λX=> .int .i64 X) (λX=>[])
theorem Qm2:Q05 Tryz.prog Zk8:=Q11 Q0j Q0i (.cons Zbi (.nil)) Tryz.func47 Tryz.call47 (λargs rows=>Z6c (argI args 0) (argI args 1)) [] [] 2 (λ_ _ _=>by kernel_rfl) (λ_ _=>rfl) (λ_ _=>Tree.free_ok (by kernel_rfl)) (λ_ X=>by kernel_rfl)
def Qd5(n:Int)(k:Int):Tree Int:=
.cn (decide (k≠0)) (.br (decide (Int.tmod n k<0)) (.lf (wrap i64 (Int.tmod n k+k))) (.lf (Int.tmod n k)))
def Q26(n:Int)(k:Int):Int:=(Qd5 n k).m
abbrev Q1h(n:Int)(k:Int):Prop:=(Qd5 n k).p
def Zd2:Q0d:=mkP 39 [] true [.one (.int .i64), .one (.int .i64)] [] (λargs rows=>Q1h (argI args 0) (argI args 1)) (λargs rows=>Q26 (argI args 0) (argI args 1)) (λX=> .int .i64 X) (λX=>[])
theorem Qh5:Q05 Tryz.prog Zd2:=Q0k Q0j Q0i (.nil) Tryz.func39 Tryz.call39 (λargs rows=>Qd5 (argI args 0) (argI args 1)) [] [] 2 (λ_ _ _=>by kernel_rfl) (λ_ _=>rfl) (λ_ _ h=>h) (λ_ X=>by kernel_rfl)
def Qct(n:Int):Tree Q0h:=
.lv Z8p λ(x0:List Int)=> .lv (Qch n 1) λ(x1:Int)=> .an (Q1h x1 (x0.length:Int)) (.lv (Q26 x1 (x0.length:Int)) λ(x2:Int)=> .cn (Nat.beq 1 1&&Nat.blt 0 1&&decide (0≤x2∧x2<(x0.length:Int))) (.an (Q1h (ishr i64 x1 8) 6) (.lv (Q26 (ishr i64 x1 8) 6) λ(x3:Int)=> .an (Q1h (ishr i64 x1 12) 6) (.lv (Q26 (ishr i64 x1 12) 6) λ(x4:Int)=> .an (Q1h (ishr i64 x1 16) 6) (.lv (Q26 (ishr i64 x1 16) 6) λ(x5:Int)=> .an (Q1h (ishr i64 x1 20) 24) (.lv (Q26 (ishr i64 x1 20) 24) λ(x6:Int)=> .br (decide (x0.getD x2.toNat (0:Int)≤(13:Int))) (.lf ({Op:=x0.getD x2.toNat 0,A:=x3,B:=x4,C:=x5,Imm:=0})) (let E4:=({Op:=x0.getD x2.toNat 0,A:=x3,B:=x4,C:=0,Imm:=wrap i32 (wrap i64 (wrap i64 (8*x6)-32))}:Q0h);let T1:Tree (Q0h):= .br (x0.getD x2.toNat (0:Int)==(49:Int)) (.lf (E4)) (.br (x0.getD x2.toNat (0:Int)==(24:Int)) (.lf ({Op:=x0.getD x2.toNat 0,A:=x3,B:=0,C:=0,Imm:=wrap i32 (wrap i64 (x6*iand i64 (ishr i64 x1 40) 1))})) (let T2:Tree (Q0h):=let E6:=({Op:=x0.getD x2.toNat 0,A:=x3,B:=0,C:=0,Imm:=wrap i32 (Int.tmod x6 8)}:Q0h); .br (x0.getD x2.toNat (0:Int)==(58:Int)) (.lf (E6)) (.br (x0.getD x2.toNat (0:Int)==(59:Int)) (.lf (E6)) (let E5:=({Op:=x0.getD x2.toNat 0,A:=x3,B:=0,C:=0,Imm:=wrap i32 (Int.tmod x6 12)}:Q0h); .br (x0.getD x2.toNat (0:Int)==(60:Int)) (.lf (E5)) (.br (x0.getD x2.toNat (0:Int)==(61:Int)) (.lf (E5)) (.lf ({Op:=x0.getD x2.toNat 0,A:=0,B:=0,C:=0,Imm:=0}))))); .br (decide (x0.getD x2.toNat (0:Int)≥(17:Int))) (.br (decide (x0.getD x2.toNat (0:Int)≤(22:Int))) (.lf ({Op:=x0.getD x2.toNat 0,A:=x3,B:=x4,C:=0,Imm:=wrap i32 x6})) T2) T2));let T3:Tree (Q0h):= .br (x0.getD x2.toNat (0:Int)==(16:Int)) (.lf (E4)) (.br (x0.getD x2.toNat (0:Int)==(23:Int)) (.lf (E4)) (.br (decide (x0.getD x2.toNat (0:Int)≥(32:Int))) (.br (decide (x0.getD x2.toNat (0:Int)≤(36:Int))) (.lf (E4)) T1) T1)); .br (decide (x0.getD x2.toNat (0:Int)≥(40:Int))) (.br (decide (x0.getD x2.toNat (0:Int)≤(48:Int))) (.br (x0.getD x2.toNat (0:Int)==(48:Int)) (.lf ({Op:=x0.getD x2.toNat 0,A:=x3,B:=0,C:=0,Imm:=wrap i32 (wrap i64 (x6-12))})) (.lf ({Op:=x0.getD x2.toNat 0,A:=x3,B:=x4,C:=0,Imm:=wrap i32 (wrap i64 (x6-12))}))) T3) T3)))))))
def Z1n(n:Int):Q0h:=(Qct n).m
abbrev Q7q(n:Int):Prop:=(Qct n).p
def Zh2:Q0d:=mkP 45 [] true [.one (.int .i64)] [] (λargs rows=>Q7q (argI args 0)) (λargs rows=>Z1n (argI args 0)) (λX=> .agg (Q0h.cells X)) (λX=>[])
theorem Qwj:Q05 Tryz.prog Zh2:=Q0k Q0j Q0i (.cons Zh5 (.cons Qm2 (.cons Qh5 (.nil)))) Tryz.func45 Tryz.call45 (λargs rows=>Qct (argI args 0)) [] [] 2 (λ_ _ _=>by kernel_rfl) (λ_ _=>rfl) (λ_ _ h=>h) (λ_ X=>by kernel_rfl)
def Qqg(l:(List Int))(z:(Int)×(List Int)):Prop:=0≤z.1∧z.1≤l.length∧(z.2.length:Int)=z.1
def Qdl(l:(List Int))(z:(Int)×(List Int)):Nat:=(l.length-z.1).toNat
def Qad(l:(List Int)):Tree (List Int):=
.lp inferInstance (Qdl l (0,[])+1) ((((Els.Nil (Els.ints i64 l)∨rE (1:Nat))∧rE (l:List Int))∧True∧rE (0:Int)∧True)∧rE ([]:List Int)∧True) (0,[]) λ(v0:Int×List Int)=> .br (decide (v0.1<(l.length:Int))) (let E1:=Nat.beq 1 1&&Nat.blt 0 1&&decide (0≤v0.1∧v0.1<(l.length:Int)); .cn E1 (let E2:=decide (4*(v0.2.length+1)≤140737488355328); .br (Int.tmod (l.getD v0.1.toNat 0) (17:Int)==(0:Int)) (.cn E1 (.cn E2 (.nx ((((Els.Nil (Els.ints i64 l)∨rE (1:Nat))∧rE (l:List Int))∧True∧rE ((wrap i64 (v0.1+1)):Int)∧True)∧rE ((v0.2++[wrap u32 (iand i64 (l.getD v0.1.toNat 0) 4294967295)]):List Int)∧True) (Sum.inl (wrap i64 (v0.1+1),v0.2++[wrap u32 (iand i64 (l.getD v0.1.toNat 0) 4294967295)]))))) (.cn E1 (.an (Q7q (l.getD v0.1.toNat 0)) (.lv (Z1n (l.getD v0.1.toNat 0)) λ(x0:Q0h)=> .lv (Q1m x0) λ(x1:Int×Bool)=> .cn E2 (.nx ((((Els.Nil (Els.ints i64 l)∨rE (1:Nat))∧rE (l:List Int))∧True∧rE ((wrap i64 (v0.1+1)):Int)∧True)∧rE ((v0.2++[x1.1]):List Int)∧True) (Sum.inl (wrap i64 (v0.1+1),v0.2++[x1.1])))))))) (.lf (Sum.inr v0.2))
def Qnn(l:(List Int)):(List Int):=(Qad l).m
abbrev Qbi(l:(List Int)):Prop:=(Qad l).p
def Ze7:LInv:={
 α:=(Int)×(List Int)
 F:=λst a=>([(0,(lk st 0)),(3, .all 0),(4, .int i64 a.1)],[⟨false,23,1, .ints u32 a.2⟩])
 a0:=λst=>((lk st 4).toInt,(Q67 st.rows (rN st 3)))
 ex0:=λst=>[]++[(Q0r (lk st 3) (st.rows.length+0))]
 next:=λst=>((lk st 4).toInt,(Q67 st.rows (rN st 3)))
 ex:=λst=>[]++[(Q0r (lk st 3) (st.rows.length+0))]}
def Z3f:List (Nat×LInv):=[(3,Ze7)]
def Zf4:Q0d:=mkP 41 [] true [.one (.ints .i64)] [] (λargs rows=>Qbi (argL .i64 args 0)) (λargs rows=>Qnn (argL .i64 args 0)) (λX=> .all 0) (λX=>[⟨false,23,1, .ints .u32 X⟩])
theorem Zan:Q05 Tryz.prog Zf4:=Q0k Q0j Q0i (.cons Qfg (.cons Qwj (.nil))) Tryz.func41 Tryz.call41 (λargs rows=>Qad (argL .i64 args 0)) [.row 23 1 (.ints .u32)] Z3f 3 (λ_ _ _=>by kernel_rfl) (λ_ _=>rfl) (λ_ _ h=>h) (λ_ X=>by kernel_rfl)
def Qjy(pc:Int):Tree Q02:=
.lf ({X:={a0:=0,a1:=0,a2:=0,a3:=0,a4:=0,a5:=0,a6:=0,a7:=0,a8:=0,a9:=0,a10:=0,a11:=0,a12:=0,a13:=0,a14:=0,a15:=0},Pc:=pc,B5:={a0:=1,a1:=0,a2:=0,a3:=0,a4:=0,a5:=0,a6:=0,a7:=0}})
def Qpe(pc:Int):Q02:=(Qjy pc).m
def Zb7:Q0d:=mkR 75 [] true [.one (.int .u32)] [] (λargs rows=>Qpe (argI args 0)) (λX=> .agg (Q02.cells X)) (λX=>[])
theorem Z7b:Q05 Tryz.prog Zb7:=Q11 Q0j Q0i (.nil) Tryz.func75 Tryz.call75 (λargs rows=>Qjy (argI args 0)) [] [] 2 (λ_ _ _=>by kernel_rfl) (λ_ _=>rfl) (λ_ _=>Tree.free_ok (by kernel_rfl)) (λ_ X=>by kernel_rfl)
def Qd9(pages:Int):Tree (List Int):=
.br (decide (pages<1)) (.lf ([])) (.br (decide (pages>32)) (.lf ([])) (.cn (Nat.blt 0 1&&Nat.beq 1 1&&List.all [D.int u32 0] D.plain&&decide (0≤wrap i64 (pages*32)∧wrap i64 (pages*32)≤wrap i64 (pages*32)∧wrap i64 (pages*32)≤9223372036854775807∧(↑4:Int)*wrap i64 (pages*32)≤140737488355328)) (.lf (List.replicate (Int.toNat (wrap i64 (pages*32))) 0))))
def Qtx(pages:Int):(List Int):=(Qd9 pages).m
abbrev Qa9(pages:Int):Prop:=(Qd9 pages).p
def Zkt:Q0d:=mkP 76 [] true [.one (.int .i64)] [] (λargs rows=>Qa9 (argI args 0)) (λargs rows=>Qtx (argI args 0)) (λX=> .all 0) (λX=>[⟨false,23,1, .ints .u32 X⟩])
theorem Zfc:Q05 Tryz.prog Zkt:=Q0k Q0j Q0i (.nil) Tryz.func76 Tryz.call76 (λargs rows=>Qd9 (argI args 0)) [.row 23 1 (.ints .u32)] [] 2 (λ_ _ _=>by kernel_rfl) (λ_ _=>rfl) (λ_ _ h=>h) (λ_ X=>by kernel_rfl)
def Q8d(pages:Int)(blocks:Int)(image:(List Int)):Tree (Q01×Bool):=
let E2:=({B4:=0,E0:=0,C7:=false,C3:=0,B7:=false,F1:=0}:Q0n);let T1:Tree ((Q01×Bool)):= .lf ({B2:={X:={a0:=0,a1:=0,a2:=0,a3:=0,a4:=0,a5:=0,a6:=0,a7:=0,a8:=0,a9:=0,a10:=0,a11:=0,a12:=0,a13:=0,a14:=0,a15:=0},Pc:=0,B5:={a0:=0,a1:=0,a2:=0,a3:=0,a4:=0,a5:=0,a6:=0,a7:=0}},Mem:=[],A3:={D1:=[]},A9:={D4:=false,C8:=0,D3:=false},B1:={Blocks:=0,C1:=0,B4:=0,C0:=0,D7:=0,B6:=0,B3:=0,C4:=[]},C2:=E2,A1:={C9:=0,C5:=0},A6:=0,A4:=false,A7:=false},false); .br (decide (pages<1)) T1 (.br (decide (pages>32)) T1 (.br (decide (blocks<0)) T1 (.br (decide (blocks>64)) T1 (.br (decide ((image.length:Int)>wrap i64 (pages*32))) T1 (.lv (Qpe 0) λ(x0:Q02)=> .an (Qa9 pages) (.lv (Qtx pages) λ(x1:List Int)=> .lf ({B2:=x0,Mem:=List.take (Min.min (image.length) (x1.length)) image++List.drop (Min.min (image.length) (x1.length)) x1,A3:={D1:=[]},A9:={D4:=false,C8:=0,D3:=false},B1:={Blocks:=wrap u32 blocks,C1:=0,B4:=0,C0:=0,D7:=0,B6:=0,B3:=0,C4:=[]},C2:=E2,A1:={C9:=0,C5:=0},A6:=0,A4:=false,A7:=false},true)))))))
def Q1v(pages:Int)(blocks:Int)(image:(List Int)):(Q01×Bool):=(Q8d pages blocks image).m
abbrev Q7i(pages:Int)(blocks:Int)(image:(List Int)):Prop:=(Q8d pages blocks image).p
def Zk7:Q0d:=mkP 38 [] true [.one (.int .i64), .one (.int .i64), .one (.ints .u32)] [] (λargs rows=>Q7i (argI args 0) (argI args 1) (argL .u32 args 2)) (λargs rows=>Q1v (argI args 0) (argI args 1) (argL .u32 args 2)) (λX=> .tup [.agg (Q01.cellsW (X.1) (.all 0)), .bool (X.2)]) (λX=>[⟨false,23,1, .ints .u32 (X.1).Mem⟩])
theorem Qzy:Q05 Tryz.prog Zk7:=Q0k Q0j Q0i (.cons Z7b (.cons Zfc (.nil))) Tryz.func38 Tryz.call38 (λargs rows=>Q8d (argI args 0) (argI args 1) (argL .u32 args 2)) [.row 23 1 (.ints .u32)] [] 2 (λ_ _ _=>by kernel_rfl) (λ_ _=>rfl) (λ_ _ h=>h) (λ_ X=>by kernel_rfl)
def Qiz(a:(List Int))(b:(List Int))(z:(Int)):Prop:=0≤z∧z≤a.length∧a.length=b.length
def Q5p(a:(List Int))(b:(List Int))(z:(Int)):Nat:=(a.length-z).toNat
def Q9g(a:(List Int))(b:(List Int)):Tree Bool:=
.br ((a.length:Int) !=(b.length:Int)) (.lf false) (.lp inferInstance (Q5p a b 0+1) ((((Els.Nil (Els.ints u32 a)∨rE (1:Nat))∧rE (a:List Int))∧((Els.Nil (Els.ints u32 b)∨rE (1:Nat))∧rE (b:List Int))∧rE (0:Int)∧True)∧True) 0 λ(v0:Int)=> .br (decide (v0<(a.length:Int))) (.cn (Nat.beq 1 1&&Nat.blt 0 1&&decide (0≤v0∧v0<(a.length:Int))) (.cn (Nat.beq 1 1&&Nat.blt 0 1&&decide (0≤v0∧v0<(b.length:Int))) (.br (a.getD v0.toNat 0 !=b.getD v0.toNat 0) (.lf (Sum.inr false)) (.nx ((((Els.Nil (Els.ints u32 a)∨rE (1:Nat))∧rE (a:List Int))∧((Els.Nil (Els.ints u32 b)∨rE (1:Nat))∧rE (b:List Int))∧rE ((wrap i64 (v0+1)):Int)∧True)∧True) (Sum.inl (wrap i64 (v0+1))))))) (.lf (Sum.inr true)))
def Qfl(a:(List Int))(b:(List Int)):Bool:=(Q9g a b).m
def Q2k(a:(List Int))(b:(List Int)):Prop:=
a.length≤1000000000000
theorem Qs5(a:(List Int))(b:(List Int))(hw:Q2k a b):(Q9g a b).p:=by
 simp only[Q2k]at hw
 unfold Tree.p Q9g
 repeat'(first|refine w_lp (inv:=Qiz a b) (μ:=Q5p a b) ?_ (Nat.lt_succ_self _) (λ_ _=> ?_)|exact trivial|refine w_br (λ_=> ?_) (λ_=> ?_)|refine w_cn ?_ ?_|refine w_an ?_ ?_|refine w_lv (λ_ _=> ?_)|refine w_nx ?_|refine w_lf ?_|refine And.intro ?_ ?_)
 all_goals((try simp only[Qiz,Q5p]at*);((subst_vars;first|trivial|assumption|omega|((simp(config:={decide:=true,failIfUnchanged:=false}) only[Bool.and_eq_true,Bool.or_eq_true,Bool.and_eq_false_iff,Bool.or_eq_false_iff,Bool.not_eq_true',Bool.not_eq_false',Bool.not_eq_true,Bool.not_eq_false,decide_eq_true_eq,decide_eq_false_iff_not,Q6q,Q4d,Q6r,Q4c,beq_iff_eq,beq_eq_false_iff_ne,bne_iff_ne,bne_eq_false_iff_eq,ne_eq,List.all_cons,List.all_nil,D.plain,List.length_cons,List.length_nil,List.length_append,List.length_set,List.length_replicate,IntKind.wrap_i64,IntKind.wrap_u64,IntKind.wrap_u32,IntKind.wrap_i32,IntKind.wrap_u8,true_and,and_true,or_false,false_or,or_true,true_or,not_true_eq_false,not_false_eq_true,Prod.fst,Prod.snd]at*);first|done|assumption|omega)|((simp(config:={decide:=true,failIfUnchanged:=false}) only[Bool.and_eq_true,Bool.or_eq_true,Bool.and_eq_false_iff,Bool.or_eq_false_iff,Bool.not_eq_true',Bool.not_eq_false',Bool.not_eq_true,Bool.not_eq_false,decide_eq_true_eq,decide_eq_false_iff_not,Q6q,Q4d,Q6r,Q4c,beq_iff_eq,beq_eq_false_iff_ne,bne_iff_ne,bne_eq_false_iff_eq,ne_eq,List.all_cons,List.all_nil,D.plain,List.length_cons,List.length_nil,List.length_append,List.length_set,List.length_replicate,IntKind.wrap_i64,IntKind.wrap_u64,IntKind.wrap_u32,IntKind.wrap_i32,IntKind.wrap_u8,true_and,and_true,or_false,false_or,or_true,true_or,not_true_eq_false,not_false_eq_true,Prod.fst,Prod.snd]at*);simp only[←List.length_pos_iff]at*;omega)|(simp_all;done)|(have:= @Qjh;simp_all;try omega))))
def Que:LInv:={
 α:=(Int)
 F:=λst a=>([(0,(lk st 0)),(1,(lk st 1)),(5, .int i64 a)],[])
 a0:=λst=>(lk st 5).toInt
 ex0:=λst=>[]++[]
 next:=λst=>(lk st 5).toInt
 ex:=λst=>[]++[]}
def Qr7:List (Nat×LInv):=[(4,Que)]
def Qyt:Q0d:=mkP 74 [] true [.one (.ints .u32), .one (.ints .u32)] [] (λargs rows=>Q2k (argL .u32 args 0) (argL .u32 args 1)) (λargs rows=>Qfl (argL .u32 args 0) (argL .u32 args 1)) (λX=> .bool X) (λX=>[])
theorem Qvz:Q05 Tryz.prog Qyt:=Q0k Q0j Q0i (.nil) Tryz.func74 Tryz.call74 (λargs rows=>Q9g (argL .u32 args 0) (argL .u32 args 1)) [] Qr7 3 (λ_ _ _=>by kernel_rfl) (λ_ _=>rfl) (λargs rows h=>Qs5 (argL .u32 args 0) (argL .u32 args 1) h) (λ_ X=>by kernel_rfl)
def Qar(a:Q01)(b:Q01):Tree Bool:=
.br (eqs [D.int u32 a.B2.X.a0,D.int u32 a.B2.X.a1,D.int u32 a.B2.X.a2,D.int u32 a.B2.X.a3,D.int u32 a.B2.X.a4,D.int u32 a.B2.X.a5,D.int u32 a.B2.X.a6,D.int u32 a.B2.X.a7,D.int u32 a.B2.X.a8,D.int u32 a.B2.X.a9,D.int u32 a.B2.X.a10,D.int u32 a.B2.X.a11,D.int u32 a.B2.X.a12,D.int u32 a.B2.X.a13,D.int u32 a.B2.X.a14,D.int u32 a.B2.X.a15,D.int u32 a.B2.Pc,D.int u32 a.B2.B5.a0,D.int u32 a.B2.B5.a1,D.int u32 a.B2.B5.a2,D.int u32 a.B2.B5.a3,D.int u32 a.B2.B5.a4,D.int u32 a.B2.B5.a5,D.int u32 a.B2.B5.a6,D.int u32 a.B2.B5.a7] [D.int u32 b.B2.X.a0,D.int u32 b.B2.X.a1,D.int u32 b.B2.X.a2,D.int u32 b.B2.X.a3,D.int u32 b.B2.X.a4,D.int u32 b.B2.X.a5,D.int u32 b.B2.X.a6,D.int u32 b.B2.X.a7,D.int u32 b.B2.X.a8,D.int u32 b.B2.X.a9,D.int u32 b.B2.X.a10,D.int u32 b.B2.X.a11,D.int u32 b.B2.X.a12,D.int u32 b.B2.X.a13,D.int u32 b.B2.X.a14,D.int u32 b.B2.X.a15,D.int u32 b.B2.Pc,D.int u32 b.B2.B5.a0,D.int u32 b.B2.B5.a1,D.int u32 b.B2.B5.a2,D.int u32 b.B2.B5.a3,D.int u32 b.B2.B5.a4,D.int u32 b.B2.B5.a5,D.int u32 b.B2.B5.a6,D.int u32 b.B2.B5.a7]) (.an (Q2k a.Mem b.Mem) (.lv (Qfl a.Mem b.Mem) λ(x0:Bool)=> .br x0 (.br (eqs [D.str a.A3.D1] [D.str b.A3.D1]) (.br (eqs [D.bool a.A9.D4,D.int u32 a.A9.C8,D.bool a.A9.D3] [D.bool b.A9.D4,D.int u32 b.A9.C8,D.bool b.A9.D3]) (.br (eqs [D.int u32 a.B1.Blocks,D.int u32 a.B1.C1,D.int u32 a.B1.B4,D.int i64 a.B1.C0,D.int i64 a.B1.D7,D.int u32 a.B1.B6,D.int u32 a.B1.B3,D.str a.B1.C4] [D.int u32 b.B1.Blocks,D.int u32 b.B1.C1,D.int u32 b.B1.B4,D.int i64 b.B1.C0,D.int i64 b.B1.D7,D.int u32 b.B1.B6,D.int u32 b.B1.B3,D.str b.B1.C4]) (.br (eqs [D.int u32 a.C2.B4,D.int u32 a.C2.E0,D.bool a.C2.C7,D.int u32 a.C2.C3,D.bool a.C2.B7,D.int u32 a.C2.F1] [D.int u32 b.C2.B4,D.int u32 b.C2.E0,D.bool b.C2.C7,D.int u32 b.C2.C3,D.bool b.C2.B7,D.int u32 b.C2.F1]) (.br (eqs [D.int u32 a.A1.C9,D.int u32 a.A1.C5] [D.int u32 b.A1.C9,D.int u32 b.A1.C5]) (.br (a.A6==b.A6) (.br (a.A4==b.A4) (.lf (a.A7==b.A7)) (.lf false)) (.lf false)) (.lf false)) (.lf false)) (.lf false)) (.lf false)) (.lf false)) (.lf false))) (.lf false)
def Zao(a:Q01)(b:Q01):Bool:=(Qar a b).m
abbrev Qdt(a:Q01)(b:Q01):Prop:=(Qar a b).p
def Zez:Q0d:=mkP 37 [] true [.agg Q01.sig, .agg Q01.sig] [] (λargs rows=>Qdt (Q01.of (args.getD 0 .dead).cells) (Q01.of (args.getD 1 .dead).cells)) (λargs rows=>Zao (Q01.of (args.getD 0 .dead).cells) (Q01.of (args.getD 1 .dead).cells)) (λX=> .bool X) (λX=>[])
theorem Zdb:Q05 Tryz.prog Zez:=Q0k Q0j Q0i (.cons Qvz (.nil)) Tryz.func37 Tryz.call37 (λargs rows=>Qar (Q01.of (args.getD 0 .dead).cells) (Q01.of (args.getD 1 .dead).cells)) [] [] 2 (λ_ _ _=>by kernel_rfl) (λ_ _=>rfl) (λ_ _ h=>h) (λ_ X=>by kernel_rfl)
def Q2g(m:Q01):Tree Bool:=
.an (Q79 m) (.lv (Q36 m) λ(x0:Bool)=> .br (!x0) (.lf false) (.an (Q6d m) (.lv (Q0y m) λ(x1:Q01)=> .an (Qdb x1.B2 x1.Mem) (.lv (Q9a x1.B2 x1.Mem) λ(x2:Q02×List Int×Q14)=> .br (x2.2.2.B8==1) (.lf (x2.2.2.D0==2)) (.lf false)))))
def Q7h(m:Q01):Bool:=(Q2g m).m
abbrev Q2j(m:Q01):Prop:=(Q2g m).p
def Qpm:Q0d:=mkP 57 [] true [.agg Q01.sig] [] (λargs rows=>Q2j (Q01.of (args.getD 0 .dead).cells)) (λargs rows=>Q7h (Q01.of (args.getD 0 .dead).cells)) (λX=> .bool X) (λX=>[])
theorem Qno:Q05 Tryz.prog Qpm:=Q0k Q0j Q0i (.cons Qo (.cons Qmz (.cons Z14 (.nil)))) Tryz.func57 Tryz.call57 (λargs rows=>Q2g (Q01.of (args.getD 0 .dead).cells)) [] [] 2 (λ_ _ _=>by kernel_rfl) (λ_ _=>rfl) (λ_ _ h=>h) (λ_ X=>by kernel_rfl)
end
end Go.Proofs.YtpcbkbalabgnlaaGreat

/-
  Functions of the program: models, and that its calls come to them (by a program: gen3.py).
-/
import Derived.Test.YtpcbkbalabgnlaaGreatRecordPiecesBase
import Derived.Test.YtpcbkbalabgnlaaGreatRecordPiecesYd
import Derived.Test.YtpcbkbalabgnlaaGreatRecordPiecesYb
set_option linter.unusedVariables false
set_option linter.unusedSimpArgs false
namespace Go.Proofs.YtpcbkbalabgnlaaGreat
open Go Go.GD Go.IntKind
set_option maxRecDepth 100000
noncomputable section
def Qzg(op:Int):Tree Int:=
let T1:Tree (Int):= .br (op==49) (.lf 3) (let T2:Tree (Int):= .br (op==24) (.lf 6) (.br (op==48) (.lf 7) (.br (op==58) (.lf 8) (.br (op==59) (.lf 8) (.br (op==60) (.lf 9) (.br (op==61) (.lf 9) (.br (op==56) (.lf 1) (.br (op==57) (.lf 1) (.br (decide (op≥62)) (.br (decide (op≤64)) (.lf 1) (.lf 0)) (.lf 0))))))))); .br (decide (op≥17)) (.br (decide (op≤19)) (.lf 4) (.br (decide (op≥20)) (.br (decide (op≤22)) (.lf 5) T2) T2)) (.br (decide (op≥20)) (.br (decide (op≤22)) (.lf 5) T2) T2));let T3:Tree (Int):= .br (op==16) (.lf 3) (.br (op==23) (.lf 3) (.br (decide (op≥32)) (.br (decide (op≤36)) (.lf 3) (.br (decide (op≥40)) (.br (decide (op≤45)) (.lf 3) T1) T1)) (.br (decide (op≥40)) (.br (decide (op≤45)) (.lf 3) T1) T1))); .br (decide (op≥1)) (.br (decide (op≤13)) (.lf 2) T3) T3
def Q2j(op:Int):Int:=(Qzg op).m
def Zfd:Q0c:=mkR 113 [] true [.one (.int .i64)] [] (λargs rows=>Q2j (argI args 0)) (λX=> .int .i64 X) (λX=>[])
theorem Qfs:Q05 Tryz.prog Zfd:=Q0x Q0i Q0j (.nil) Tryz.func113 Tryz.call113 (λargs rows=>Qzg (argI args 0)) [] [] 2 (λ_ _ _=>by kernel_rfl) (λ_ _=>rfl) (λ_ _=>Tree.free_ok (by kernel_rfl)) (λ_ X=>by kernel_rfl)
def Qdv(r:Int):Tree Bool:=
.br (decide (r≥0)) (.lf (decide (r≤15))) (.lf false)
def Q8o(r:Int):Bool:=(Qdv r).m
def Z1x:Q0c:=mkR 118 [] true [.one (.int .i64)] [] (λargs rows=>Q8o (argI args 0)) (λX=> .bool X) (λX=>[])
theorem Qx8:Q05 Tryz.prog Z1x:=Q0x Q0i Q0j (.nil) Tryz.func118 Tryz.call118 (λargs rows=>Qdv (argI args 0)) [] [] 2 (λ_ _ _=>by kernel_rfl) (λ_ _=>rfl) (λ_ _=>Tree.free_ok (by kernel_rfl)) (λ_ X=>by kernel_rfl)
def Ql7(f:Int):Tree (Int×Int):=
.br (f==3) (.lf ((-32768),32767)) (.br (f==7) (.lf ((-32768),32767)) (.br (f==4) (.lf (0,65535)) (.br (f==6) (.lf (0,65535)) (.br (f==5) (.lf (0,31)) (.br (f==8) (.lf (0,7)) (.br (f==9) (.lf (0,11)) (.lf (0,0))))))))
def Ql1(f:Int):(Int×Int):=(Ql7 f).m
def Z96:Q0c:=mkR 114 [] true [.one (.int .i64)] [] (λargs rows=>Ql1 (argI args 0)) (λX=> .tup [.int .i64 (X.1), .int .i64 (X.2)]) (λX=>[])
theorem Qpd:Q05 Tryz.prog Z96:=Q0x Q0i Q0j (.nil) Tryz.func114 Tryz.call114 (λargs rows=>Ql7 (argI args 0)) [] [] 2 (λ_ _ _=>by kernel_rfl) (λ_ _=>rfl) (λ_ _=>Tree.free_ok (by kernel_rfl)) (λ_ X=>by kernel_rfl)
def Qfm(i:Q0h):Tree Bool:=
.lv (Q2j i.Op) λ(x0:Int)=> .br (x0==0) (.lf false) (.lv (Q8o i.A) λ(x1:Bool)=> .br (!x1) (.lf false) (.lv (Q8o i.B) λ(x2:Bool)=> .br (!x2) (.lf false) (.lv (Q8o i.C) λ(x3:Bool)=> .br (!x3) (.lf false) (.lv (Ql1 x0) λ(x4:Int×Int)=> .br (decide (wrap i64 i.Imm<x4.1)) (.lf false) (.br (decide (wrap i64 i.Imm>x4.2)) (.lf false) (let T1:Tree (Bool):= .br (x0==1) (.br (i.A !=0) (.lf false) (.br (i.B==0) (.lf true) (.br (decide (x0≥2)) (.lf (decide (x0≤5))) (.lf false)))) (.br (i.B==0) (.lf true) (.br (decide (x0≥2)) (.lf (decide (x0≤5))) (.lf false))); .br (x0 !=2) (.br (i.C !=0) (.lf false) T1) T1))))))
def Q80(i:Q0h):Bool:=(Qfm i).m
def Zdb:Q0c:=mkR 84 [] true [.agg Q0h.sig] [] (λargs rows=>Q80 (Q0h.of (args.getD 0 .dead).cells)) (λX=> .bool X) (λX=>[])
theorem Qra:Q05 Tryz.prog Zdb:=Q0x Q0i Q0j (.cons Qfs (.cons Qx8 (.cons Qpd (.nil)))) Tryz.func84 Tryz.call84 (λargs rows=>Qfm (Q0h.of (args.getD 0 .dead).cells)) [] [] 2 (λ_ _ _=>by kernel_rfl) (λ_ _=>rfl) (λ_ _=>Tree.free_ok (by kernel_rfl)) (λ_ X=>by kernel_rfl)
def Qgu(i:Q0h):Tree (Int×Bool):=
.lv (Q80 i) λ(x0:Bool)=> .br (!x0) (.lf (0,false)) (.lf (ior u32 (ior u32 (ior u32 (ior u32 (ishl u32 (wrap u32 i.Op) 24) (ishl u32 (wrap u32 i.A) 20)) (ishl u32 (wrap u32 i.B) 16)) (iand u32 (wrap u32 i.Imm) 65535)) (wrap u32 i.C),true))
def Q1l(i:Q0h):(Int×Bool):=(Qgu i).m
def Z90:Q0c:=mkR 44 [] true [.agg Q0h.sig] [] (λargs rows=>Q1l (Q0h.of (args.getD 0 .dead).cells)) (λX=> .tup [.int .u32 (X.1), .bool (X.2)]) (λX=>[])
theorem Qjm:Q05 Tryz.prog Z90:=Q0x Q0i Q0j (.cons Qra (.nil)) Tryz.func44 Tryz.call44 (λargs rows=>Qgu (Q0h.of (args.getD 0 .dead).cells)) [] [] 2 (λ_ _ _=>by kernel_rfl) (λ_ _=>rfl) (λ_ _=>Tree.free_ok (by kernel_rfl)) (λ_ X=>by kernel_rfl)
def Z67:Tree (List Int):=
.lf ([1,2,3,4,5,6,7,8,9,10,11,12,13,16,16,17,18,19,20,21,22,23,24,24,32,32,33,34,35,35,36,40,41,42,43,44,45,48,49,56,57,58,59,60,60,61,61,62,63,64])
def Z7y:(List Int):=(Z67).m
def Zli:Q0c:=mkR 85 [] true [] [] (λargs rows=>Z7y) (λX=> .sl 1 (.ints .i64 X) true) (λX=>[])
theorem Zfa:Q05 Tryz.prog Zli:=Q0x Q0i Q0j (.nil) Tryz.func85 Tryz.call85 (λargs rows=>Z67) [.sl (.ints .i64) true] [] 2 (λ_ _ _=>by kernel_rfl) (λ_ _=>rfl) (λ_ _=>Tree.free_ok (by kernel_rfl)) (λ_ X=>by kernel_rfl)
def Z03(seed:Int):Tree (Int×Int):=
let E1:=wrap u64 (ixor u64 (wrap u64 (seed+11400714819323198485)) (ishr u64 (wrap u64 (seed+11400714819323198485)) 30)*13787848793156543929);let E2:=wrap u64 (ixor u64 E1 (ishr u64 E1 27)*10723151780598845931); .lf (ixor u64 E2 (ishr u64 E2 31),wrap u64 (seed+11400714819323198485))
def Zbx(seed:Int):(Int×Int):=(Z03 seed).m
def Zh7:Q0c:=mkR 86 [] true [.one (.int .u64)] [] (λargs rows=>Zbx (argI args 0)) (λX=> .tup [.int .u64 (X.1), .int .u64 (X.2)]) (λX=>[])
theorem Zcr:Q05 Tryz.prog Zh7:=Q0x Q0i Q0j (.nil) Tryz.func86 Tryz.call86 (λargs rows=>Z03 (argI args 0)) [] [] 2 (λ_ _ _=>by kernel_rfl) (λ_ _=>rfl) (λ_ _=>Tree.free_ok (by kernel_rfl)) (λ_ X=>by kernel_rfl)
def Z4x(n:Int)(k:Int):Tree Int:=
.lv (Zbx (ixor u64 (wrap u64 n) (wrap u64 (wrap u64 k*11400714819323198485)))) λ(x0:Int×Int)=> .lf (wrap i64 (ishr u64 x0.1 1))
def Qbw(n:Int)(k:Int):Int:=(Z4x n k).m
def Zlh:Q0c:=mkR 47 [] true [.one (.int .i64), .one (.int .i64)] [] (λargs rows=>Qbw (argI args 0) (argI args 1)) (λX=> .int .i64 X) (λX=>[])
theorem Qlv:Q05 Tryz.prog Zlh:=Q0x Q0i Q0j (.cons Zcr (.nil)) Tryz.func47 Tryz.call47 (λargs rows=>Z4x (argI args 0) (argI args 1)) [] [] 2 (λ_ _ _=>by kernel_rfl) (λ_ _=>rfl) (λ_ _=>Tree.free_ok (by kernel_rfl)) (λ_ X=>by kernel_rfl)
def Qcl(n:Int)(k:Int):Tree Int:=
.cn (decide (k≠0)) (.br (decide (Int.tmod n k<0)) (.lf (wrap i64 (Int.tmod n k+k))) (.lf (Int.tmod n k)))
def Q5w(n:Int)(k:Int):Int:=(Qcl n k).m
abbrev Q2k(n:Int)(k:Int):Prop:=(Qcl n k).p
def Za6:Q0c:=mkP 39 [] true [.one (.int .i64), .one (.int .i64)] [] (λargs rows=>Q2k (argI args 0) (argI args 1)) (λargs rows=>Q5w (argI args 0) (argI args 1)) (λX=> .int .i64 X) (λX=>[])
theorem Qly:Q05 Tryz.prog Za6:=Q0k Q0i Q0j (.nil) Tryz.func39 Tryz.call39 (λargs rows=>Qcl (argI args 0) (argI args 1)) [] [] 2 (λ_ _ _=>by kernel_rfl) (λ_ _=>rfl) (λ_ _ h=>h) (λ_ X=>by kernel_rfl)
def Qc5(n:Int):Tree Q0h:=
.lv Z7y λ(x0:List Int)=> .lv (Qbw n 1) λ(x1:Int)=> .an (Q2k x1 (x0.length:Int)) (.lv (Q5w x1 (x0.length:Int)) λ(x2:Int)=> .cn (Nat.beq 1 1&&Nat.blt 0 1&&decide (0≤x2∧x2<(x0.length:Int))) (.an (Q2k (ishr i64 x1 8) 6) (.lv (Q5w (ishr i64 x1 8) 6) λ(x3:Int)=> .an (Q2k (ishr i64 x1 12) 6) (.lv (Q5w (ishr i64 x1 12) 6) λ(x4:Int)=> .an (Q2k (ishr i64 x1 16) 6) (.lv (Q5w (ishr i64 x1 16) 6) λ(x5:Int)=> .an (Q2k (ishr i64 x1 20) 24) (.lv (Q5w (ishr i64 x1 20) 24) λ(x6:Int)=> .br (decide (x0.getD x2.toNat (0:Int)≤(13:Int))) (.lf ({Op:=x0.getD x2.toNat 0,A:=x3,B:=x4,C:=x5,Imm:=0})) (let E4:=({Op:=x0.getD x2.toNat 0,A:=x3,B:=x4,C:=0,Imm:=wrap i32 (wrap i64 (wrap i64 (8*x6)-32))}:Q0h);let T1:Tree (Q0h):= .br (x0.getD x2.toNat (0:Int)==(49:Int)) (.lf (E4)) (.br (x0.getD x2.toNat (0:Int)==(24:Int)) (.lf ({Op:=x0.getD x2.toNat 0,A:=x3,B:=0,C:=0,Imm:=wrap i32 (wrap i64 (x6*iand i64 (ishr i64 x1 40) 1))})) (let T2:Tree (Q0h):=let E6:=({Op:=x0.getD x2.toNat 0,A:=x3,B:=0,C:=0,Imm:=wrap i32 (Int.tmod x6 8)}:Q0h); .br (x0.getD x2.toNat (0:Int)==(58:Int)) (.lf (E6)) (.br (x0.getD x2.toNat (0:Int)==(59:Int)) (.lf (E6)) (let E5:=({Op:=x0.getD x2.toNat 0,A:=x3,B:=0,C:=0,Imm:=wrap i32 (Int.tmod x6 12)}:Q0h); .br (x0.getD x2.toNat (0:Int)==(60:Int)) (.lf (E5)) (.br (x0.getD x2.toNat (0:Int)==(61:Int)) (.lf (E5)) (.lf ({Op:=x0.getD x2.toNat 0,A:=0,B:=0,C:=0,Imm:=0}))))); .br (decide (x0.getD x2.toNat (0:Int)≥(17:Int))) (.br (decide (x0.getD x2.toNat (0:Int)≤(22:Int))) (.lf ({Op:=x0.getD x2.toNat 0,A:=x3,B:=x4,C:=0,Imm:=wrap i32 x6})) T2) T2));let T3:Tree (Q0h):= .br (x0.getD x2.toNat (0:Int)==(16:Int)) (.lf (E4)) (.br (x0.getD x2.toNat (0:Int)==(23:Int)) (.lf (E4)) (.br (decide (x0.getD x2.toNat (0:Int)≥(32:Int))) (.br (decide (x0.getD x2.toNat (0:Int)≤(36:Int))) (.lf (E4)) T1) T1)); .br (decide (x0.getD x2.toNat (0:Int)≥(40:Int))) (.br (decide (x0.getD x2.toNat (0:Int)≤(48:Int))) (.br (x0.getD x2.toNat (0:Int)==(48:Int)) (.lf ({Op:=x0.getD x2.toNat 0,A:=x3,B:=0,C:=0,Imm:=wrap i32 (wrap i64 (x6-12))})) (.lf ({Op:=x0.getD x2.toNat 0,A:=x3,B:=x4,C:=0,Imm:=wrap i32 (wrap i64 (x6-12))}))) T3) T3)))))))
def Zdy(n:Int):Q0h:=(Qc5 n).m
abbrev Q8t(n:Int):Prop:=(Qc5 n).p
def Zfb:Q0c:=mkP 45 [] true [.one (.int .i64)] [] (λargs rows=>Q8t (argI args 0)) (λargs rows=>Zdy (argI args 0)) (λX=> .agg (Q0h.cells X)) (λX=>[])
theorem Zcm:Q05 Tryz.prog Zfb:=Q0k Q0i Q0j (.cons Zfa (.cons Qlv (.cons Qly (.nil)))) Tryz.func45 Tryz.call45 (λargs rows=>Qc5 (argI args 0)) [] [] 2 (λ_ _ _=>by kernel_rfl) (λ_ _=>rfl) (λ_ _ h=>h) (λ_ X=>by kernel_rfl)
def Qpv(l:(List Int))(z:(Int)×(List Int)):Prop:=0≤z.1∧z.1≤l.length∧(z.2.length:Int)=z.1
def Qdk(l:(List Int))(z:(Int)×(List Int)):Nat:=(l.length-z.1).toNat
def Qaa(l:(List Int)):Tree (List Int):=
.lp inferInstance (Qdk l (0,[])+1) ((((Els.Nil (Els.ints i64 l)∨rE (1:Nat))∧rE (l:List Int))∧True∧rE (0:Int)∧True)∧rE ([]:List Int)∧True) (0,[]) λ(v0:Int×List Int)=> .br (decide (v0.1<(l.length:Int))) (let E1:=Nat.beq 1 1&&Nat.blt 0 1&&decide (0≤v0.1∧v0.1<(l.length:Int)); .cn E1 (let E2:=decide (4*(v0.2.length+1)≤140737488355328); .br (Int.tmod (l.getD v0.1.toNat 0) (17:Int)==(0:Int)) (.cn E1 (.cn E2 (.nx ((((Els.Nil (Els.ints i64 l)∨rE (1:Nat))∧rE (l:List Int))∧True∧rE ((wrap i64 (v0.1+1)):Int)∧True)∧rE ((v0.2++[wrap u32 (iand i64 (l.getD v0.1.toNat 0) 4294967295)]):List Int)∧True) (Sum.inl (wrap i64 (v0.1+1),v0.2++[wrap u32 (iand i64 (l.getD v0.1.toNat 0) 4294967295)]))))) (.cn E1 (.an (Q8t (l.getD v0.1.toNat 0)) (.lv (Zdy (l.getD v0.1.toNat 0)) λ(x0:Q0h)=> .lv (Q1l x0) λ(x1:Int×Bool)=> .cn E2 (.nx ((((Els.Nil (Els.ints i64 l)∨rE (1:Nat))∧rE (l:List Int))∧True∧rE ((wrap i64 (v0.1+1)):Int)∧True)∧rE ((v0.2++[x1.1]):List Int)∧True) (Sum.inl (wrap i64 (v0.1+1),v0.2++[x1.1])))))))) (.lf (Sum.inr v0.2))
def Qny(l:(List Int)):(List Int):=(Qaa l).m
abbrev Qax(l:(List Int)):Prop:=(Qaa l).p
def Z9t:LInv:={
 α:=(Int)×(List Int)
 F:=λst a=>([(0,(lk st 0)),(3, .all 0),(4, .int i64 a.1)],[⟨false,23,1, .ints u32 a.2⟩])
 a0:=λst=>((lk st 4).toInt,(Q5m st.rows (rN st 3)))
 ex0:=λst=>[]++[(Q0o (lk st 3) (st.rows.length+0))]
 next:=λst=>((lk st 4).toInt,(Q5m st.rows (rN st 3)))
 ex:=λst=>[]++[(Q0o (lk st 3) (st.rows.length+0))]}
def Z2c:List (Nat×LInv):=[(3,Z9t)]
def Zer:Q0c:=mkP 41 [] true [.one (.ints .i64)] [] (λargs rows=>Qax (argL .i64 args 0)) (λargs rows=>Qny (argL .i64 args 0)) (λX=> .all 0) (λX=>[⟨false,23,1, .ints .u32 X⟩])
theorem Zc8:Q05 Tryz.prog Zer:=Q0k Q0i Q0j (.cons Qjm (.cons Zcm (.nil))) Tryz.func41 Tryz.call41 (λargs rows=>Qaa (argL .i64 args 0)) [.row 23 1 (.ints .u32)] Z2c 3 (λ_ _ _=>by kernel_rfl) (λ_ _=>rfl) (λ_ _ h=>h) (λ_ X=>by kernel_rfl)
def Qj7(pc:Int):Tree Q02:=
.lf ({X:={a0:=0,a1:=0,a2:=0,a3:=0,a4:=0,a5:=0,a6:=0,a7:=0,a8:=0,a9:=0,a10:=0,a11:=0,a12:=0,a13:=0,a14:=0,a15:=0},Pc:=pc,B5:={a0:=1,a1:=0,a2:=0,a3:=0,a4:=0,a5:=0,a6:=0,a7:=0}})
def Qos(pc:Int):Q02:=(Qj7 pc).m
def Zcn:Q0c:=mkR 75 [] true [.one (.int .u32)] [] (λargs rows=>Qos (argI args 0)) (λX=> .agg (Q02.cells X)) (λX=>[])
theorem Z8g:Q05 Tryz.prog Zcn:=Q0x Q0i Q0j (.nil) Tryz.func75 Tryz.call75 (λargs rows=>Qj7 (argI args 0)) [] [] 2 (λ_ _ _=>by kernel_rfl) (λ_ _=>rfl) (λ_ _=>Tree.free_ok (by kernel_rfl)) (λ_ X=>by kernel_rfl)
def Qcn(pages:Int):Tree (List Int):=
.br (decide (pages<1)) (.lf ([])) (.br (decide (pages>32)) (.lf ([])) (.cn (Nat.blt 0 1&&Nat.beq 1 1&&List.all [D.int u32 0] D.plain&&decide (0≤wrap i64 (pages*32)∧wrap i64 (pages*32)≤wrap i64 (pages*32)∧wrap i64 (pages*32)≤9223372036854775807∧(↑4:Int)*wrap i64 (pages*32)≤140737488355328)) (.lf (List.replicate (Int.toNat (wrap i64 (pages*32))) 0))))
def Qrr(pages:Int):(List Int):=(Qcn pages).m
abbrev Q9p(pages:Int):Prop:=(Qcn pages).p
def Zku:Q0c:=mkP 76 [] true [.one (.int .i64)] [] (λargs rows=>Q9p (argI args 0)) (λargs rows=>Qrr (argI args 0)) (λX=> .all 0) (λX=>[⟨false,23,1, .ints .u32 X⟩])
theorem Zf8:Q05 Tryz.prog Zku:=Q0k Q0i Q0j (.nil) Tryz.func76 Tryz.call76 (λargs rows=>Qcn (argI args 0)) [.row 23 1 (.ints .u32)] [] 2 (λ_ _ _=>by kernel_rfl) (λ_ _=>rfl) (λ_ _ h=>h) (λ_ X=>by kernel_rfl)
def Q88(pages:Int)(blocks:Int)(image:(List Int)):Tree (Q00×Bool):=
let E2:=({B4:=0,E0:=0,C6:=false,C0:=0,B8:=false,F1:=0}:Q0n);let T1:Tree ((Q00×Bool)):= .lf ({B2:={X:={a0:=0,a1:=0,a2:=0,a3:=0,a4:=0,a5:=0,a6:=0,a7:=0,a8:=0,a9:=0,a10:=0,a11:=0,a12:=0,a13:=0,a14:=0,a15:=0},Pc:=0,B5:={a0:=0,a1:=0,a2:=0,a3:=0,a4:=0,a5:=0,a6:=0,a7:=0}},Mem:=[],A3:={D1:=[]},B0:={D3:=false,C8:=0,D5:=false},B1:={Blocks:=0,B9:=0,B4:=0,C1:=0,D7:=0,B6:=0,B3:=0,C4:=[]},C5:=E2,A1:={C9:=0,C2:=0},A4:=0,A6:=false,A7:=false},false); .br (decide (pages<1)) T1 (.br (decide (pages>32)) T1 (.br (decide (blocks<0)) T1 (.br (decide (blocks>64)) T1 (.br (decide ((image.length:Int)>wrap i64 (pages*32))) T1 (.lv (Qos 0) λ(x0:Q02)=> .an (Q9p pages) (.lv (Qrr pages) λ(x1:List Int)=> .lf ({B2:=x0,Mem:=List.take (Min.min (image.length) (x1.length)) image++List.drop (Min.min (image.length) (x1.length)) x1,A3:={D1:=[]},B0:={D3:=false,C8:=0,D5:=false},B1:={Blocks:=wrap u32 blocks,B9:=0,B4:=0,C1:=0,D7:=0,B6:=0,B3:=0,C4:=[]},C5:=E2,A1:={C9:=0,C2:=0},A4:=0,A6:=false,A7:=false},true)))))))
def Q1q(pages:Int)(blocks:Int)(image:(List Int)):(Q00×Bool):=(Q88 pages blocks image).m
abbrev Q70(pages:Int)(blocks:Int)(image:(List Int)):Prop:=(Q88 pages blocks image).p
def Zjj:Q0c:=mkP 38 [] true [.one (.int .i64), .one (.int .i64), .one (.ints .u32)] [] (λargs rows=>Q70 (argI args 0) (argI args 1) (argL .u32 args 2)) (λargs rows=>Q1q (argI args 0) (argI args 1) (argL .u32 args 2)) (λX=> .tup [.agg (Q00.cellsW (X.1) (.all 0)), .bool (X.2)]) (λX=>[⟨false,23,1, .ints .u32 (X.1).Mem⟩])
theorem Qyp:Q05 Tryz.prog Zjj:=Q0k Q0i Q0j (.cons Z8g (.cons Zf8 (.nil))) Tryz.func38 Tryz.call38 (λargs rows=>Q88 (argI args 0) (argI args 1) (argL .u32 args 2)) [.row 23 1 (.ints .u32)] [] 2 (λ_ _ _=>by kernel_rfl) (λ_ _=>rfl) (λ_ _ h=>h) (λ_ X=>by kernel_rfl)
def Qhn(a:(List Int))(b:(List Int))(z:(Int)):Prop:=0≤z∧z≤a.length∧a.length=b.length
def Q57(a:(List Int))(b:(List Int))(z:(Int)):Nat:=(a.length-z).toNat
def Q8z(a:(List Int))(b:(List Int)):Tree Bool:=
.br ((a.length:Int) !=(b.length:Int)) (.lf false) (.lp inferInstance (Q57 a b 0+1) ((((Els.Nil (Els.ints u32 a)∨rE (1:Nat))∧rE (a:List Int))∧((Els.Nil (Els.ints u32 b)∨rE (1:Nat))∧rE (b:List Int))∧rE (0:Int)∧True)∧True) 0 λ(v0:Int)=> .br (decide (v0<(a.length:Int))) (.cn (Nat.beq 1 1&&Nat.blt 0 1&&decide (0≤v0∧v0<(a.length:Int))) (.cn (Nat.beq 1 1&&Nat.blt 0 1&&decide (0≤v0∧v0<(b.length:Int))) (.br (a.getD v0.toNat 0 !=b.getD v0.toNat 0) (.lf (Sum.inr false)) (.nx ((((Els.Nil (Els.ints u32 a)∨rE (1:Nat))∧rE (a:List Int))∧((Els.Nil (Els.ints u32 b)∨rE (1:Nat))∧rE (b:List Int))∧rE ((wrap i64 (v0+1)):Int)∧True)∧True) (Sum.inl (wrap i64 (v0+1))))))) (.lf (Sum.inr true)))
def Qf(a:(List Int))(b:(List Int)):Bool:=(Q8z a b).m
def Q2a(a:(List Int))(b:(List Int)):Prop:=
a.length≤1000000000000
theorem Qrs(a:(List Int))(b:(List Int))(hw:Q2a a b):(Q8z a b).p:=by
 simp only[Q2a]at hw
 unfold Tree.p Q8z
 repeat'(first|refine w_lp (inv:=Qhn a b) (μ:=Q57 a b) ?_ (Nat.lt_succ_self _) (λ_ _=> ?_)|exact trivial|refine w_br (λ_=> ?_) (λ_=> ?_)|refine w_cn ?_ ?_|refine w_an ?_ ?_|refine w_lv (λ_ _=> ?_)|refine w_nx ?_|refine w_lf ?_|refine And.intro ?_ ?_)
 all_goals((try simp only[Qhn,Q57]at*);((subst_vars;first|trivial|assumption|omega|((simp(config:={decide:=true,failIfUnchanged:=false}) only[Bool.and_eq_true,Bool.or_eq_true,Bool.and_eq_false_iff,Bool.or_eq_false_iff,Bool.not_eq_true',Bool.not_eq_false',Bool.not_eq_true,Bool.not_eq_false,decide_eq_true_eq,decide_eq_false_iff_not,Q6b,Q4,Q67,Q40,beq_iff_eq,beq_eq_false_iff_ne,bne_iff_ne,bne_eq_false_iff_eq,ne_eq,List.all_cons,List.all_nil,D.plain,List.length_cons,List.length_nil,List.length_append,List.length_set,List.length_replicate,IntKind.wrap_i64,IntKind.wrap_u64,IntKind.wrap_u32,IntKind.wrap_i32,IntKind.wrap_u8,true_and,and_true,or_false,false_or,or_true,true_or,not_true_eq_false,not_false_eq_true,Prod.fst,Prod.snd]at*);first|done|assumption|omega)|((simp(config:={decide:=true,failIfUnchanged:=false}) only[Bool.and_eq_true,Bool.or_eq_true,Bool.and_eq_false_iff,Bool.or_eq_false_iff,Bool.not_eq_true',Bool.not_eq_false',Bool.not_eq_true,Bool.not_eq_false,decide_eq_true_eq,decide_eq_false_iff_not,Q6b,Q4,Q67,Q40,beq_iff_eq,beq_eq_false_iff_ne,bne_iff_ne,bne_eq_false_iff_eq,ne_eq,List.all_cons,List.all_nil,D.plain,List.length_cons,List.length_nil,List.length_append,List.length_set,List.length_replicate,IntKind.wrap_i64,IntKind.wrap_u64,IntKind.wrap_u32,IntKind.wrap_i32,IntKind.wrap_u8,true_and,and_true,or_false,false_or,or_true,true_or,not_true_eq_false,not_false_eq_true,Prod.fst,Prod.snd]at*);simp only[←List.length_pos_iff]at*;omega)|(simp_all;done)|(have:= @Qhy;simp_all;try omega))))
def Quj:LInv:={
 α:=(Int)
 F:=λst a=>([(0,(lk st 0)),(1,(lk st 1)),(5, .int i64 a)],[])
 a0:=λst=>(lk st 5).toInt
 ex0:=λst=>[]++[]
 next:=λst=>(lk st 5).toInt
 ex:=λst=>[]++[]}
def Qqf:List (Nat×LInv):=[(4,Quj)]
def Qy:Q0c:=mkP 74 [] true [.one (.ints .u32), .one (.ints .u32)] [] (λargs rows=>Q2a (argL .u32 args 0) (argL .u32 args 1)) (λargs rows=>Qf (argL .u32 args 0) (argL .u32 args 1)) (λX=> .bool X) (λX=>[])
theorem Qti:Q05 Tryz.prog Qy:=Q0k Q0i Q0j (.nil) Tryz.func74 Tryz.call74 (λargs rows=>Q8z (argL .u32 args 0) (argL .u32 args 1)) [] Qqf 3 (λ_ _ _=>by kernel_rfl) (λ_ _=>rfl) (λargs rows h=>Qrs (argL .u32 args 0) (argL .u32 args 1) h) (λ_ X=>by kernel_rfl)
def Q9o(a:Q00)(b:Q00):Tree Bool:=
.br (eqs [D.int u32 a.B2.X.a0,D.int u32 a.B2.X.a1,D.int u32 a.B2.X.a2,D.int u32 a.B2.X.a3,D.int u32 a.B2.X.a4,D.int u32 a.B2.X.a5,D.int u32 a.B2.X.a6,D.int u32 a.B2.X.a7,D.int u32 a.B2.X.a8,D.int u32 a.B2.X.a9,D.int u32 a.B2.X.a10,D.int u32 a.B2.X.a11,D.int u32 a.B2.X.a12,D.int u32 a.B2.X.a13,D.int u32 a.B2.X.a14,D.int u32 a.B2.X.a15,D.int u32 a.B2.Pc,D.int u32 a.B2.B5.a0,D.int u32 a.B2.B5.a1,D.int u32 a.B2.B5.a2,D.int u32 a.B2.B5.a3,D.int u32 a.B2.B5.a4,D.int u32 a.B2.B5.a5,D.int u32 a.B2.B5.a6,D.int u32 a.B2.B5.a7] [D.int u32 b.B2.X.a0,D.int u32 b.B2.X.a1,D.int u32 b.B2.X.a2,D.int u32 b.B2.X.a3,D.int u32 b.B2.X.a4,D.int u32 b.B2.X.a5,D.int u32 b.B2.X.a6,D.int u32 b.B2.X.a7,D.int u32 b.B2.X.a8,D.int u32 b.B2.X.a9,D.int u32 b.B2.X.a10,D.int u32 b.B2.X.a11,D.int u32 b.B2.X.a12,D.int u32 b.B2.X.a13,D.int u32 b.B2.X.a14,D.int u32 b.B2.X.a15,D.int u32 b.B2.Pc,D.int u32 b.B2.B5.a0,D.int u32 b.B2.B5.a1,D.int u32 b.B2.B5.a2,D.int u32 b.B2.B5.a3,D.int u32 b.B2.B5.a4,D.int u32 b.B2.B5.a5,D.int u32 b.B2.B5.a6,D.int u32 b.B2.B5.a7]) (.an (Q2a a.Mem b.Mem) (.lv (Qf a.Mem b.Mem) λ(x0:Bool)=> .br x0 (.br (eqs [D.str a.A3.D1] [D.str b.A3.D1]) (.br (eqs [D.bool a.B0.D3,D.int u32 a.B0.C8,D.bool a.B0.D5] [D.bool b.B0.D3,D.int u32 b.B0.C8,D.bool b.B0.D5]) (.br (eqs [D.int u32 a.B1.Blocks,D.int u32 a.B1.B9,D.int u32 a.B1.B4,D.int i64 a.B1.C1,D.int i64 a.B1.D7,D.int u32 a.B1.B6,D.int u32 a.B1.B3,D.str a.B1.C4] [D.int u32 b.B1.Blocks,D.int u32 b.B1.B9,D.int u32 b.B1.B4,D.int i64 b.B1.C1,D.int i64 b.B1.D7,D.int u32 b.B1.B6,D.int u32 b.B1.B3,D.str b.B1.C4]) (.br (eqs [D.int u32 a.C5.B4,D.int u32 a.C5.E0,D.bool a.C5.C6,D.int u32 a.C5.C0,D.bool a.C5.B8,D.int u32 a.C5.F1] [D.int u32 b.C5.B4,D.int u32 b.C5.E0,D.bool b.C5.C6,D.int u32 b.C5.C0,D.bool b.C5.B8,D.int u32 b.C5.F1]) (.br (eqs [D.int u32 a.A1.C9,D.int u32 a.A1.C2] [D.int u32 b.A1.C9,D.int u32 b.A1.C2]) (.br (a.A4==b.A4) (.br (a.A6==b.A6) (.lf (a.A7==b.A7)) (.lf false)) (.lf false)) (.lf false)) (.lf false)) (.lf false)) (.lf false)) (.lf false)) (.lf false))) (.lf false)
def Zam(a:Q00)(b:Q00):Bool:=(Q9o a b).m
abbrev Qdd(a:Q00)(b:Q00):Prop:=(Q9o a b).p
def Zh5:Q0c:=mkP 37 [] true [.agg Q00.sig, .agg Q00.sig] [] (λargs rows=>Qdd (Q00.of (args.getD 0 .dead).cells) (Q00.of (args.getD 1 .dead).cells)) (λargs rows=>Zam (Q00.of (args.getD 0 .dead).cells) (Q00.of (args.getD 1 .dead).cells)) (λX=> .bool X) (λX=>[])
theorem Zai:Q05 Tryz.prog Zh5:=Q0k Q0i Q0j (.cons Qti (.nil)) Tryz.func37 Tryz.call37 (λargs rows=>Q9o (Q00.of (args.getD 0 .dead).cells) (Q00.of (args.getD 1 .dead).cells)) [] [] 2 (λ_ _ _=>by kernel_rfl) (λ_ _=>rfl) (λ_ _ h=>h) (λ_ X=>by kernel_rfl)
def Q27(m:Q00):Tree Bool:=
.an (Q6p m) (.lv (Q2w m) λ(x0:Bool)=> .br (!x0) (.lf false) (.an (Q5v m) (.lv (Q0v m) λ(x1:Q00)=> .an (Qch x1.B2 x1.Mem) (.lv (Q8k x1.B2 x1.Mem) λ(x2:Q02×List Int×Q10)=> .br (x2.2.2.B7==1) (.lf (x2.2.2.D0==2)) (.lf false)))))
def Q77(m:Q00):Bool:=(Q27 m).m
abbrev Q28(m:Q00):Prop:=(Q27 m).p
def Qoz:Q0c:=mkP 57 [] true [.agg Q00.sig] [] (λargs rows=>Q28 (Q00.of (args.getD 0 .dead).cells)) (λargs rows=>Q77 (Q00.of (args.getD 0 .dead).cells)) (λX=> .bool X) (λX=>[])
theorem Qmq:Q05 Tryz.prog Qoz:=Q0k Q0i Q0j (.cons Qnl (.cons Qmd (.cons Z0m (.nil)))) Tryz.func57 Tryz.call57 (λargs rows=>Q27 (Q00.of (args.getD 0 .dead).cells)) [] [] 2 (λ_ _ _=>by kernel_rfl) (λ_ _=>rfl) (λ_ _ h=>h) (λ_ X=>by kernel_rfl)
end
end Go.Proofs.YtpcbkbalabgnlaaGreat

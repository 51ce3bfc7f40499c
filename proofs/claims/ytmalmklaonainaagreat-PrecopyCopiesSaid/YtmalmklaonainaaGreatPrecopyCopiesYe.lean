/-
  Functions of the program: models, and that its calls come to them (by a program: gen3.py).
-/
import Derived.Test.YtmalmklaonainaaGreatPrecopyCopiesBase
import Derived.Test.YtmalmklaonainaaGreatPrecopyCopiesYd
import Derived.Test.YtmalmklaonainaaGreatPrecopyCopiesYb
set_option maxRecDepth 100000
set_option linter.unusedVariables false
set_option linter.unusedSimpArgs false
namespace Go.Proofs.YtmalmklaonainaaGreat
open Go Go.GD Go.IntKind
noncomputable section
def Qxd(op:Int):Tree Int:=
let T1:Tree (Int):= .br (op==49) (.lf 3) (let T2:Tree (Int):= .br (op==24) (.lf 6) (.br (op==48) (.lf 7) (.br (op==58) (.lf 8) (.br (op==59) (.lf 8) (.br (op==60) (.lf 9) (.br (op==61) (.lf 9) (.br (op==56) (.lf 1) (.br (op==57) (.lf 1) (.br (decide (op≥62)) (.br (decide (op≤64)) (.lf 1) (.lf 0)) (.lf 0))))))))); .br (decide (op≥17)) (.br (decide (op≤19)) (.lf 4) (.br (decide (op≥20)) (.br (decide (op≤22)) (.lf 5) T2) T2)) (.br (decide (op≥20)) (.br (decide (op≤22)) (.lf 5) T2) T2));let T3:Tree (Int):= .br (op==16) (.lf 3) (.br (op==23) (.lf 3) (.br (decide (op≥32)) (.br (decide (op≤36)) (.lf 3) (.br (decide (op≥40)) (.br (decide (op≤45)) (.lf 3) T1) T1)) (.br (decide (op≥40)) (.br (decide (op≤45)) (.lf 3) T1) T1))); .br (decide (op≥1)) (.br (decide (op≤13)) (.lf 2) T3) T3
def Qg9(op:Int):Int:=(Qxd op).m
def Zbm:Q09:=mkR 191 [] true [.one (.int .i64)] [] (λargs rows=>Qg9 (argI args 0)) (λX=> .int .i64 X) (λX=>[])
theorem Qau:Q01 Tryz.prog Zbm:=Q0p drawn Q0g (.nil) Tryz.func191 Tryz.call191 (λargs rows=>Qxd (argI args 0)) [] [] 2 (λ_ _ _=>by kernel_rfl) (λ_ _=>rfl) (λ_ _=>Tree.free_ok (by kernel_rfl)) (λ_ X=>by kernel_rfl)
def Qdl(r:Int):Tree Bool:=
.br (decide (r≥0)) (.lf (decide (r≤15))) (.lf false)
def Q5u(r:Int):Bool:=(Qdl r).m
def Qvb:Q09:=mkR 225 [] true [.one (.int .i64)] [] (λargs rows=>Q5u (argI args 0)) (λX=> .bool X) (λX=>[])
theorem Qtm:Q01 Tryz.prog Qvb:=Q0p drawn Q0g (.nil) Tryz.func225 Tryz.call225 (λargs rows=>Qdl (argI args 0)) [] [] 2 (λ_ _ _=>by kernel_rfl) (λ_ _=>rfl) (λ_ _=>Tree.free_ok (by kernel_rfl)) (λ_ X=>by kernel_rfl)
def Qp0(f:Int):Tree (Int×Int):=
.br (f==3) (.lf ((-32768),32767)) (.br (f==7) (.lf ((-32768),32767)) (.br (f==4) (.lf (0,65535)) (.br (f==6) (.lf (0,65535)) (.br (f==5) (.lf (0,31)) (.br (f==8) (.lf (0,7)) (.br (f==9) (.lf (0,11)) (.lf (0,0))))))))
def Qml(f:Int):(Int×Int):=(Qp0 f).m
def Z4k:Q09:=mkR 192 [] true [.one (.int .i64)] [] (λargs rows=>Qml (argI args 0)) (λX=> .tup [.int .i64 (X.1), .int .i64 (X.2)]) (λX=>[])
theorem Qlg:Q01 Tryz.prog Z4k:=Q0p drawn Q0g (.nil) Tryz.func192 Tryz.call192 (λargs rows=>Qp0 (argI args 0)) [] [] 2 (λ_ _ _=>by kernel_rfl) (λ_ _=>rfl) (λ_ _=>Tree.free_ok (by kernel_rfl)) (λ_ X=>by kernel_rfl)
def Qes(i:Q0h):Tree Bool:=
.lv (Qg9 i.Op) λ(x0:Int)=> .br (x0==0) (.lf false) (.lv (Q5u i.A) λ(x1:Bool)=> .br (!x1) (.lf false) (.lv (Q5u i.B) λ(x2:Bool)=> .br (!x2) (.lf false) (.lv (Q5u i.C) λ(x3:Bool)=> .br (!x3) (.lf false) (.lv (Qml x0) λ(x4:Int×Int)=> .br (decide (wrap i64 i.D3<x4.1)) (.lf false) (.br (decide (wrap i64 i.D3>x4.2)) (.lf false) (let T1:Tree (Bool):= .br (x0==1) (.br (i.A !=0) (.lf false) (.br (i.B==0) (.lf true) (.br (decide (x0≥2)) (.lf (decide (x0≤5))) (.lf false)))) (.br (i.B==0) (.lf true) (.br (decide (x0≥2)) (.lf (decide (x0≤5))) (.lf false))); .br (x0 !=2) (.br (i.C !=0) (.lf false) T1) T1))))))
def Q7q(i:Q0h):Bool:=(Qes i).m
def Z7x:Q09:=mkR 167 [] true [.agg Q0h.sig] [] (λargs rows=>Q7q (Q0h.of (args.getD 0 .dead).cells)) (λX=> .bool X) (λX=>[])
theorem Qof:Q01 Tryz.prog Z7x:=Q0p drawn Q0g (.cons Qau (.cons Qtm (.cons Qlg (.nil)))) Tryz.func167 Tryz.call167 (λargs rows=>Qes (Q0h.of (args.getD 0 .dead).cells)) [] [] 2 (λ_ _ _=>by kernel_rfl) (λ_ _=>rfl) (λ_ _=>Tree.free_ok (by kernel_rfl)) (λ_ X=>by kernel_rfl)
def Qbz(i:Q0h):Tree (Int×Bool):=
.lv (Q7q i) λ(x0:Bool)=> .br (!x0) (.lf (0,false)) (.lf (ior u32 (ior u32 (ior u32 (ior u32 (ishl u32 (wrap u32 i.Op) 24) (ishl u32 (wrap u32 i.A) 20)) (ishl u32 (wrap u32 i.B) 16)) (iand u32 (wrap u32 i.D3) 65535)) (wrap u32 i.C),true))
def Q0x(i:Q0h):(Int×Bool):=(Qbz i).m
def Z3j:Q09:=mkR 82 [] true [.agg Q0h.sig] [] (λargs rows=>Q0x (Q0h.of (args.getD 0 .dead).cells)) (λX=> .tup [.int .u32 (X.1), .bool (X.2)]) (λX=>[])
theorem Qey:Q01 Tryz.prog Z3j:=Q0p drawn Q0g (.cons Qof (.nil)) Tryz.func82 Tryz.call82 (λargs rows=>Qbz (Q0h.of (args.getD 0 .dead).cells)) [] [] 2 (λ_ _ _=>by kernel_rfl) (λ_ _=>rfl) (λ_ _=>Tree.free_ok (by kernel_rfl)) (λ_ X=>by kernel_rfl)
def Z20:Tree (List Int):=
.lf ([1,2,3,4,5,6,7,8,9,10,11,12,13,16,16,17,18,19,20,21,22,23,24,24,32,32,33,34,35,35,36,40,41,42,43,44,45,48,49,56,57,58,59,60,60,61,61,62,63,64])
def Z3z:(List Int):=(Z20).m
def Zf1:Q09:=mkR 168 [] true [] [] (λargs rows=>Z3z) (λX=> .sl 1 (.ints .i64 X) true) (λX=>[])
theorem Zb8:Q01 Tryz.prog Zf1:=Q0p drawn Q0g (.nil) Tryz.func168 Tryz.call168 (λargs rows=>Z20) [.sl (.ints .i64) true] [] 2 (λ_ _ _=>by kernel_rfl) (λ_ _=>rfl) (λ_ _=>Tree.free_ok (by kernel_rfl)) (λ_ X=>by kernel_rfl)
def Qvg(seed:Int):Tree (Int×Int):=
let E1:=wrap u64 (ixor u64 (wrap u64 (seed+11400714819323198485)) (ishr u64 (wrap u64 (seed+11400714819323198485)) 30)*13787848793156543929);let E2:=wrap u64 (ixor u64 E1 (ishr u64 E1 27)*10723151780598845931); .lf (ixor u64 E2 (ishr u64 E2 31),wrap u64 (seed+11400714819323198485))
def Z6k(seed:Int):(Int×Int):=(Qvg seed).m
def Zam:Q09:=mkR 162 [] true [.one (.int .u64)] [] (λargs rows=>Z6k (argI args 0)) (λX=> .tup [.int .u64 (X.1), .int .u64 (X.2)]) (λX=>[])
theorem Z96:Q01 Tryz.prog Zam:=Q0p drawn Q0g (.nil) Tryz.func162 Tryz.call162 (λargs rows=>Qvg (argI args 0)) [] [] 2 (λ_ _ _=>by kernel_rfl) (λ_ _=>rfl) (λ_ _=>Tree.free_ok (by kernel_rfl)) (λ_ X=>by kernel_rfl)
def Z27(n:Int)(k:Int):Tree Int:=
.lv (Z6k (ixor u64 (wrap u64 n) (wrap u64 (wrap u64 k*11400714819323198485)))) λ(x0:Int×Int)=> .lf (wrap i64 (ishr u64 x0.1 1))
def Zck(n:Int)(k:Int):Int:=(Z27 n k).m
def Zfs:Q09:=mkR 77 [] true [.one (.int .i64), .one (.int .i64)] [] (λargs rows=>Zck (argI args 0) (argI args 1)) (λX=> .int .i64 X) (λX=>[])
theorem Zc4:Q01 Tryz.prog Zfs:=Q0p drawn Q0g (.cons Z96 (.nil)) Tryz.func77 Tryz.call77 (λargs rows=>Z27 (argI args 0) (argI args 1)) [] [] 2 (λ_ _ _=>by kernel_rfl) (λ_ _=>rfl) (λ_ _=>Tree.free_ok (by kernel_rfl)) (λ_ X=>by kernel_rfl)
def Qjj(n:Int)(k:Int):Tree Int:=
.cn (decide (k≠0)) (.br (decide (Int.tmod n k<0)) (.lf (wrap i64 (Int.tmod n k+k))) (.lf (Int.tmod n k)))
def Q3d(n:Int)(k:Int):Int:=(Qjj n k).m
abbrev Q28(n:Int)(k:Int):Prop:=(Qjj n k).p
def Z6y:Q09:=mkP 50 [] true [.one (.int .i64), .one (.int .i64)] [] (λargs rows=>Q28 (argI args 0) (argI args 1)) (λargs rows=>Q3d (argI args 0) (argI args 1)) (λX=> .int .i64 X) (λX=>[])
theorem Qgg:Q01 Tryz.prog Z6y:=Q0j drawn Q0g (.nil) Tryz.func50 Tryz.call50 (λargs rows=>Qjj (argI args 0) (argI args 1)) [] [] 2 (λ_ _ _=>by kernel_rfl) (λ_ _=>rfl) (λ_ _ h=>h) (λ_ X=>by kernel_rfl)
def Qgk(n:Int):Tree Q0h:=
.lv Z3z λ(x0:List Int)=> .lv (Zck n 1) λ(x1:Int)=> .an (Q28 x1 (x0.length:Int)) (.lv (Q3d x1 (x0.length:Int)) λ(x2:Int)=> .cn (Nat.beq 1 1&&Nat.blt 0 1&&decide (0≤x2∧x2<(x0.length:Int))) (.an (Q28 (ishr i64 x1 8) 6) (.lv (Q3d (ishr i64 x1 8) 6) λ(x3:Int)=> .an (Q28 (ishr i64 x1 12) 6) (.lv (Q3d (ishr i64 x1 12) 6) λ(x4:Int)=> .an (Q28 (ishr i64 x1 16) 6) (.lv (Q3d (ishr i64 x1 16) 6) λ(x5:Int)=> .an (Q28 (ishr i64 x1 20) 24) (.lv (Q3d (ishr i64 x1 20) 24) λ(x6:Int)=> .br (decide (x0.getD x2.toNat (0:Int)≤(13:Int))) (.lf ({Op:=x0.getD x2.toNat 0,A:=x3,B:=x4,C:=x5,D3:=0})) (let E4:=({Op:=x0.getD x2.toNat 0,A:=x3,B:=x4,C:=0,D3:=wrap i32 (wrap i64 (wrap i64 (8*x6)-32))}:Q0h);let T1:Tree (Q0h):= .br (x0.getD x2.toNat (0:Int)==(49:Int)) (.lf (E4)) (.br (x0.getD x2.toNat (0:Int)==(24:Int)) (.lf ({Op:=x0.getD x2.toNat 0,A:=x3,B:=0,C:=0,D3:=wrap i32 (wrap i64 (x6*iand i64 (ishr i64 x1 40) 1))})) (let T2:Tree (Q0h):=let E6:=({Op:=x0.getD x2.toNat 0,A:=x3,B:=0,C:=0,D3:=wrap i32 (Int.tmod x6 8)}:Q0h); .br (x0.getD x2.toNat (0:Int)==(58:Int)) (.lf (E6)) (.br (x0.getD x2.toNat (0:Int)==(59:Int)) (.lf (E6)) (let E5:=({Op:=x0.getD x2.toNat 0,A:=x3,B:=0,C:=0,D3:=wrap i32 (Int.tmod x6 12)}:Q0h); .br (x0.getD x2.toNat (0:Int)==(60:Int)) (.lf (E5)) (.br (x0.getD x2.toNat (0:Int)==(61:Int)) (.lf (E5)) (.lf ({Op:=x0.getD x2.toNat 0,A:=0,B:=0,C:=0,D3:=0}))))); .br (decide (x0.getD x2.toNat (0:Int)≥(17:Int))) (.br (decide (x0.getD x2.toNat (0:Int)≤(22:Int))) (.lf ({Op:=x0.getD x2.toNat 0,A:=x3,B:=x4,C:=0,D3:=wrap i32 x6})) T2) T2));let T3:Tree (Q0h):= .br (x0.getD x2.toNat (0:Int)==(16:Int)) (.lf (E4)) (.br (x0.getD x2.toNat (0:Int)==(23:Int)) (.lf (E4)) (.br (decide (x0.getD x2.toNat (0:Int)≥(32:Int))) (.br (decide (x0.getD x2.toNat (0:Int)≤(36:Int))) (.lf (E4)) T1) T1)); .br (decide (x0.getD x2.toNat (0:Int)≥(40:Int))) (.br (decide (x0.getD x2.toNat (0:Int)≤(48:Int))) (.br (x0.getD x2.toNat (0:Int)==(48:Int)) (.lf ({Op:=x0.getD x2.toNat 0,A:=x3,B:=0,C:=0,D3:=wrap i32 (wrap i64 (x6-12))})) (.lf ({Op:=x0.getD x2.toNat 0,A:=x3,B:=x4,C:=0,D3:=wrap i32 (wrap i64 (x6-12))}))) T3) T3)))))))
def Z7(n:Int):Q0h:=(Qgk n).m
abbrev Qc0(n:Int):Prop:=(Qgk n).p
def Zbz:Q09:=mkP 83 [] true [.one (.int .i64)] [] (λargs rows=>Qc0 (argI args 0)) (λargs rows=>Z7 (argI args 0)) (λX=> .agg (Q0h.cells X)) (λX=>[])
theorem Z8l:Q01 Tryz.prog Zbz:=Q0j drawn Q0g (.cons Zb8 (.cons Zc4 (.cons Qgg (.nil)))) Tryz.func83 Tryz.call83 (λargs rows=>Qgk (argI args 0)) [] [] 2 (λ_ _ _=>by kernel_rfl) (λ_ _=>rfl) (λ_ _ h=>h) (λ_ X=>by kernel_rfl)
def Qlj(l:(List Int))(z:(Int)×(List Int)):Prop:=0≤z.1∧z.1≤l.length∧(z.2.length:Int)=z.1
def Q8(l:(List Int))(z:(Int)×(List Int)):Nat:=(l.length-z.1).toNat
def Qdd(l:(List Int)):Tree (List Int):=
.lp inferInstance (Q8 l (0,[])+1) ((((Els.Nil (Els.ints i64 l)∨rE (1:Nat))∧rE (l:List Int))∧True∧rE (0:Int)∧True)∧rE ([]:List Int)∧True) (0,[]) λ(v0:Int×List Int)=> .br (decide (v0.1<(l.length:Int))) (let E1:=Nat.beq 1 1&&Nat.blt 0 1&&decide (0≤v0.1∧v0.1<(l.length:Int)); .cn E1 (let E2:=decide (4*(v0.2.length+1)≤140737488355328); .br (Int.tmod (l.getD v0.1.toNat 0) (17:Int)==(0:Int)) (.cn E1 (.cn E2 (.nx ((((Els.Nil (Els.ints i64 l)∨rE (1:Nat))∧rE (l:List Int))∧True∧rE ((wrap i64 (v0.1+1)):Int)∧True)∧rE ((v0.2++[wrap u32 (iand i64 (l.getD v0.1.toNat 0) 4294967295)]):List Int)∧True) (Sum.inl (wrap i64 (v0.1+1),v0.2++[wrap u32 (iand i64 (l.getD v0.1.toNat 0) 4294967295)]))))) (.cn E1 (.an (Qc0 (l.getD v0.1.toNat 0)) (.lv (Z7 (l.getD v0.1.toNat 0)) λ(x0:Q0h)=> .lv (Q0x x0) λ(x1:Int×Bool)=> .cn E2 (.nx ((((Els.Nil (Els.ints i64 l)∨rE (1:Nat))∧rE (l:List Int))∧True∧rE ((wrap i64 (v0.1+1)):Int)∧True)∧rE ((v0.2++[x1.1]):List Int)∧True) (Sum.inl (wrap i64 (v0.1+1),v0.2++[x1.1])))))))) (.lf (Sum.inr v0.2))
def Qvo(l:(List Int)):(List Int):=(Qdd l).m
abbrev Qgz(l:(List Int)):Prop:=(Qdd l).p
def Z5w:LInv:={
 α:=(Int)×(List Int)
 F:=λst a=>([(0,(lk st 0)),(3, .all 0),(4, .int i64 a.1)],[⟨false,25,1, .ints u32 a.2⟩])
 a0:=λst=>((lk st 4).toInt,(Q37 st.rows (rN st 3)))
 ex0:=λst=>[]++[(Q0o (lk st 3) (st.rows.length+0))]
 next:=λst=>((lk st 4).toInt,(Q37 st.rows (rN st 3)))
 ex:=λst=>[]++[(Q0o (lk st 3) (st.rows.length+0))]}
def Qz3:List (Nat×LInv):=[(3,Z5w)]
def Zby:Q09:=mkP 138 [] true [.one (.ints .i64)] [] (λargs rows=>Qgz (argL .i64 args 0)) (λargs rows=>Qvo (argL .i64 args 0)) (λX=> .all 0) (λX=>[⟨false,25,1, .ints .u32 X⟩])
theorem Z5z:Q01 Tryz.prog Zby:=Q0j drawn Q0g (.cons Qey (.cons Z8l (.nil))) Tryz.func138 Tryz.call138 (λargs rows=>Qdd (argL .i64 args 0)) [.row 25 1 (.ints .u32)] Qz3 3 (λ_ _ _=>by kernel_rfl) (λ_ _=>rfl) (λ_ _ h=>h) (λ_ X=>by kernel_rfl)
def Qeu(pc:Int):Tree Q02:=
.lf ({X:={a0:=0,a1:=0,a2:=0,a3:=0,a4:=0,a5:=0,a6:=0,a7:=0,a8:=0,a9:=0,a10:=0,a11:=0,a12:=0,a13:=0,a14:=0,a15:=0},Pc:=pc,B5:={a0:=1,a1:=0,a2:=0,a3:=0,a4:=0,a5:=0,a6:=0,a7:=0}})
def Qkr(pc:Int):Q02:=(Qeu pc).m
def Z92:Q09:=mkR 127 [] true [.one (.int .u32)] [] (λargs rows=>Qkr (argI args 0)) (λX=> .agg (Q02.cells X)) (λX=>[])
theorem Z4:Q01 Tryz.prog Z92:=Q0p drawn Q0g (.nil) Tryz.func127 Tryz.call127 (λargs rows=>Qeu (argI args 0)) [] [] 2 (λ_ _ _=>by kernel_rfl) (λ_ _=>rfl) (λ_ _=>Tree.free_ok (by kernel_rfl)) (λ_ X=>by kernel_rfl)
def Qkt(pages:Int):Tree (List Int):=
.br (decide (pages<1)) (.lf ([])) (.br (decide (pages>32)) (.lf ([])) (.cn (Nat.blt 0 1&&Nat.beq 1 1&&List.all [D.int u32 0] D.plain&&decide (0≤wrap i64 (pages*32)∧wrap i64 (pages*32)≤wrap i64 (pages*32)∧wrap i64 (pages*32)≤9223372036854775807∧(↑4:Int)*wrap i64 (pages*32)≤140737488355328)) (.lf (List.replicate (Int.toNat (wrap i64 (pages*32))) 0))))
def Qun(pages:Int):(List Int):=(Qkt pages).m
abbrev Qek(pages:Int):Prop:=(Qkt pages).p
def Zg4:Q09:=mkP 128 [] true [.one (.int .i64)] [] (λargs rows=>Qek (argI args 0)) (λargs rows=>Qun (argI args 0)) (λX=> .all 0) (λX=>[⟨false,25,1, .ints .u32 X⟩])
theorem Zb0:Q01 Tryz.prog Zg4:=Q0j drawn Q0g (.nil) Tryz.func128 Tryz.call128 (λargs rows=>Qkt (argI args 0)) [.row 25 1 (.ints .u32)] [] 2 (λ_ _ _=>by kernel_rfl) (λ_ _=>rfl) (λ_ _ h=>h) (λ_ X=>by kernel_rfl)
def Qce(pages:Int)(blocks:Int)(image:(List Int)):Tree (Q00×Bool):=
let T1:Tree ((Q00×Bool)):= .lf ({B1:={X:={a0:=0,a1:=0,a2:=0,a3:=0,a4:=0,a5:=0,a6:=0,a7:=0,a8:=0,a9:=0,a10:=0,a11:=0,a12:=0,a13:=0,a14:=0,a15:=0},Pc:=0,B5:={a0:=0,a1:=0,a2:=0,a3:=0,a4:=0,a5:=0,a6:=0,a7:=0}},Mem:=[],A1:={D0:=[]},A9:={D6:=false,C4:=0,D4:=false},B0:={Blocks:=0,B6:=0,Frame:=0,C0:=0,D7:=0,B3:=0,B4:=0,B7:=[]},C2:={Frame:=0,D9:=0,B8:=false,B9:=0,B2:=false,E0:=0},A0:={C3:=0,C5:=0},A4:=0,A2:=false,A6:=false},false); .br (decide (pages<1)) T1 (.br (decide (pages>32)) T1 (.br (decide (blocks<0)) T1 (.br (decide (blocks>64)) T1 (.br (decide ((image.length:Int)>wrap i64 (pages*32))) T1 (.lv (Qkr 0) λ(x0:Q02)=> .an (Qek pages) (.lv (Qun pages) λ(x1:List Int)=> .lf ({B1:=x0,Mem:=List.take (Min.min (image.length) (x1.length)) image++List.drop (Min.min (image.length) (x1.length)) x1,A1:={D0:=[]},A9:={D6:=false,C4:=0,D4:=false},B0:={Blocks:=wrap u32 blocks,B6:=0,Frame:=0,C0:=0,D7:=0,B3:=0,B4:=0,B7:=[]},C2:={Frame:=0,D9:=0,B8:=false,B9:=0,B2:=false,E0:=0},A0:={C3:=0,C5:=0},A4:=0,A2:=false,A6:=false},true)))))))
def Q81(pages:Int)(blocks:Int)(image:(List Int)):(Q00×Bool):=(Qce pages blocks image).m
abbrev Qad(pages:Int)(blocks:Int)(image:(List Int)):Prop:=(Qce pages blocks image).p
def Zeg:Q09:=mkP 37 [] true [.one (.int .i64), .one (.int .i64), .one (.ints .u32)] [] (λargs rows=>Qad (argI args 0) (argI args 1) (argL .u32 args 2)) (λargs rows=>Q81 (argI args 0) (argI args 1) (argL .u32 args 2)) (λX=> .tup [.agg (Q00.cellsW (X.1) (.all 0)), .bool (X.2)]) (λX=>[⟨false,25,1, .ints .u32 (X.1).Mem⟩])
theorem Za5:Q01 Tryz.prog Zeg:=Q0j drawn Q0g (.cons Z4 (.cons Zb0 (.nil))) Tryz.func37 Tryz.call37 (λargs rows=>Qce (argI args 0) (argI args 1) (argL .u32 args 2)) [.row 25 1 (.ints .u32)] [] 2 (λ_ _ _=>by kernel_rfl) (λ_ _=>rfl) (λ_ _ h=>h) (λ_ X=>by kernel_rfl)
def Qds(a:(List Int))(b:(List Int))(z:(Int)):Prop:=0≤z∧z≤a.length∧a.length=b.length
def Q2q(a:(List Int))(b:(List Int))(z:(Int)):Nat:=(a.length-z).toNat
def Q3e(a:(List Int))(b:(List Int)):Tree Bool:=
.br ((a.length:Int) !=(b.length:Int)) (.lf false) (.lp inferInstance (Q2q a b 0+1) ((((Els.Nil (Els.ints u32 a)∨rE (1:Nat))∧rE (a:List Int))∧((Els.Nil (Els.ints u32 b)∨rE (1:Nat))∧rE (b:List Int))∧rE (0:Int)∧True)∧True) 0 λ(v0:Int)=> .br (decide (v0<(a.length:Int))) (.cn (Nat.beq 1 1&&Nat.blt 0 1&&decide (0≤v0∧v0<(a.length:Int))) (.cn (Nat.beq 1 1&&Nat.blt 0 1&&decide (0≤v0∧v0<(b.length:Int))) (.br (a.getD v0.toNat 0 !=b.getD v0.toNat 0) (.lf (Sum.inr false)) (.nx ((((Els.Nil (Els.ints u32 a)∨rE (1:Nat))∧rE (a:List Int))∧((Els.Nil (Els.ints u32 b)∨rE (1:Nat))∧rE (b:List Int))∧rE ((wrap i64 (v0+1)):Int)∧True)∧True) (Sum.inl (wrap i64 (v0+1))))))) (.lf (Sum.inr true)))
def Qfa(a:(List Int))(b:(List Int)):Bool:=(Q3e a b).m
def Q52(a:(List Int))(b:(List Int)):Prop:=
a.length≤1000000000000
theorem Qpj(a:(List Int))(b:(List Int))(hw:Q52 a b):(Q3e a b).p:=by
 simp only[Q52]at hw
 unfold Tree.p Q3e
 repeat'(first|refine w_lp (inv:=Qds a b) (μ:=Q2q a b) ?_ (Nat.lt_succ_self _) (λ_ _=> ?_)|exact trivial|refine w_br (λ_=> ?_) (λ_=> ?_)|refine w_cn ?_ ?_|refine w_an ?_ ?_|refine w_lv (λ_ _=> ?_)|refine w_nx ?_|refine w_lf ?_|refine And.intro ?_ ?_)
 all_goals((try simp only[Qds,Q2q]at*);((subst_vars;first|trivial|assumption|omega|((simp(config:={decide:=true,failIfUnchanged:=false}) only[Bool.and_eq_true,Bool.or_eq_true,Bool.and_eq_false_iff,Bool.or_eq_false_iff,Bool.not_eq_true',Bool.not_eq_false',Bool.not_eq_true,Bool.not_eq_false,decide_eq_true_eq,decide_eq_false_iff_not,Q3t,Q2i,Q3y,Q2j,beq_iff_eq,beq_eq_false_iff_ne,bne_iff_ne,bne_eq_false_iff_eq,ne_eq,List.all_cons,List.all_nil,D.plain,List.length_cons,List.length_nil,List.length_append,List.length_set,List.length_replicate,IntKind.wrap_i64,IntKind.wrap_u64,IntKind.wrap_u32,IntKind.wrap_i32,IntKind.wrap_u8,true_and,and_true,or_false,false_or,or_true,true_or,not_true_eq_false,not_false_eq_true,Prod.fst,Prod.snd]at*);first|done|assumption|omega)|((simp(config:={decide:=true,failIfUnchanged:=false}) only[Bool.and_eq_true,Bool.or_eq_true,Bool.and_eq_false_iff,Bool.or_eq_false_iff,Bool.not_eq_true',Bool.not_eq_false',Bool.not_eq_true,Bool.not_eq_false,decide_eq_true_eq,decide_eq_false_iff_not,Q3t,Q2i,Q3y,Q2j,beq_iff_eq,beq_eq_false_iff_ne,bne_iff_ne,bne_eq_false_iff_eq,ne_eq,List.all_cons,List.all_nil,D.plain,List.length_cons,List.length_nil,List.length_append,List.length_set,List.length_replicate,IntKind.wrap_i64,IntKind.wrap_u64,IntKind.wrap_u32,IntKind.wrap_i32,IntKind.wrap_u8,true_and,and_true,or_false,false_or,or_true,true_or,not_true_eq_false,not_false_eq_true,Prod.fst,Prod.snd]at*);simp only[←List.length_pos_iff]at*;omega)|(simp_all;done)|(have:= @Qf2;simp_all;try omega))))
def Qpw:LInv:={
 α:=(Int)
 F:=λst a=>([(0,(lk st 0)),(1,(lk st 1)),(5, .int i64 a)],[])
 a0:=λst=>(lk st 5).toInt
 ex0:=λst=>[]++[]
 next:=λst=>(lk st 5).toInt
 ex:=λst=>[]++[]}
def Qm6:List (Nat×LInv):=[(4,Qpw)]
def Qto:Q09:=mkP 49 [] true [.one (.ints .u32), .one (.ints .u32)] [] (λargs rows=>Q52 (argL .u32 args 0) (argL .u32 args 1)) (λargs rows=>Qfa (argL .u32 args 0) (argL .u32 args 1)) (λX=> .bool X) (λX=>[])
theorem Qrc:Q01 Tryz.prog Qto:=Q0j drawn Q0g (.nil) Tryz.func49 Tryz.call49 (λargs rows=>Q3e (argL .u32 args 0) (argL .u32 args 1)) [] Qm6 3 (λ_ _ _=>by kernel_rfl) (λ_ _=>rfl) (λargs rows h=>Qpj (argL .u32 args 0) (argL .u32 args 1) h) (λ_ X=>by kernel_rfl)
end
end Go.Proofs.YtmalmklaonainaaGreat

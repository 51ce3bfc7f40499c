import Derived.Test.YtmalmklaonainaaGreatRecordCutsBase
import Derived.Test.YtmalmklaonainaaGreatRecordCutsYd
import Derived.Test.YtmalmklaonainaaGreatRecordCutsYb
set_option maxRecDepth 100000
set_option linter.all false
namespace Go.Proofs.YtmalmklaonainaaGreat
open Go Go.GD Go.IntKind
noncomputable section
def Z0h(op:Int):Tree Int:=
let T1:Tree (Int):= .br (op==49) (.lf 3) (let T2:Tree (Int):= .br (op==24) (.lf 6) (.br (op==48) (.lf 7) (.br (op==58) (.lf 8) (.br (op==59) (.lf 8) (.br (op==60) (.lf 9) (.br (op==61) (.lf 9) (.br (op==56) (.lf 1) (.br (op==57) (.lf 1) (.br (decide (op>=62)) (.br (decide (op<=64)) (.lf 1) (.lf 0)) (.lf 0))))))))); .br (decide (op>=17)) (.br (decide (op<=19)) (.lf 4) (.br (decide (op>=20)) (.br (decide (op<=22)) (.lf 5) T2) T2)) (.br (decide (op>=20)) (.br (decide (op<=22)) (.lf 5) T2) T2));let T3:Tree (Int):= .br (op==16) (.lf 3) (.br (op==23) (.lf 3) (.br (decide (op>=32)) (.br (decide (op<=36)) (.lf 3) (.br (decide (op>=40)) (.br (decide (op<=45)) (.lf 3) T1) T1)) (.br (decide (op>=40)) (.br (decide (op<=45)) (.lf 3) T1) T1))); .br (decide (op>=1)) (.br (decide (op<=13)) (.lf 2) T3) T3
def Q26(op:Int):Int:=(Z0h op).m
def Zft:Q0c:=mkR 191 [] true [.one (.int .i64)] [] (λargs rows=>Q26 (argI args 0)) (λX=> .int .i64 X) (λX=>[])
theorem Qey:Q04 Tryz.prog Zft:=Q0v drawn Q0h (.nil) Tryz.func191 Tryz.call191 (λargs rows=>Z0h (argI args 0)) [] [] 2
def Qcv(r:Int):Tree Bool:=
.br (decide (r>=0)) (.lf (decide (r<=15))) (.lf false)
def Q7t(r:Int):Bool:=(Qcv r).m
def Z07:Q0c:=mkR 225 [] true [.one (.int .i64)] [] (λargs rows=>Q7t (argI args 0)) (λX=> .bool X) (λX=>[])
theorem Qxm:Q04 Tryz.prog Z07:=Q0v drawn Q0h (.nil) Tryz.func225 Tryz.call225 (λargs rows=>Qcv (argI args 0)) [] [] 2
def Qky(f:Int):Tree (Int×Int):=
.br (f==3) (.lf ((-32768),32767)) (.br (f==7) (.lf ((-32768),32767)) (.br (f==4) (.lf (0,65535)) (.br (f==6) (.lf (0,65535)) (.br (f==5) (.lf (0,31)) (.br (f==8) (.lf (0,7)) (.br (f==9) (.lf (0,11)) (.lf (0,0))))))))
def Qld(f:Int):(Int×Int):=(Qky f).m
def Z9d:Q0c:=mkR 192 [] true [.one (.int .i64)] [] (λargs rows=>Qld (argI args 0)) (λX=> .tup [.int .i64 (X.1), .int .i64 (X.2)]) (λX=>[])
theorem Qpn:Q04 Tryz.prog Z9d:=Q0v drawn Q0h (.nil) Tryz.func192 Tryz.call192 (λargs rows=>Qky (argI args 0)) [] [] 2
def Qet(i:Q0i):Tree Bool:=
.lv (Q26 i.Op) λ(x0:Int)=> .br (x0==0) (.lf false) (.lv (Q7t i.A) λ(x1:Bool)=> .br (!x1) (.lf false) (.lv (Q7t i.B) λ(x2:Bool)=> .br (!x2) (.lf false) (.lv (Q7t i.C) λ(x3:Bool)=> .br (!x3) (.lf false) (.lv (Qld x0) λ(x4:Int×Int)=> .br (decide (wrap i64 i.Imm<x4.1)) (.lf false) (.br (decide (wrap i64 i.Imm>x4.2)) (.lf false) (let T1:Tree (Bool):= .br (x0==1) (.br (i.A !=0) (.lf false) (.br (i.B==0) (.lf true) (.br (decide (x0>=2)) (.lf (decide (x0<=5))) (.lf false)))) (.br (i.B==0) (.lf true) (.br (decide (x0>=2)) (.lf (decide (x0<=5))) (.lf false))); .br (x0 !=2) (.br (i.C !=0) (.lf false) T1) T1))))))
def Q8b(i:Q0i):Bool:=(Qet i).m
def Zco:Q0c:=mkR 167 [] true [.agg Q0i.sig] [] (λargs rows=>Q8b (Q0i.of (aC args 0))) (λX=> .bool X) (λX=>[])
theorem Qru:Q04 Tryz.prog Zco:=Q0v drawn Q0h (.cons Qey (.cons Qxm (.cons Qpn (.nil)))) Tryz.func167 Tryz.call167 (λargs rows=>Qet (Q0i.of (aC args 0))) [] [] 2
def Qgf(i:Q0i):Tree (Int×Bool):=
.lv (Q8b i) λ(x0:Bool)=> .br (!x0) (.lf (0,false)) (.lf (ior u32 (ior u32 (ior u32 (ior u32 (ishl u32 (wrap u32 i.Op) 24) (ishl u32 (wrap u32 i.A) 20)) (ishl u32 (wrap u32 i.B) 16)) (iand u32 (wrap u32 i.Imm) 65535)) (wrap u32 i.C),true))
def Q1h(i:Q0i):(Int×Bool):=(Qgf i).m
def Z7l:Q0c:=mkR 82 [] true [.agg Q0i.sig] [] (λargs rows=>Q1h (Q0i.of (aC args 0))) (λX=> .tup [.int .u32 (X.1), .bool (X.2)]) (λX=>[])
theorem Qj3:Q04 Tryz.prog Z7l:=Q0v drawn Q0h (.cons Qru (.nil)) Tryz.func82 Tryz.call82 (λargs rows=>Qgf (Q0i.of (aC args 0))) [] [] 2
def Z5p:Tree (List Int):=
.lf ([1,2,3,4,5,6,7,8,9,10,11,12,13,16,16,17,18,19,20,21,22,23,24,24,32,32,33,34,35,35,36,40,41,42,43,44,45,48,49,56,57,58,59,60,60,61,61,62,63,64])
def Z6v:(List Int):=(Z5p).m
def Zly:Q0c:=mkR 168 [] true [] [] (λargs rows=>Z6v) (λX=> .sl 1 (.ints .i64 X) true) (λX=>[])
theorem Zew:Q04 Tryz.prog Zly:=Q0v drawn Q0h (.nil) Tryz.func168 Tryz.call168 (λargs rows=>Z5p) [.sl (.ints .i64) true] [] 2
def Z27(seed:Int):Tree (Int×Int):=
let E1:=wrap u64 (ixor u64 (wrap u64 (seed+11400714819323198485)) (ishr u64 (wrap u64 (seed+11400714819323198485)) 30)*13787848793156543929);let E2:=wrap u64 (ixor u64 E1 (ishr u64 E1 27)*10723151780598845931); .lf (ixor u64 E2 (ishr u64 E2 31),wrap u64 (seed+11400714819323198485))
def Zdk(seed:Int):(Int×Int):=(Z27 seed).m
def Zer:Q0c:=mkR 162 [] true [.one (.int .u64)] [] (λargs rows=>Zdk (argI args 0)) (λX=> .tup [.int .u64 (X.1), .int .u64 (X.2)]) (λX=>[])
theorem Zc8:Q04 Tryz.prog Zer:=Q0v drawn Q0h (.nil) Tryz.func162 Tryz.call162 (λargs rows=>Z27 (argI args 0)) [] [] 2
def Qod(n:Int)(k:Int):Tree Int:=
.lv (Zdk (ixor u64 (wrap u64 n) (wrap u64 (wrap u64 k*11400714819323198485)))) λ(x0:Int×Int)=> .lf (wrap i64 (ishr u64 x0.1 1))
def Q4o(n:Int)(k:Int):Int:=(Qod n k).m
def Zjn:Q0c:=mkR 77 [] true [.one (.int .i64), .one (.int .i64)] [] (λargs rows=>Q4o (argI args 0) (argI args 1)) (λX=> .int .i64 X) (λX=>[])
theorem Qkk:Q04 Tryz.prog Zjn:=Q0v drawn Q0h (.cons Zc8 (.nil)) Tryz.func77 Tryz.call77 (λargs rows=>Qod (argI args 0) (argI args 1)) [] [] 2
def Qfi(n:Int)(k:Int):Tree Int:=
.cn (decide (k≠0)) (.br (decide (Int.tmod n k<0)) (.lf (wrap i64 (Int.tmod n k+k))) (.lf (Int.tmod n k)))
def Q48(n:Int)(k:Int):Int:=(Qfi n k).m
abbrev Q2z(n:Int)(k:Int):Prop:=(Qfi n k).p
def Zak:Q0c:=mkP 50 [] true [.one (.int .i64), .one (.int .i64)] [] (λargs rows=>Q2z (argI args 0) (argI args 1)) (λargs rows=>Q48 (argI args 0) (argI args 1)) (λX=> .int .i64 X) (λX=>[])
theorem Qkv:Q04 Tryz.prog Zak:=Q0k drawn Q0h (.nil) Tryz.func50 Tryz.call50 (λargs rows=>Qfi (argI args 0) (argI args 1)) [] [] 2
def Qdy(n:Int):Tree Q0i:=
.lv Z6v λ(x0:List Int)=> .lv (Q4o n 1) λ(x1:Int)=> .an (Q2z x1 (x0.length:Int)) (.lv (Q48 x1 (x0.length:Int)) λ(x2:Int)=> .cn (Nat.beq 1 1&&Nat.blt 0 1&&decide (0<=x2/\x2<(x0.length:Int))) (.an (Q2z (ishr i64 x1 8) 6) (.lv (Q48 (ishr i64 x1 8) 6) λ(x3:Int)=> .an (Q2z (ishr i64 x1 12) 6) (.lv (Q48 (ishr i64 x1 12) 6) λ(x4:Int)=> .an (Q2z (ishr i64 x1 16) 6) (.lv (Q48 (ishr i64 x1 16) 6) λ(x5:Int)=> .an (Q2z (ishr i64 x1 20) 24) (.lv (Q48 (ishr i64 x1 20) 24) λ(x6:Int)=> .br (decide (x0.getD x2.toNat (0:Int)<=(13:Int))) (.lf ({Op:=x0.getD x2.toNat 0,A:=x3,B:=x4,C:=x5,Imm:=0})) (let E4:=({Op:=x0.getD x2.toNat 0,A:=x3,B:=x4,C:=0,Imm:=wrap i32 (wrap i64 (wrap i64 (8*x6)-32))}:Q0i);let T1:Tree (Q0i):= .br (x0.getD x2.toNat (0:Int)==(49:Int)) (.lf (E4)) (.br (x0.getD x2.toNat (0:Int)==(24:Int)) (.lf ({Op:=x0.getD x2.toNat 0,A:=x3,B:=0,C:=0,Imm:=wrap i32 (wrap i64 (x6*iand i64 (ishr i64 x1 40) 1))})) (let T2:Tree (Q0i):=let E6:=({Op:=x0.getD x2.toNat 0,A:=x3,B:=0,C:=0,Imm:=wrap i32 (Int.tmod x6 8)}:Q0i); .br (x0.getD x2.toNat (0:Int)==(58:Int)) (.lf (E6)) (.br (x0.getD x2.toNat (0:Int)==(59:Int)) (.lf (E6)) (let E5:=({Op:=x0.getD x2.toNat 0,A:=x3,B:=0,C:=0,Imm:=wrap i32 (Int.tmod x6 12)}:Q0i); .br (x0.getD x2.toNat (0:Int)==(60:Int)) (.lf (E5)) (.br (x0.getD x2.toNat (0:Int)==(61:Int)) (.lf (E5)) (.lf ({Op:=x0.getD x2.toNat 0,A:=0,B:=0,C:=0,Imm:=0}))))); .br (decide (x0.getD x2.toNat (0:Int)>=(17:Int))) (.br (decide (x0.getD x2.toNat (0:Int)<=(22:Int))) (.lf ({Op:=x0.getD x2.toNat 0,A:=x3,B:=x4,C:=0,Imm:=wrap i32 x6})) T2) T2));let T3:Tree (Q0i):= .br (x0.getD x2.toNat (0:Int)==(16:Int)) (.lf (E4)) (.br (x0.getD x2.toNat (0:Int)==(23:Int)) (.lf (E4)) (.br (decide (x0.getD x2.toNat (0:Int)>=(32:Int))) (.br (decide (x0.getD x2.toNat (0:Int)<=(36:Int))) (.lf (E4)) T1) T1)); .br (decide (x0.getD x2.toNat (0:Int)>=(40:Int))) (.br (decide (x0.getD x2.toNat (0:Int)<=(48:Int))) (.br (x0.getD x2.toNat (0:Int)==(48:Int)) (.lf ({Op:=x0.getD x2.toNat 0,A:=x3,B:=0,C:=0,Imm:=wrap i32 (wrap i64 (x6-12))})) (.lf ({Op:=x0.getD x2.toNat 0,A:=x3,B:=x4,C:=0,Imm:=wrap i32 (wrap i64 (x6-12))}))) T3) T3)))))))
def Za2(n:Int):Q0i:=(Qdy n).m
abbrev Qcy(n:Int):Prop:=(Qdy n).p
def Zgk:Q0c:=mkP 83 [] true [.one (.int .i64)] [] (λargs rows=>Qcy (argI args 0)) (λargs rows=>Za2 (argI args 0)) (λX=> .agg (Q0i.cells X)) (λX=>[])
theorem Za6:Q04 Tryz.prog Zgk:=Q0k drawn Q0h (.cons Zew (.cons Qkk (.cons Qkv (.nil)))) Tryz.func83 Tryz.call83 (λargs rows=>Qdy (argI args 0)) [] [] 2
def Qpf(l:(List Int))(z:(Int)×(List Int)):Prop:=0<=z.1/\z.1<=l.length/\(z.2.length:Int)=z.1
def Qd6(l:(List Int))(z:(Int)×(List Int)):Nat:=(l.length-z.1).toNat
def Qbv(l:(List Int)):Tree (List Int):=
.lp inferInstance (Qd6 l (0,[])+1) ((((Els.Nil (Els.ints i64 l)\/rE (1:Nat))/\rE (l:List Int))/\True/\rE (0:Int)/\True)/\rE ([]:List Int)/\True) (0,[]) λ(v0:Int×List Int)=> .br (decide (v0.1<(l.length:Int))) (let E1:=Nat.beq 1 1&&Nat.blt 0 1&&decide (0<=v0.1/\v0.1<(l.length:Int)); .cn E1 (let E2:=decide (4*(v0.2.length+1)<=140737488355328); .br (Int.tmod (l.getD v0.1.toNat 0) (17:Int)==(0:Int)) (.cn E1 (.cn E2 (.nx ((((Els.Nil (Els.ints i64 l)\/rE (1:Nat))/\rE (l:List Int))/\True/\rE ((wrap i64 (v0.1+1)):Int)/\True)/\rE ((v0.2++[wrap u32 (iand i64 (l.getD v0.1.toNat 0) 4294967295)]):List Int)/\True) (Sum.inl (wrap i64 (v0.1+1),v0.2++[wrap u32 (iand i64 (l.getD v0.1.toNat 0) 4294967295)]))))) (.cn E1 (.an (Qcy (l.getD v0.1.toNat 0)) (.lv (Za2 (l.getD v0.1.toNat 0)) λ(x0:Q0i)=> .lv (Q1h x0) λ(x1:Int×Bool)=> .cn E2 (.nx ((((Els.Nil (Els.ints i64 l)\/rE (1:Nat))/\rE (l:List Int))/\True/\rE ((wrap i64 (v0.1+1)):Int)/\True)/\rE ((v0.2++[x1.1]):List Int)/\True) (Sum.inl (wrap i64 (v0.1+1),v0.2++[x1.1])))))))) (.lf (Sum.inr v0.2))
def Qmd(l:(List Int)):(List Int):=(Qbv l).m
abbrev Qg9(l:(List Int)):Prop:=(Qbv l).p
def Zca:LInv:={
 α:=(Int)×(List Int)
 F:=λst a=>([(0,(lk st 0)),(3, .all 0),(4, .int i64 a.1)],[⟨false,25,1, .ints u32 a.2⟩])
 a0:=λst=>((lk st 4).toInt,(Q4s st.rows (rN st 3)))
 ex0:=λst=>[]++[(Q0m (lk st 3) (st.rows.length+0))]
 next:=λst=>((lk st 4).toInt,(Q4s st.rows (rN st 3)))
 ex:=λst=>[]++[(Q0m (lk st 3) (st.rows.length+0))]}
def Z3a:List (Nat×LInv):=[(3,Zca)]
def Zff:Q0c:=mkP 138 [] true [.one (.ints .i64)] [] (λargs rows=>Qg9 (argL .i64 args 0)) (λargs rows=>Qmd (argL .i64 args 0)) (λX=> .all 0) (λX=>[⟨false,25,1, .ints .u32 X⟩])
theorem Zdm:Q04 Tryz.prog Zff:=Q0k drawn Q0h (.cons Qj3 (.cons Za6 (.nil))) Tryz.func138 Tryz.call138 (λargs rows=>Qbv (argL .i64 args 0)) [.row 25 1 (.ints .u32)] Z3a 3
def Qim(pc:Int):Tree Q02:=
.lf ({X:={a0:=0,a1:=0,a2:=0,a3:=0,a4:=0,a5:=0,a6:=0,a7:=0,a8:=0,a9:=0,a10:=0,a11:=0,a12:=0,a13:=0,a14:=0,a15:=0},Pc:=pc,B4:={a0:=1,a1:=0,a2:=0,a3:=0,a4:=0,a5:=0,a6:=0,a7:=0}})
def Qnv(pc:Int):Q02:=(Qim pc).m
def Zec:Q0c:=mkR 127 [] true [.one (.int .u32)] [] (λargs rows=>Qnv (argI args 0)) (λX=> .agg (Q02.cells X)) (λX=>[])
theorem Z8f:Q04 Tryz.prog Zec:=Q0v drawn Q0h (.nil) Tryz.func127 Tryz.call127 (λargs rows=>Qim (argI args 0)) [] [] 2
def Qdl(pages:Int):Tree (List Int):=
.br (decide (pages<1)) (.lf ([])) (.br (decide (pages>32)) (.lf ([])) (.cn (Nat.blt 0 1&&Nat.beq 1 1&&List.all [D.int u32 0] D.plain&&decide (0<=wrap i64 (pages*32)/\wrap i64 (pages*32)<=wrap i64 (pages*32)/\wrap i64 (pages*32)<=9223372036854775807/\(↑4:Int)*wrap i64 (pages*32)<=140737488355328)) (.lf (List.replicate (Int.toNat (wrap i64 (pages*32))) 0))))
def Qr8(pages:Int):(List Int):=(Qdl pages).m
abbrev Qfc(pages:Int):Prop:=(Qdl pages).p
def Zkj:Q0c:=mkP 128 [] true [.one (.int .i64)] [] (λargs rows=>Qfc (argI args 0)) (λargs rows=>Qr8 (argI args 0)) (λX=> .all 0) (λX=>[⟨false,25,1, .ints .u32 X⟩])
theorem Zex:Q04 Tryz.prog Zkj:=Q0k drawn Q0h (.nil) Tryz.func128 Tryz.call128 (λargs rows=>Qdl (argI args 0)) [.row 25 1 (.ints .u32)] [] 2
def Q83(pages:Int)(blocks:Int)(image:(List Int)):Tree (Q01×Bool):=
let T1:Tree ((Q01×Bool)):= .lf ({B2:={X:={a0:=0,a1:=0,a2:=0,a3:=0,a4:=0,a5:=0,a6:=0,a7:=0,a8:=0,a9:=0,a10:=0,a11:=0,a12:=0,a13:=0,a14:=0,a15:=0},Pc:=0,B4:={a0:=0,a1:=0,a2:=0,a3:=0,a4:=0,a5:=0,a6:=0,a7:=0}},Mem:=[],A4:={D0:=[]},B0:={D3:=false,C7:=0,D2:=false},B1:={Blocks:=0,C1:=0,Frame:=0,C0:=0,D7:=0,B5:=0,B3:=0,C3:=[]},C4:={Frame:=0,D9:=0,C5:=false,B8:=0,B6:=false,F0:=0},A1:={C8:=0,C2:=0},A3:=0,A6:=false,A9:=false},false); .br (decide (pages<1)) T1 (.br (decide (pages>32)) T1 (.br (decide (blocks<0)) T1 (.br (decide (blocks>64)) T1 (.br (decide ((image.length:Int)>wrap i64 (pages*32))) T1 (.lv (Qnv 0) λ(x0:Q02)=> .an (Qfc pages) (.lv (Qr8 pages) λ(x1:List Int)=> .lf ({B2:=x0,Mem:=List.take (Min.min (image.length) (x1.length)) image++List.drop (Min.min (image.length) (x1.length)) x1,A4:={D0:=[]},B0:={D3:=false,C7:=0,D2:=false},B1:={Blocks:=wrap u32 blocks,C1:=0,Frame:=0,C0:=0,D7:=0,B5:=0,B3:=0,C3:=[]},C4:={Frame:=0,D9:=0,C5:=false,B8:=0,B6:=false,F0:=0},A1:={C8:=0,C2:=0},A3:=0,A6:=false,A9:=false},true)))))))
def Q1r(pages:Int)(blocks:Int)(image:(List Int)):(Q01×Bool):=(Q83 pages blocks image).m
abbrev Q9c(pages:Int)(blocks:Int)(image:(List Int)):Prop:=(Q83 pages blocks image).p
def Zku:Q0c:=mkP 37 [] true [.one (.int .i64), .one (.int .i64), .one (.ints .u32)] [] (λargs rows=>Q9c (argI args 0) (argI args 1) (argL .u32 args 2)) (λargs rows=>Q1r (argI args 0) (argI args 1) (argL .u32 args 2)) (λX=> .tup [.agg (Q01.cellsW (X.1) (.all 0)), .bool (X.2)]) (λX=>[⟨false,25,1, .ints .u32 (X.1).Mem⟩])
theorem Z22:Q04 Tryz.prog Zku:=Q0k drawn Q0h (.cons Z8f (.cons Zex (.nil))) Tryz.func37 Tryz.call37 (λargs rows=>Q83 (argI args 0) (argI args 1) (argL .u32 args 2)) [.row 25 1 (.ints .u32)] [] 2
def Qom(a:(List Int))(b:(List Int))(z:(Int)):Nat:=(a.length-z).toNat
def Qxh(a:(List Int))(b:(List Int)):Tree Bool:=
.br ((a.length:Int) !=(b.length:Int)) (.lf false) (.lp inferInstance (Qom a b 0+1) ((((Els.Nil (Els.ints u32 a)\/rE (1:Nat))/\rE (a:List Int))/\((Els.Nil (Els.ints u32 b)\/rE (1:Nat))/\rE (b:List Int))/\rE (0:Int)/\True)/\True) 0 λ(v0:Int)=> .br (decide (v0<(a.length:Int))) (.cn (Nat.beq 1 1&&Nat.blt 0 1&&decide (0<=v0/\v0<(a.length:Int))) (.cn (Nat.beq 1 1&&Nat.blt 0 1&&decide (0<=v0/\v0<(b.length:Int))) (.br (a.getD v0.toNat 0 !=b.getD v0.toNat 0) (.lf (Sum.inr false)) (.nx ((((Els.Nil (Els.ints u32 a)\/rE (1:Nat))/\rE (a:List Int))/\((Els.Nil (Els.ints u32 b)\/rE (1:Nat))/\rE (b:List Int))/\rE ((wrap i64 (v0+1)):Int)/\True)/\True) (Sum.inl (wrap i64 (v0+1))))))) (.lf (Sum.inr true)))
def Z42(a:(List Int))(b:(List Int)):Bool:=(Qxh a b).m
def Q8i(a:(List Int))(b:(List Int)):Prop:=
a.length<=1000000000000
def Qpr(a:Q01)(b:Q01):Tree Bool:=
.br (eqs [D.int u32 a.B2.X.a0,D.int u32 a.B2.X.a1,D.int u32 a.B2.X.a2,D.int u32 a.B2.X.a3,D.int u32 a.B2.X.a4,D.int u32 a.B2.X.a5,D.int u32 a.B2.X.a6,D.int u32 a.B2.X.a7,D.int u32 a.B2.X.a8,D.int u32 a.B2.X.a9,D.int u32 a.B2.X.a10,D.int u32 a.B2.X.a11,D.int u32 a.B2.X.a12,D.int u32 a.B2.X.a13,D.int u32 a.B2.X.a14,D.int u32 a.B2.X.a15,D.int u32 a.B2.Pc,D.int u32 a.B2.B4.a0,D.int u32 a.B2.B4.a1,D.int u32 a.B2.B4.a2,D.int u32 a.B2.B4.a3,D.int u32 a.B2.B4.a4,D.int u32 a.B2.B4.a5,D.int u32 a.B2.B4.a6,D.int u32 a.B2.B4.a7] [D.int u32 b.B2.X.a0,D.int u32 b.B2.X.a1,D.int u32 b.B2.X.a2,D.int u32 b.B2.X.a3,D.int u32 b.B2.X.a4,D.int u32 b.B2.X.a5,D.int u32 b.B2.X.a6,D.int u32 b.B2.X.a7,D.int u32 b.B2.X.a8,D.int u32 b.B2.X.a9,D.int u32 b.B2.X.a10,D.int u32 b.B2.X.a11,D.int u32 b.B2.X.a12,D.int u32 b.B2.X.a13,D.int u32 b.B2.X.a14,D.int u32 b.B2.X.a15,D.int u32 b.B2.Pc,D.int u32 b.B2.B4.a0,D.int u32 b.B2.B4.a1,D.int u32 b.B2.B4.a2,D.int u32 b.B2.B4.a3,D.int u32 b.B2.B4.a4,D.int u32 b.B2.B4.a5,D.int u32 b.B2.B4.a6,D.int u32 b.B2.B4.a7]) (.an (Q8i a.Mem b.Mem) (.lv (Z42 a.Mem b.Mem) λ(x0:Bool)=> .br x0 (.br (eqs [D.str a.A4.D0] [D.str b.A4.D0]) (.br (eqs [D.bool a.B0.D3,D.int u32 a.B0.C7,D.bool a.B0.D2] [D.bool b.B0.D3,D.int u32 b.B0.C7,D.bool b.B0.D2]) (.br (eqs [D.int u32 a.B1.Blocks,D.int u32 a.B1.C1,D.int u32 a.B1.Frame,D.int i64 a.B1.C0,D.int i64 a.B1.D7,D.int u32 a.B1.B5,D.int u32 a.B1.B3,D.str a.B1.C3] [D.int u32 b.B1.Blocks,D.int u32 b.B1.C1,D.int u32 b.B1.Frame,D.int i64 b.B1.C0,D.int i64 b.B1.D7,D.int u32 b.B1.B5,D.int u32 b.B1.B3,D.str b.B1.C3]) (.br (eqs [D.int u32 a.C4.Frame,D.int u32 a.C4.D9,D.bool a.C4.C5,D.int u32 a.C4.B8,D.bool a.C4.B6,D.int u32 a.C4.F0] [D.int u32 b.C4.Frame,D.int u32 b.C4.D9,D.bool b.C4.C5,D.int u32 b.C4.B8,D.bool b.C4.B6,D.int u32 b.C4.F0]) (.br (eqs [D.int u32 a.A1.C8,D.int u32 a.A1.C2] [D.int u32 b.A1.C8,D.int u32 b.A1.C2]) (.br (a.A3==b.A3) (.br (a.A6==b.A6) (.lf (a.A9==b.A9)) (.lf false)) (.lf false)) (.lf false)) (.lf false)) (.lf false)) (.lf false)) (.lf false)) (.lf false))) (.lf false)
abbrev Z88(a:Q01)(b:Q01):Prop:=(Qpr a b).p
def Q4g(m:Q01):Tree Bool:=
.an (Qbe m) (.lv (Q3w m) λ(x0:Bool)=> .br (!x0) (.lf false) (.an (Q9x m) (.lv (Q18 m) λ(x1:Q01)=> .an (Qj1 x1.B2 x1.Mem) (.lv (Qa8 x1.B2 x1.Mem) λ(x2:Q02×List Int×Q1)=> .br (x2.2.2.B7==1) (.lf (x2.2.2.C9==2)) (.lf false)))))
def Qdd(m:Q01):Bool:=(Q4g m).m
abbrev Q5l(m:Q01):Prop:=(Q4g m).p
def Qoy:Q0c:=mkP 30 [] true [.agg Q01.sig] [] (λargs rows=>Q5l (Q01.of (aC args 0))) (λargs rows=>Qdd (Q01.of (aC args 0))) (λX=> .bool X) (λX=>[])
theorem Qns:Q04 Tryz.prog Qoy:=Q0k drawn Q0h (.cons Qmp (.cons Qm1 (.cons Z14 (.nil)))) Tryz.func30 Tryz.call30 (λargs rows=>Q4g (Q01.of (aC args 0))) [] [] 2
end
end Go.Proofs.YtmalmklaonainaaGreat

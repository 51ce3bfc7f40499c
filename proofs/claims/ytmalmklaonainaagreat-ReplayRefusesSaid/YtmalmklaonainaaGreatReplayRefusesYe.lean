import Derived.Test.YtmalmklaonainaaGreatReplayRefusesYd
set_option maxRecDepth 100000
set_option linter.all false
namespace Go.Proofs.YtmalmklaonainaaGreat
open Go Go.GD Go.IntKind
noncomputable section
def Z2f(op:Int):Tree Int:=
let T1:Tree (Int):= .br (op==49) (.lf 3) (let T2:Tree (Int):= .br (op==24) (.lf 6) (.br (op==48) (.lf 7) (.br (op==58) (.lf 8) (.br (op==59) (.lf 8) (.br (op==60) (.lf 9) (.br (op==61) (.lf 9) (.br (op==56) (.lf 1) (.br (op==57) (.lf 1) (.br (decide (op>=62)) (.br (decide (op<=64)) (.lf 1) (.lf 0)) (.lf 0))))))))); .br (decide (op>=17)) (.br (decide (op<=19)) (.lf 4) (.br (decide (op>=20)) (.br (decide (op<=22)) (.lf 5) T2) T2)) (.br (decide (op>=20)) (.br (decide (op<=22)) (.lf 5) T2) T2));let T3:Tree (Int):= .br (op==16) (.lf 3) (.br (op==23) (.lf 3) (.br (decide (op>=32)) (.br (decide (op<=36)) (.lf 3) (.br (decide (op>=40)) (.br (decide (op<=45)) (.lf 3) T1) T1)) (.br (decide (op>=40)) (.br (decide (op<=45)) (.lf 3) T1) T1))); .br (decide (op>=1)) (.br (decide (op<=13)) (.lf 2) T3) T3
def Q2e(op:Int):Int:=(Z2f op).m
def Zhu:Q0d:=mkR 191 [] true [.one (.int .i64)] [] (λargs rows=>Q2e (argI args 0)) (λX=> .int .i64 X) (λX=>[])
theorem Qgg:Q05 Tryz.prog Zhu:=Q0z drawn Q0j (.nil) Tryz.func191 Tryz.call191 (λargs rows=>Z2f (argI args 0)) [] [] 2
def Qe(r:Int):Tree Bool:=
.br (decide (r>=0)) (.lf (decide (r<=15))) (.lf false)
def Q8k(r:Int):Bool:=(Qe r).m
def Z3:Q0d:=mkR 225 [] true [.one (.int .i64)] [] (λargs rows=>Q8k (argI args 0)) (λX=> .bool X) (λX=>[])
theorem Z0a:Q05 Tryz.prog Z3:=Q0z drawn Q0j (.nil) Tryz.func225 Tryz.call225 (λargs rows=>Qe (argI args 0)) [] [] 2
def Qmn(f:Int):Tree (Int×Int):=
.br (f==3) (.lf ((-32768),32767)) (.br (f==7) (.lf ((-32768),32767)) (.br (f==4) (.lf (0,65535)) (.br (f==6) (.lf (0,65535)) (.br (f==5) (.lf (0,31)) (.br (f==8) (.lf (0,7)) (.br (f==9) (.lf (0,11)) (.lf (0,0))))))))
def Qn4(f:Int):(Int×Int):=(Qmn f).m
def Za6:Q0d:=mkR 192 [] true [.one (.int .i64)] [] (λargs rows=>Qn4 (argI args 0)) (λX=> .tup [.int .i64 (X.1), .int .i64 (X.2)]) (λX=>[])
theorem Qr:Q05 Tryz.prog Za6:=Q0z drawn Q0j (.nil) Tryz.func192 Tryz.call192 (λargs rows=>Qmn (argI args 0)) [] [] 2
def Qgu(i:Q0k):Tree Bool:=
.lv (Q2e i.Op) λ(x0:Int)=> .br (x0==0) (.lf false) (.lv (Q8k i.A) λ(x1:Bool)=> .br (!x1) (.lf false) (.lv (Q8k i.B) λ(x2:Bool)=> .br (!x2) (.lf false) (.lv (Q8k i.C) λ(x3:Bool)=> .br (!x3) (.lf false) (.lv (Qn4 x0) λ(x4:Int×Int)=> .br (decide (wrap i64 i.Imm<x4.1)) (.lf false) (.br (decide (wrap i64 i.Imm>x4.2)) (.lf false) (let T1:Tree (Bool):= .br (x0==1) (.br (i.A !=0) (.lf false) (.br (i.B==0) (.lf true) (.br (decide (x0>=2)) (.lf (decide (x0<=5))) (.lf false)))) (.br (i.B==0) (.lf true) (.br (decide (x0>=2)) (.lf (decide (x0<=5))) (.lf false))); .br (x0 !=2) (.br (i.C !=0) (.lf false) T1) T1))))))
def Q7u(i:Q0k):Bool:=(Qgu i).m
def Ze1:Q0d:=mkR 167 [] true [.agg Q0k.sig] [] (λargs rows=>Q7u (Q0k.of (aC args 0))) (λX=> .bool X) (λX=>[])
theorem Qur:Q05 Tryz.prog Ze1:=Q0z drawn Q0j (.cons Qgg (.cons Z0a (.cons Qr (.nil)))) Tryz.func167 Tryz.call167 (λargs rows=>Qgu (Q0k.of (aC args 0))) [] [] 2
def Qho(i:Q0k):Tree (Int×Bool):=
.lv (Q7u i) λ(x0:Bool)=> .br (!x0) (.lf (0,false)) (.lf (ior u32 (ior u32 (ior u32 (ior u32 (ishl u32 (wrap u32 i.Op) 24) (ishl u32 (wrap u32 i.A) 20)) (ishl u32 (wrap u32 i.B) 16)) (iand u32 (wrap u32 i.Imm) 65535)) (wrap u32 i.C),true))
def Q1o(i:Q0k):(Int×Bool):=(Qho i).m
def Zcc:Q0d:=mkR 82 [] true [.agg Q0k.sig] [] (λargs rows=>Q1o (Q0k.of (aC args 0))) (λX=> .tup [.int .u32 (X.1), .bool (X.2)]) (λX=>[])
theorem Qky:Q05 Tryz.prog Zcc:=Q0z drawn Q0j (.cons Qur (.nil)) Tryz.func82 Tryz.call82 (λargs rows=>Qho (Q0k.of (aC args 0))) [] [] 2
def Z8s:Tree (List Int):=
.lf ([1,2,3,4,5,6,7,8,9,10,11,12,13,16,16,17,18,19,20,21,22,23,24,24,32,32,33,34,35,35,36,40,41,42,43,44,45,48,49,56,57,58,59,60,60,61,61,62,63,64])
def Zbp:(List Int):=(Z8s).m
def Zmj:Q0d:=mkR 168 [] true [] [] (λargs rows=>Zbp) (λX=> .sl 1 (.ints .i64 X) true) (λX=>[])
theorem Zhw:Q05 Tryz.prog Zmj:=Q0z drawn Q0j (.nil) Tryz.func168 Tryz.call168 (λargs rows=>Z8s) [.sl (.ints .i64) true] [] 2
def Z1c(seed:Int):Tree (Int×Int):=
let E1:=wrap u64 (ixor u64 (wrap u64 (seed+11400714819323198485)) (ishr u64 (wrap u64 (seed+11400714819323198485)) 30)*13787848793156543929);let E2:=wrap u64 (ixor u64 E1 (ishr u64 E1 27)*10723151780598845931); .lf (ixor u64 E2 (ishr u64 E2 31),wrap u64 (seed+11400714819323198485))
def Zd9(seed:Int):(Int×Int):=(Z1c seed).m
def Zk:Q0d:=mkR 162 [] true [.one (.int .u64)] [] (λargs rows=>Zd9 (argI args 0)) (λX=> .tup [.int .u64 (X.1), .int .u64 (X.2)]) (λX=>[])
theorem Zh5:Q05 Tryz.prog Zk:=Q0z drawn Q0j (.nil) Tryz.func162 Tryz.call162 (λargs rows=>Z1c (argI args 0)) [] [] 2
def Qps(n:Int)(k:Int):Tree Int:=
.lv (Zd9 (ixor u64 (wrap u64 n) (wrap u64 (wrap u64 k*11400714819323198485)))) λ(x0:Int×Int)=> .lf (wrap i64 (ishr u64 x0.1 1))
def Q3f(n:Int)(k:Int):Int:=(Qps n k).m
def Znk:Q0d:=mkR 77 [] true [.one (.int .i64), .one (.int .i64)] [] (λargs rows=>Q3f (argI args 0) (argI args 1)) (λX=> .int .i64 X) (λX=>[])
theorem Qmj:Q05 Tryz.prog Znk:=Q0z drawn Q0j (.cons Zh5 (.nil)) Tryz.func77 Tryz.call77 (λargs rows=>Qps (argI args 0) (argI args 1)) [] [] 2
def Qg9(n:Int)(k:Int):Tree Int:=
.cn (decide (k≠0)) (.br (decide (Int.tmod n k<0)) (.lf (wrap i64 (Int.tmod n k+k))) (.lf (Int.tmod n k)))
def Q4r(n:Int)(k:Int):Int:=(Qg9 n k).m
abbrev Q38(n:Int)(k:Int):Prop:=(Qg9 n k).p
def Zd3:Q0d:=mkP 50 [] true [.one (.int .i64), .one (.int .i64)] [] (λargs rows=>Q38 (argI args 0) (argI args 1)) (λargs rows=>Q4r (argI args 0) (argI args 1)) (λX=> .int .i64 X) (λX=>[])
theorem Qmf:Q05 Tryz.prog Zd3:=Q0l drawn Q0j (.nil) Tryz.func50 Tryz.call50 (λargs rows=>Qg9 (argI args 0) (argI args 1)) [] [] 2
def Qf8(n:Int):Tree Q0k:=
.lv Zbp λ(x0:List Int)=> .lv (Q3f n 1) λ(x1:Int)=> .an (Q38 x1 (x0.length:Int)) (.lv (Q4r x1 (x0.length:Int)) λ(x2:Int)=> .cn (Nat.beq 1 1&&Nat.blt 0 1&&decide (0<=x2/\x2<(x0.length:Int))) (.an (Q38 (ishr i64 x1 8) 6) (.lv (Q4r (ishr i64 x1 8) 6) λ(x3:Int)=> .an (Q38 (ishr i64 x1 12) 6) (.lv (Q4r (ishr i64 x1 12) 6) λ(x4:Int)=> .an (Q38 (ishr i64 x1 16) 6) (.lv (Q4r (ishr i64 x1 16) 6) λ(x5:Int)=> .an (Q38 (ishr i64 x1 20) 24) (.lv (Q4r (ishr i64 x1 20) 24) λ(x6:Int)=> .br (decide (x0.getD x2.toNat (0:Int)<=(13:Int))) (.lf ({Op:=x0.getD x2.toNat 0,A:=x3,B:=x4,C:=x5,Imm:=0})) (let E4:=({Op:=x0.getD x2.toNat 0,A:=x3,B:=x4,C:=0,Imm:=wrap i32 (wrap i64 (wrap i64 (8*x6)-32))}:Q0k);let T1:Tree (Q0k):= .br (x0.getD x2.toNat (0:Int)==(49:Int)) (.lf (E4)) (.br (x0.getD x2.toNat (0:Int)==(24:Int)) (.lf ({Op:=x0.getD x2.toNat 0,A:=x3,B:=0,C:=0,Imm:=wrap i32 (wrap i64 (x6*iand i64 (ishr i64 x1 40) 1))})) (let T2:Tree (Q0k):=let E6:=({Op:=x0.getD x2.toNat 0,A:=x3,B:=0,C:=0,Imm:=wrap i32 (Int.tmod x6 8)}:Q0k); .br (x0.getD x2.toNat (0:Int)==(58:Int)) (.lf (E6)) (.br (x0.getD x2.toNat (0:Int)==(59:Int)) (.lf (E6)) (let E5:=({Op:=x0.getD x2.toNat 0,A:=x3,B:=0,C:=0,Imm:=wrap i32 (Int.tmod x6 12)}:Q0k); .br (x0.getD x2.toNat (0:Int)==(60:Int)) (.lf (E5)) (.br (x0.getD x2.toNat (0:Int)==(61:Int)) (.lf (E5)) (.lf ({Op:=x0.getD x2.toNat 0,A:=0,B:=0,C:=0,Imm:=0}))))); .br (decide (x0.getD x2.toNat (0:Int)>=(17:Int))) (.br (decide (x0.getD x2.toNat (0:Int)<=(22:Int))) (.lf ({Op:=x0.getD x2.toNat 0,A:=x3,B:=x4,C:=0,Imm:=wrap i32 x6})) T2) T2));let T3:Tree (Q0k):= .br (x0.getD x2.toNat (0:Int)==(16:Int)) (.lf (E4)) (.br (x0.getD x2.toNat (0:Int)==(23:Int)) (.lf (E4)) (.br (decide (x0.getD x2.toNat (0:Int)>=(32:Int))) (.br (decide (x0.getD x2.toNat (0:Int)<=(36:Int))) (.lf (E4)) T1) T1)); .br (decide (x0.getD x2.toNat (0:Int)>=(40:Int))) (.br (decide (x0.getD x2.toNat (0:Int)<=(48:Int))) (.br (x0.getD x2.toNat (0:Int)==(48:Int)) (.lf ({Op:=x0.getD x2.toNat 0,A:=x3,B:=0,C:=0,Imm:=wrap i32 (wrap i64 (x6-12))})) (.lf ({Op:=x0.getD x2.toNat 0,A:=x3,B:=x4,C:=0,Imm:=wrap i32 (wrap i64 (x6-12))}))) T3) T3)))))))
def Zef(n:Int):Q0k:=(Qf8 n).m
abbrev Qej(n:Int):Prop:=(Qf8 n).p
def Zjd:Q0d:=mkP 83 [] true [.one (.int .i64)] [] (λargs rows=>Qej (argI args 0)) (λargs rows=>Zef (argI args 0)) (λX=> .agg (Q0k.cells X)) (λX=>[])
theorem Zg:Q05 Tryz.prog Zjd:=Q0l drawn Q0j (.cons Zhw (.cons Qmj (.cons Qmf (.nil)))) Tryz.func83 Tryz.call83 (λargs rows=>Qf8 (argI args 0)) [] [] 2
def Qro(l:(List Int))(z:(Int)×(List Int)):Prop:=0<=z.1/\z.1<=l.length/\(z.2.length:Int)=z.1
def Qe9(l:(List Int))(z:(Int)×(List Int)):Nat:=(l.length-z.1).toNat
def Qda(l:(List Int)):Tree (List Int):=
.lp inferInstance (Qe9 l (0,[])+1) ((((Els.Nil (Els.ints i64 l)\/rE (1:Nat))/\rE (l:List Int))/\True/\rE (0:Int)/\True)/\rE ([]:List Int)/\True) (0,[]) λ(v0:Int×List Int)=> .br (decide (v0.1<(l.length:Int))) (let E1:=Nat.beq 1 1&&Nat.blt 0 1&&decide (0<=v0.1/\v0.1<(l.length:Int)); .cn E1 (let E2:=decide (4*(v0.2.length+1)<=140737488355328); .br (Int.tmod (l.getD v0.1.toNat 0) (17:Int)==(0:Int)) (.cn E1 (.cn E2 (.nx ((((Els.Nil (Els.ints i64 l)\/rE (1:Nat))/\rE (l:List Int))/\True/\rE ((wrap i64 (v0.1+1)):Int)/\True)/\rE ((v0.2++[wrap u32 (iand i64 (l.getD v0.1.toNat 0) 4294967295)]):List Int)/\True) (Sum.inl (wrap i64 (v0.1+1),v0.2++[wrap u32 (iand i64 (l.getD v0.1.toNat 0) 4294967295)]))))) (.cn E1 (.an (Qej (l.getD v0.1.toNat 0)) (.lv (Zef (l.getD v0.1.toNat 0)) λ(x0:Q0k)=> .lv (Q1o x0) λ(x1:Int×Bool)=> .cn E2 (.nx ((((Els.Nil (Els.ints i64 l)\/rE (1:Nat))/\rE (l:List Int))/\True/\rE ((wrap i64 (v0.1+1)):Int)/\True)/\rE ((v0.2++[x1.1]):List Int)/\True) (Sum.inl (wrap i64 (v0.1+1),v0.2++[x1.1])))))))) (.lf (Sum.inr v0.2))
def Qof(l:(List Int)):(List Int):=(Qda l).m
abbrev Qhs(l:(List Int)):Prop:=(Qda l).p
def Zel:LInv:={
 α:=(Int)×(List Int)
 F:=λst a=>([(0,(lk st 0)),(3, .all 0),(4, .int i64 a.1)],[⟨false,25,1, .ints u32 a.2⟩])
 a0:=λst=>((lk st 4).toInt,(Q5q st.rows (rN st 3)))
 ex0:=λst=>[]++[(Q0r (lk st 3) (st.rows.length+0))]
 next:=λst=>((lk st 4).toInt,(Q5q st.rows (rN st 3)))
 ex:=λst=>[]++[(Q0r (lk st 3) (st.rows.length+0))]}
def Z5l:List (Nat×LInv):=[(3,Zel)]
def Zjw:Q0d:=mkP 138 [] true [.one (.ints .i64)] [] (λargs rows=>Qhs (argL .i64 args 0)) (λargs rows=>Qof (argL .i64 args 0)) (λX=> .all 0) (λX=>[⟨false,25,1, .ints .u32 X⟩])
theorem Zgq:Q05 Tryz.prog Zjw:=Q0l drawn Q0j (.cons Qky (.cons Zg (.nil))) Tryz.func138 Tryz.call138 (λargs rows=>Qda (argL .i64 args 0)) [.row 25 1 (.ints .u32)] Z5l 3
def Qkg(pc:Int):Tree Q02:=
.lf ({X:={a0:=0,a1:=0,a2:=0,a3:=0,a4:=0,a5:=0,a6:=0,a7:=0,a8:=0,a9:=0,a10:=0,a11:=0,a12:=0,a13:=0,a14:=0,a15:=0},Pc:=pc,B5:={a0:=1,a1:=0,a2:=0,a3:=0,a4:=0,a5:=0,a6:=0,a7:=0}})
def Qq7(pc:Int):Q02:=(Qkg pc).m
def Zff:Q0d:=mkR 127 [] true [.one (.int .u32)] [] (λargs rows=>Qq7 (argI args 0)) (λX=> .agg (Q02.cells X)) (λX=>[])
theorem Zc1:Q05 Tryz.prog Zff:=Q0z drawn Q0j (.nil) Tryz.func127 Tryz.call127 (λargs rows=>Qkg (argI args 0)) [] [] 2
def Qfc(pages:Int):Tree (List Int):=
.br (decide (pages<1)) (.lf ([])) (.br (decide (pages>32)) (.lf ([])) (.cn (Nat.blt 0 1&&Nat.beq 1 1&&List.all [D.int u32 0] D.plain&&decide (0<=wrap i64 (pages*32)/\wrap i64 (pages*32)<=wrap i64 (pages*32)/\wrap i64 (pages*32)<=9223372036854775807/\(↑4:Int)*wrap i64 (pages*32)<=140737488355328)) (.lf (List.replicate (Int.toNat (wrap i64 (pages*32))) 0))))
def Qsw(pages:Int):(List Int):=(Qfc pages).m
abbrev Qgb(pages:Int):Prop:=(Qfc pages).p
def Zn4:Q0d:=mkP 128 [] true [.one (.int .i64)] [] (λargs rows=>Qgb (argI args 0)) (λargs rows=>Qsw (argI args 0)) (λX=> .all 0) (λX=>[⟨false,25,1, .ints .u32 X⟩])
theorem Zj5:Q05 Tryz.prog Zn4:=Q0l drawn Q0j (.nil) Tryz.func128 Tryz.call128 (λargs rows=>Qfc (argI args 0)) [.row 25 1 (.ints .u32)] [] 2
def Q9b(pages:Int)(blocks:Int)(image:(List Int)):Tree (Q00×Bool):=
let T1:Tree ((Q00×Bool)):= .lf ({B2:={X:={a0:=0,a1:=0,a2:=0,a3:=0,a4:=0,a5:=0,a6:=0,a7:=0,a8:=0,a9:=0,a10:=0,a11:=0,a12:=0,a13:=0,a14:=0,a15:=0},Pc:=0,B5:={a0:=0,a1:=0,a2:=0,a3:=0,a4:=0,a5:=0,a6:=0,a7:=0}},Mem:=[],A6:={D3:=[]},B0:={D1:=false,C7:=0,D5:=false},B1:={Blocks:=0,C1:=0,Frame:=0,C0:=0,D8:=0,B7:=0,B3:=0,C3:=[]},C4:={Frame:=0,E0:=0,C5:=false,B9:=0,B8:=false,F1:=0},A2:={C8:=0,C2:=0},A1:=0,A7:=false,A9:=false},false); .br (decide (pages<1)) T1 (.br (decide (pages>32)) T1 (.br (decide (blocks<0)) T1 (.br (decide (blocks>64)) T1 (.br (decide ((image.length:Int)>wrap i64 (pages*32))) T1 (.lv (Qq7 0) λ(x0:Q02)=> .an (Qgb pages) (.lv (Qsw pages) λ(x1:List Int)=> .lf ({B2:=x0,Mem:=List.take (Min.min (image.length) (x1.length)) image++List.drop (Min.min (image.length) (x1.length)) x1,A6:={D3:=[]},B0:={D1:=false,C7:=0,D5:=false},B1:={Blocks:=wrap u32 blocks,C1:=0,Frame:=0,C0:=0,D8:=0,B7:=0,B3:=0,C3:=[]},C4:={Frame:=0,E0:=0,C5:=false,B9:=0,B8:=false,F1:=0},A2:={C8:=0,C2:=0},A1:=0,A7:=false,A9:=false},true)))))))
def Q1x(pages:Int)(blocks:Int)(image:(List Int)):(Q00×Bool):=(Q9b pages blocks image).m
abbrev Q9p(pages:Int)(blocks:Int)(image:(List Int)):Prop:=(Q9b pages blocks image).p
def Zmo:Q0d:=mkP 37 [] true [.one (.int .i64), .one (.int .i64), .one (.ints .u32)] [] (λargs rows=>Q9p (argI args 0) (argI args 1) (argL .u32 args 2)) (λargs rows=>Q1x (argI args 0) (argI args 1) (argL .u32 args 2)) (λX=> .tup [.agg (Q00.cellsW (X.1) (.all 0)), .bool (X.2)]) (λX=>[⟨false,25,1, .ints .u32 (X.1).Mem⟩])
theorem Z2e:Q05 Tryz.prog Zmo:=Q0l drawn Q0j (.cons Zc1 (.cons Zj5 (.nil))) Tryz.func37 Tryz.call37 (λargs rows=>Q9b (argI args 0) (argI args 1) (argL .u32 args 2)) [.row 25 1 (.ints .u32)] [] 2
def Qk2(a:(List Int))(b:(List Int))(z:(Int)):Prop:=0<=z/\z<=a.length/\a.length=b.length
def Q54(a:(List Int))(b:(List Int))(z:(Int)):Nat:=(a.length-z).toNat
def Q90(a:(List Int))(b:(List Int)):Tree Bool:=
.br ((a.length:Int) !=(b.length:Int)) (.lf false) (.lp inferInstance (Q54 a b 0+1) ((((Els.Nil (Els.ints u32 a)\/rE (1:Nat))/\rE (a:List Int))/\((Els.Nil (Els.ints u32 b)\/rE (1:Nat))/\rE (b:List Int))/\rE (0:Int)/\True)/\True) 0 λ(v0:Int)=> .br (decide (v0<(a.length:Int))) (.cn (Nat.beq 1 1&&Nat.blt 0 1&&decide (0<=v0/\v0<(a.length:Int))) (.cn (Nat.beq 1 1&&Nat.blt 0 1&&decide (0<=v0/\v0<(b.length:Int))) (.br (a.getD v0.toNat 0 !=b.getD v0.toNat 0) (.lf (Sum.inr false)) (.nx ((((Els.Nil (Els.ints u32 a)\/rE (1:Nat))/\rE (a:List Int))/\((Els.Nil (Els.ints u32 b)\/rE (1:Nat))/\rE (b:List Int))/\rE ((wrap i64 (v0+1)):Int)/\True)/\True) (Sum.inl (wrap i64 (v0+1))))))) (.lf (Sum.inr true)))
def Qfu(a:(List Int))(b:(List Int)):Bool:=(Q90 a b).m
def Q3a(a:(List Int))(b:(List Int)):Prop:=
a.length<=1000000000000
theorem Qtg(a:(List Int))(b:(List Int))(hw:Q3a a b):(Q90 a b).p:=by
 simp only[Q3a]at hw
 unfold Tree.p Q90
 repeat'(first|refine w_lp (inv:=Qk2 a b) (μ:=Q54 a b) ?_ (Nat.lt_succ_self _) (λ_ _=> ?_)|exact trivial|refine w_br (λ_=> ?_) (λ_=> ?_)|refine w_cn ?_ ?_|refine w_an ?_ ?_|refine w_lv (λ_ _=> ?_)|refine w_nx ?_|refine w_lf ?_|refine And.intro ?_ ?_)
 all_goals((try simp only[Qk2,Q54]at*);exact fin0)
def Qwh:LInv:={
 α:=(Int)
 F:=λst a=>([(0,(lk st 0)),(1,(lk st 1)),(5, .int i64 a)],[])
 a0:=λst=>(lk st 5).toInt
 ex0:=λst=>[]++[]
 next:=λst=>(lk st 5).toInt
 ex:=λst=>[]++[]}
def Qsa:List (Nat×LInv):=[(4,Qwh)]
def Z0c:Q0d:=mkP 49 [] true [.one (.ints .u32), .one (.ints .u32)] [] (λargs rows=>Q3a (argL .u32 args 0) (argL .u32 args 1)) (λargs rows=>Qfu (argL .u32 args 0) (argL .u32 args 1)) (λX=> .bool X) (λX=>[])
theorem Qvc:Q05 Tryz.prog Z0c:=Q0l drawn Q0j (.nil) Tryz.func49 Tryz.call49 (λargs rows=>Q90 (argL .u32 args 0) (argL .u32 args 1)) [] Qsa 3 (hp:=λargs rows h=>Qtg (argL .u32 args 0) (argL .u32 args 1) h)
def Qd9(a:Q00)(b:Q00):Tree Bool:=
.br (eqs [D.int u32 a.B2.X.a0,D.int u32 a.B2.X.a1,D.int u32 a.B2.X.a2,D.int u32 a.B2.X.a3,D.int u32 a.B2.X.a4,D.int u32 a.B2.X.a5,D.int u32 a.B2.X.a6,D.int u32 a.B2.X.a7,D.int u32 a.B2.X.a8,D.int u32 a.B2.X.a9,D.int u32 a.B2.X.a10,D.int u32 a.B2.X.a11,D.int u32 a.B2.X.a12,D.int u32 a.B2.X.a13,D.int u32 a.B2.X.a14,D.int u32 a.B2.X.a15,D.int u32 a.B2.Pc,D.int u32 a.B2.B5.a0,D.int u32 a.B2.B5.a1,D.int u32 a.B2.B5.a2,D.int u32 a.B2.B5.a3,D.int u32 a.B2.B5.a4,D.int u32 a.B2.B5.a5,D.int u32 a.B2.B5.a6,D.int u32 a.B2.B5.a7] [D.int u32 b.B2.X.a0,D.int u32 b.B2.X.a1,D.int u32 b.B2.X.a2,D.int u32 b.B2.X.a3,D.int u32 b.B2.X.a4,D.int u32 b.B2.X.a5,D.int u32 b.B2.X.a6,D.int u32 b.B2.X.a7,D.int u32 b.B2.X.a8,D.int u32 b.B2.X.a9,D.int u32 b.B2.X.a10,D.int u32 b.B2.X.a11,D.int u32 b.B2.X.a12,D.int u32 b.B2.X.a13,D.int u32 b.B2.X.a14,D.int u32 b.B2.X.a15,D.int u32 b.B2.Pc,D.int u32 b.B2.B5.a0,D.int u32 b.B2.B5.a1,D.int u32 b.B2.B5.a2,D.int u32 b.B2.B5.a3,D.int u32 b.B2.B5.a4,D.int u32 b.B2.B5.a5,D.int u32 b.B2.B5.a6,D.int u32 b.B2.B5.a7]) (.an (Q3a a.Mem b.Mem) (.lv (Qfu a.Mem b.Mem) λ(x0:Bool)=> .br x0 (.br (eqs [D.str a.A6.D3] [D.str b.A6.D3]) (.br (eqs [D.bool a.B0.D1,D.int u32 a.B0.C7,D.bool a.B0.D5] [D.bool b.B0.D1,D.int u32 b.B0.C7,D.bool b.B0.D5]) (.br (eqs [D.int u32 a.B1.Blocks,D.int u32 a.B1.C1,D.int u32 a.B1.Frame,D.int i64 a.B1.C0,D.int i64 a.B1.D8,D.int u32 a.B1.B7,D.int u32 a.B1.B3,D.str a.B1.C3] [D.int u32 b.B1.Blocks,D.int u32 b.B1.C1,D.int u32 b.B1.Frame,D.int i64 b.B1.C0,D.int i64 b.B1.D8,D.int u32 b.B1.B7,D.int u32 b.B1.B3,D.str b.B1.C3]) (.br (eqs [D.int u32 a.C4.Frame,D.int u32 a.C4.E0,D.bool a.C4.C5,D.int u32 a.C4.B9,D.bool a.C4.B8,D.int u32 a.C4.F1] [D.int u32 b.C4.Frame,D.int u32 b.C4.E0,D.bool b.C4.C5,D.int u32 b.C4.B9,D.bool b.C4.B8,D.int u32 b.C4.F1]) (.br (eqs [D.int u32 a.A2.C8,D.int u32 a.A2.C2] [D.int u32 b.A2.C8,D.int u32 b.A2.C2]) (.br (a.A1==b.A1) (.br (a.A7==b.A7) (.lf (a.A9==b.A9)) (.lf false)) (.lf false)) (.lf false)) (.lf false)) (.lf false)) (.lf false)) (.lf false)) (.lf false))) (.lf false)
def Zd8(a:Q00)(b:Q00):Bool:=(Qd9 a b).m
abbrev Qn8(a:Q00)(b:Q00):Prop:=(Qd9 a b).p
def Zjx:Q0d:=mkP 19 [] true [.agg Q00.sig, .agg Q00.sig] [] (λargs rows=>Qn8 (Q00.of (aC args 0)) (Q00.of (aC args 1))) (λargs rows=>Zd8 (Q00.of (aC args 0)) (Q00.of (aC args 1))) (λX=> .bool X) (λX=>[])
theorem Zcw:Q05 Tryz.prog Zjx:=Q0l drawn Q0j (.cons Qvc (.nil)) Tryz.func19 Tryz.call19 (λargs rows=>Qd9 (Q00.of (aC args 0)) (Q00.of (aC args 1))) [] [] 2
def Q57(m:Q00):Tree Bool:=
.an (Qci m) (.lv (Q4m m) λ(x0:Bool)=> .br (!x0) (.lf false) (.an (Qaw m) (.lv (Q11 m) λ(x1:Q00)=> .an (Qkd x1.B2 x1.Mem) (.lv (Qbe x1.B2 x1.Mem) λ(x2:Q02×List Int×Q13)=> .br (x2.2.2.B6==1) (.lf (x2.2.2.D0==2)) (.lf false)))))
def Q4s(m:Q00):Bool:=(Q57 m).m
abbrev Q29(m:Q00):Prop:=(Q57 m).p
def Qqk:Q0d:=mkP 30 [] true [.agg Q00.sig] [] (λargs rows=>Q29 (Q00.of (aC args 0))) (λargs rows=>Q4s (Q00.of (aC args 0))) (λX=> .bool X) (λX=>[])
theorem Qoa:Q05 Tryz.prog Qqk:=Q0l drawn Q0j (.cons Qor (.cons Qnm (.cons Z4b (.nil)))) Tryz.func30 Tryz.call30 (λargs rows=>Q57 (Q00.of (aC args 0))) [] [] 2

import Derived.Test.YtjaifpiopmhmlaaGreatBareRunsBase
import Derived.Test.YtjaifpiopmhmlaaGreatBareRunsZd
import Derived.Test.YtjaifpiopmhmlaaGreatBareRunsYe
import Derived.Test.YtjaifpiopmhmlaaGreatBareRunsZa
import Derived.Test.YtjaifpiopmhmlaaGreatBareRunsZg
import Derived.Test.YtjaifpiopmhmlaaGreatBareRunsZc
import Derived.Test.YtjaifpiopmhmlaaGreatBareRunsYa
import Derived.Test.YtjaifpiopmhmlaaGreatBareRunsYd
import Derived.Test.YtjaifpiopmhmlaaGreatBareRunsYc
import Derived.Test.YtjaifpiopmhmlaaGreatBareRunsHand
set_option maxRecDepth 100000
set_option linter.all false
namespace Go.Proofs.YtjaifpiopmhmlaaGreat
open Go Go.GD Go.IntKind
noncomputable section
instance sumInhZi {α β:Type} [Inhabited β]:Inhabited (α⊕β):=⟨.inr default⟩
def Qr5(src:(List UInt8))(z:(Int)×(List Int)):Nat:=((Z04 src).2.1.length-z.1).toNat
def Qr8(src:(List UInt8))(v0:Int×List Int)(z:(Int)×(List Int)):Nat:=(1024-z.1).toNat
def Q8v(src:(List UInt8)):Tree ((List Int)×Q1e):=
.an (Qlz src) (.lv (Z04 src) λ(x0:List Q25×List Q0a×Q1e)=> .br (x0.2.2.Err !=0) (.lf ([],x0.2.2)) (.lp inferInstance (Qr5 src (0,[])+1) ((True/\rZ/\True/\True/\True/\rE (0:Int)/\True)/\(rE (0:Int)/\rE (0:Int)/\True)/\rE x0.1/\rE x0.2.1/\rE ([]:List Int)/\True) (0,[]) λ(v0:Int×List Int)=> .br (decide (v0.1<(x0.2.1.length:Int))) (.cn (Nat.beq 6 6&&Nat.blt 0 6&&decide (0<=v0.1/\v0.1<(x0.2.1.length:Int))) (let E4:=x0.2.1.getD v0.1.toNat (RK.dflt RK.vmfleetref1Statement);let T1:Tree ((Int×List Int)⊕(((List Int)×Q1e))):= .lp inferInstance (Qr8 src v0 (0,v0.2)+1) ((True/\rZ/\True/\True/\True/\rE v0.1/\rZ/\rE (0:Int)/\True)/\(rE (0:Int)/\rE (0:Int)/\True)/\rE x0.1/\rE x0.2.1/\(rE ((x0.2.1.getD v0.1.toNat (RK.dflt RK.vmfleetref1Statement)).what:List UInt8)/\rE ((x0.2.1.getD v0.1.toNat (RK.dflt RK.vmfleetref1Statement)).op:Int)/\((Els.Nil (D.toEs (List.getD (Els.get (Els.recs RK.vmfleetref1Statement x0.2.1) v0.1.toNat) ((0:Nat)+(1:Nat)+(1:Nat)) D.dead))\/rE (3:Nat))/\rE ((x0.2.1.getD v0.1.toNat (RK.dflt RK.vmfleetref1Statement)).l:List (RK.T RK.vmfleetref1Arg)))/\rE ((x0.2.1.getD v0.1.toNat (RK.dflt RK.vmfleetref1Statement)).D7:Int)/\rE ((x0.2.1.getD v0.1.toNat (RK.dflt RK.vmfleetref1Statement)).at_:Int)/\rE ((x0.2.1.getD v0.1.toNat (RK.dflt RK.vmfleetref1Statement)).size:Int)/\True)/\rE v0.2/\True) (0,v0.2) λ(v1:Int×List Int)=> .br (decide (v1.1<E4.size)) (.cn (decide (4*(v1.2.length+1)<=140737488355328)) (.nx ((True/\rZ/\True/\True/\True/\rE v0.1/\rZ/\rE ((wrap i64 (v1.1+1)):Int)/\True)/\(rE (0:Int)/\rE (0:Int)/\True)/\rE x0.1/\rE x0.2.1/\(rE ((x0.2.1.getD v0.1.toNat (RK.dflt RK.vmfleetref1Statement)).what:List UInt8)/\rE ((x0.2.1.getD v0.1.toNat (RK.dflt RK.vmfleetref1Statement)).op:Int)/\((Els.Nil (Els.recs RK.vmfleetref1Arg (x0.2.1.getD v0.1.toNat (RK.dflt RK.vmfleetref1Statement)).l)\/rE (3:Nat))/\rE ((x0.2.1.getD v0.1.toNat (RK.dflt RK.vmfleetref1Statement)).l:List (RK.T RK.vmfleetref1Arg)))/\rE ((x0.2.1.getD v0.1.toNat (RK.dflt RK.vmfleetref1Statement)).D7:Int)/\rE ((x0.2.1.getD v0.1.toNat (RK.dflt RK.vmfleetref1Statement)).at_:Int)/\rE ((x0.2.1.getD v0.1.toNat (RK.dflt RK.vmfleetref1Statement)).size:Int)/\True)/\rE ((v1.2++[0]):List Int)/\True) (Sum.inl (wrap i64 (v1.1+1),v1.2++[0])))) (.nx ((True/\rZ/\True/\True/\True/\rE ((wrap i64 (v0.1+1)):Int)/\True)/\(rE (0:Int)/\rE (0:Int)/\True)/\rE x0.1/\rE x0.2.1/\rE v1.2/\True) (Sum.inr (Sum.inl (wrap i64 (v0.1+1),v1.2))));let E5:=Nat.beq 3 3&&Nat.blt 0 3&&decide ((0:Int)<=(0:Int)/\0<(↑(List.length E4.l):Int));let E7:=List.getD E4.l (Int.toNat 0) (RK.dflt RK.vmfleetref1Arg);let E8:=decide (4*(v0.2.length+1)<=140737488355328);let T2:Tree ((Int×List Int)⊕(((List Int)×Q1e))):= .cn E5 (.cn (Nat.beq 3 3&&Nat.blt 0 3&&decide ((0:Int)<=(1:Int)/\1<(↑(List.length E4.l):Int))) (.lv (Q1h {Op:=16,A:=E7.reg,B:=(List.getD E4.l (Int.toNat 1) (RK.dflt RK.vmfleetref1Arg)).reg,C:=0,Imm:=0}) λ(x4:Int×Bool)=> .cn E8 (.nx ((True/\rZ/\True/\True/\True/\rE ((wrap i64 (v0.1+1)):Int)/\True)/\(rE (0:Int)/\rE (0:Int)/\True)/\rE x0.1/\rE x0.2.1/\rE ((v0.2++[x4.1]):List Int)/\True) (Sum.inl (wrap i64 (v0.1+1),v0.2++[x4.1])))));let T3:Tree ((Int×List Int)⊕(((List Int)×Q1e))):= .lv (Q1h {Op:=16,A:=0,B:=0,C:=0,Imm:=0}) λ(x5:Int×Bool)=> .cn E8 (.nx ((True/\rZ/\True/\True/\True/\rE ((wrap i64 (v0.1+1)):Int)/\True)/\(rE (0:Int)/\rE (0:Int)/\True)/\rE x0.1/\rE x0.2.1/\rE ((v0.2++[x5.1]):List Int)/\True) (Sum.inl (wrap i64 (v0.1+1),v0.2++[x5.1])));let E9:=decide (E4.what=[(46:UInt8),115,112,97,99,101]);let E10:=decide (E4.what=[(46:UInt8),119,111,114,100]);let E12:=decide (E4.what=[(110:UInt8),111,112]);let E13:=decide (4*(v0.2.length+2)<=140737488355328);let E14:=decide (E4.what=[(108:UInt8),105]);let E15:=decide (E4.what=[(109:UInt8),118]); .br (decide ((↑(List.length E4.l):Int)>(0:Int))) (.cn (Nat.beq 3 3&&Nat.blt 0 3&&decide (0<=wrap i64 ((↑(List.length E4.l):Int)-(1:Int))/\wrap i64 ((↑(List.length E4.l):Int)-(1:Int))<(↑(List.length E4.l):Int))) (let E6:=List.getD E4.l (Int.toNat (wrap i64 ((↑(List.length E4.l):Int)-(1:Int)))) (RK.dflt RK.vmfleetref1Arg); .br (!decide (E6.label=[])) (.an (Q3d x0.1 E6.label) (.lv (Qo x0.1 E6.label) λ(x1:Int×Bool)=> .br (!x1.2) (.lf (Sum.inr ([],{Err:=302,Line:=E4.D7}))) (.br (decide (E4.op>0)) (let E11:=wrap i64 (wrap i64 (Int.tdiv (wrap i64 x1.1) 4)-E4.at_); .br E10 (.cn E8 (.nx ((True/\rZ/\True/\True/\True/\rE ((wrap i64 (v0.1+1)):Int)/\True)/\(rE (0:Int)/\rE (0:Int)/\True)/\rE x0.1/\rE x0.2.1/\rE ((v0.2++[wrap u32 (wrap i64 (wrap i64 (Int.tdiv (wrap i64 x1.1) 4)-(x0.2.1.getD v0.1.toNat (RK.dflt RK.vmfleetref1Statement)).at_))]):List Int)/\True) (Sum.inl (wrap i64 (v0.1+1),v0.2++[wrap u32 E11])))) (.br E9 T1 (.br E14 (.cn E5 (.lv (Q1h {Op:=24,A:=E7.reg,B:=0,C:=0,Imm:=wrap i32 (ishr u32 (wrap u32 E11) 16)}) λ(x2:Int×Bool)=> .cn E5 (.cn E5 (.lv (Q1h {Op:=18,A:=E7.reg,B:=E7.reg,C:=0,Imm:=wrap i32 (iand u32 (wrap u32 E11) 65535)}) λ(x3:Int×Bool)=> .cn E13 (.nx ((True/\rZ/\True/\True/\True/\rE ((wrap i64 (v0.1+1)):Int)/\True)/\(rE (0:Int)/\rE (0:Int)/\True)/\rE x0.1/\rE x0.2.1/\rE ((v0.2++[x2.1,x3.1]):List Int)/\True) (Sum.inl (wrap i64 (v0.1+1),v0.2++[x2.1,x3.1]))))))) (.br E15 T2 (.br E12 T3 (.an (Q9y E4 E11) (.lv (Qoh E4 E11) λ(x6:Int×Bool)=> .br (!x6.2) (.lf (Sum.inr ([],{Err:=304,Line:=E4.D7}))) (.cn E8 (.nx ((True/\rZ/\True/\True/\True/\rE ((wrap i64 (v0.1+1)):Int)/\True)/\(rE (0:Int)/\rE (0:Int)/\True)/\rE x0.1/\rE x0.2.1/\rE ((v0.2++[x6.1]):List Int)/\True) (Sum.inl (wrap i64 (v0.1+1),v0.2++[x6.1]))))))))))) (.br E10 (.cn E8 (.nx ((True/\rZ/\True/\True/\True/\rE ((wrap i64 (v0.1+1)):Int)/\True)/\(rE (0:Int)/\rE (0:Int)/\True)/\rE x0.1/\rE x0.2.1/\rE ((v0.2++[wrap u32 (wrap i64 x1.1)]):List Int)/\True) (Sum.inl (wrap i64 (v0.1+1),v0.2++[wrap u32 (wrap i64 x1.1)])))) (.br E9 T1 (.br E14 (.cn E5 (.lv (Q1h {Op:=24,A:=E7.reg,B:=0,C:=0,Imm:=wrap i32 (ishr u32 (wrap u32 (wrap i64 x1.1)) 16)}) λ(x7:Int×Bool)=> .cn E5 (.cn E5 (.lv (Q1h {Op:=18,A:=E7.reg,B:=E7.reg,C:=0,Imm:=wrap i32 (iand u32 (wrap u32 (wrap i64 x1.1)) 65535)}) λ(x8:Int×Bool)=> .cn E13 (.nx ((True/\rZ/\True/\True/\True/\rE ((wrap i64 (v0.1+1)):Int)/\True)/\(rE (0:Int)/\rE (0:Int)/\True)/\rE x0.1/\rE x0.2.1/\rE ((v0.2++[x7.1,x8.1]):List Int)/\True) (Sum.inl (wrap i64 (v0.1+1),v0.2++[x7.1,x8.1]))))))) (.br E15 T2 (.br E12 T3 (.an (Q9y E4 (wrap i64 x1.1)) (.lv (Qoh E4 (wrap i64 x1.1)) λ(x11:Int×Bool)=> .br (!x11.2) (.lf (Sum.inr ([],{Err:=304,Line:=E4.D7}))) (.cn E8 (.nx ((True/\rZ/\True/\True/\True/\rE ((wrap i64 (v0.1+1)):Int)/\True)/\(rE (0:Int)/\rE (0:Int)/\True)/\rE x0.1/\rE x0.2.1/\rE ((v0.2++[x11.1]):List Int)/\True) (Sum.inl (wrap i64 (v0.1+1),v0.2++[x11.1])))))))))))))) (.br E10 (.cn E8 (.nx ((True/\rZ/\True/\True/\True/\rE ((wrap i64 (v0.1+1)):Int)/\True)/\(rE (0:Int)/\rE (0:Int)/\True)/\rE x0.1/\rE x0.2.1/\rE ((v0.2++[wrap u32 (List.getD (x0.2.1.getD v0.1.toNat (RK.dflt RK.vmfleetref1Statement)).l (Int.toNat (wrap i64 ((↑(List.length (x0.2.1.getD v0.1.toNat (RK.dflt RK.vmfleetref1Statement)).l):Int)-(1:Int)))) (RK.dflt RK.vmfleetref1Arg)).num]):List Int)/\True) (Sum.inl (wrap i64 (v0.1+1),v0.2++[wrap u32 E6.num])))) (.br E9 T1 (.br E14 (.cn E5 (.lv (Q1h {Op:=24,A:=E7.reg,B:=0,C:=0,Imm:=wrap i32 (ishr u32 (wrap u32 E6.num) 16)}) λ(x12:Int×Bool)=> .cn E5 (.cn E5 (.lv (Q1h {Op:=18,A:=E7.reg,B:=E7.reg,C:=0,Imm:=wrap i32 (iand u32 (wrap u32 E6.num) 65535)}) λ(x13:Int×Bool)=> .cn E13 (.nx ((True/\rZ/\True/\True/\True/\rE ((wrap i64 (v0.1+1)):Int)/\True)/\(rE (0:Int)/\rE (0:Int)/\True)/\rE x0.1/\rE x0.2.1/\rE ((v0.2++[x12.1,x13.1]):List Int)/\True) (Sum.inl (wrap i64 (v0.1+1),v0.2++[x12.1,x13.1]))))))) (.br E15 T2 (.br E12 T3 (.an (Q9y E4 E6.num) (.lv (Qoh E4 E6.num) λ(x16:Int×Bool)=> .br (!x16.2) (.lf (Sum.inr ([],{Err:=304,Line:=E4.D7}))) (.cn E8 (.nx ((True/\rZ/\True/\True/\True/\rE ((wrap i64 (v0.1+1)):Int)/\True)/\(rE (0:Int)/\rE (0:Int)/\True)/\rE x0.1/\rE x0.2.1/\rE ((v0.2++[x16.1]):List Int)/\True) (Sum.inl (wrap i64 (v0.1+1),v0.2++[x16.1]))))))))))))) (.br E10 (.cn E8 (.nx ((True/\rZ/\True/\True/\True/\rE ((wrap i64 (v0.1+1)):Int)/\True)/\(rE (0:Int)/\rE (0:Int)/\True)/\rE x0.1/\rE x0.2.1/\rE ((v0.2++[wrap u32 0]):List Int)/\True) (Sum.inl (wrap i64 (v0.1+1),v0.2++[wrap u32 0])))) (.br E9 T1 (.br E14 (.cn E5 (.lv (Q1h {Op:=24,A:=E7.reg,B:=0,C:=0,Imm:=wrap i32 (ishr u32 (wrap u32 0) 16)}) λ(x17:Int×Bool)=> .cn E5 (.cn E5 (.lv (Q1h {Op:=18,A:=E7.reg,B:=E7.reg,C:=0,Imm:=wrap i32 (iand u32 (wrap u32 0) 65535)}) λ(x18:Int×Bool)=> .cn E13 (.nx ((True/\rZ/\True/\True/\True/\rE ((wrap i64 (v0.1+1)):Int)/\True)/\(rE (0:Int)/\rE (0:Int)/\True)/\rE x0.1/\rE x0.2.1/\rE ((v0.2++[x17.1,x18.1]):List Int)/\True) (Sum.inl (wrap i64 (v0.1+1),v0.2++[x17.1,x18.1]))))))) (.br E15 T2 (.br E12 T3 (.an (Q9y E4 0) (.lv (Qoh E4 0) λ(x21:Int×Bool)=> .br (!x21.2) (.lf (Sum.inr ([],{Err:=304,Line:=E4.D7}))) (.cn E8 (.nx ((True/\rZ/\True/\True/\True/\rE ((wrap i64 (v0.1+1)):Int)/\True)/\(rE (0:Int)/\rE (0:Int)/\True)/\rE x0.1/\rE x0.2.1/\rE ((v0.2++[x21.1]):List Int)/\True) (Sum.inl (wrap i64 (v0.1+1),v0.2++[x21.1]))))))))))))) (.lf (Sum.inr (v0.2,{Err:=0,Line:=0})))))
def Q13(src:(List UInt8)):((List Int)×Q1e):=(Q8v src).m
abbrev Qa8(src:(List UInt8)):Prop:=(Q8v src).p
def Qxp:LInv:={
 α:=(Int)×(List Int)
 F:=λst a=>([(2,(lk st 2)),(3, .ptr 0 0 0),(4, .all 1),(5, .all 2),(7, .all 3),(8, .int i64 a.1)],[⟨true,95,2, .gen [[(cT st 3 0),(cT st 3 1)]]⟩,⟨false,216,2,esOf st.rows (rN st 4)⟩,⟨false,166,6,esOf st.rows (rN st 5)⟩,⟨false,23,1, .ints u32 a.2⟩])
 a0:=λst=>((lk st 8).toInt,(Q3e st.rows (rN st 7)))
 ex0:=λst=>[]++[(Q0o (lk st 3) (st.rows.length+0)),(Q0o (lk st 4) (st.rows.length+1)),(Q0o (lk st 5) (st.rows.length+2)),(Q0o (lk st 7) (st.rows.length+3))]
 next:=λst=>((lk st 8).toInt,(Q3e st.rows (rN st 7)))
 ex:=λst=>[]++[(Q0o (lk st 3) (st.rows.length+0)),(Q0o (lk st 4) (st.rows.length+1)),(Q0o (lk st 5) (st.rows.length+2)),(Q0o (lk st 7) (st.rows.length+3))]}
def Qxr:LInv:={
 α:=(Int)×(List Int)
 F:=λst a=>([(2,(lk st 2)),(3, .ptr 0 0 0),(4, .all 1),(5, .all 2),(7, .all 4),(8,(lk st 8)),(9, .ptr 3 0 0),(14, .int i64 a.1)],[⟨true,95,2, .gen [[(cT st 3 0),(cT st 3 1)]]⟩,⟨false,216,2,esOf st.rows (rN st 4)⟩,⟨false,166,6,esOf st.rows (rN st 5)⟩,⟨true,166,6, .gen [[(cT st 9 0),(cT st 9 1),(cT st 9 2),(cT st 9 3),(cT st 9 4),(cT st 9 5)]]⟩,⟨false,23,1, .ints u32 a.2⟩])
 a0:=λst=>((lk st 14).toInt,(Q3e st.rows (rN st 7)))
 ex0:=λst=>[]++[(Q0o (lk st 3) (st.rows.length+0)),(Q0o (lk st 4) (st.rows.length+1)),(Q0o (lk st 5) (st.rows.length+2)),(Q0o (lk st 9) (st.rows.length+3)),(Q0o (lk st 7) (st.rows.length+4))]
 next:=λst=>((lk st 14).toInt,(Q3e st.rows (rN st 7)))
 ex:=λst=>[]++[(Q0o (lk st 3) (st.rows.length+0)),(Q0o (lk st 4) (st.rows.length+1)),(Q0o (lk st 5) (st.rows.length+2)),(Q0o (lk st 9) (st.rows.length+3)),(Q0o (lk st 7) (st.rows.length+4))]}
def Qs6:List (Nat×LInv):=[(6,Qxp),(29,Qxr)]
def Z1a:Q0c:=mkP 55 [] true [.one (.str)] [] (λargs rows=>Qa8 (argS args 0)) (λargs rows=>Q13 (argS args 0)) (λX=> .tup [.all 0, .agg (Q1e.cells (X.2))]) (λX=>[⟨false,23,1, .ints .u32 (X.1)⟩])
theorem Qyf:Q06 Tryz.prog Z1a:=Q0n Q0j Q0l (.cons Zao (.cons Qob (.cons Qed (.cons Zav (.nil))))) Tryz.func55 Tryz.call55 (λargs rows=>Q8v (argS args 0)) [.row 23 1 (.ints .u32)] Qs6 3
end
noncomputable section
instance sumInhZh {α β:Type} [Inhabited β]:Inhabited (α⊕β):=⟨.inr default⟩
def Q3n(m:Q00):Tree Q01:=
.an (Q91 m) (.lv (Qgb m) λ(x0:Q00)=> .lf ({A0:=x0,B1:=0,C6:=[],A9:=[]}))
def Q3s(m:Q00):Q01:=(Q3n m).m
abbrev Qen(m:Q00):Prop:=(Q3n m).p
def Qqt:Q0c:=mkP 60 [] true [.agg Q00.sig] [] (λargs rows=>Qen (Q00.of (aC args 0))) (λargs rows=>Q3s (Q00.of (aC args 0))) (λX=> .agg (Q01.cellsW X (.all 0) (.all 1) (.all 2))) (λX=>[⟨false,23,1, .ints .u32 X.A0.Mem⟩,⟨false,72,4, .recs .apiEntry X.C6⟩,⟨false,70,3, .recs .apiEvent X.A9⟩])
theorem Qpo:Q06 Tryz.prog Qqt:=Q0n Q0j Q0l (.cons Qhd (.nil)) Tryz.func60 Tryz.call60 (λargs rows=>Q3n (Q00.of (aC args 0))) [.row 23 1 (.ints .u32), .row 72 4 (.recs .apiEntry), .row 70 3 (.recs .apiEvent)] [] 2
def Q7x(r:Q01)(n:Int):Tree (Q01×(List Q02)):=
.lv (Q35 n 3) λ(x0:Int)=> .br (Int.tmod x0 (3:Int)==(0:Int)) (.an (Qjl n) (.lv (Q3o n) λ(x1:Q0f)=> .an (Qmc r x1) (.lv (Q2n r x1) λ(x2:Q01×Bool)=> .lf (x2.1,[])))) (.an (Q1d (ishr i64 x0 4) 12) (.lv (Q1s (ishr i64 x0 4) 12) λ(x3:Int)=>let E1:=wrap u32 (iand i64 (ishr i64 x0 12) 255); .an (Qkf r x3 E1) (.lv (Qco r x3 E1) λ(x4:Q01×List Q02)=> .lf (x4.1,x4.2))))
def Q3h(r:Q01)(n:Int):(Q01×(List Q02)):=(Q7x r n).m
abbrev Qtz(r:Q01)(n:Int):Prop:=(Q7x r n).p
def Zi1:Q0c:=mkP 61 [] true [.agg Q01.sig, .one (.int .i64)] [] (λargs rows=>Qtz (Q01.of (aC args 0)) (argI args 1)) (λargs rows=>Q3h (Q01.of (aC args 0)) (argI args 1)) (λX=> .tup [.agg (Q01.cellsW (X.1) (.all 0) (.all 1) (.all 2)), .all 3]) (λX=>[⟨false,23,1, .ints .u32 (X.1).A0.Mem⟩,⟨false,72,4, .recs .apiEntry (X.1).C6⟩,⟨false,70,3, .recs .apiEvent (X.1).A9⟩,⟨false,63,4, .recs .apiOutput (X.2)⟩])
theorem Zc1:Q06 Tryz.prog Zi1:=Q0n Q0j Q0l (.cons Qli (.cons Z2f (.cons Qu (.cons Qy3 (.cons Qcq (.nil)))))) Tryz.func61 Tryz.call61 (λargs rows=>Q7x (Q01.of (aC args 0)) (argI args 1)) [.row 23 1 (.ints .u32), .row 72 4 (.recs .apiEntry), .row 70 3 (.recs .apiEvent), .row 63 4 (.recs .apiOutput)] [] 2
def Qid(m:Q00)(l:(List Int))(z:(Int)×Q01×(List Q02)):Nat:=(l.length-z.1).toNat
def Qbk(m:Q00)(l:(List Int)):Tree (Q01×(List Q02)):=
.an (Qen m) (.lv (Q3s m) λ(x0:Q01)=> .lp inferInstance (Qid m l (0,x0,[])+1) ((((Els.Nil (Els.ints i64 l)\/rE (1:Nat))/\rE (l:List Int))/\rZ/\rZ/\True/\rE (0:Int)/\True)/\(mE zM True (rE (0:Int)/\True/\True/\True))/\(mE x0.A0 True (rE x0.B1/\True/\True/\True))/\rE x0.A0.Mem/\rE x0.C6/\rE x0.A9/\rE ([]:List (RK.T RK.apiOutput))/\True) (0,x0,[]) λ(v0:Int×Q01×List Q02)=> .br (decide (v0.1<(l.length:Int))) (.cn (Nat.beq 1 1&&Nat.blt 0 1&&decide (0<=v0.1/\v0.1<(l.length:Int))) (.an (Qtz v0.2.1 (l.getD v0.1.toNat 0)) (.lv (Q3h v0.2.1 (l.getD v0.1.toNat 0)) λ(x1:Q01×List Q02)=> .cn (decide (40*(v0.2.2.length+x1.2.length)<=140737488355328)) (.nx ((((Els.Nil (Els.ints i64 l)\/rE (1:Nat))/\rE (l:List Int))/\rZ/\rZ/\True/\rE ((wrap i64 (v0.1+1)):Int)/\True)/\(mE zM True (rE (0:Int)/\True/\True/\True))/\(mE x1.1.A0 True (rE x1.1.B1/\True/\True/\True))/\rE x1.1.A0.Mem/\rE x1.1.C6/\rE x1.1.A9/\rE ((v0.2.2++x1.2):List (RK.T RK.apiOutput))/\True) (Sum.inl (wrap i64 (v0.1+1),x1.1,v0.2.2++x1.2)))))) (.lf (Sum.inr (v0.2.1,v0.2.2))))
def Qs1(m:Q00)(l:(List Int)):(Q01×(List Q02)):=(Qbk m l).m
abbrev Qm9(m:Q00)(l:(List Int)):Prop:=(Qbk m l).p
def Zb5:LInv:={
 α:=(Int)×Q01×(List Q02)
 F:=λst a=>([(1,(lk st 1)),(4, .ptr 0 0 0),(6, .ptr 1 0 0),(7, .all 5),(8, .int i64 a.1)],[⟨true,49,52, .gen [[(cT st 4 0),(cT st 4 1),(cT st 4 2),(cT st 4 3),(cT st 4 4),(cT st 4 5),(cT st 4 6),(cT st 4 7),(cT st 4 8),(cT st 4 9),(cT st 4 10),(cT st 4 11),(cT st 4 12),(cT st 4 13),(cT st 4 14),(cT st 4 15),(cT st 4 16),(cT st 4 17),(cT st 4 18),(cT st 4 19),(cT st 4 20),(cT st 4 21),(cT st 4 22),(cT st 4 23),(cT st 4 24),(cT st 4 25),(cT st 4 26),(cT st 4 27),(cT st 4 28),(cT st 4 29),(cT st 4 30),(cT st 4 31),(cT st 4 32),(cT st 4 33),(cT st 4 34),(cT st 4 35),(cT st 4 36),(cT st 4 37),(cT st 4 38),(cT st 4 39),(cT st 4 40),(cT st 4 41),(cT st 4 42),(cT st 4 43),(cT st 4 44),(cT st 4 45),(cT st 4 46),(cT st 4 47),(cT st 4 48),(cT st 4 49),(cT st 4 50),(cT st 4 51)]]⟩,⟨true,49,52, .gen [[.int u32 a.2.1.A0.B2.X.a0, .int u32 a.2.1.A0.B2.X.a1, .int u32 a.2.1.A0.B2.X.a2, .int u32 a.2.1.A0.B2.X.a3, .int u32 a.2.1.A0.B2.X.a4, .int u32 a.2.1.A0.B2.X.a5, .int u32 a.2.1.A0.B2.X.a6, .int u32 a.2.1.A0.B2.X.a7, .int u32 a.2.1.A0.B2.X.a8, .int u32 a.2.1.A0.B2.X.a9, .int u32 a.2.1.A0.B2.X.a10, .int u32 a.2.1.A0.B2.X.a11, .int u32 a.2.1.A0.B2.X.a12, .int u32 a.2.1.A0.B2.X.a13, .int u32 a.2.1.A0.B2.X.a14, .int u32 a.2.1.A0.B2.X.a15, .int u32 a.2.1.A0.B2.Pc, .int u32 a.2.1.A0.B2.B5.a0, .int u32 a.2.1.A0.B2.B5.a1, .int u32 a.2.1.A0.B2.B5.a2, .int u32 a.2.1.A0.B2.B5.a3, .int u32 a.2.1.A0.B2.B5.a4, .int u32 a.2.1.A0.B2.B5.a5, .int u32 a.2.1.A0.B2.B5.a6, .int u32 a.2.1.A0.B2.B5.a7, .all 2, .str a.2.1.A0.A3.D3, .bool a.2.1.A0.A7.D2, .int u32 a.2.1.A0.A7.C8, .bool a.2.1.A0.A7.D5, .int u32 a.2.1.A0.B0.Blocks, .int u32 a.2.1.A0.B0.B9, .int u32 a.2.1.A0.B0.B4, .int i64 a.2.1.A0.B0.C1, .int i64 a.2.1.A0.B0.D8, .int u32 a.2.1.A0.B0.B6, .int u32 a.2.1.A0.B0.B3, .str a.2.1.A0.B0.C3, .int u32 a.2.1.A0.C0.B4, .int u32 a.2.1.A0.C0.F0, .bool a.2.1.A0.C0.C7, .int u32 a.2.1.A0.C0.C2, .bool a.2.1.A0.C0.B8, .int u32 a.2.1.A0.C0.F3, .int u32 a.2.1.A0.A2.C9, .int u32 a.2.1.A0.A2.C5, .int u64 a.2.1.A0.A1, .bool a.2.1.A0.A4, .bool a.2.1.A0.A6, .int u32 a.2.1.B1, .all 3, .all 4]]⟩,⟨false,23,1, .ints u32 a.2.1.A0.Mem⟩,⟨false,72,4, .recs RK.apiEntry a.2.1.C6⟩,⟨false,70,3, .recs RK.apiEvent a.2.1.A9⟩,⟨false,63,4, .recs RK.apiOutput a.2.2⟩])
 a0:=λst=>((lk st 8).toInt,(⟨(mR (cT st 6) (Q3e st.rows (Q0o (cT st 6 25) 1000000))),(cT st 6 49).toInt,(Q3x RK.apiEntry st.rows (Q0o (cT st 6 50) 1000000)),(Q3x RK.apiEvent st.rows (Q0o (cT st 6 51) 1000000))⟩:Q01),(Q3x RK.apiOutput st.rows (rN st 7)))
 ex0:=λst=>[]++[(Q0o (lk st 4) (st.rows.length+0)),(Q0o (lk st 6) (st.rows.length+1)),(Q0o (cT st 6 25) (st.rows.length+2)),(Q0o (cT st 6 50) (st.rows.length+3)),(Q0o (cT st 6 51) (st.rows.length+4)),(Q0o (lk st 7) (st.rows.length+5))]
 next:=λst=>((lk st 8).toInt,(⟨(mR (cT st 6) (Q3e st.rows (Q0o (cT st 6 25) 1000000))),(cT st 6 49).toInt,(Q3x RK.apiEntry st.rows (Q0o (cT st 6 50) 1000000)),(Q3x RK.apiEvent st.rows (Q0o (cT st 6 51) 1000000))⟩:Q01),(Q3x RK.apiOutput st.rows (rN st 7)))
 ex:=λst=>[]++[(Q0o (lk st 4) (st.rows.length+0)),(Q0o (lk st 6) (st.rows.length+1)),(Q0o (cT st 6 25) (st.rows.length+2)),(Q0o (cT st 6 50) (st.rows.length+3)),(Q0o (cT st 6 51) (st.rows.length+4)),(Q0o (lk st 7) (st.rows.length+5))]}
def Z3q:List (Nat×LInv):=[(4,Zb5)]
def Zfc:Q0c:=mkP 18 [] true [.agg Q00.sig, .one (.ints .i64)] [] (λargs rows=>Qm9 (Q00.of (aC args 0)) (argL .i64 args 1)) (λargs rows=>Qs1 (Q00.of (aC args 0)) (argL .i64 args 1)) (λX=> .tup [.agg (Q01.cellsW (X.1) (.all 0) (.all 1) (.all 2)), .all 3]) (λX=>[⟨false,23,1, .ints .u32 (X.1).A0.Mem⟩,⟨false,72,4, .recs .apiEntry (X.1).C6⟩,⟨false,70,3, .recs .apiEvent (X.1).A9⟩,⟨false,63,4, .recs .apiOutput (X.2)⟩])
theorem Zdj:Q06 Tryz.prog Zfc:=Q0n Q0j Q0l (.cons Qpo (.cons Zc1 (.nil))) Tryz.func18 Tryz.call18 (λargs rows=>Qbk (Q00.of (aC args 0)) (argL .i64 args 1)) [.row 23 1 (.ints .u32), .row 72 4 (.recs .apiEntry), .row 70 3 (.recs .apiEvent), .row 63 4 (.recs .apiOutput)] Z3q 3
end
noncomputable section
def tblZe0:List UInt8:=[(105:UInt8),32,114,49,44,32,104,97,110,100,108,101,114,10,99,115,114,119,32,114,49,44,32,49,10,108,105,32,114,49,44,32,51,49,10,99,115,114,119,32,114]
def Z70:List UInt8:=[(49:UInt8),44,32,55,10,108,105,32,114,49,44,32,52,10,99,115,114,119,32,114,49,44,32,54,10,108,105,32,114,50,44,32,53,49,50,10,108,105,32,114,51,44]
def Z6q:List UInt8:=[(32:UInt8),48,10,108,105,32,114,52,44,32,56,10,109,97,112,58,32,115,104,108,105,32,114,53,44,32,114,51,44,32,56,10,111,114,105,32,114,53,44,32,114,53]
def Z59:List UInt8:=[(44:UInt8),32,55,10,115,104,108,105,32,114,54,44,32,114,51,44,32,50,10,97,100,100,32,114,54,44,32,114,54,44,32,114,50,10,115,119,32,114,53,44,32,48,40]
def Z6t:List UInt8:=[(114:UInt8),54,41,10,97,100,100,105,32,114,51,44,32,114,51,44,32,49,10,98,108,116,32,114,51,44,32,114,52,44,32,109,97,112,10,108,105,32,114,49,44,32]
def Z5g:List UInt8:=[(54:UInt8),10,111,117,116,32,114,49,44,32,55,10,108,105,32,114,49,44,32,50,10,111,117,116,32,114,49,44,32,57,10,108,105,32,114,49,44,32,49,48,48,10,111]
def Z5i:List UInt8:=[(117:UInt8),116,32,114,49,44,32,51,10,108,105,32,114,49,44,32,54,52,48,10,99,115,114,119,32,114,49,44,32,50,10,108,105,32,114,49,44,32,50,49,10,99]
def Z5o:List UInt8:=[(115:UInt8),114,119,32,114,49,44,32,48,10,101,114,101,116,10,104,97,110,100,108,101,114,58,32,99,115,114,119,32,114,49,44,32,53,10,99,115,114,114,32,114,49,44]
def Z7:List UInt8:=[(32:UInt8),51,10,115,108,116,105,32,114,49,44,32,114,49,44,32,49,54,10,98,101,113,32,114,49,44,32,114,48,44,32,105,114,113,10,99,115,114,114,32,114,49]
def Z6:List UInt8:=[(44:UInt8),32,50,10,97,100,100,105,32,114,49,44,32,114,49,44,32,52,10,99,115,114,119,32,114,49,44,32,50,10,105,110,32,114,51,44,32,50,10,111,117,116]
def Qvt:List UInt8:=[(32:UInt8),114,51,44,32,48,10,108,105,32,114,49,44,32,49,10,111,117,116,32,114,49,44,32,52,10,108,105,32,114,49,44,32,55,10,111,117,116,32,114,49,44]
def Qw3:List UInt8:=[(32:UInt8),53,10,97,110,100,105,32,114,49,44,32,114,50,44,32,49,10,97,100,100,105,32,114,49,44,32,114,49,44,32,49,10,111,117,116,32,114,49,44,32,54,10]
def Qu9:List UInt8:=[(99:UInt8),115,114,114,32,114,49,44,32,53,10,101,114,101,116,10,105,114,113,58,32,105,110,32,114,49,44,32,48,10,111,117,116,32,114,49,44,32,48,10,111,117]
def Qun:List UInt8:=[(116:UInt8),32,114,48,44,32,54,10,111,117,116,32,114,48,44,32,57,10,108,105,32,114,49,44,32,54,10,111,117,116,32,114,49,44,32,55,10,108,105,32,114,49,44]
def Qv:List UInt8:=[(32:UInt8),50,10,111,117,116,32,114,49,44,32,57,10,105,110,32,114,49,44,32,50,10,97,100,100,105,32,114,49,44,32,114,49,44,32,50,48,10,111,117,116,32]
def Qvm:List UInt8:=[(114:UInt8),49,44,32,51,10,105,110,32,114,49,44,32,49,48,10,111,117,116,32,114,49,44,32,49,48,10,99,115,114,114,32,114,49,44,32,53,10,101,114,101,116,10]
def Za8:List UInt8:=[(108:UInt8),105,32,114,49,44,32,104,97,110,100,108,101,114,10,99,115,114,119,32,114,49,44,32,49,10,108,105,32,114,49,44,32,51,49,10,99,115,114,119,32,114]
instance sumInhZe {α β:Type} [Inhabited β]:Inhabited (α⊕β):=⟨.inr default⟩
def Qk6(l:(List Q0h))(z:(Int)):Prop:=1<=z/\(z<=l.length\/z=1)
def Q4i(l:(List Q0h))(z:(Int)):Nat:=(l.length-z).toNat
def Q87(l:(List Q0h)):Tree Bool:=
.lp inferInstance (Q4i l 1+1) ((nR RK.apiEntry 4 l/\rE (1:Int)/\True)/\True) 1 λ(v0:Int)=> .br (decide (v0<(l.length:Int))) (let E4:=Nat.beq 4 4&&Nat.blt 0 4&&decide (0<=v0/\v0<(l.length:Int)); .cn E4 (let E2:=Nat.beq 4 4&&Nat.blt 0 4&&decide (0<=wrap i64 (v0-1)/\wrap i64 (v0-1)<(l.length:Int)); .cn E2 (let E3:=l.getD (Int.toNat (wrap i64 (v0-1))) (RK.dflt RK.apiEntry);let E5:=l.getD v0.toNat (RK.dflt RK.apiEntry); .br (decide (E5.At<E3.At)) (.lf (Sum.inr false)) (.cn E4 (.cn E2 (let T1:Tree ((Int)⊕(Bool)):= .nx ((nR RK.apiEntry 4 l/\rE ((wrap i64 (v0+1)):Int)/\True)/\True) (Sum.inl (wrap i64 (v0+1))); .br (E5.At==E3.At) (.cn E2 (.br (E3.C4.B7==1) (.lf (Sum.inr false)) T1)) T1)))))) (.lf (Sum.inr true))
def Q78(l:(List Q0h)):Bool:=(Q87 l).m
def Q27(l:(List Q0h)):Prop:=
l.length<=1000000000000
theorem Qxw(l:(List Q0h))(hw:Q27 l):(Q87 l).p:=by
 simp only[Q27]at hw
 unfold Tree.p Q87
 repeat'(first|refine w_lp (inv:=Qk6 l) (μ:=Q4i l) ?_ (Nat.lt_succ_self _) (λ_ _=> ?_)|exact trivial|refine w_br (λ_=> ?_) (λ_=> ?_)|refine w_cn ?_ ?_|refine w_an ?_ ?_|refine w_lv (λ_ _=> ?_)|refine w_nx ?_|refine w_lf ?_|refine And.intro ?_ ?_)
 all_goals((try simp only[Qk6,Q4i]at*);exact fin0)
def Z0c:LInv:={
 α:=(Int)
 F:=λst a=>([(0,(lk st 0)),(3, .int i64 a)],[])
 a0:=λst=>(lk st 3).toInt
 ex0:=λst=>[]++[]
 next:=λst=>(lk st 3).toInt
 ex:=λst=>[]++[]}
def Qv9:List (Nat×LInv):=[(2,Z0c)]
def Z4y:Q0c:=mkP 24 [] true [.one (.recs .apiEntry)] [] (λargs rows=>Q27 (argR .apiEntry args 0)) (λargs rows=>Q78 (argR .apiEntry args 0)) (λX=> .bool X) (λX=>[])
theorem Qhe:Q06 Tryz.prog Z4y:=Q0n Q0j Q0l (.nil) Tryz.func24 Tryz.call24 (λargs rows=>Q87 (argR .apiEntry args 0)) [] Qv9 3 (hp:=λargs rows h=>Qxw (argR .apiEntry args 0) h)
def Qfg(m:Q00)(script:(List Q0h))(until0:Int)(z:Q00×(List Q02)):Nat:=(until0-z.1.A1).toNat
def Qfx(m:Q00)(script:(List Q0h))(until0:Int)(v0:Q00×List Q02)(z:Unit):Nat:=0
def Q8u(m:Q00)(script:(List Q0h))(until0:Int):Tree (Q00×(List Q02)×Int×Int):=
.lv (Q41 m) λ(x0:Bool)=>let E2:=({B2:={X:={a0:=0,a1:=0,a2:=0,a3:=0,a4:=0,a5:=0,a6:=0,a7:=0,a8:=0,a9:=0,a10:=0,a11:=0,a12:=0,a13:=0,a14:=0,a15:=0},Pc:=0,B5:={a0:=0,a1:=0,a2:=0,a3:=0,a4:=0,a5:=0,a6:=0,a7:=0}},Mem:=[],A3:={D3:=[]},A7:={D2:=false,C8:=0,D5:=false},B0:={Blocks:=0,B9:=0,B4:=0,C1:=0,D8:=0,B6:=0,B3:=0,C3:=[]},C0:={B4:=0,F0:=0,C7:=false,C2:=0,B8:=false,F3:=0},A2:={C9:=0,C5:=0},A1:=0,A4:=false,A6:=false}:Q00);let T1:Tree ((Q00×(List Q02)×Int×Int)):= .lf (E2,[],0,1300); .br (!x0) T1 (.br (decide (until0<m.A1)) T1 (.br (decide (wrap u64 (until0-m.A1)>4000)) T1 (.an (Q27 []) (.lv (Q78 []) λ(x1:Bool)=> .br (!x1) (.lf (E2,[],0,1301)) (.an (Q91 m) (.lv (Qgb m) λ(x2:Q00)=> .lp inferInstance (Qfg m script until0 (x2,[])+1) ((((Els.Nil (Els.gen [])\/rE (0:Nat))/\rE ([]:List (List D)))/\rE (until0:Int)/\rZ/\rZ/\True/\rE (0:Int)/\True)/\(mE x2 True True)/\rE x2.Mem/\(mE zM True True)/\rE ([]:List (RK.T RK.apiOutput))/\True) (x2,[]) λ(v0:Q00×List Q02)=> .br (decide (v0.1.A1<until0)) (.br (decide (v0.1.A1<1152921504606846976)) (.lp inferInstance (Qfx m script until0 v0 ()+1) ((((Els.Nil (Els.gen [])\/rE (0:Nat))/\rE ([]:List (List D)))/\rE (until0:Int)/\rZ/\rZ/\True/\rE (0:Int)/\(rE (0:Nat)/\rE (46:Nat))/\rE v0.1.A1/\rE ((decide (v0.1.A1<1152921504606846976)):Bool)/\True)/\(mE v0.1 True True)/\rE v0.1.Mem/\(mE zM True True)/\rE v0.2/\True) () λ(v1:PUnit)=> .br v0.1.A6 (.lf (Sum.inr (Sum.inr (v0.1,v0.2,0,0)))) (.an (Qgn v0.1) (.lv (Q36 v0.1) λ(x3:Bool)=> .br x3 (.lf (Sum.inr (Sum.inr (v0.1,v0.2,0,0)))) (.an (Qaw v0.1) (.lv (Q18 v0.1) λ(x4:Bool)=> .br (!false==x4) (.lf (Sum.inr (Sum.inr (E2,[],0,1302)))) (.an (Q81 v0.1 0) (.lv (Q05 v0.1 0) λ(x5:List Q02×Q00)=> .cn (decide (40*(v0.2.length+x5.1.length)<=140737488355328)) (.nx ((((Els.Nil (Els.gen [])\/rE (0:Nat))/\rE ([]:List (List D)))/\rE (until0:Int)/\rZ/\rZ/\True/\rE (0:Int)/\True)/\(mE x5.2 True True)/\rE x5.2.Mem/\(mE zM True True)/\rE ((v0.2++x5.1):List (RK.T RK.apiOutput))/\True) (Sum.inr (Sum.inl (x5.2,v0.2++x5.1))))))))))) (.lf (Sum.inr (v0.1,v0.2,0,0)))) (.lf (Sum.inr (v0.1,v0.2,0,0)))))))))
def Qd7(m:Q00)(script:(List Q0h))(until0:Int):(Q00×(List Q02)×Int×Int):=(Q8u m script until0).m
abbrev Qap(m:Q00)(script:(List Q0h))(until0:Int):Prop:=(Q8u m script until0).p
def Z7e:LInv:={
 α:=Q00×(List Q02)
 F:=λst a=>([(1,(lk st 1)),(2,(lk st 2)),(3, .ptr 0 0 0),(6, .ptr 2 0 0),(10, .all 3),(11,(lk st 11))],[⟨true,41,49, .gen [mD a.1 (.all 1)]⟩,⟨false,23,1, .ints u32 a.1.Mem⟩,⟨true,41,49, .gen [mB (cT st 6)]⟩,⟨false,63,4, .recs RK.apiOutput a.2⟩])
 a0:=λst=>((mR (cT st 3) (Q3e st.rows (Q0o (cT st 3 25) 1000000))),(Q3x RK.apiOutput st.rows (rN st 10)))
 ex0:=λst=>[]++[(Q0o (lk st 3) (st.rows.length+0)),(Q0o (cT st 3 25) (st.rows.length+1)),(Q0o (lk st 6) (st.rows.length+2)),(Q0o (lk st 10) (st.rows.length+3))]
 next:=λst=>((mR (cT st 3) (Q3e st.rows (Q0o (cT st 3 25) 1000000))),(Q3x RK.apiOutput st.rows (rN st 10)))
 ex:=λst=>[]++[(Q0o (lk st 3) (st.rows.length+0)),(Q0o (cT st 3 25) (st.rows.length+1)),(Q0o (lk st 6) (st.rows.length+2)),(Q0o (lk st 10) (st.rows.length+3))]}
def Za7:LInv:={
 α:=Unit
 F:=λst a=>([(1,(lk st 1)),(2,(lk st 2)),(3, .ptr 0 0 0),(6, .ptr 2 0 0),(10, .all 3),(11,(lk st 11)),(61, .ptr 0 0 46),(62,(lk st 62)),(63,(lk st 63))],[⟨true,41,49, .gen [[(cT st 3 0),(cT st 3 1),(cT st 3 2),(cT st 3 3),(cT st 3 4),(cT st 3 5),(cT st 3 6),(cT st 3 7),(cT st 3 8),(cT st 3 9),(cT st 3 10),(cT st 3 11),(cT st 3 12),(cT st 3 13),(cT st 3 14),(cT st 3 15),(cT st 3 16),(cT st 3 17),(cT st 3 18),(cT st 3 19),(cT st 3 20),(cT st 3 21),(cT st 3 22),(cT st 3 23),(cT st 3 24), .all 1,(cT st 3 26),(cT st 3 27),(cT st 3 28),(cT st 3 29),(cT st 3 30),(cT st 3 31),(cT st 3 32),(cT st 3 33),(cT st 3 34),(cT st 3 35),(cT st 3 36),(cT st 3 37),(cT st 3 38),(cT st 3 39),(cT st 3 40),(cT st 3 41),(cT st 3 42),(cT st 3 43),(cT st 3 44),(cT st 3 45),(cT st 3 46),(cT st 3 47),(cT st 3 48)]]⟩,⟨false,23,1,esOf st.rows (Q0o (cT st 3 25) 1000000)⟩,⟨true,41,49, .gen [mB (cT st 6)]⟩,⟨false,63,4,esOf st.rows (rN st 10)⟩])
 a0:=λst=>()
 ex0:=λst=>[]++[(Q0o (lk st 3) (st.rows.length+0)),(Q0o (cT st 3 25) (st.rows.length+1)),(Q0o (lk st 6) (st.rows.length+2)),(Q0o (lk st 10) (st.rows.length+3))]
 next:=λst=>()
 ex:=λst=>[]++[(Q0o (lk st 3) (st.rows.length+0)),(Q0o (cT st 3 25) (st.rows.length+1)),(Q0o (lk st 6) (st.rows.length+2)),(Q0o (lk st 10) (st.rows.length+3))]}
def Z2q:List (Nat×LInv):=[(8,Z7e),(9,Za7)]
def Zem:Q0c:=mkP 22 [] true [.agg Q00.sig, .one .nil, .one (.int .u64)] [] (λargs rows=>Qap (Q00.of (aC args 0)) (argR .apiEntry args 1) (argI args 2)) (λargs rows=>Qd7 (Q00.of (aC args 0)) (argR .apiEntry args 1) (argI args 2)) (λX=> .tup [.agg (Q00.cellsW (X.1) (.all 0)), .all 1, .int .i64 (X.2.2.1), .int .i64 (X.2.2.2)]) (λX=>[⟨false,23,1, .ints .u32 (X.1).Mem⟩,⟨false,63,4, .recs .apiOutput (X.2.1)⟩])
theorem Zam:Q06 Tryz.prog Zem:=Q0n Q0j Q0l (.cons Ql8 (.cons Qhe (.cons Qhd (.cons Qt7 (.cons Qno (.cons Qlq (.cons Qni (.nil)))))))) Tryz.func22 Tryz.call22 (λargs rows=>Q8u (Q00.of (aC args 0)) (argR .apiEntry args 1) (argI args 2)) [.row 23 1 (.ints .u32), .row 63 4 (.recs .apiOutput)] Z2q 3
def Qce(kind:Int)(l:(List Int))(z:(List Int)):Nat:=160-z.length
def Q6m(kind:Int)(l:(List Int)):Tree Q00:=
.an (Q1d kind 3) (.lv (Q1s kind 3) λ(x0:Int)=> .br (decide (x0<2)) (.an (Qa8 ((108:UInt8)::(tblZe0++Z70++(Z6q++Z59)++(Z6t++Z5g++(Z5i++Z5o))++(Z7++Z6++(Qvt++Qw3)++(Qu9++Qun++(Qv++Qvm)))))) (.lv (Q13 (List.append (List.append (List.append (List.append Za8 Z70) (List.append Z6q Z59)) (List.append (List.append Z6t Z5g) (List.append Z5i Z5o))) (List.append (List.append (List.append Z7 Z6) (List.append Qvt Qw3)) (List.append (List.append Qu9 Qun) (List.append Qv Qvm))))) λ(x1:List Int×Q1e)=> .lp inferInstance (Qce kind l x1.1+1) ((rE (x0:Int)/\((Els.Nil (Els.ints i64 l)\/rE (1:Nat))/\rE (l:List Int))/\rZ/\True/\True)/\(mE zM True True)/\rE x1.1/\True) x1.1 λ(v0:List Int)=> .br (decide ((v0.length:Int)<(160:Int))) (.cn (decide (4*(v0.length+1)<=140737488355328)) (.nx ((rE (x0:Int)/\((Els.Nil (Els.ints i64 l)\/rE (1:Nat))/\rE (l:List Int))/\rZ/\True/\True)/\(mE zM True True)/\rE ((v0++[0]):List Int)/\True) (Sum.inl (v0++[0])))) (.an (Qlr l) (.lv (Qo2 l) λ(x2:List Int)=> .cn (decide (4*(v0.length+x2.length)<=140737488355328)) (.br (decide ((↑(List.length (v0++x2)):Int)>(256:Int))) (.cn (Nat.beq 1 1&&Nat.blt 0 1&&decide ((0:Int)<=(0:Int)/\(0:Int)<=(256:Int)/\256<=(↑(List.length (v0++x2)):Int))) (let E1:=List.take (Int.toNat 256-Int.toNat 0) (List.drop (Int.toNat 0) (v0++x2)); .an (Q9e 8 4 E1) (.lv (Q1x 8 4 E1) λ(x3:Q00×Bool)=> .br (x0==1) (.an (Qap x3.1 [] 87) (.lv (Qd7 x3.1 [] 87) λ(x4:Q00×List Q02×Int×Int)=> .lf (Sum.inr x4.1))) (.lf (Sum.inr x3.1))))) (.an (Q9e 8 4 (v0++x2)) (.lv (Q1x 8 4 (v0++x2)) λ(x5:Q00×Bool)=> .br (x0==1) (.an (Qap x5.1 [] 87) (.lv (Qd7 x5.1 [] 87) λ(x6:Q00×List Q02×Int×Int)=> .lf (Sum.inr x6.1))) (.lf (Sum.inr x5.1))))))))) (.an (Qlr l) (.lv (Qo2 l) λ(x7:List Int)=> .cn (decide (4*(0+x7.length)<=140737488355328)) (.br (decide ((x7.length:Int)>(256:Int))) (.cn (Nat.beq 1 1&&Nat.blt 0 1&&decide ((0:Int)<=(0:Int)/\(0:Int)<=(256:Int)/\256<=(x7.length:Int))) (let E2:=List.take (Int.toNat 256-Int.toNat 0) (List.drop (Int.toNat 0) x7); .an (Q9e 8 4 E2) (.lv (Q1x 8 4 E2) λ(x8:Q00×Bool)=> .br (x0==1) (.an (Qap x8.1 [] 87) (.lv (Qd7 x8.1 [] 87) λ(x9:Q00×List Q02×Int×Int)=> .lf x9.1)) (.lf x8.1)))) (.an (Q9e 8 4 x7) (.lv (Q1x 8 4 x7) λ(x10:Q00×Bool)=> .br (x0==1) (.an (Qap x10.1 [] 87) (.lv (Qd7 x10.1 [] 87) λ(x11:Q00×List Q02×Int×Int)=> .lf x11.1)) (.lf x10.1)))))))
def Qbp(kind:Int)(l:(List Int)):Q00:=(Q6m kind l).m
abbrev Qfr(kind:Int)(l:(List Int)):Prop:=(Q6m kind l).p
def Z1f:LInv:={
 α:=(List Int)
 F:=λst a=>([(0,(lk st 0)),(1,(lk st 1)),(4, .ptr 0 0 0),(5, .all 1)],[⟨true,41,49, .gen [mB (cT st 4)]⟩,⟨false,23,1, .ints u32 a⟩])
 a0:=λst=>(Q3e st.rows (rN st 5))
 ex0:=λst=>[]++[(Q0o (lk st 4) (st.rows.length+0)),(Q0o (lk st 5) (st.rows.length+1))]
 next:=λst=>(Q3e st.rows (rN st 5))
 ex:=λst=>[]++[(Q0o (lk st 4) (st.rows.length+0)),(Q0o (lk st 5) (st.rows.length+1))]}
def Qvw:List (Nat×LInv):=[(5,Z1f)]
def Z3g:Q0c:=mkP 17 [] true [.one (.int .i64), .one (.ints .i64)] [] (λargs rows=>Qfr (argI args 0) (argL .i64 args 1)) (λargs rows=>Qbp (argI args 0) (argL .i64 args 1)) (λX=> .agg (Q00.cellsW X (.all 0))) (λX=>[⟨false,23,1, .ints .u32 X.Mem⟩])
theorem Z14:Q06 Tryz.prog Z3g:=Q0n Q0j Q0l (.cons Qcq (.cons Qyf (.cons Zco (.cons Z1z (.cons Zam (.nil)))))) Tryz.func17 Tryz.call17 (λargs rows=>Q6m (argI args 0) (argL .i64 args 1)) [.row 23 1 (.ints .u32)] Qvw 3
end
noncomputable section
def Quf(l:(List Int))(acts:(List Int)):Tree Bool:=
.br (decide ((l.length:Int)<=(40:Int))) (.lf (decide ((acts.length:Int)<=(30:Int)))) (.lf false)
def Qsb(l:(List Int))(acts:(List Int)):Bool:=(Quf l acts).m
def Zms:Q0c:=mkR 14 [] true [.one (.ints .i64), .one (.ints .i64)] [] (λargs rows=>Qsb (argL .i64 args 0) (argL .i64 args 1)) (λX=> .bool X) (λX=>[])
theorem Zi2:Q06 Tryz.prog Zms:=Q0z Q0j Q0l (.nil) Tryz.func14 Tryz.call14 (λargs rows=>Quf (argL .i64 args 0) (argL .i64 args 1)) [] [] 2
def Qnh(t:Q0g):Tree (Q0g×Bool):=
.br (!t.D2) (.lf (t,false)) (.lf ({D2:=false,C8:=t.C8,D5:=true},true))
def Qk8(t:Q0g):(Q0g×Bool):=(Qnh t).m
def Zdy:Q0c:=mkR 121 [] true [.agg Q0g.sig] [] (λargs rows=>Qk8 (Q0g.of (aC args 0))) (λX=> .tup [.agg (Q0g.cells (X.1)), .bool (X.2)]) (λX=>[])
theorem Z9n:Q06 Tryz.prog Zdy:=Q0z Q0j Q0l (.nil) Tryz.func121 Tryz.call121 (λargs rows=>Qnh (Q0g.of (aC args 0))) [] [] 2
def Qao(c:Q0b)(b:Int):Tree (Q0b×Bool):=
.br (decide ((c.D3.length:Int)>=(16:Int))) (.lf (c,false)) (.cn (decide (c.D3.length+1<=maxLen)) (.lf ({D3:=c.D3++[(λ(n:Int)=>UInt8.ofNat n.toNat) b]},true)))
def Qnr(c:Q0b)(b:Int):(Q0b×Bool):=(Qao c b).m
abbrev Qmd(c:Q0b)(b:Int):Prop:=(Qao c b).p
def Z4v:Q0c:=mkP 122 [] true [.agg Q0b.sig, .one (.int .u8)] [] (λargs rows=>Qmd (Q0b.of (aC args 0)) (argI args 1)) (λargs rows=>Qnr (Q0b.of (aC args 0)) (argI args 1)) (λX=> .tup [.agg (Q0b.cells (X.1)), .bool (X.2)]) (λX=>[])
theorem Z0x:Q06 Tryz.prog Z4v:=Q0n Q0j Q0l (.nil) Tryz.func122 Tryz.call122 (λargs rows=>Qao (Q0b.of (aC args 0)) (argI args 1)) [] [] 2
def Q70(d0:Q0e)(m:(List Int))(e:Q0f):Tree (Q0e×(List Int)×Bool):=
let T2:Tree ((Q0e×(List Int)×Bool)):= .an (Q08 m) (.lv (Q03 m) λ(x0:List Int)=> .lf (d0,x0,false)); .br (d0.C1 !=1) T2 (.br (e.B7 !=4) T2 (.br (decide (e.N>1)) T2 (.an (Q08 m) (.lv (Q03 m) λ(x3:List Int)=>let E3:=({Blocks:=d0.Blocks,B9:=d0.B9,B4:=d0.B4,C1:=2,D8:=0,B6:=0,B3:=0,C3:=[]}:Q0e);let E4:=({Blocks:=d0.Blocks,B9:=d0.B9,B4:=d0.B4,C1:=3,D8:=0,B6:=0,B3:=0,C3:=[]}:Q0e);let T1:Tree ((Q0e×(List Int)×Bool)):= .br (!decide (e.D0=[])) (.lf (d0,x3,false)) (.br (e.N==1) (.lf (E3,x3,true)) (.lf (E4,x3,true))); .br (e.N==1) (.br (d0.D8==1) (.lv (Q9g m d0.B3) λ(x4:Bool)=> .br (!x4) (.lf (d0,x3,false)) (.an (Q8s m (wrap i64 d0.B3) e.D0) (.lv (Q2r m (wrap i64 d0.B3) e.D0) λ(x5:List Int×Bool)=> .br (!x5.2) (.lf (d0,x5.1,false)) (.br (e.N==1) (.lf (E3,x5.1,true)) (.lf (E4,x5.1,true)))))) T1) T1))))
def Qga(d0:Q0e)(m:(List Int))(e:Q0f):(Q0e×(List Int)×Bool):=(Q70 d0 m e).m
abbrev Qku(d0:Q0e)(m:(List Int))(e:Q0f):Prop:=(Q70 d0 m e).p
def Z2g:Q0c:=mkP 123 [] true [.agg Q0e.sig, .one (.ints .u32), .agg Q0f.sig] [] (λargs rows=>Qku (Q0e.of (aC args 0)) (argL .u32 args 1) (Q0f.of (aC args 2))) (λargs rows=>Qga (Q0e.of (aC args 0)) (argL .u32 args 1) (Q0f.of (aC args 2))) (λX=> .tup [.agg (Q0e.cells (X.1)), .all 0, .bool (X.2.2)]) (λX=>[⟨false,23,1, .ints .u32 (X.2.1)⟩])
theorem Qxx:Q06 Tryz.prog Z2g:=Q0n Q0j Q0l (.cons Q0w (.cons Qqh (.cons Qe2 (.nil)))) Tryz.func123 Tryz.call123 (λargs rows=>Q70 (Q0e.of (aC args 0)) (argL .u32 args 1) (Q0f.of (aC args 2))) [.row 23 1 (.ints .u32)] [] 2
def Qa1(n:Q0q)(m:(List Int))(frame:(List UInt8)):Tree (Q0q×(List Int)×Bool):=
let T1:Tree ((Q0q×(List Int)×Bool)):= .an (Q08 m) (.lv (Q03 m) λ(x0:List Int)=> .lf (n,x0,false)); .br (!n.C7) T1 (.br (decide ((frame.length:Int)<(1:Int))) T1 (.br (decide ((frame.length:Int)>(128:Int))) T1 (.lv (Q9z m n.C2) λ(x3:Bool)=> .br (!x3) T1 (.an (Qcj m (wrap i64 n.C2)) (.lv (Q5o m (wrap i64 n.C2)) λ(x5:List UInt8×Bool)=> .cn (decide (0<=(frame.length:Int)/\(frame.length:Int)<=(x5.1.length:Int)/\(x5.1.length:Int)<=(x5.1.length:Int))) (let E2:=Int.toNat (x5.1.length:Int)-Int.toNat (frame.length:Int);let E3:=List.drop (Int.toNat (frame.length:Int)) x5.1; .cn (decide (frame.length+List.length (List.take E2 E3)<=maxLen)) (.an (Q8s m (wrap i64 n.C2) (frame++List.take E2 E3)) (.lv (Q2r m (wrap i64 n.C2) (frame++List.take E2 E3)) λ(x6:List Int×Bool)=> .lf ({B4:=n.B4,F0:=n.F0,C7:=false,C2:=0,B8:=true,F3:=wrap u32 (frame.length:Int)},x6.1,true)))))))))
def Qm3(n:Q0q)(m:(List Int))(frame:(List UInt8)):(Q0q×(List Int)×Bool):=(Qa1 n m frame).m
abbrev Qoe(n:Q0q)(m:(List Int))(frame:(List UInt8)):Prop:=(Qa1 n m frame).p
def Z9m:Q0c:=mkP 124 [] true [.agg Q0q.sig, .one (.ints .u32), .one (.str)] [] (λargs rows=>Qoe (Q0q.of (aC args 0)) (argL .u32 args 1) (argS args 2)) (λargs rows=>Qm3 (Q0q.of (aC args 0)) (argL .u32 args 1) (argS args 2)) (λX=> .tup [.agg (Q0q.cells (X.1)), .all 0, .bool (X.2.2)]) (λX=>[⟨false,23,1, .ints .u32 (X.2.1)⟩])
theorem Z45:Q06 Tryz.prog Z9m:=Q0n Q0j Q0l (.cons Qlb (.cons Q0w (.cons Qjj (.cons Qe2 (.nil))))) Tryz.func124 Tryz.call124 (λargs rows=>Qa1 (Q0q.of (aC args 0)) (argL .u32 args 1) (argS args 2)) [.row 23 1 (.ints .u32)] [] 2
def Q43(m:Q00)(e:Q0f):Tree (Q00×Bool):=
.an (Q08 m.Mem) (.lv (Q03 m.Mem) λ(x0:List Int)=>let E2:=({B2:=m.B2,Mem:=x0,A3:=m.A3,A7:=m.A7,B0:=m.B0,C0:=m.C0,A2:=m.A2,A1:=m.A1,A4:=m.A4,A6:=m.A6}:Q00); .an (Q5m E2) (.lv (Q14 E2) λ(x1:Bool)=>let T1:Tree ((Q00×Bool)):= .lf (E2,false); .br (!x1) T1 (.br m.A6 T1 (.br (e.B7==2) (.br (e.N==0) (.br (decide (e.D0=[])) (.lv (Qk8 m.A7) λ(x2:Q0g×Bool)=> .lf ({B2:=m.B2,Mem:=x0,A3:=m.A3,A7:=x2.1,B0:=m.B0,C0:=m.C0,A2:=m.A2,A1:=m.A1,A4:=m.A4,A6:=m.A6},x2.2)) T1) T1) (.br (e.B7==3) (.br (decide (e.N<=255)) (.br (decide (e.D0=[])) (.an (Qmd m.A3 (wrap u8 e.N)) (.lv (Qnr m.A3 (wrap u8 e.N)) λ(x3:Q0b×Bool)=> .lf ({B2:=m.B2,Mem:=x0,A3:=x3.1,A7:=m.A7,B0:=m.B0,C0:=m.C0,A2:=m.A2,A1:=m.A1,A4:=m.A4,A6:=m.A6},x3.2))) T1) T1) (.br (e.B7==4) (.an (Qku m.B0 x0 e) (.lv (Qga m.B0 x0 e) λ(x4:Q0e×List Int×Bool)=> .lf ({B2:=m.B2,Mem:=x4.2.1,A3:=m.A3,A7:=m.A7,B0:=x4.1,C0:=m.C0,A2:=m.A2,A1:=m.A1,A4:=m.A4,A6:=m.A6},x4.2.2))) (.br (e.B7==5) (.br (e.N==0) (.an (Qoe m.C0 x0 e.D0) (.lv (Qm3 m.C0 x0 e.D0) λ(x5:Q0q×List Int×Bool)=> .lf ({B2:=m.B2,Mem:=x5.2.1,A3:=m.A3,A7:=m.A7,B0:=m.B0,C0:=x5.1,A2:=m.A2,A1:=m.A1,A4:=m.A4,A6:=m.A6},x5.2.2))) T1) (.br (e.B7==6) (.br (decide (e.D0=[])) (.lf ({B2:=m.B2,Mem:=x0,A3:=m.A3,A7:=m.A7,B0:=m.B0,C0:=m.C0,A2:={C9:=e.N,C5:=m.A2.C5},A1:=m.A1,A4:=m.A4,A6:=m.A6},true)) T1) T1))))))))
def Q7v(m:Q00)(e:Q0f):(Q00×Bool):=(Q43 m e).m
abbrev Qe4(m:Q00)(e:Q0f):Prop:=(Q43 m e).p
def Z1r:Q0c:=mkP 57 [] true [.agg Q00.sig, .agg Q0f.sig] [] (λargs rows=>Qe4 (Q00.of (aC args 0)) (Q0f.of (aC args 1))) (λargs rows=>Q7v (Q00.of (aC args 0)) (Q0f.of (aC args 1))) (λX=> .tup [.agg (Q00.cellsW (X.1) (.all 0)), .bool (X.2)]) (λX=>[⟨false,23,1, .ints .u32 (X.1).Mem⟩])
theorem Qym:Q06 Tryz.prog Z1r:=Q0n Q0j Q0l (.cons Q0w (.cons Qjp (.cons Z9n (.cons Z0x (.cons Qxx (.cons Z45 (.nil))))))) Tryz.func57 Tryz.call57 (λargs rows=>Q43 (Q00.of (aC args 0)) (Q0f.of (aC args 1))) [.row 23 1 (.ints .u32)] [] 2
end
noncomputable section
instance sumInhRb {α β:Type} [Inhabited β]:Inhabited (α⊕β):=⟨.inr default⟩
def Qkx(script:(List Q0h))(z:(Int)):Prop:=1<=z/\(z<=script.length\/z=1)
def Q4m(script:(List Q0h))(z:(Int)):Nat:=(script.length-z).toNat
def Q88(script:(List Q0h)):Tree Bool:=
.lp inferInstance (Q4m script 1+1) ((nR RK.apiEntry 4 script/\rE (1:Int)/\True)/\True) 1 λ(v0:Int)=> .br (decide (v0<(script.length:Int))) (.cn (Nat.beq 4 4&&Nat.blt 0 4&&decide (0<=wrap i64 (v0-1)/\wrap i64 (v0-1)<(script.length:Int))) (.cn (Nat.beq 4 4&&Nat.blt 0 4&&decide (0<=v0/\v0<(script.length:Int))) (let E2:=script.getD (Int.toNat (wrap i64 (v0-1))) (RK.dflt RK.apiEntry);let E3:=script.getD v0.toNat (RK.dflt RK.apiEntry); .br (decide (E3.At<E2.At)) (.lf (Sum.inr false)) (let T1:Tree ((Int)⊕(Bool)):= .nx ((nR RK.apiEntry 4 script/\rE ((wrap i64 (v0+1)):Int)/\True)/\True) (Sum.inl (wrap i64 (v0+1))); .br (E3.At==E2.At) (.br (E2.C4.B7==1) (.lf (Sum.inr false)) T1) T1)))) (.lf (Sum.inr true))
def Q79(script:(List Q0h)):Bool:=(Q88 script).m
def Q1t(script:(List Q0h)):Prop:=
script.length<=1000000000000
theorem Qy9(script:(List Q0h))(hw:Q1t script):(Q88 script).p:=by
 simp only[Q1t]at hw
 unfold Tree.p Q88
 repeat'(first|refine w_lp (inv:=Qkx script) (μ:=Q4m script) ?_ (Nat.lt_succ_self _) (λ_ _=> ?_)|exact trivial|refine w_br (λ_=> ?_) (λ_=> ?_)|refine w_cn ?_ ?_|refine w_an ?_ ?_|refine w_lv (λ_ _=> ?_)|refine w_nx ?_|refine w_lf ?_|refine And.intro ?_ ?_)
 all_goals((try simp only[Qkx,Q4m]at*);exact fin0)
def Z24:LInv:={
 α:=(Int)
 F:=λst a=>([(0,(lk st 0)),(3, .int i64 a)],[])
 a0:=λst=>(lk st 3).toInt
 ex0:=λst=>[]++[]
 next:=λst=>(lk st 3).toInt
 ex:=λst=>[]++[]}
def Qw:List (Nat×LInv):=[(2,Z24)]
def Z4e:Q0c:=mkP 23 [] true [.one (.recs .apiEntry)] [] (λargs rows=>Q1t (argR .apiEntry args 0)) (λargs rows=>Q79 (argR .apiEntry args 0)) (λX=> .bool X) (λX=>[])
theorem Qia:Q06 Tryz.prog Z4e:=Q0n Q0j Q0l (.nil) Tryz.func23 Tryz.call23 (λargs rows=>Q88 (argR .apiEntry args 0)) [] Qw 3 (hp:=λargs rows h=>Qy9 (argR .apiEntry args 0) h)
def Qmt(m:Q00)(script:(List Q0h))(until0:Int)(z:(Int)):Nat:=(script.length-z).toNat
def Q8z(m:Q00)(script:(List Q0h))(until0:Int):Tree Int:=
.an (Q5m m) (.lv (Q14 m) λ(x0:Bool)=> .br (!x0) (.lf 1300) (.br (decide (until0<m.A1)) (.lf 1300) (.br (decide (wrap u64 (until0-m.A1)>4000)) (.lf 1300) (.br (decide ((script.length:Int)>(400:Int))) (.lf 1300) (.an (Q1t script) (.lv (Q79 script) λ(x1:Bool)=> .br (!x1) (.lf 1301) (.lp inferInstance (Qmt m script until0 0+1) ((rZ/\nR RK.apiEntry 4 script/\rE ((script.length:Int):Int)/\rE (0:Int)/\True)/\(mE m (((Els.Nil (Els.ints u32 m.Mem)\/rE (1:Nat))/\rE m.Mem)) True)/\True) 0 λ(v0:Int)=> .br (decide (v0<(script.length:Int))) (.cn (Nat.beq 4 4&&Nat.blt 0 4&&decide (0<=v0/\v0<(script.length:Int))) (.br (decide ((script.getD v0.toNat (RK.dflt RK.apiEntry)).At<m.A1)) (.lf (Sum.inr 1301)) (.nx ((rZ/\nR RK.apiEntry 4 script/\rE ((script.length:Int):Int)/\rE ((wrap i64 (v0+1)):Int)/\True)/\(mE m (((Els.Nil (Els.ints u32 m.Mem)\/rE (1:Nat))/\rE m.Mem)) True)/\True) (Sum.inl (wrap i64 (v0+1)))))) (.lf (Sum.inr 0)))))))))
def Z65(m:Q00)(script:(List Q0h))(until0:Int):Int:=(Q8z m script until0).m
abbrev Qjg(m:Q00)(script:(List Q0h))(until0:Int):Prop:=(Q8z m script until0).p
def Z8n:LInv:={
 α:=(Int)
 F:=λst a=>([(3, .ptr 0 0 0),(33,(lk st 33)),(34,(lk st 34)),(35, .int i64 a)],[⟨true,41,49, .gen [mB (cT st 3)]⟩])
 a0:=λst=>(lk st 35).toInt
 ex0:=λst=>[]++[(Q0o (lk st 3) (st.rows.length+0))]
 next:=λst=>(lk st 35).toInt
 ex:=λst=>[]++[(Q0o (lk st 3) (st.rows.length+0))]}
def Z02:List (Nat×LInv):=[(6,Z8n)]
def Zef:Q0c:=mkP 66 [] true [.agg Q00.sig, .one (.recs .apiEntry), .one (.int .u64)] [] (λargs rows=>Qjg (Q00.of (aC args 0)) (argR .apiEntry args 1) (argI args 2)) (λargs rows=>Z65 (Q00.of (aC args 0)) (argR .apiEntry args 1) (argI args 2)) (λX=> .int .i64 X) (λX=>[])
theorem Z96:Q06 Tryz.prog Zef:=Q0n Q0j Q0l (.cons Qjp (.cons Qia (.nil))) Tryz.func66 Tryz.call66 (λargs rows=>Q8z (Q00.of (aC args 0)) (argR .apiEntry args 1) (argI args 2)) [] Z02 3
def Qqj(m:Q00)(script:(List Q0h))(until0:Int)(z:(Int)×Q00×(List Q02)):Nat:=(until0-z.2.1.A1).toNat
def Qqi(m:Q00)(script:(List Q0h))(until0:Int)(v0:Int×Q00×List Q02)(z:(Int)×Q00):Nat:=(script.length-z.1).toNat
def Qdg(m:Q00)(script:(List Q0h))(until0:Int):Tree (Q00×(List Q02)×Int×Int):=
.an (Qjg m script until0) (.lv (Z65 m script until0) λ(x0:Int)=>let E4:=({B2:={X:={a0:=0,a1:=0,a2:=0,a3:=0,a4:=0,a5:=0,a6:=0,a7:=0,a8:=0,a9:=0,a10:=0,a11:=0,a12:=0,a13:=0,a14:=0,a15:=0},Pc:=0,B5:={a0:=0,a1:=0,a2:=0,a3:=0,a4:=0,a5:=0,a6:=0,a7:=0}},Mem:=[],A3:={D3:=[]},A7:={D2:=false,C8:=0,D5:=false},B0:={Blocks:=0,B9:=0,B4:=0,C1:=0,D8:=0,B6:=0,B3:=0,C3:=[]},C0:={B4:=0,F0:=0,C7:=false,C2:=0,B8:=false,F3:=0},A2:={C9:=0,C5:=0},A1:=0,A4:=false,A6:=false}:Q00); .br (x0 !=0) (.lf (E4,[],0,x0)) (.an (Q08 m.Mem) (.lv (Q03 m.Mem) λ(x1:List Int)=>let E7:=({B2:=m.B2,Mem:=x1,A3:=m.A3,A7:=m.A7,B0:=m.B0,C0:=m.C0,A2:=m.A2,A1:=m.A1,A4:=m.A4,A6:=m.A6}:Q00); .lp inferInstance (Qqj m script until0 (0,E7,[])+1) ((nR RK.apiEntry 4 script/\rE (until0:Int)/\rZ/\rZ/\True/\rE (0:Int)/\rE (0:Int)/\True)/\(mE m (rE (x1:List Int)) True)/\(mE zM True True)/\rE ([]:List (RK.T RK.apiOutput))/\True) (0,E7,[]) λ(v0:Int×Q00×List Q02)=> .br (decide (v0.2.1.A1<until0)) (.br (decide (v0.2.1.A1<1152921504606846976)) (.lp inferInstance (Qqi m script until0 v0 (v0.1,v0.2.1)+1) ((nR RK.apiEntry 4 script/\rE (until0:Int)/\rZ/\rZ/\True/\rE (0:Int)/\rE v0.1/\(rE (0:Nat)/\rE (46:Nat))/\rE v0.2.1.A1/\rE ((decide (v0.2.1.A1<1152921504606846976)):Bool)/\True)/\(mE v0.2.1 (((Els.Nil (Els.ints u32 v0.2.1.Mem)\/eqAt Nat 1 1)/\rE v0.2.1.Mem)) True)/\(mE zM True True)/\rE v0.2.2/\True) (v0.1,v0.2.1) λ(v1:Int×Q00)=>let E5:=Nat.beq 4 4&&Nat.blt 0 4&&decide (0<=v1.1/\v1.1<(script.length:Int));let E6:=script.getD v1.1.toNat (RK.dflt RK.apiEntry);let E8:=decide (v1.1<(script.length:Int));let T1:Tree ((Int×Q00)⊕((Int×Q00×List Q02)⊕((Q00×(List Q02)×Int×Int)))):= .br v1.2.A6 (.lf (Sum.inr (Sum.inr (v1.2,v0.2.2,v1.1,0)))) (.an (Q85 v1.2) (.lv (Q94 v1.2) λ(x3:Bool)=> .br x3 (.br E8 (.lf (Sum.inr (Sum.inr (E4,[],0,1303)))) (.lf (Sum.inr (Sum.inr (v1.2,v0.2.2,v1.1,0))))) (let T2:Tree ((Int×Q00)⊕((Int×Q00×List Q02)⊕((Q00×(List Q02)×Int×Int)))):= .an (Q62 v1.2 0) (.lv (Q2v v1.2 0) λ(x6:Q00×List Q02)=> .cn (decide (40*(v0.2.2.length+x6.2.length)<=140737488355328)) (.nx ((nR RK.apiEntry 4 script/\rE (until0:Int)/\rZ/\rZ/\True/\rE (0:Int)/\rE v1.1/\True)/\(mE x6.1 (((Els.Nil (Els.ints u32 x6.1.Mem)\/rE (1:Nat))/\rE x6.1.Mem)) True)/\(mE zM True True)/\rE ((v0.2.2++x6.2):List (RK.T RK.apiOutput))/\True) (Sum.inr (Sum.inl (v1.1,x6.1,v0.2.2++x6.2)))));let T3:Tree ((Int×Q00)⊕((Int×Q00×List Q02)⊕((Q00×(List Q02)×Int×Int)))):= .lf (Sum.inr (Sum.inr (E4,[],0,1302))); .br E8 (.cn E5 (.an (Q5p v1.2) (.lv (Q4l v1.2) λ(x4:Bool)=> .br (!x4==(E6.At==v1.2.A1)) T3 (.br (E6.At==v1.2.A1) (.cn E5 (.an (Q62 v1.2 E6.C4.N) (.lv (Q2v v1.2 E6.C4.N) λ(x5:Q00×List Q02)=> .cn (decide (40*(v0.2.2.length+x5.2.length)<=140737488355328)) (.nx ((nR RK.apiEntry 4 script/\rE (until0:Int)/\rZ/\rZ/\True/\rE (0:Int)/\rE ((wrap i64 (v1.1+1)):Int)/\True)/\(mE x5.1 (((Els.Nil (Els.ints u32 x5.1.Mem)\/rE (1:Nat))/\rE x5.1.Mem)) True)/\(mE zM True True)/\rE ((v0.2.2++x5.2):List (RK.T RK.apiOutput))/\True) (Sum.inr (Sum.inl (wrap i64 (v1.1+1),x5.1,v0.2.2++x5.2))))))) T2)))) (.an (Q5p v1.2) (.lv (Q4l v1.2) λ(x7:Bool)=> .br (!x7==false) T3 T2))))); .br E8 (.cn E5 (.br (E6.At==v1.2.A1) (.cn E5 (.br (E6.C4.B7 !=1) (.cn E5 (.an (Qe4 v1.2 E6.C4) (.lv (Q7v v1.2 E6.C4) λ(x2:Q00×Bool)=> .nx ((nR RK.apiEntry 4 script/\rE (until0:Int)/\rZ/\rZ/\True/\rE (0:Int)/\rE ((wrap i64 (v1.1+1)):Int)/\(rE (0:Nat)/\rE (46:Nat))/\rE v0.2.1.A1/\rE ((decide (v0.2.1.A1<1152921504606846976)):Bool)/\True)/\(mE x2.1 (rE x2.1.Mem) True)/\(mE zM True True)/\rE v0.2.2/\True) (Sum.inl (wrap i64 (v1.1+1),x2.1))))) T1)) T1)) T1) (.lf (Sum.inr (v0.2.1,v0.2.2,v0.1,0)))) (.lf (Sum.inr (v0.2.1,v0.2.2,v0.1,0))))))
def Qlg(m:Q00)(script:(List Q0h))(until0:Int):(Q00×(List Q02)×Int×Int):=(Qdg m script until0).m
abbrev Q7e(m:Q00)(script:(List Q0h))(until0:Int):Prop:=(Qdg m script until0).p
def Zgg:LInv:={
 α:=(Int)×Q00×(List Q02)
 F:=λst a=>([(1,(lk st 1)),(2,(lk st 2)),(3, .ptr 0 0 0),(6, .ptr 1 0 0),(11, .all 2),(12,(lk st 12)),(13, .int i64 a.1)],[⟨true,41,49, .gen [mD a.2.1 (.sl 1 (.ints u32 a.2.1.Mem) false)]⟩,⟨true,41,49, .gen [mB (cT st 6)]⟩,⟨false,63,4, .recs RK.apiOutput a.2.2⟩])
 a0:=λst=>((lk st 13).toInt,(mR (cT st 3) (frzI u32 st.rows (cT st 3 25))),(Q3x RK.apiOutput st.rows (rN st 11)))
 ex0:=λst=>[]++[(Q0o (lk st 3) (st.rows.length+0)),(Q0o (lk st 6) (st.rows.length+1)),(Q0o (lk st 11) (st.rows.length+2))]
 next:=λst=>((lk st 13).toInt,(mR (cT st 3) (frzI u32 st.rows (cT st 3 25))),(Q3x RK.apiOutput st.rows (rN st 11)))
 ex:=λst=>[]++[(Q0o (lk st 3) (st.rows.length+0)),(Q0o (lk st 6) (st.rows.length+1)),(Q0o (lk st 11) (st.rows.length+2))]}
def Zgq:LInv:={
 α:=(Int)×Q00
 F:=λst a=>([(1,(lk st 1)),(2,(lk st 2)),(3, .ptr 0 0 0),(6, .ptr 1 0 0),(11, .all 2),(12,(lk st 12)),(13, .int i64 a.1),(34, .ptr 0 0 46),(35,(lk st 35)),(36,(lk st 36))],[⟨true,41,49, .gen [mD a.2 (.sl 1 (.ints u32 a.2.Mem) false)]⟩,⟨true,41,49, .gen [mB (cT st 6)]⟩,⟨false,63,4,esOf st.rows (rN st 11)⟩])
 a0:=λst=>((lk st 13).toInt,(mR (cT st 3) (frzI u32 st.rows (cT st 3 25))))
 ex0:=λst=>[]++[(Q0o (lk st 3) (st.rows.length+0)),(Q0o (lk st 6) (st.rows.length+1)),(Q0o (lk st 11) (st.rows.length+2))]
 next:=λst=>((lk st 13).toInt,(mR (cT st 3) (frzI u32 st.rows (cT st 3 25))))
 ex:=λst=>[]++[(Q0o (lk st 3) (st.rows.length+0)),(Q0o (lk st 6) (st.rows.length+1)),(Q0o (lk st 11) (st.rows.length+2))]}
def Z9v:List (Nat×LInv):=[(8,Zgg),(9,Zgq)]
def Zl8:Q0c:=Q0c.fz<|mkP 21 [] false [.agg Q00.sig, .one (.recs .apiEntry), .one (.int .u64)] [] (λargs rows=>Q7e (Q00.of (aC args 0)) (argR .apiEntry args 1) (argI args 2)) (λargs rows=>Qlg (Q00.of (aC args 0)) (argR .apiEntry args 1) (argI args 2)) (λX=> .tup [.agg (Q00.cells (X.1)), .all 0, .int .i64 (X.2.2.1), .int .i64 (X.2.2.2)]) (λX=>[⟨false,63,4, .recs .apiOutput (X.2.1)⟩])
theorem Qze:Q06 Tryz.prog Zl8:=Zlj<|Q0n Q0j Q0l (.cons Z96 (.cons Q0w (.cons Qym (.cons Qng (.cons Qo9 (.cons Qzz (.nil))))))) Tryz.func21 Tryz.call21 (λargs rows=>Qdg (Q00.of (aC args 0)) (argR .apiEntry args 1) (argI args 2)) [.sl (.ints .u32) false, .row 63 4 (.recs .apiOutput)] Z9v 3 (λ_ _ _=>by kernel_rfl) (λ_ _=>rfl) (λ_ _ h=>h) (λh=>by cases h)
end
noncomputable section
def Q3y(b:(List Int)):(List Int):=
b
def Q7d(b:(List Int)):List D:=[.ptr 0 0 0]
def Q7c(b:(List Int)):List Row:=[⟨true,124,2, .gen [[.selfp 0, .all 1]]⟩,⟨false,5,1, .ints .u8 b⟩]
def Q4o(X:(List Int)):D:= .tup []
def Q4v(X:(List Int)):List Row:=[⟨true,124,2, .gen [[.selfp 0, .all 1]]⟩,⟨false,5,1, .ints .u8 X⟩]
def Q86:List PT:=[.ptr 0]
def Q77:List RT:=[.box 124 2 [.self 0, .row 1], .arr 5 1 (.ints .u8)]
def Qft(args:List D)(rows:List Row):(List Int):=Q3y (rowL .u8 rows 1)
def Qir:Q0c:=mkR 143 [true] true Q86 Q77 Qft Q4o Q4v
theorem Qdt(b:(List Int)):Q3w Tryz.prog 143 (Q7d b) (Q7c b) (Q4o (Q3y b)) (Q4v (Q3y b)):=by
 exact zD (ρ:=Tryz.lays105_ren) {Tryz.lays105 with} Tryz.Builder_Extra_105.toX72 (by kernel_rfl) _
set_option maxRecDepth 100000 in
theorem Qej(args:List D)(rows:List Row):Qix Q86 args 0=Q7d (rowL .u8 rows 1):=by kernel_rfl
set_option maxRecDepth 100000 in
theorem Qd8(args:List D)(rows:List Row):Q7b Q77 rows 0=Q7c (rowL .u8 rows 1):=by kernel_rfl
set_option maxRecDepth 100000 in
theorem Qgo(X:(List Int)):(ffB (Q4o X)&&ffBR (Q4v X))=true:=by kernel_rfl
theorem Qgm:Q06 Tryz.prog Qir:=qY Tryz.call143 (λargs rows=>by rw[Qej args rows,Qd8 args rows];exact Qdt (rowL .u8 rows 1)) (λ_ X=>Qgo X)
def Q24(b:(List Int))(s:(List UInt8)):Tree (Int×Unit×(List Int)):=
.lv (Q3y b) λ(x0:List Int)=> .cn (decide (1*(x0.length+List.length (Q9j s))<=140737488355328)) (.lf ((s.length:Int),(),x0++Q9j s))
def Q9h(b:(List Int))(s:(List UInt8)):(Int×Unit×(List Int)):=(Q24 b s).m
abbrev Q3u(b:(List Int))(s:(List UInt8)):Prop:=(Q24 b s).p
def Qfn:Q0c:=mkKP 1 73 [true,false] [.ptr 0, .one (.str)] [.box 124 2 [.self 0, .row 1], .arr 5 1 (.ints .u8)] (λargs rows=>Q3u (rowL .u8 rows 1) (argS args 1)) (λargs rows=>Q9h (rowL .u8 rows 1) (argS args 1)) (λX=> .tup [.int .i64 (X.1), .nilif]) (λX=>[⟨true,124,2, .gen [[.selfp 0, .all 1]]⟩,⟨false,5,1, .ints .u8 (X.2.2)⟩])
theorem Qf2:Q06 Tryz.prog Qfn:=yx Q0j Q0l (.cons Qgm (.nil)) Tryz.func73 Tryz.call73 (λargs rows=>Q24 (rowL .u8 rows 1) (argS args 1)) [.row 5 1 (.ints .u8)] [] 2 (λ_ _ _=>by kernel_rfl) (λ_ _=>rfl) (λ_ _ h=>h)
def Q5r(b:(List Int)):((List UInt8)×(List Int)):=
(bytesOf b,b)
def Q9a(b:(List Int)):List D:=[.ptr 0 0 0]
def Q8x(b:(List Int)):List Row:=[⟨true,124,2, .gen [[.selfp 0, .all 1]]⟩,⟨false,5,1, .ints .u8 b⟩]
def Qag(X:((List UInt8)×(List Int))):D:= .str (X.1)
def Qaf(X:((List UInt8)×(List Int))):List Row:=[⟨true,124,2, .gen [[.selfp 0, .sl 1 (.ints .u8 X.2) false]]⟩]
def Qae:List PT:=[.ptr 0]
def Q9p:List RT:=[.box 124 2 [.self 0, .row 1], .arr 5 1 (.ints .u8)]
def Qiu(args:List D)(rows:List Row):((List UInt8)×(List Int)):=Q5r (rowL .u8 rows 1)
def Qka:Q0c:=mkK 1 74 [true] Qae Q9p Qiu Qag Qaf
theorem Qgg(b:(List Int)):Q9i Tryz.prog 74 1 (Q9a b) (Q8x b) (Qag (Q5r b)) (Qaf (Q5r b)):=by
 exact qb (ρ:=Tryz.lays105_ren) {Tryz.lays105 with} Tryz.Builder_Extra_105 _
set_option maxRecDepth 100000 in
theorem Qi(args:List D)(rows:List Row):Qix Qae args 0=Q9a (rowL .u8 rows 1):=by kernel_rfl
set_option maxRecDepth 100000 in
theorem Qgf(args:List D)(rows:List Row):Q7b Q9p rows 0=Q8x (rowL .u8 rows 1):=by kernel_rfl
theorem Qjh:Q06 Tryz.prog Qka:=zaK Tryz.call74 (λargs rows=>by rw[Qi args rows,Qgf args rows];exact Qgg (rowL .u8 rows 1))
def Q1r(s:(List (List UInt8))):(List (List UInt8)):=
s
def Q1c(s:(List (List UInt8))):Prop:=
s.length<=1000000000000
def Q3v(s:(List (List UInt8))):List D:=[.sl 1 (.recs .str s) false]
def Q2g(s:(List (List UInt8))):List Row:=[]
def Q1o(X:(List (List UInt8))):D:= .all 0
def Q1p(X:(List (List UInt8))):List Row:=[⟨false,9,1, .recs .str X⟩]
def Qds:List Dir:=[.row 9 1 (.recs .str)]
def Q76:List PT:=[.one (.recs .str)]
def Q6u:List RT:=[]
def Qf0(args:List D)(rows:List Row):(List (List UInt8)):=Q1r (argR .str args 0)
def Qf1(args:List D)(rows:List Row):Prop:=Q1c (argR .str args 0)
def Qg4:Q0c:=mkP 72 [] true Q76 Q6u Qf1 Qf0 Q1o Q1p
def Q53(s:(List (List UInt8)))(Leaf:(List (List UInt8))->Prop):Prop:=
(s=[]->Leaf [])/\cand (decide ((16:Nat)*((0:Nat)+s.length)<=(140737488355328:Nat))) (Leaf s)
set_option maxRecDepth 100000 in
theorem Qfq(s:(List (List UInt8)))(Q:D->List Row->Prop):(fnVC tab [] (LL tab [] Tryz.f72.ntmps 0 [] 2) Tryz.f72 (Q3v s) (Q2g s) λd R=>Qdy (Q2g s).length Qds d R Q)=Q53 s (λX=>Q (Q1o X) (Q1p X)):=by kernel_rfl
theorem Qdc(s:(List (List UInt8)))(Leaf:(List (List UInt8))->Prop)(hw:Q1c s)(h:Leaf (Q1r s)):
Q53 s Leaf:=by
 delta Q53
 refine⟨λe=>by rw[e]at h;exact h,?_⟩
 rw[Q09]
 refine⟨decide_eq_true ?_,h⟩
 have:s.length<=1000000000000:=hw
 omega
set_option maxRecDepth 100000 in
theorem Qd3(s:(List (List UInt8)))(hw:Q1c s):Q3w Tryz.prog 72 (Q3v s) (Q2g s) (Q1o (Q1r s)) (Q1p (Q1r s)):=
 have hG:Q8y Tryz.prog []:= .nil
 FnOK.calls Q0j Q0l hG Tryz.func72 (LL_ok Q0j Q0l hG 2 (invs:=[])) (FnOK.of (Qfq s _) (Qdc s (λX=>Q1o X=Q1o (Q1r s)/\Q1p X=Q1p (Q1r s)) hw ⟨rfl,rfl⟩))
set_option maxRecDepth 100000 in
theorem Qdi(args:List D)(rows:List Row):Qix Q76 args 0=Q3v (argR .str args 0):=by kernel_rfl
set_option maxRecDepth 100000 in
theorem Qd2(args:List D)(rows:List Row):Q7b Q6u rows 0=Q2g (argR .str args 0):=by kernel_rfl
set_option maxRecDepth 100000 in
theorem Qfl(X:(List (List UInt8))):(ffB (Q1o X)&&ffBR (Q1p X))=true:=by kernel_rfl
theorem Qfu:Q06 Tryz.prog Qg4:=Z6m Tryz.call72 (λargs rows hp=>by rw[Qdi args rows,Qd2 args rows];exact Qd3 (argR .str args 0) hp) (λ_ X=>Qfl X)
def Z46(disk:(List (List UInt8)))(l:(List Q02))(z:(Int)×Q48×(List Int)):Nat:=(l.length-z.1).toNat
def Qkw(disk:(List (List UInt8)))(l:(List Q02)):Tree Q48:=
.an (Q1c disk) (.lv (Q1r disk) λ(x0:List (List UInt8))=> .lp inferInstance (Z46 disk l (0,{A3:=[],D9:=[],B0:=x0},[])+1) ((rZ/\rZ/\rZ/\nR RK.apiOutput 4 l/\rE ((l.length:Int):Int)/\rE (0:Int)/\True)/\(rE ([]:List UInt8)/\True/\True/\True)/\(rE ([]:List UInt8)/\True/\True/\True)/\rE (x0:List (RK.T RK.str))/\(True/\True/\True)/\rE ([]:List Int)/\rE ([]:List (RK.T RK.str))/\True) (0,{A3:=[],D9:=[],B0:=x0},[]) λ(v0:Int×Q48×List Int)=> .br (decide (v0.1<(l.length:Int))) (.cn (Nat.beq 4 4&&Nat.blt 0 4&&decide (0<=v0.1/\v0.1<(l.length:Int))) (let E2:=l.getD v0.1.toNat (RK.dflt RK.apiOutput);let E3:=({A3:=[],D9:=v0.2.1.D9,B0:=v0.2.1.B0}:Q48); .br (E2.B7==1) (.an (Q3u v0.2.2 E2.D0) (.lv (Q9h v0.2.2 E2.D0) λ(x1:Int×Unit×List Int)=> .nx ((rZ/\rZ/\rZ/\nR RK.apiOutput 4 l/\rE ((l.length:Int):Int)/\rE ((wrap i64 (v0.1+1)):Int)/\True)/\(rE ([]:List UInt8)/\True/\True/\True)/\(rE ([]:List UInt8)/\True/\True/\True)/\rE v0.2.1.B0/\(True/\True/\True)/\rE x1.2.2/\rE v0.2.1.D9/\True) (Sum.inl (wrap i64 (v0.1+1),E3,x1.2.2)))) (.br (E2.B7==2) (.cn (decide (16*(v0.2.1.D9.length+1)<=140737488355328)) (.nx ((rZ/\rZ/\rZ/\nR RK.apiOutput 4 l/\rE ((l.length:Int):Int)/\rE ((wrap i64 (v0.1+1)):Int)/\True)/\(rE ([]:List UInt8)/\True/\True/\True)/\(rE ([]:List UInt8)/\True/\True/\True)/\rE v0.2.1.B0/\(True/\True/\True)/\rE v0.2.2/\rE ((v0.2.1.D9++[(l.getD v0.1.toNat (RK.dflt RK.apiOutput)).D0]):List (RK.T RK.str))/\True) (Sum.inl (wrap i64 (v0.1+1),{A3:=[],D9:=v0.2.1.D9++[E2.D0],B0:=v0.2.1.B0},v0.2.2)))) (let T1:Tree ((Int×Q48×List Int)⊕(Q48)):= .nx ((rZ/\rZ/\rZ/\nR RK.apiOutput 4 l/\rE ((l.length:Int):Int)/\rE ((wrap i64 (v0.1+1)):Int)/\True)/\(rE ([]:List UInt8)/\True/\True/\True)/\(rE ([]:List UInt8)/\True/\True/\True)/\rE v0.2.1.B0/\(True/\True/\True)/\rE v0.2.2/\rE v0.2.1.D9/\True) (Sum.inl (wrap i64 (v0.1+1),E3,v0.2.2)); .br (E2.B7==4) (.br (decide (wrap u64 E2.B9<wrap u64 (v0.2.1.B0.length:Int))) (.cn (Nat.beq 1 1&&Nat.blt 0 1&&decide (0<=E2.B9/\E2.B9<(v0.2.1.B0.length:Int))) (.nx ((rZ/\rZ/\rZ/\nR RK.apiOutput 4 l/\rE ((l.length:Int):Int)/\rE ((wrap i64 (v0.1+1)):Int)/\True)/\(rE ([]:List UInt8)/\True/\True/\True)/\(rE ([]:List UInt8)/\True/\True/\True)/\rE ((List.set v0.2.1.B0 (Int.toNat (l.getD v0.1.toNat (RK.dflt RK.apiOutput)).B9) (l.getD v0.1.toNat (RK.dflt RK.apiOutput)).D0):List (RK.T RK.str))/\(True/\True/\True)/\rE v0.2.2/\rE v0.2.1.D9/\True) (Sum.inl (wrap i64 (v0.1+1),{A3:=[],D9:=v0.2.1.D9,B0:=List.set v0.2.1.B0 E2.B9.toNat E2.D0},v0.2.2)))) T1) T1)))) (.lv (Q5r v0.2.2) λ(x2:List UInt8×List Int)=> .lf (Sum.inr {A3:=x2.1,D9:=v0.2.1.D9,B0:=v0.2.1.B0})))
def Zjj(disk:(List (List UInt8)))(l:(List Q02)):Q48:=(Qkw disk l).m
abbrev Qmz(disk:(List (List UInt8)))(l:(List Q02)):Prop:=(Qkw disk l).p
def Zgj:LInv:={
 α:=(Int)×Q48×(List Int)
 F:=λst a=>([(4, .ptr 0 0 0),(5, .ptr 1 0 0),(6, .ptr 3 0 0),(12,(lk st 12)),(13,(lk st 13)),(14, .int i64 a.1)],[⟨true,75,3, .gen [[(cT st 4 0),(cT st 4 1),(cT st 4 2)]]⟩,⟨true,75,3, .gen [[(cT st 5 0), .all 5, .all 2]]⟩,⟨false,9,1, .recs RK.str a.2.1.B0⟩,⟨true,124,2, .gen [[.selfp 3, .all 4]]⟩,⟨false,5,1, .ints u8 a.2.2⟩,⟨false,9,1, .recs RK.str a.2.1.D9⟩])
 a0:=λst=>((lk st 14).toInt,(⟨[],(Q3x RK.str st.rows (Q0o (cT st 5 1) 1000000)),(Q3x RK.str st.rows (Q0o (cT st 5 2) 1000000))⟩:Q48),(Q3e st.rows (Q0o (cT st 6 1) 1000000)))
 ex0:=λst=>[]++[(Q0o (lk st 4) (st.rows.length+0)),(Q0o (lk st 5) (st.rows.length+1)),(Q0o (cT st 5 2) (st.rows.length+2)),(Q0o (lk st 6) (st.rows.length+3)),(Q0o (cT st 6 1) (st.rows.length+4)),(Q0o (cT st 5 1) (st.rows.length+5))]
 next:=λst=>((lk st 14).toInt,(⟨[],(Q3x RK.str st.rows (Q0o (cT st 5 1) 1000000)),(Q3x RK.str st.rows (Q0o (cT st 5 2) 1000000))⟩:Q48),(Q3e st.rows (Q0o (cT st 6 1) 1000000)))
 ex:=λst=>[]++[(Q0o (lk st 4) (st.rows.length+0)),(Q0o (lk st 5) (st.rows.length+1)),(Q0o (cT st 5 2) (st.rows.length+2)),(Q0o (lk st 6) (st.rows.length+3)),(Q0o (cT st 6 1) (st.rows.length+4)),(Q0o (cT st 5 1) (st.rows.length+5))]}
def Z8b:List (Nat×LInv):=[(4,Zgj)]
def Zlp:Q0c:=mkP 30 [] true [.one (.recs .str), .one (.recs .apiOutput)] [] (λargs rows=>Qmz (argR .str args 0) (argR .apiOutput args 1)) (λargs rows=>Zjj (argR .str args 0) (argR .apiOutput args 1)) (λX=> .agg (Q48.cellsW X (.all 0) (.all 1))) (λX=>[⟨false,9,1, .recs .str X.D9⟩,⟨false,9,1, .recs .str X.B0⟩])
theorem Zhd:Q06 Tryz.prog Zlp:=Q0n Q0j Q0l (.cons Qfu (.cons Qf2 (.cons Qjh (.nil)))) Tryz.func30 Tryz.call30 (λargs rows=>Qkw (argR .str args 0) (argR .apiOutput args 1)) [.row 9 1 (.recs .str), .row 9 1 (.recs .str)] Z8b 3
end
noncomputable section
instance sumInhRc {α β:Type} [Inhabited β]:Inhabited (α⊕β):=⟨.inr default⟩
def Qhm(m:Q00)(where0:Int)(what:Int):Tree Q00:=
.an (Q91 m) (.lv (Qgb m) λ(x0:Q00)=> .an (Q1d where0 24) (.lv (Q1s where0 24) λ(x1:Int)=> .br (x1==0) (.lf ({B2:={X:=x0.B2.X,Pc:=wrap u32 (iand i64 what 4294967295),B5:=x0.B2.B5},Mem:=x0.Mem,A3:=x0.A3,A7:=x0.A7,B0:=x0.B0,C0:=x0.C0,A2:=x0.A2,A1:=x0.A1,A4:=x0.A4,A6:=x0.A6})) (let E1:=wrap u32 (iand i64 what 4294967295); .br (x1==1) (.an (Q1d what 16) (.lv (Q1s what 16) λ(x2:Int)=> .cn (Nat.blt 0 1&&decide (0<=x2/\x2<(↑16:Int))) (.lf ({B2:={X:=A16.of 0 (List.set (A16.l x0.B2.X) x2.toNat E1),Pc:=x0.B2.Pc,B5:=x0.B2.B5},Mem:=x0.Mem,A3:=x0.A3,A7:=x0.A7,B0:=x0.B0,C0:=x0.C0,A2:=x0.A2,A1:=x0.A1,A4:=x0.A4,A6:=x0.A6})))) (.br (x1==2) (.an (Q1d what 8) (.lv (Q1s what 8) λ(x3:Int)=> .cn (Nat.blt 0 1&&decide (0<=x3/\x3<(↑8:Int))) (.lf ({B2:={X:=x0.B2.X,Pc:=x0.B2.Pc,B5:=A8.of 0 (List.set (A8.l x0.B2.B5) x3.toNat (ishr u32 E1 3))},Mem:=x0.Mem,A3:=x0.A3,A7:=x0.A7,B0:=x0.B0,C0:=x0.C0,A2:=x0.A2,A1:=x0.A1,A4:=x0.A4,A6:=x0.A6})))) (.br (x1==3) (.lf ({B2:={X:=x0.B2.X,Pc:=x0.B2.Pc,B5:={a0:=iand u32 E1 31,a1:=x0.B2.B5.a1,a2:=x0.B2.B5.a2,a3:=x0.B2.B5.a3,a4:=x0.B2.B5.a4,a5:=x0.B2.B5.a5,a6:=x0.B2.B5.a6,a7:=x0.B2.B5.a7}},Mem:=x0.Mem,A3:=x0.A3,A7:=x0.A7,B0:=x0.B0,C0:=x0.C0,A2:=x0.A2,A1:=x0.A1,A4:=x0.A4,A6:=x0.A6})) (.br (x1==4) (.lf ({B2:={X:=x0.B2.X,Pc:=x0.B2.Pc,B5:={a0:=x0.B2.B5.a0,a1:=x0.B2.B5.a1,a2:=x0.B2.B5.a2,a3:=x0.B2.B5.a3,a4:=x0.B2.B5.a4,a5:=x0.B2.B5.a5,a6:=x0.B2.B5.a6,a7:=iand u32 E1 31}},Mem:=x0.Mem,A3:=x0.A3,A7:=x0.A7,B0:=x0.B0,C0:=x0.C0,A2:=x0.A2,A1:=x0.A1,A4:=x0.A4,A6:=x0.A6})) (.br (x1==5) (.an (Q1d what (x0.Mem.length:Int)) (.lv (Q1s what (x0.Mem.length:Int)) λ(x4:Int)=> .cn (Nat.beq 1 1&&Nat.blt 0 1&&decide (0<=x4/\x4<(x0.Mem.length:Int))) (.lf ({B2:=x0.B2,Mem:=List.set x0.Mem x4.toNat E1,A3:=x0.A3,A7:=x0.A7,B0:=x0.B0,C0:=x0.C0,A2:=x0.A2,A1:=x0.A1,A4:=x0.A4,A6:=x0.A6})))) (.br (x1==6) (.an (Q1d what (x0.Mem.length:Int)) (.lv (Q1s what (x0.Mem.length:Int)) λ(x5:Int)=> .an (Qc3 what) (.lv (Z27 what) λ(x6:Q0k)=> .lv (Q1h x6) λ(x7:Int×Bool)=> .cn (Nat.beq 1 1&&Nat.blt 0 1&&decide (0<=x5/\x5<(x0.Mem.length:Int))) (.lf ({B2:=x0.B2,Mem:=List.set x0.Mem x5.toNat x7.1,A3:=x0.A3,A7:=x0.A7,B0:=x0.B0,C0:=x0.C0,A2:=x0.A2,A1:=x0.A1,A4:=x0.A4,A6:=x0.A6}))))) (.br (x1==7) (.an (Q1d what 18) (.lv (Q1s what 18) λ(x8:Int)=> .an (Q4z what x8) (.lv (Qkv what x8) λ(x9:List UInt8)=> .lf ({B2:=x0.B2,Mem:=x0.Mem,A3:={D3:=x9},A7:=x0.A7,B0:=x0.B0,C0:=x0.C0,A2:=x0.A2,A1:=x0.A1,A4:=x0.A4,A6:=x0.A6})))) (.br (x1==8) (.lf ({B2:=x0.B2,Mem:=x0.Mem,A3:=x0.A3,A7:={D2:=iand i64 what (1:Int)==(1:Int),C8:=iand u32 E1 6,D5:=iand i64 what (8:Int)==(8:Int)},B0:=x0.B0,C0:=x0.C0,A2:=x0.A2,A1:=x0.A1,A4:=x0.A4,A6:=x0.A6})) (.br (x1==9) (.lf ({B2:=x0.B2,Mem:=x0.Mem,A3:=x0.A3,A7:=x0.A7,B0:={Blocks:=x0.B0.Blocks,B9:=x0.B0.B9,B4:=x0.B0.B4,C1:=iand i64 what 3,D8:=x0.B0.D8,B6:=x0.B0.B6,B3:=x0.B0.B3,C3:=x0.B0.C3},C0:=x0.C0,A2:=x0.A2,A1:=x0.A1,A4:=x0.A4,A6:=x0.A6})) (.br (x1==10) (.br (wrap i64 (1+iand i64 what 1)==2) (.an (Q4z what 128) (.lv (Qkv what 128) λ(x10:List UInt8)=> .lf ({B2:=x0.B2,Mem:=x0.Mem,A3:=x0.A3,A7:=x0.A7,B0:={Blocks:=4,B9:=0,B4:=0,C1:=1,D8:=wrap i64 (1+iand i64 what 1),B6:=iand u32 (ishr u32 E1 1) 3,B3:=iand u32 (ishr u32 E1 3) 7,C3:=x10},C0:=x0.C0,A2:=x0.A2,A1:=x0.A1,A4:=x0.A4,A6:=x0.A6}))) (.lf ({B2:=x0.B2,Mem:=x0.Mem,A3:=x0.A3,A7:=x0.A7,B0:={Blocks:=4,B9:=0,B4:=0,C1:=1,D8:=wrap i64 (1+iand i64 what 1),B6:=iand u32 (ishr u32 E1 1) 3,B3:=iand u32 (ishr u32 E1 3) 7,C3:=[]},C0:=x0.C0,A2:=x0.A2,A1:=x0.A1,A4:=x0.A4,A6:=x0.A6}))) (.br (x1==11) (.lf ({B2:=x0.B2,Mem:=x0.Mem,A3:=x0.A3,A7:=x0.A7,B0:={Blocks:=x0.B0.Blocks,B9:=iand u32 E1 7,B4:=iand u32 (ishr u32 E1 3) 15,C1:=x0.B0.C1,D8:=x0.B0.D8,B6:=x0.B0.B6,B3:=x0.B0.B3,C3:=x0.B0.C3},C0:=x0.C0,A2:=x0.A2,A1:=x0.A1,A4:=x0.A4,A6:=x0.A6})) (.br (x1==12) (.lf ({B2:=x0.B2,Mem:=x0.Mem,A3:=x0.A3,A7:=x0.A7,B0:=x0.B0,C0:={B4:=iand u32 E1 7,F0:=iand u32 (ishr u32 E1 3) 255,C7:=iand i64 what (2048:Int) !=(0:Int),C2:=iand u32 (ishr u32 E1 12) 7,B8:=false,F3:=0},A2:=x0.A2,A1:=x0.A1,A4:=x0.A4,A6:=x0.A6})) (.br (x1==13) (.lf ({B2:=x0.B2,Mem:=x0.Mem,A3:=x0.A3,A7:=x0.A7,B0:=x0.B0,C0:={B4:=0,F0:=0,C7:=false,C2:=0,B8:=true,F3:=iand u32 E1 255},A2:=x0.A2,A1:=x0.A1,A4:=x0.A4,A6:=x0.A6})) (.br (x1==14) (.lf ({B2:=x0.B2,Mem:=x0.Mem,A3:=x0.A3,A7:=x0.A7,B0:=x0.B0,C0:=x0.C0,A2:={C9:=iand u32 E1 7,C5:=iand u32 (ishr u32 E1 3) 511},A1:=x0.A1,A4:=x0.A4,A6:=x0.A6})) (.br (x1==15) (.lf ({B2:=x0.B2,Mem:=x0.Mem,A3:=x0.A3,A7:=x0.A7,B0:=x0.B0,C0:=x0.C0,A2:=x0.A2,A1:=x0.A1,A4:=!x0.A4,A6:=x0.A6})) (.br (x1==16) (.lf ({B2:=x0.B2,Mem:=x0.Mem,A3:=x0.A3,A7:=x0.A7,B0:=x0.B0,C0:=x0.C0,A2:=x0.A2,A1:=x0.A1,A4:=x0.A4,A6:=!x0.A6})) (.br (x1==17) (.lf ({B2:=x0.B2,Mem:=x0.Mem,A3:=x0.A3,A7:=x0.A7,B0:=x0.B0,C0:=x0.C0,A2:=x0.A2,A1:=wrap u64 what,A4:=x0.A4,A6:=x0.A6})) (.br (x1==18) (.an (Q1d what (x0.Mem.length:Int)) (.lv (Q1s what (x0.Mem.length:Int)) λ(x11:Int)=> .cn (Nat.beq 1 1&&Nat.blt 0 1&&decide ((0:Int)<=(0:Int)/\0<=x11/\x11<=(x0.Mem.length:Int))) (.lf ({B2:=x0.B2,Mem:=List.take (Int.toNat x11-Int.toNat 0) (List.drop (Int.toNat 0) x0.Mem),A3:=x0.A3,A7:=x0.A7,B0:=x0.B0,C0:=x0.C0,A2:=x0.A2,A1:=x0.A1,A4:=x0.A4,A6:=x0.A6})))) (.br (x1==19) (.lf ({B2:=x0.B2,Mem:=x0.Mem,A3:=x0.A3,A7:=x0.A7,B0:=x0.B0,C0:=x0.C0,A2:=x0.A2,A1:=wrap u64 (1152921504606846976-wrap u64 (iand i64 what 3)),A4:=x0.A4,A6:=x0.A6})) (.br (x1==20) (.lf ({B2:={X:=x0.B2.X,Pc:=x0.B2.Pc,B5:={a0:=x0.B2.B5.a0,a1:=x0.B2.B5.a1,a2:=x0.B2.B5.a2,a3:=x0.B2.B5.a3,a4:=x0.B2.B5.a4,a5:=x0.B2.B5.a5,a6:=iand u32 E1 15,a7:=x0.B2.B5.a7}},Mem:=x0.Mem,A3:=x0.A3,A7:=x0.A7,B0:=x0.B0,C0:=x0.C0,A2:=x0.A2,A1:=x0.A1,A4:=x0.A4,A6:=x0.A6})) (.br (x1==21) (.lf ({B2:={X:=x0.B2.X,Pc:=wrap u32 (640+iand u32 E1 124),B5:=x0.B2.B5},Mem:=x0.Mem,A3:=x0.A3,A7:=x0.A7,B0:=x0.B0,C0:=x0.C0,A2:=x0.A2,A1:=x0.A1,A4:=x0.A4,A6:=x0.A6})) (.lf x0))))))))))))))))))))))))
def Z21(m:Q00)(where0:Int)(what:Int):Q00:=(Qhm m where0 what).m
abbrev Qlp(m:Q00)(where0:Int)(what:Int):Prop:=(Qhm m where0 what).p
def Zgw:Q0c:=mkP 20 [] true [.agg Q00.sig, .one (.int .i64), .one (.int .i64)] [] (λargs rows=>Qlp (Q00.of (aC args 0)) (argI args 1) (argI args 2)) (λargs rows=>Z21 (Q00.of (aC args 0)) (argI args 1) (argI args 2)) (λX=> .agg (Q00.cellsW X (.sl 1 (.ints .u32 X.Mem) true))) (λX=>[])
theorem Zee:Q06 Tryz.prog Zgw:=Q0n Q0j Q0l (.cons Qhd (.cons Qcq (.cons Qed (.cons Qwm (.cons Qwf (.nil)))))) Tryz.func20 Tryz.call20 (λargs rows=>Qhm (Q00.of (aC args 0)) (argI args 1) (argI args 2)) [.sl (.ints .u32) true] [] 2
def Qes(a:(List Q02))(b:(List Q02))(z:(Int)):Prop:=0<=z/\z<=a.length/\a.length=b.length
def Q5s(a:(List Q02))(b:(List Q02))(z:(Int)):Nat:=(a.length-z).toNat
def Q4n(a:(List Q02))(b:(List Q02)):Tree Bool:=
.br ((a.length:Int) !=(b.length:Int)) (.lf false) (.lp inferInstance (Q5s a b 0+1) ((nR RK.apiOutput 4 a/\nR RK.apiOutput 4 b/\rE (0:Int)/\True)/\True) 0 λ(v0:Int)=> .br (decide (v0<(a.length:Int))) (.cn (Nat.beq 4 4&&Nat.blt 0 4&&decide (0<=v0/\v0<(a.length:Int))) (.cn (Nat.beq 4 4&&Nat.blt 0 4&&decide (0<=v0/\v0<(b.length:Int))) (let E1:=a.getD v0.toNat (RK.dflt RK.apiOutput);let E2:=b.getD v0.toNat (RK.dflt RK.apiOutput); .br (!eqs [D.int i64 E1.B7,D.int u64 E1.At,D.int u32 E1.B9,D.str E1.D0] [D.int i64 E2.B7,D.int u64 E2.At,D.int u32 E2.B9,D.str E2.D0]) (.lf (Sum.inr false)) (.nx ((nR RK.apiOutput 4 a/\nR RK.apiOutput 4 b/\rE ((wrap i64 (v0+1)):Int)/\True)/\True) (Sum.inl (wrap i64 (v0+1))))))) (.lf (Sum.inr true)))
def Q4r(a:(List Q02))(b:(List Q02)):Bool:=(Q4n a b).m
def Q28(a:(List Q02))(b:(List Q02)):Prop:=
a.length<=1000000000000
theorem Qpr(a:(List Q02))(b:(List Q02))(hw:Q28 a b):(Q4n a b).p:=by
 simp only[Q28]at hw
 unfold Tree.p Q4n
 repeat'(first|refine w_lp (inv:=Qes a b) (μ:=Q5s a b) ?_ (Nat.lt_succ_self _) (λ_ _=> ?_)|exact trivial|refine w_br (λ_=> ?_) (λ_=> ?_)|refine w_cn ?_ ?_|refine w_an ?_ ?_|refine w_lv (λ_ _=> ?_)|refine w_nx ?_|refine w_lf ?_|refine And.intro ?_ ?_)
 all_goals((try simp only[Qes,Q5s]at*);exact fin0)
def Qqs:LInv:={
 α:=(Int)
 F:=λst a=>([(0,(lk st 0)),(1,(lk st 1)),(5, .int i64 a)],[])
 a0:=λst=>(lk st 5).toInt
 ex0:=λst=>[]++[]
 next:=λst=>(lk st 5).toInt
 ex:=λst=>[]++[]}
def Qo0:List (Nat×LInv):=[(4,Qqs)]
def Qsw:Q0c:=mkP 26 [] true [.one (.recs .apiOutput), .one (.recs .apiOutput)] [] (λargs rows=>Q28 (argR .apiOutput args 0) (argR .apiOutput args 1)) (λargs rows=>Q4r (argR .apiOutput args 0) (argR .apiOutput args 1)) (λX=> .bool X) (λX=>[])
theorem Qr4:Q06 Tryz.prog Qsw:=Q0n Q0j Q0l (.nil) Tryz.func26 Tryz.call26 (λargs rows=>Q4n (argR .apiOutput args 0) (argR .apiOutput args 1)) [] Qo0 3 (hp:=λargs rows h=>Qpr (argR .apiOutput args 0) (argR .apiOutput args 1) h)
def Qc8:Tree Bool:=
.an (Q9e 1 0 []) (.lv (Q1x 1 0 []) λ(x0:Q00×Bool)=> .an (Q7e x0.1 [] 3) (.lv (Qlg x0.1 [] 3) λ(x1:Q00×List Q02×Int×Int)=> .an (Qmz [[(97:UInt8)]] [{B7:=1,At:=0,B9:=0,D0:=[(98:UInt8)]},{B7:=4,At:=0,B9:=0,D0:=[(99:UInt8)]}]) (.lv (Zjj [[(97:UInt8)]] [{B7:=1,At:=0,B9:=0,D0:=[(98:UInt8)]},{B7:=4,At:=0,B9:=0,D0:=[(99:UInt8)]}]) λ(x2:Q48)=> .br (x1.2.2.2==0) (.br (x1.1.A1==3) (.br ((x1.2.1.length:Int)==(0:Int)) (.br (x1.2.2.1==0) (.br (decide (x2.A3=[(98:UInt8)])) (.br ((x2.B0.length:Int)==(1:Int)) (.cn (Nat.beq 1 1&&Nat.blt 0 1&&decide ((0:Int)<=(0:Int)/\0<(x2.B0.length:Int))) (.br (decide (x2.B0.getD (Int.toNat 0) (RK.dflt RK.str)=[(99:UInt8)])) (let E1:=({At:=2,C4:={B7:=0,N:=0,D0:=[]}}:Q0h);let E2:=({At:=1,C4:={B7:=0,N:=0,D0:=[]}}:Q0h); .an (Q1t [E1,E2]) (.lv (Q79 [E1,E2]) λ(x3:Bool)=> .lf (!x3))) (.lf false))) (.lf false)) (.lf false)) (.lf false)) (.lf false)) (.lf false)) (.lf false))))
def Q29:Bool:=(Qc8).m
abbrev Q16:Prop:=(Qc8).p
def Z9d:Q0c:=mkP 16 [] true [] [] (λargs rows=>Q16) (λargs rows=>Q29) (λX=> .bool X) (λX=>[])
theorem Z4i:Q06 Tryz.prog Z9d:=Q0n Q0j Q0l (.cons Z1z (.cons Qze (.cons Zhd (.cons Qia (.nil))))) Tryz.func16 Tryz.call16 (λargs rows=>Qc8) [] [] 2
end
noncomputable section
def Qqq(m:Q00)(script:(List Q0h))(until0:Int)(z:(Int)×Q00×(List Q02)):Nat:=(until0-z.2.1.A1).toNat
def Qq7(m:Q00)(script:(List Q0h))(until0:Int)(v0:Int×Q00×List Q02)(z:(Int)×Q00):Nat:=(script.length-z.1).toNat
def Qko(m:Q00)(script:(List Q0h))(until0:Int):Tree (Q00×(List Q02)×Int×Int):=
.lv (Q41 m) λ(x0:Bool)=>let E7:=({B2:={X:={a0:=0,a1:=0,a2:=0,a3:=0,a4:=0,a5:=0,a6:=0,a7:=0,a8:=0,a9:=0,a10:=0,a11:=0,a12:=0,a13:=0,a14:=0,a15:=0},Pc:=0,B5:={a0:=0,a1:=0,a2:=0,a3:=0,a4:=0,a5:=0,a6:=0,a7:=0}},Mem:=[],A3:={D3:=[]},A7:={D2:=false,C8:=0,D5:=false},B0:={Blocks:=0,B9:=0,B4:=0,C1:=0,D8:=0,B6:=0,B3:=0,C3:=[]},C0:={B4:=0,F0:=0,C7:=false,C2:=0,B8:=false,F3:=0},A2:={C9:=0,C5:=0},A1:=0,A4:=false,A6:=false}:Q00);let T4:Tree ((Q00×(List Q02)×Int×Int)):= .lf (E7,[],0,1300); .br (!x0) T4 (.br (decide (until0<m.A1)) T4 (.br (decide (wrap u64 (until0-m.A1)>4000)) T4 (.br (decide ((script.length:Int)>(400:Int))) T4 (.an (Q27 script) (.lv (Q78 script) λ(x1:Bool)=>let T5:Tree ((Q00×(List Q02)×Int×Int)):= .lf (E7,[],0,1301); .br (!x1) T5 (let T1:Tree ((Q00×(List Q02)×Int×Int)):= .an (Q91 m) (.lv (Qgb m) λ(x2:Q00)=> .lp inferInstance (Qqq m script until0 (0,x2,[])+1) ((nR RK.apiEntry 4 script/\rE (until0:Int)/\rZ/\rZ/\True/\rE (0:Int)/\True)/\(mE x2 True True)/\rE x2.Mem/\(mE zM True True)/\rE ([]:List (RK.T RK.apiOutput))/\True) (0,x2,[]) λ(v0:Int×Q00×List Q02)=> .br (decide (v0.2.1.A1<until0)) (.br (decide (v0.2.1.A1<1152921504606846976)) (.lp inferInstance (Qq7 m script until0 v0 (v0.1,v0.2.1)+1) ((nR RK.apiEntry 4 script/\rE (until0:Int)/\rZ/\rZ/\True/\rE v0.1/\(rE (0:Nat)/\rE (46:Nat))/\rE v0.2.1.A1/\rE ((decide (v0.2.1.A1<1152921504606846976)):Bool)/\True)/\(mE v0.2.1 True True)/\rE v0.2.1.Mem/\(mE zM True True)/\rE v0.2.2/\True) (v0.1,v0.2.1) λ(v1:Int×Q00)=>let E8:=Nat.beq 4 4&&Nat.blt 0 4&&decide (0<=v1.1/\v1.1<(script.length:Int));let E9:=script.getD v1.1.toNat (RK.dflt RK.apiEntry);let E10:=decide (v1.1<(script.length:Int));let T2:Tree ((Int×Q00)⊕((Int×Q00×List Q02)⊕((Q00×(List Q02)×Int×Int)))):= .br v1.2.A6 (.lf (Sum.inr (Sum.inr (v1.2,v0.2.2,v1.1,0)))) (.an (Qgn v1.2) (.lv (Q36 v1.2) λ(x4:Bool)=> .br x4 (.br E10 (.lf (Sum.inr (Sum.inr (E7,[],0,1303)))) (.lf (Sum.inr (Sum.inr (v1.2,v0.2.2,v1.1,0))))) (let T3:Tree ((Int×Q00)⊕((Int×Q00×List Q02)⊕((Q00×(List Q02)×Int×Int)))):= .an (Q81 v1.2 0) (.lv (Q05 v1.2 0) λ(x7:List Q02×Q00)=> .cn (decide (40*(v0.2.2.length+x7.1.length)<=140737488355328)) (.nx ((nR RK.apiEntry 4 script/\rE (until0:Int)/\rZ/\rZ/\True/\rE v1.1/\True)/\(mE x7.2 True True)/\rE x7.2.Mem/\(mE zM True True)/\rE ((v0.2.2++x7.1):List (RK.T RK.apiOutput))/\True) (Sum.inr (Sum.inl (v1.1,x7.2,v0.2.2++x7.1)))));let T6:Tree ((Int×Q00)⊕((Int×Q00×List Q02)⊕((Q00×(List Q02)×Int×Int)))):= .lf (Sum.inr (Sum.inr (E7,[],0,1302))); .br E10 (.cn E8 (.an (Qaw v1.2) (.lv (Q18 v1.2) λ(x5:Bool)=> .br (!(E9.At==v1.2.A1)==x5) T6 (.br (E9.At==v1.2.A1) (.cn E8 (.an (Q81 v1.2 E9.C4.N) (.lv (Q05 v1.2 E9.C4.N) λ(x6:List Q02×Q00)=> .cn (decide (40*(v0.2.2.length+x6.1.length)<=140737488355328)) (.nx ((nR RK.apiEntry 4 script/\rE (until0:Int)/\rZ/\rZ/\True/\rE ((wrap i64 (v1.1+1)):Int)/\True)/\(mE x6.2 True True)/\rE x6.2.Mem/\(mE zM True True)/\rE ((v0.2.2++x6.1):List (RK.T RK.apiOutput))/\True) (Sum.inr (Sum.inl (wrap i64 (v1.1+1),x6.2,v0.2.2++x6.1))))))) T3)))) (.an (Qaw v1.2) (.lv (Q18 v1.2) λ(x8:Bool)=> .br (!false==x8) T6 T3))))); .br E10 (.cn E8 (.br (E9.At==v1.2.A1) (.cn E8 (.br (E9.C4.B7 !=1) (.cn E8 (.an (Qjv v1.2 E9.C4) (.lv (Q0p v1.2 E9.C4) λ(x3:Bool×Q00)=> .nx ((nR RK.apiEntry 4 script/\rE (until0:Int)/\rZ/\rZ/\True/\rE ((wrap i64 (v1.1+1)):Int)/\(rE (0:Nat)/\rE (46:Nat))/\rE v0.2.1.A1/\rE ((decide (v0.2.1.A1<1152921504606846976)):Bool)/\True)/\(mE x3.2 True True)/\rE x3.2.Mem/\(mE zM True True)/\rE v0.2.2/\True) (Sum.inl (wrap i64 (v1.1+1),x3.2))))) T2)) T2)) T2) (.lf (Sum.inr (v0.2.1,v0.2.2,v0.1,0)))) (.lf (Sum.inr (v0.2.1,v0.2.2,v0.1,0)))); .br (decide ((script.length:Int)>(0:Int))) (.cn (Nat.beq 4 4&&Nat.blt 0 4&&decide ((0:Int)<=(0:Int)/\0<(script.length:Int))) (.br (decide ((script.getD (Int.toNat 0) (RK.dflt RK.apiEntry)).At<m.A1)) T5 T1)) T1))))))
def Qp1(m:Q00)(script:(List Q0h))(until0:Int):(Q00×(List Q02)×Int×Int):=(Qko m script until0).m
abbrev Qbm(m:Q00)(script:(List Q0h))(until0:Int):Prop:=(Qko m script until0).p
def Zgd:LInv:={
 α:=(Int)×Q00×(List Q02)
 F:=λst a=>([(1,(lk st 1)),(2,(lk st 2)),(3, .ptr 0 0 0),(6, .ptr 2 0 0),(10, .all 3),(11, .int i64 a.1)],[⟨true,41,49, .gen [mD a.2.1 (.all 1)]⟩,⟨false,23,1, .ints u32 a.2.1.Mem⟩,⟨true,41,49, .gen [mB (cT st 6)]⟩,⟨false,63,4, .recs RK.apiOutput a.2.2⟩])
 a0:=λst=>((lk st 11).toInt,(mR (cT st 3) (Q3e st.rows (Q0o (cT st 3 25) 1000000))),(Q3x RK.apiOutput st.rows (rN st 10)))
 ex0:=λst=>[]++[(Q0o (lk st 3) (st.rows.length+0)),(Q0o (cT st 3 25) (st.rows.length+1)),(Q0o (lk st 6) (st.rows.length+2)),(Q0o (lk st 10) (st.rows.length+3))]
 next:=λst=>((lk st 11).toInt,(mR (cT st 3) (Q3e st.rows (Q0o (cT st 3 25) 1000000))),(Q3x RK.apiOutput st.rows (rN st 10)))
 ex:=λst=>[]++[(Q0o (lk st 3) (st.rows.length+0)),(Q0o (cT st 3 25) (st.rows.length+1)),(Q0o (lk st 6) (st.rows.length+2)),(Q0o (lk st 10) (st.rows.length+3))]}
def Zg5:LInv:={
 α:=(Int)×Q00
 F:=λst a=>([(1,(lk st 1)),(2,(lk st 2)),(3, .ptr 0 0 0),(6, .ptr 2 0 0),(10, .all 3),(11, .int i64 a.1),(61, .ptr 0 0 46),(62,(lk st 62)),(63,(lk st 63))],[⟨true,41,49, .gen [mD a.2 (.all 1)]⟩,⟨false,23,1, .ints u32 a.2.Mem⟩,⟨true,41,49, .gen [mB (cT st 6)]⟩,⟨false,63,4,esOf st.rows (rN st 10)⟩])
 a0:=λst=>((lk st 11).toInt,(mR (cT st 3) (Q3e st.rows (Q0o (cT st 3 25) 1000000))))
 ex0:=λst=>[]++[(Q0o (lk st 3) (st.rows.length+0)),(Q0o (cT st 3 25) (st.rows.length+1)),(Q0o (lk st 6) (st.rows.length+2)),(Q0o (lk st 10) (st.rows.length+3))]
 next:=λst=>((lk st 11).toInt,(mR (cT st 3) (Q3e st.rows (Q0o (cT st 3 25) 1000000))))
 ex:=λst=>[]++[(Q0o (lk st 3) (st.rows.length+0)),(Q0o (cT st 3 25) (st.rows.length+1)),(Q0o (lk st 6) (st.rows.length+2)),(Q0o (lk st 10) (st.rows.length+3))]}
def Z9f:List (Nat×LInv):=[(8,Zgd),(9,Zg5)]
def Zld:Q0c:=mkP 22 [] true [.agg Q00.sig, .one (.recs .apiEntry), .one (.int .u64)] [] (λargs rows=>Qbm (Q00.of (aC args 0)) (argR .apiEntry args 1) (argI args 2)) (λargs rows=>Qp1 (Q00.of (aC args 0)) (argR .apiEntry args 1) (argI args 2)) (λX=> .tup [.agg (Q00.cellsW (X.1) (.all 0)), .all 1, .int .i64 (X.2.2.1), .int .i64 (X.2.2.2)]) (λX=>[⟨false,23,1, .ints .u32 (X.1).Mem⟩,⟨false,63,4, .recs .apiOutput (X.2.1)⟩])
theorem Zg2:Q06 Tryz.prog Zld:=Q0n Q0j Q0l (.cons Ql8 (.cons Qhe (.cons Qhd (.cons Qt7 (.cons Qno (.cons Qlq (.cons Qni (.nil)))))))) Tryz.func22 Tryz.call22 (λargs rows=>Qko (Q00.of (aC args 0)) (argR .apiEntry args 1) (argI args 2)) [.row 23 1 (.ints .u32), .row 63 4 (.recs .apiOutput)] Z9f 3
def Qkh(l:(List Q0h))(z:(Int)):Nat:=(l.length-z).toNat
def Qck(l:(List Q0h)):Tree Bool:=
.lp inferInstance (Qkh l 0+1) ((nR RK.apiEntry 4 l/\rE (0:Int)/\True)/\True) 0 λ(v0:Int)=> .br (decide (v0<(l.length:Int))) (.cn (Nat.beq 4 4&&Nat.blt 0 4&&decide (0<=v0/\v0<(l.length:Int))) (.br (decide ((↑(List.length (l.getD v0.toNat (RK.dflt RK.apiEntry)).C4.D0):Int)>(300:Int))) (.lf (Sum.inr false)) (.nx ((nR RK.apiEntry 4 l/\rE ((wrap i64 (v0+1)):Int)/\True)/\True) (Sum.inl (wrap i64 (v0+1)))))) (.lf (Sum.inr (decide ((l.length:Int)<=(60:Int)))))
def Z2r(l:(List Q0h)):Bool:=(Qck l).m
abbrev Qnj(l:(List Q0h)):Prop:=(Qck l).p
def Z44:LInv:={
 α:=(Int)
 F:=λst a=>([(0,(lk st 0)),(3, .int i64 a)],[])
 a0:=λst=>(lk st 3).toInt
 ex0:=λst=>[]++[]
 next:=λst=>(lk st 3).toInt
 ex:=λst=>[]++[]}
def Qxq:List (Nat×LInv):=[(2,Z44)]
def Z91:Q0c:=mkP 15 [] true [.one (.recs .apiEntry)] [] (λargs rows=>Qnj (argR .apiEntry args 0)) (λargs rows=>Z2r (argR .apiEntry args 0)) (λX=> .bool X) (λX=>[])
theorem Z4h:Q06 Tryz.prog Z91:=Q0n Q0j Q0l (.nil) Tryz.func15 Tryz.call15 (λargs rows=>Qck (argR .apiEntry args 0)) [] Qxq 3
def Qal(l:(List Q0h))(how:Int)(at0:Int):Tree (List Q0h):=
.br ((l.length:Int)==(0:Int)) (.lf l) (.cn (decide (40*(0+l.length)<=140737488355328)) (.an (Q1d at0 (l.length:Int)) (.lv (Q1s at0 (l.length:Int)) λ(x0:Int)=> .an (Q1d how 7) (.lv (Q1s how 7) λ(x1:Int)=>let E1:=Nat.beq 4 4&&Nat.blt 0 4&&decide (0<=x0/\x0<(l.length:Int));let E2:=l.getD x0.toNat (RK.dflt RK.apiEntry); .br (x1==0) (.cn E1 (.cn E1 (.lf (List.set l x0.toNat {At:=wrap u64 (E2.At+1),C4:=E2.C4})))) (.br (x1==1) (.cn E1 (.br (decide (E2.At>0)) (.cn E1 (.cn E1 (.lf (List.set l x0.toNat {At:=wrap u64 (E2.At-1),C4:=E2.C4})))) (.lf l))) (.br (x1==2) (.cn (Nat.beq 4 4&&Nat.blt 0 4&&decide ((0:Int)<=(0:Int)/\0<=x0/\x0<=(l.length:Int))) (.cn (Nat.beq 4 4&&Nat.blt 0 4&&decide (0<=wrap i64 (x0+1)/\wrap i64 (x0+1)<=(l.length:Int)/\(l.length:Int)<=(l.length:Int))) (let E3:=Int.toNat (l.length:Int)-Int.toNat (wrap i64 (x0+1));let E5:=List.drop (Int.toNat (wrap i64 (x0+1))) l; .cn (decide (40*(List.length (List.take (Int.toNat x0-Int.toNat 0) l)+List.length (List.take E3 E5))<=140737488355328)) (.lf (List.take (Int.toNat x0-Int.toNat 0) l++List.take E3 E5))))) (.br (x1==3) (.cn (Nat.beq 4 4&&Nat.blt 0 4&&decide ((0:Int)<=(0:Int)/\0<=wrap i64 (x0+1)/\wrap i64 (x0+1)<=(l.length:Int))) (.cn (Nat.beq 4 4&&Nat.blt 0 4&&decide (0<=x0/\x0<=(l.length:Int)/\(l.length:Int)<=(l.length:Int))) (let E4:=Int.toNat (l.length:Int)-Int.toNat x0;let E6:=Int.toNat (wrap i64 (x0+1))-Int.toNat 0; .cn (decide (40*(List.length (List.take E6 l)+List.length (List.take E4 (List.drop x0.toNat l)))<=140737488355328)) (.lf (List.take E6 l++List.take E4 (List.drop x0.toNat l)))))) (.br (x1==4) (.an (Qjl at0) (.lv (Q3o at0) λ(x2:Q0f)=> .cn E1 (.lf (List.set l x0.toNat {At:=E2.At,C4:=x2})))) (.lf l)))))))))
def Qx5(l:(List Q0h))(how:Int)(at0:Int):(List Q0h):=(Qal l how at0).m
abbrev Qml(l:(List Q0h))(how:Int)(at0:Int):Prop:=(Qal l how at0).p
def Z43:Q0c:=Q0c.fz<|mkP 19 [] false [.one (.recs .apiEntry), .one (.int .i64), .one (.int .i64)] [] (λargs rows=>Qml (argR .apiEntry args 0) (argI args 1) (argI args 2)) (λargs rows=>Qx5 (argR .apiEntry args 0) (argI args 1) (argI args 2)) (λX=> .sl 4 (.recs .apiEntry X) false) (λX=>[])
theorem Qzm:Q06 Tryz.prog Z43:=Zlj<|Q0n Q0j Q0l (.cons Qcq (.cons Qu (.nil))) Tryz.func19 Tryz.call19 (λargs rows=>Qal (argR .apiEntry args 0) (argI args 1) (argI args 2)) [.sl (.recs .apiEntry) false] [] 2 (λ_ _ _=>by kernel_rfl) (λ_ _=>rfl) (λ_ _ h=>h) (λh=>by cases h)
def Qb(kind:Int)(l:(List Int))(acts:(List Int))(where0:Int)(what:Int)(how:Int)(at0:Int)(w:Q00)(raw:Bool)(other:(List Q0h))(until0:Int)(more:Int):Tree Bool:=
.lv (Qsb l acts) λ(x0:Bool)=> .br (!x0) (.an Q16 (.lv Q29 λ(x1:Bool)=> .lf x1)) (.an (Qnj other) (.lv (Z2r other) λ(x2:Bool)=> .br (!x2) (.an Q16 (.lv Q29 λ(x3:Bool)=> .lf x3)) (.an (Qfr kind l) (.lv (Qbp kind l) λ(x4:Q00)=> .an (Qm9 x4 acts) (.lv (Qs1 x4 acts) λ(x5:Q01×List Q02)=> .an (Qml x5.1.C6 how at0) (.lv (Qx5 x5.1.C6 how at0) λ(x6:List Q0h)=>let E3:=wrap u64 (w.A1+Int.tmod more 400);let E6:=decide ((w.A3.D3.length:Int)<=(40:Int));let E7:=decide ((w.Mem.length:Int)<=(300:Int)); .br raw (.an (Qlp x4 where0 what) (.lv (Z21 x4 where0 what) λ(x7:Q00)=>let E8:=decide ((other.length:Int)>(60:Int));let T2:Tree (Bool):= .br E8 (.an Q16 (.lv Q29 λ(x16:Bool)=> .lf x16)) (let E5:=wrap u64 (x4.A1+Int.tmod more 400); .an (Q7e x7 other E5) (.lv (Qlg x7 other E5) λ(x17:Q00×List Q02×Int×Int)=> .an (Qbm x7 other E5) (.lv (Qp1 x7 other E5) λ(x18:Q00×List Q02×Int×Int)=> .an (Q1t other) (.lv (Q79 other) λ(x19:Bool)=> .an (Q27 other) (.lv (Q78 other) λ(x20:Bool)=> .br (x19==x20) (.an (Qa3 x17.1 x18.1) (.lv (Qki x17.1 x18.1) λ(x21:Bool)=> .br x21 (.an (Q28 x17.2.1 x18.2.1) (.lv (Q4r x17.2.1 x18.2.1) λ(x22:Bool)=> .br x22 (.br (x17.2.2.1==x18.2.2.1) (.br (x17.2.2.2==x18.2.2.2) (.an Q16 (.lv Q29 λ(x23:Bool)=> .lf x23)) (.lf false)) (.lf false)) (.lf false))) (.lf false))) (.lf false)))))); .br raw (.br E7 (.br E6 (.br E8 (.an Q16 (.lv Q29 λ(x8:Bool)=> .lf x8)) (.an (Q7e w other E3) (.lv (Qlg w other E3) λ(x9:Q00×List Q02×Int×Int)=> .an (Qbm w other E3) (.lv (Qp1 w other E3) λ(x10:Q00×List Q02×Int×Int)=> .an (Q1t other) (.lv (Q79 other) λ(x11:Bool)=> .an (Q27 other) (.lv (Q78 other) λ(x12:Bool)=> .br (x11==x12) (.an (Qa3 x9.1 x10.1) (.lv (Qki x9.1 x10.1) λ(x13:Bool)=> .br x13 (.an (Q28 x9.2.1 x10.2.1) (.lv (Q4r x9.2.1 x10.2.1) λ(x14:Bool)=> .br x14 (.br (x9.2.2.1==x10.2.2.1) (.br (x9.2.2.2==x10.2.2.2) (.an Q16 (.lv Q29 λ(x15:Bool)=> .lf x15)) (.lf false)) (.lf false)) (.lf false))) (.lf false))) (.lf false))))))) T2) T2) T2)) (.an (Qlp x4 where0 what) (.lv (Z21 x4 where0 what) λ(x40:Q00)=>let E9:=decide ((x6.length:Int)>(60:Int));let T1:Tree (Bool):= .br E9 (.an Q16 (.lv Q29 λ(x49:Bool)=> .lf x49)) (let E4:=wrap u64 (x5.1.A0.A1+Int.tmod more 3); .an (Q7e x40 x6 E4) (.lv (Qlg x40 x6 E4) λ(x50:Q00×List Q02×Int×Int)=> .an (Qbm x40 x6 E4) (.lv (Qp1 x40 x6 E4) λ(x51:Q00×List Q02×Int×Int)=> .an (Q1t x6) (.lv (Q79 x6) λ(x52:Bool)=> .an (Q27 x6) (.lv (Q78 x6) λ(x53:Bool)=> .br (x52==x53) (.an (Qa3 x50.1 x51.1) (.lv (Qki x50.1 x51.1) λ(x54:Bool)=> .br x54 (.an (Q28 x50.2.1 x51.2.1) (.lv (Q4r x50.2.1 x51.2.1) λ(x55:Bool)=> .br x55 (.br (x50.2.2.1==x51.2.2.1) (.br (x50.2.2.2==x51.2.2.2) (.an Q16 (.lv Q29 λ(x56:Bool)=> .lf x56)) (.lf false)) (.lf false)) (.lf false))) (.lf false))) (.lf false)))))); .br raw (.br E7 (.br E6 (.br E9 (.an Q16 (.lv Q29 λ(x41:Bool)=> .lf x41)) (.an (Q7e w x6 E3) (.lv (Qlg w x6 E3) λ(x42:Q00×List Q02×Int×Int)=> .an (Qbm w x6 E3) (.lv (Qp1 w x6 E3) λ(x43:Q00×List Q02×Int×Int)=> .an (Q1t x6) (.lv (Q79 x6) λ(x44:Bool)=> .an (Q27 x6) (.lv (Q78 x6) λ(x45:Bool)=> .br (x44==x45) (.an (Qa3 x42.1 x43.1) (.lv (Qki x42.1 x43.1) λ(x46:Bool)=> .br x46 (.an (Q28 x42.2.1 x43.2.1) (.lv (Q4r x42.2.1 x43.2.1) λ(x47:Bool)=> .br x47 (.br (x42.2.2.1==x43.2.2.1) (.br (x42.2.2.2==x43.2.2.2) (.an Q16 (.lv Q29 λ(x48:Bool)=> .lf x48)) (.lf false)) (.lf false)) (.lf false))) (.lf false))) (.lf false))))))) T1) T1) T1))))))))
def Qjw(kind:Int)(l:(List Int))(acts:(List Int))(where0:Int)(what:Int)(how:Int)(at0:Int)(w:Q00)(raw:Bool)(other:(List Q0h))(until0:Int)(more:Int):Bool:=(Qb kind l acts where0 what how at0 w raw other until0 more).m
abbrev Qiy(kind:Int)(l:(List Int))(acts:(List Int))(where0:Int)(what:Int)(how:Int)(at0:Int)(w:Q00)(raw:Bool)(other:(List Q0h))(until0:Int)(more:Int):Prop:=(Qb kind l acts where0 what how at0 w raw other until0 more).p
def Qxl:Q0c:=mkP 3 [] true [.one (.int .i64), .one (.ints .i64), .one (.ints .i64), .one (.int .i64), .one (.int .i64), .one (.int .i64), .one (.int .i64), .agg Q00.sig, .one (.bool), .one (.recs .apiEntry), .one (.int .u64), .one (.int .u64)] [] (λargs rows=>Qiy (argI args 0) (argL .i64 args 1) (argL .i64 args 2) (argI args 3) (argI args 4) (argI args 5) (argI args 6) (Q00.of (aC args 7)) (argB args 8) (argR .apiEntry args 9) (argI args 10) (argI args 11)) (λargs rows=>Qjw (argI args 0) (argL .i64 args 1) (argL .i64 args 2) (argI args 3) (argI args 4) (argI args 5) (argI args 6) (Q00.of (aC args 7)) (argB args 8) (argR .apiEntry args 9) (argI args 10) (argI args 11)) (λX=> .bool X) (λX=>[])
theorem Qvp:Q06 Tryz.prog Qxl:=Q0n Q0j Q0l (.cons Zi2 (.cons Z4h (.cons Z4i (.cons Z14 (.cons Zdj (.cons Qzm (.cons Zee (.cons Qze (.cons Zg2 (.cons Qia (.cons Qhe (.cons Zcx (.cons Qr4 (.nil)))))))))))))) Tryz.func3 Tryz.call3 (λargs rows=>Qb (argI args 0) (argL .i64 args 1) (argL .i64 args 2) (argI args 3) (argI args 4) (argI args 5) (argI args 6) (Q00.of (aC args 7)) (argB args 8) (argR .apiEntry args 9) (argI args 10) (argI args 11)) [] [] 2
end
end Go.Proofs.YtjaifpiopmhmlaaGreat

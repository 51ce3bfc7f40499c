import Derived.Test.YtmalmklaonainaaGreatReplayRefusesZd
import Derived.Test.YtmalmklaonainaaGreatReplayRefusesZg
set_option maxRecDepth 100000
set_option linter.all false
namespace Go.Proofs.YtmalmklaonainaaGreat
open Go Go.GD Go.IntKind
noncomputable section
instance sumInhZi {α β:Type} [Inhabited β]:Inhabited (α⊕β):=⟨.inr default⟩
def Qrt(src:(List UInt8))(z:(Int)×(List Int)):Nat:=((Z48 src).2.1.length-z.1).toNat
def Qrq(src:(List UInt8))(v0:Int×List Int)(z:(Int)×(List Int)):Nat:=(1024-z.1).toNat
def Qa2(src:(List UInt8)):Tree ((List Int)×Q1h):=
.an (Qmt src) (.lv (Z48 src) λ(x0:List Q28×List Q0b×Q1h)=> .br (x0.2.2.Err !=0) (.lf ([],x0.2.2)) (.lp inferInstance (Qrt src (0,[])+1) ((True/\rZ/\True/\True/\True/\rE (0:Int)/\True)/\(rE (0:Int)/\rE (0:Int)/\True)/\rE x0.1/\rE x0.2.1/\rE ([]:List Int)/\True) (0,[]) λ(v0:Int×List Int)=> .br (decide (v0.1<(x0.2.1.length:Int))) (.cn (Nat.beq 6 6&&Nat.blt 0 6&&decide (0<=v0.1/\v0.1<(x0.2.1.length:Int))) (let E4:=x0.2.1.getD v0.1.toNat (RK.dflt RK.vmfleetref1Statement);let T1:Tree ((Int×List Int)⊕(((List Int)×Q1h))):= .lp inferInstance (Qrq src v0 (0,v0.2)+1) ((True/\rZ/\True/\True/\True/\rE v0.1/\rZ/\rE (0:Int)/\True)/\(rE (0:Int)/\rE (0:Int)/\True)/\rE x0.1/\rE x0.2.1/\(rE ((x0.2.1.getD v0.1.toNat (RK.dflt RK.vmfleetref1Statement)).what:List UInt8)/\rE ((x0.2.1.getD v0.1.toNat (RK.dflt RK.vmfleetref1Statement)).op:Int)/\((Els.Nil (D.toEs (List.getD (Els.get (Els.recs RK.vmfleetref1Statement x0.2.1) v0.1.toNat) ((0:Nat)+(1:Nat)+(1:Nat)) D.dead))\/rE (3:Nat))/\rE ((x0.2.1.getD v0.1.toNat (RK.dflt RK.vmfleetref1Statement)).l:List (RK.T RK.vmfleetref1Arg)))/\rE ((x0.2.1.getD v0.1.toNat (RK.dflt RK.vmfleetref1Statement)).D7:Int)/\rE ((x0.2.1.getD v0.1.toNat (RK.dflt RK.vmfleetref1Statement)).at_:Int)/\rE ((x0.2.1.getD v0.1.toNat (RK.dflt RK.vmfleetref1Statement)).size:Int)/\True)/\rE v0.2/\True) (0,v0.2) λ(v1:Int×List Int)=> .br (decide (v1.1<E4.size)) (.cn (decide (4*(v1.2.length+1)<=140737488355328)) (.nx ((True/\rZ/\True/\True/\True/\rE v0.1/\rZ/\rE ((wrap i64 (v1.1+1)):Int)/\True)/\(rE (0:Int)/\rE (0:Int)/\True)/\rE x0.1/\rE x0.2.1/\(rE ((x0.2.1.getD v0.1.toNat (RK.dflt RK.vmfleetref1Statement)).what:List UInt8)/\rE ((x0.2.1.getD v0.1.toNat (RK.dflt RK.vmfleetref1Statement)).op:Int)/\((Els.Nil (Els.recs RK.vmfleetref1Arg (x0.2.1.getD v0.1.toNat (RK.dflt RK.vmfleetref1Statement)).l)\/rE (3:Nat))/\rE ((x0.2.1.getD v0.1.toNat (RK.dflt RK.vmfleetref1Statement)).l:List (RK.T RK.vmfleetref1Arg)))/\rE ((x0.2.1.getD v0.1.toNat (RK.dflt RK.vmfleetref1Statement)).D7:Int)/\rE ((x0.2.1.getD v0.1.toNat (RK.dflt RK.vmfleetref1Statement)).at_:Int)/\rE ((x0.2.1.getD v0.1.toNat (RK.dflt RK.vmfleetref1Statement)).size:Int)/\True)/\rE ((v1.2++[0]):List Int)/\True) (Sum.inl (wrap i64 (v1.1+1),v1.2++[0])))) (.nx ((True/\rZ/\True/\True/\True/\rE ((wrap i64 (v0.1+1)):Int)/\True)/\(rE (0:Int)/\rE (0:Int)/\True)/\rE x0.1/\rE x0.2.1/\rE v1.2/\True) (Sum.inr (Sum.inl (wrap i64 (v0.1+1),v1.2))));let E5:=Nat.beq 3 3&&Nat.blt 0 3&&decide ((0:Int)<=(0:Int)/\0<(↑(List.length E4.l):Int));let E7:=List.getD E4.l (Int.toNat 0) (RK.dflt RK.vmfleetref1Arg);let E8:=decide (4*(v0.2.length+1)<=140737488355328);let T2:Tree ((Int×List Int)⊕(((List Int)×Q1h))):= .cn E5 (.cn (Nat.beq 3 3&&Nat.blt 0 3&&decide ((0:Int)<=(1:Int)/\1<(↑(List.length E4.l):Int))) (.lv (Q1o {Op:=16,A:=E7.reg,B:=(List.getD E4.l (Int.toNat 1) (RK.dflt RK.vmfleetref1Arg)).reg,C:=0,Imm:=0}) λ(x4:Int×Bool)=> .cn E8 (.nx ((True/\rZ/\True/\True/\True/\rE ((wrap i64 (v0.1+1)):Int)/\True)/\(rE (0:Int)/\rE (0:Int)/\True)/\rE x0.1/\rE x0.2.1/\rE ((v0.2++[x4.1]):List Int)/\True) (Sum.inl (wrap i64 (v0.1+1),v0.2++[x4.1])))));let T3:Tree ((Int×List Int)⊕(((List Int)×Q1h))):= .lv (Q1o {Op:=16,A:=0,B:=0,C:=0,Imm:=0}) λ(x5:Int×Bool)=> .cn E8 (.nx ((True/\rZ/\True/\True/\True/\rE ((wrap i64 (v0.1+1)):Int)/\True)/\(rE (0:Int)/\rE (0:Int)/\True)/\rE x0.1/\rE x0.2.1/\rE ((v0.2++[x5.1]):List Int)/\True) (Sum.inl (wrap i64 (v0.1+1),v0.2++[x5.1])));let E9:=decide (E4.what=[(46:UInt8),115,112,97,99,101]);let E10:=decide (E4.what=[(46:UInt8),119,111,114,100]);let E12:=decide (E4.what=[(110:UInt8),111,112]);let E13:=decide (4*(v0.2.length+2)<=140737488355328);let E14:=decide (E4.what=[(108:UInt8),105]);let E15:=decide (E4.what=[(109:UInt8),118]); .br (decide ((↑(List.length E4.l):Int)>(0:Int))) (.cn (Nat.beq 3 3&&Nat.blt 0 3&&decide (0<=wrap i64 ((↑(List.length E4.l):Int)-(1:Int))/\wrap i64 ((↑(List.length E4.l):Int)-(1:Int))<(↑(List.length E4.l):Int))) (let E6:=List.getD E4.l (Int.toNat (wrap i64 ((↑(List.length E4.l):Int)-(1:Int)))) (RK.dflt RK.vmfleetref1Arg); .br (!decide (E6.label=[])) (.an (Q3k x0.1 E6.label) (.lv (Qob x0.1 E6.label) λ(x1:Int×Bool)=> .br (!x1.2) (.lf (Sum.inr ([],{Err:=302,Line:=E4.D7}))) (.br (decide (E4.op>0)) (let E11:=wrap i64 (wrap i64 (Int.tdiv (wrap i64 x1.1) 4)-E4.at_); .br E10 (.cn E8 (.nx ((True/\rZ/\True/\True/\True/\rE ((wrap i64 (v0.1+1)):Int)/\True)/\(rE (0:Int)/\rE (0:Int)/\True)/\rE x0.1/\rE x0.2.1/\rE ((v0.2++[wrap u32 (wrap i64 (wrap i64 (Int.tdiv (wrap i64 x1.1) 4)-(x0.2.1.getD v0.1.toNat (RK.dflt RK.vmfleetref1Statement)).at_))]):List Int)/\True) (Sum.inl (wrap i64 (v0.1+1),v0.2++[wrap u32 E11])))) (.br E9 T1 (.br E14 (.cn E5 (.lv (Q1o {Op:=24,A:=E7.reg,B:=0,C:=0,Imm:=wrap i32 (ishr u32 (wrap u32 E11) 16)}) λ(x2:Int×Bool)=> .cn E5 (.cn E5 (.lv (Q1o {Op:=18,A:=E7.reg,B:=E7.reg,C:=0,Imm:=wrap i32 (iand u32 (wrap u32 E11) 65535)}) λ(x3:Int×Bool)=> .cn E13 (.nx ((True/\rZ/\True/\True/\True/\rE ((wrap i64 (v0.1+1)):Int)/\True)/\(rE (0:Int)/\rE (0:Int)/\True)/\rE x0.1/\rE x0.2.1/\rE ((v0.2++[x2.1,x3.1]):List Int)/\True) (Sum.inl (wrap i64 (v0.1+1),v0.2++[x2.1,x3.1]))))))) (.br E15 T2 (.br E12 T3 (.an (Qb1 E4 E11) (.lv (Qoj E4 E11) λ(x6:Int×Bool)=> .br (!x6.2) (.lf (Sum.inr ([],{Err:=304,Line:=E4.D7}))) (.cn E8 (.nx ((True/\rZ/\True/\True/\True/\rE ((wrap i64 (v0.1+1)):Int)/\True)/\(rE (0:Int)/\rE (0:Int)/\True)/\rE x0.1/\rE x0.2.1/\rE ((v0.2++[x6.1]):List Int)/\True) (Sum.inl (wrap i64 (v0.1+1),v0.2++[x6.1]))))))))))) (.br E10 (.cn E8 (.nx ((True/\rZ/\True/\True/\True/\rE ((wrap i64 (v0.1+1)):Int)/\True)/\(rE (0:Int)/\rE (0:Int)/\True)/\rE x0.1/\rE x0.2.1/\rE ((v0.2++[wrap u32 (wrap i64 x1.1)]):List Int)/\True) (Sum.inl (wrap i64 (v0.1+1),v0.2++[wrap u32 (wrap i64 x1.1)])))) (.br E9 T1 (.br E14 (.cn E5 (.lv (Q1o {Op:=24,A:=E7.reg,B:=0,C:=0,Imm:=wrap i32 (ishr u32 (wrap u32 (wrap i64 x1.1)) 16)}) λ(x7:Int×Bool)=> .cn E5 (.cn E5 (.lv (Q1o {Op:=18,A:=E7.reg,B:=E7.reg,C:=0,Imm:=wrap i32 (iand u32 (wrap u32 (wrap i64 x1.1)) 65535)}) λ(x8:Int×Bool)=> .cn E13 (.nx ((True/\rZ/\True/\True/\True/\rE ((wrap i64 (v0.1+1)):Int)/\True)/\(rE (0:Int)/\rE (0:Int)/\True)/\rE x0.1/\rE x0.2.1/\rE ((v0.2++[x7.1,x8.1]):List Int)/\True) (Sum.inl (wrap i64 (v0.1+1),v0.2++[x7.1,x8.1]))))))) (.br E15 T2 (.br E12 T3 (.an (Qb1 E4 (wrap i64 x1.1)) (.lv (Qoj E4 (wrap i64 x1.1)) λ(x11:Int×Bool)=> .br (!x11.2) (.lf (Sum.inr ([],{Err:=304,Line:=E4.D7}))) (.cn E8 (.nx ((True/\rZ/\True/\True/\True/\rE ((wrap i64 (v0.1+1)):Int)/\True)/\(rE (0:Int)/\rE (0:Int)/\True)/\rE x0.1/\rE x0.2.1/\rE ((v0.2++[x11.1]):List Int)/\True) (Sum.inl (wrap i64 (v0.1+1),v0.2++[x11.1])))))))))))))) (.br E10 (.cn E8 (.nx ((True/\rZ/\True/\True/\True/\rE ((wrap i64 (v0.1+1)):Int)/\True)/\(rE (0:Int)/\rE (0:Int)/\True)/\rE x0.1/\rE x0.2.1/\rE ((v0.2++[wrap u32 (List.getD (x0.2.1.getD v0.1.toNat (RK.dflt RK.vmfleetref1Statement)).l (Int.toNat (wrap i64 ((↑(List.length (x0.2.1.getD v0.1.toNat (RK.dflt RK.vmfleetref1Statement)).l):Int)-(1:Int)))) (RK.dflt RK.vmfleetref1Arg)).num]):List Int)/\True) (Sum.inl (wrap i64 (v0.1+1),v0.2++[wrap u32 E6.num])))) (.br E9 T1 (.br E14 (.cn E5 (.lv (Q1o {Op:=24,A:=E7.reg,B:=0,C:=0,Imm:=wrap i32 (ishr u32 (wrap u32 E6.num) 16)}) λ(x12:Int×Bool)=> .cn E5 (.cn E5 (.lv (Q1o {Op:=18,A:=E7.reg,B:=E7.reg,C:=0,Imm:=wrap i32 (iand u32 (wrap u32 E6.num) 65535)}) λ(x13:Int×Bool)=> .cn E13 (.nx ((True/\rZ/\True/\True/\True/\rE ((wrap i64 (v0.1+1)):Int)/\True)/\(rE (0:Int)/\rE (0:Int)/\True)/\rE x0.1/\rE x0.2.1/\rE ((v0.2++[x12.1,x13.1]):List Int)/\True) (Sum.inl (wrap i64 (v0.1+1),v0.2++[x12.1,x13.1]))))))) (.br E15 T2 (.br E12 T3 (.an (Qb1 E4 E6.num) (.lv (Qoj E4 E6.num) λ(x16:Int×Bool)=> .br (!x16.2) (.lf (Sum.inr ([],{Err:=304,Line:=E4.D7}))) (.cn E8 (.nx ((True/\rZ/\True/\True/\True/\rE ((wrap i64 (v0.1+1)):Int)/\True)/\(rE (0:Int)/\rE (0:Int)/\True)/\rE x0.1/\rE x0.2.1/\rE ((v0.2++[x16.1]):List Int)/\True) (Sum.inl (wrap i64 (v0.1+1),v0.2++[x16.1]))))))))))))) (.br E10 (.cn E8 (.nx ((True/\rZ/\True/\True/\True/\rE ((wrap i64 (v0.1+1)):Int)/\True)/\(rE (0:Int)/\rE (0:Int)/\True)/\rE x0.1/\rE x0.2.1/\rE ((v0.2++[wrap u32 0]):List Int)/\True) (Sum.inl (wrap i64 (v0.1+1),v0.2++[wrap u32 0])))) (.br E9 T1 (.br E14 (.cn E5 (.lv (Q1o {Op:=24,A:=E7.reg,B:=0,C:=0,Imm:=wrap i32 (ishr u32 (wrap u32 0) 16)}) λ(x17:Int×Bool)=> .cn E5 (.cn E5 (.lv (Q1o {Op:=18,A:=E7.reg,B:=E7.reg,C:=0,Imm:=wrap i32 (iand u32 (wrap u32 0) 65535)}) λ(x18:Int×Bool)=> .cn E13 (.nx ((True/\rZ/\True/\True/\True/\rE ((wrap i64 (v0.1+1)):Int)/\True)/\(rE (0:Int)/\rE (0:Int)/\True)/\rE x0.1/\rE x0.2.1/\rE ((v0.2++[x17.1,x18.1]):List Int)/\True) (Sum.inl (wrap i64 (v0.1+1),v0.2++[x17.1,x18.1]))))))) (.br E15 T2 (.br E12 T3 (.an (Qb1 E4 0) (.lv (Qoj E4 0) λ(x21:Int×Bool)=> .br (!x21.2) (.lf (Sum.inr ([],{Err:=304,Line:=E4.D7}))) (.cn E8 (.nx ((True/\rZ/\True/\True/\True/\rE ((wrap i64 (v0.1+1)):Int)/\True)/\(rE (0:Int)/\rE (0:Int)/\True)/\rE x0.1/\rE x0.2.1/\rE ((v0.2++[x21.1]):List Int)/\True) (Sum.inl (wrap i64 (v0.1+1),v0.2++[x21.1]))))))))))))) (.lf (Sum.inr (v0.2,{Err:=0,Line:=0})))))
def Q1j(src:(List UInt8)):((List Int)×Q1h):=(Qa2 src).m
abbrev Qbb(src:(List UInt8)):Prop:=(Qa2 src).p
def Qzk:LInv:={
 α:=(Int)×(List Int)
 F:=λst a=>([(2,(lk st 2)),(3, .ptr 0 0 0),(4, .all 1),(5, .all 2),(7, .all 3),(8, .int i64 a.1)],[⟨true,59,2, .gen [[(cT st 3 0),(cT st 3 1)]]⟩,⟨false,257,2,esOf st.rows (rN st 4)⟩,⟨false,181,6,esOf st.rows (rN st 5)⟩,⟨false,25,1, .ints u32 a.2⟩])
 a0:=λst=>((lk st 8).toInt,(Q5q st.rows (rN st 7)))
 ex0:=λst=>[]++[(Q0r (lk st 3) (st.rows.length+0)),(Q0r (lk st 4) (st.rows.length+1)),(Q0r (lk st 5) (st.rows.length+2)),(Q0r (lk st 7) (st.rows.length+3))]
 next:=λst=>((lk st 8).toInt,(Q5q st.rows (rN st 7)))
 ex:=λst=>[]++[(Q0r (lk st 3) (st.rows.length+0)),(Q0r (lk st 4) (st.rows.length+1)),(Q0r (lk st 5) (st.rows.length+2)),(Q0r (lk st 7) (st.rows.length+3))]}
def Qzs:LInv:={
 α:=(Int)×(List Int)
 F:=λst a=>([(2,(lk st 2)),(3, .ptr 0 0 0),(4, .all 1),(5, .all 2),(7, .all 4),(8,(lk st 8)),(9, .ptr 3 0 0),(14, .int i64 a.1)],[⟨true,59,2, .gen [[(cT st 3 0),(cT st 3 1)]]⟩,⟨false,257,2,esOf st.rows (rN st 4)⟩,⟨false,181,6,esOf st.rows (rN st 5)⟩,⟨true,181,6, .gen [[(cT st 9 0),(cT st 9 1),(cT st 9 2),(cT st 9 3),(cT st 9 4),(cT st 9 5)]]⟩,⟨false,25,1, .ints u32 a.2⟩])
 a0:=λst=>((lk st 14).toInt,(Q5q st.rows (rN st 7)))
 ex0:=λst=>[]++[(Q0r (lk st 3) (st.rows.length+0)),(Q0r (lk st 4) (st.rows.length+1)),(Q0r (lk st 5) (st.rows.length+2)),(Q0r (lk st 9) (st.rows.length+3)),(Q0r (lk st 7) (st.rows.length+4))]
 next:=λst=>((lk st 14).toInt,(Q5q st.rows (rN st 7)))
 ex:=λst=>[]++[(Q0r (lk st 3) (st.rows.length+0)),(Q0r (lk st 4) (st.rows.length+1)),(Q0r (lk st 5) (st.rows.length+2)),(Q0r (lk st 9) (st.rows.length+3)),(Q0r (lk st 7) (st.rows.length+4))]}
def Qu9:List (Nat×LInv):=[(6,Qzk),(29,Qzs)]
def Z4j:Q0d:=mkP 36 [] true [.one (.str)] [] (λargs rows=>Qbb (argS args 0)) (λargs rows=>Q1j (argS args 0)) (λX=> .tup [.all 0, .agg (Q1h.cells (X.2))]) (λX=>[⟨false,25,1, .ints .u32 (X.1)⟩])
theorem Qzv:Q05 Tryz.prog Z4j:=Q0l drawn Q0j (.cons Zds (.cons Qo8 (.cons Qky (.cons Zh4 (.nil))))) Tryz.func36 Tryz.call36 (λargs rows=>Qa2 (argS args 0)) [.row 25 1 (.ints .u32)] Qu9 3
end
noncomputable section
instance sumInhZh {α β:Type} [Inhabited β]:Inhabited (α⊕β):=⟨.inr default⟩
def Q3x(m:Q00):Tree Q01:=
.an (Qg7 m) (.lv (Qmh m) λ(x0:Q00)=> .lf ({A0:=x0,A4:=0,B4:=[],A3:=[]}))
def Q3y(m:Q00):Q01:=(Q3x m).m
abbrev Qgz(m:Q00):Prop:=(Q3x m).p
def Qrs:Q0d:=mkP 148 [] true [.agg Q00.sig] [] (λargs rows=>Qgz (Q00.of (aC args 0))) (λargs rows=>Q3y (Q00.of (aC args 0))) (λX=> .agg (Q01.cellsW X (.all 0) (.all 1) (.all 2))) (λX=>[⟨false,25,1, .ints .u32 X.A0.Mem⟩,⟨false,126,4, .recs .apiEntry X.B4⟩,⟨false,66,3, .recs .apiEvent X.A3⟩])
theorem Qqs:Q05 Tryz.prog Qrs:=Q0l drawn Q0j (.cons Qs6 (.nil)) Tryz.func148 Tryz.call148 (λargs rows=>Q3x (Q00.of (aC args 0))) [.row 25 1 (.ints .u32), .row 126 4 (.recs .apiEntry), .row 66 3 (.recs .apiEvent)] [] 2
def Q8u(r:Q01)(n:Int):Tree (Q01×(List Q06)):=
.lv (Q3f n 3) λ(x0:Int)=> .br (Int.tmod x0 (3:Int)==(0:Int)) (.an (Ql2 n) (.lv (Q3w n) λ(x1:Q0a)=> .an (Qnq r x1) (.lv (Q2t r x1) λ(x2:Q01×Bool)=> .lf (x2.1,[])))) (.an (Q38 (ishr i64 x0 4) 12) (.lv (Q4r (ishr i64 x0 4) 12) λ(x3:Int)=>let E1:=wrap u32 (iand i64 (ishr i64 x0 12) 255); .an (Qlw r x3 E1) (.lv (Qep r x3 E1) λ(x4:Q01×List Q06)=> .lf (x4.1,x4.2))))
def Q3t(r:Q01)(n:Int):(Q01×(List Q06)):=(Q8u r n).m
abbrev Qtw(r:Q01)(n:Int):Prop:=(Q8u r n).p
def Zjm:Q0d:=mkP 55 [] true [.agg Q01.sig, .one (.int .i64)] [] (λargs rows=>Qtw (Q01.of (aC args 0)) (argI args 1)) (λargs rows=>Q3t (Q01.of (aC args 0)) (argI args 1)) (λX=> .tup [.agg (Q01.cellsW (X.1) (.all 0) (.all 1) (.all 2)), .all 3]) (λX=>[⟨false,25,1, .ints .u32 (X.1).A0.Mem⟩,⟨false,126,4, .recs .apiEntry (X.1).B4⟩,⟨false,66,3, .recs .apiEvent (X.1).A3⟩,⟨false,71,4, .recs .apiOutput (X.2)⟩])
theorem Ze:Q05 Tryz.prog Zjm:=Q0l drawn Q0j (.cons Qmj (.cons Z24 (.cons Qte (.cons Qzt (.cons Qmf (.nil)))))) Tryz.func55 Tryz.call55 (λargs rows=>Q8u (Q01.of (aC args 0)) (argI args 1)) [.row 25 1 (.ints .u32), .row 126 4 (.recs .apiEntry), .row 66 3 (.recs .apiEvent), .row 71 4 (.recs .apiOutput)] [] 2
def Qjn(m:Q00)(l:(List Int))(z:(Int)×Q01×(List Q06)):Nat:=(l.length-z.1).toNat
def Qcs(m:Q00)(l:(List Int)):Tree (Q01×(List Q06)):=
.an (Qgz m) (.lv (Q3y m) λ(x0:Q01)=> .lp inferInstance (Qjn m l (0,x0,[])+1) ((((Els.Nil (Els.ints i64 l)\/rE (1:Nat))/\rE (l:List Int))/\rZ/\rZ/\True/\rE (0:Int)/\True)/\(mE zM True (rE (0:Int)/\True/\True/\True))/\(mE x0.A0 True (rE x0.A4/\True/\True/\True))/\rE x0.A0.Mem/\rE x0.B4/\rE x0.A3/\rE ([]:List (RK.T RK.apiOutput))/\True) (0,x0,[]) λ(v0:Int×Q01×List Q06)=> .br (decide (v0.1<(l.length:Int))) (.cn (Nat.beq 1 1&&Nat.blt 0 1&&decide (0<=v0.1/\v0.1<(l.length:Int))) (.an (Qtw v0.2.1 (l.getD v0.1.toNat 0)) (.lv (Q3t v0.2.1 (l.getD v0.1.toNat 0)) λ(x1:Q01×List Q06)=> .cn (decide (40*(v0.2.2.length+x1.2.length)<=140737488355328)) (.nx ((((Els.Nil (Els.ints i64 l)\/rE (1:Nat))/\rE (l:List Int))/\rZ/\rZ/\True/\rE ((wrap i64 (v0.1+1)):Int)/\True)/\(mE zM True (rE (0:Int)/\True/\True/\True))/\(mE x1.1.A0 True (rE x1.1.A4/\True/\True/\True))/\rE x1.1.A0.Mem/\rE x1.1.B4/\rE x1.1.A3/\rE ((v0.2.2++x1.2):List (RK.T RK.apiOutput))/\True) (Sum.inl (wrap i64 (v0.1+1),x1.1,v0.2.2++x1.2)))))) (.lf (Sum.inr (v0.2.1,v0.2.2))))
def Z2q(m:Q00)(l:(List Int)):(Q01×(List Q06)):=(Qcs m l).m
abbrev Qul(m:Q00)(l:(List Int)):Prop:=(Qcs m l).p
def Zfv:LInv:={
 α:=(Int)×Q01×(List Q06)
 F:=λst a=>([(1,(lk st 1)),(4, .ptr 0 0 0),(6, .ptr 1 0 0),(7, .all 5),(8, .int i64 a.1)],[⟨true,96,52, .gen [[(cT st 4 0),(cT st 4 1),(cT st 4 2),(cT st 4 3),(cT st 4 4),(cT st 4 5),(cT st 4 6),(cT st 4 7),(cT st 4 8),(cT st 4 9),(cT st 4 10),(cT st 4 11),(cT st 4 12),(cT st 4 13),(cT st 4 14),(cT st 4 15),(cT st 4 16),(cT st 4 17),(cT st 4 18),(cT st 4 19),(cT st 4 20),(cT st 4 21),(cT st 4 22),(cT st 4 23),(cT st 4 24),(cT st 4 25),(cT st 4 26),(cT st 4 27),(cT st 4 28),(cT st 4 29),(cT st 4 30),(cT st 4 31),(cT st 4 32),(cT st 4 33),(cT st 4 34),(cT st 4 35),(cT st 4 36),(cT st 4 37),(cT st 4 38),(cT st 4 39),(cT st 4 40),(cT st 4 41),(cT st 4 42),(cT st 4 43),(cT st 4 44),(cT st 4 45),(cT st 4 46),(cT st 4 47),(cT st 4 48),(cT st 4 49),(cT st 4 50),(cT st 4 51)]]⟩,⟨true,96,52, .gen [[.int u32 a.2.1.A0.B2.X.a0, .int u32 a.2.1.A0.B2.X.a1, .int u32 a.2.1.A0.B2.X.a2, .int u32 a.2.1.A0.B2.X.a3, .int u32 a.2.1.A0.B2.X.a4, .int u32 a.2.1.A0.B2.X.a5, .int u32 a.2.1.A0.B2.X.a6, .int u32 a.2.1.A0.B2.X.a7, .int u32 a.2.1.A0.B2.X.a8, .int u32 a.2.1.A0.B2.X.a9, .int u32 a.2.1.A0.B2.X.a10, .int u32 a.2.1.A0.B2.X.a11, .int u32 a.2.1.A0.B2.X.a12, .int u32 a.2.1.A0.B2.X.a13, .int u32 a.2.1.A0.B2.X.a14, .int u32 a.2.1.A0.B2.X.a15, .int u32 a.2.1.A0.B2.Pc, .int u32 a.2.1.A0.B2.B5.a0, .int u32 a.2.1.A0.B2.B5.a1, .int u32 a.2.1.A0.B2.B5.a2, .int u32 a.2.1.A0.B2.B5.a3, .int u32 a.2.1.A0.B2.B5.a4, .int u32 a.2.1.A0.B2.B5.a5, .int u32 a.2.1.A0.B2.B5.a6, .int u32 a.2.1.A0.B2.B5.a7, .all 2, .str a.2.1.A0.A6.D3, .bool a.2.1.A0.B0.D1, .int u32 a.2.1.A0.B0.C7, .bool a.2.1.A0.B0.D5, .int u32 a.2.1.A0.B1.Blocks, .int u32 a.2.1.A0.B1.C1, .int u32 a.2.1.A0.B1.Frame, .int i64 a.2.1.A0.B1.C0, .int i64 a.2.1.A0.B1.D8, .int u32 a.2.1.A0.B1.B7, .int u32 a.2.1.A0.B1.B3, .str a.2.1.A0.B1.C3, .int u32 a.2.1.A0.C4.Frame, .int u32 a.2.1.A0.C4.E0, .bool a.2.1.A0.C4.C5, .int u32 a.2.1.A0.C4.B9, .bool a.2.1.A0.C4.B8, .int u32 a.2.1.A0.C4.F1, .int u32 a.2.1.A0.A2.C8, .int u32 a.2.1.A0.A2.C2, .int u64 a.2.1.A0.A1, .bool a.2.1.A0.A7, .bool a.2.1.A0.A9, .int u32 a.2.1.A4, .all 3, .all 4]]⟩,⟨false,25,1, .ints u32 a.2.1.A0.Mem⟩,⟨false,126,4, .recs RK.apiEntry a.2.1.B4⟩,⟨false,66,3, .recs RK.apiEvent a.2.1.A3⟩,⟨false,71,4, .recs RK.apiOutput a.2.2⟩])
 a0:=λst=>((lk st 8).toInt,(⟨(mR (cT st 6) (Q5q st.rows (Q0r (cT st 6 25) 1000000))),(cT st 6 49).toInt,(Q5h RK.apiEntry st.rows (Q0r (cT st 6 50) 1000000)),(Q5h RK.apiEvent st.rows (Q0r (cT st 6 51) 1000000))⟩:Q01),(Q5h RK.apiOutput st.rows (rN st 7)))
 ex0:=λst=>[]++[(Q0r (lk st 4) (st.rows.length+0)),(Q0r (lk st 6) (st.rows.length+1)),(Q0r (cT st 6 25) (st.rows.length+2)),(Q0r (cT st 6 50) (st.rows.length+3)),(Q0r (cT st 6 51) (st.rows.length+4)),(Q0r (lk st 7) (st.rows.length+5))]
 next:=λst=>((lk st 8).toInt,(⟨(mR (cT st 6) (Q5q st.rows (Q0r (cT st 6 25) 1000000))),(cT st 6 49).toInt,(Q5h RK.apiEntry st.rows (Q0r (cT st 6 50) 1000000)),(Q5h RK.apiEvent st.rows (Q0r (cT st 6 51) 1000000))⟩:Q01),(Q5h RK.apiOutput st.rows (rN st 7)))
 ex:=λst=>[]++[(Q0r (lk st 4) (st.rows.length+0)),(Q0r (lk st 6) (st.rows.length+1)),(Q0r (cT st 6 25) (st.rows.length+2)),(Q0r (cT st 6 50) (st.rows.length+3)),(Q0r (cT st 6 51) (st.rows.length+4)),(Q0r (lk st 7) (st.rows.length+5))]}
def Z6f:List (Nat×LInv):=[(4,Zfv)]
def Ziz:Q0d:=mkP 57 [] true [.agg Q00.sig, .one (.ints .i64)] [] (λargs rows=>Qul (Q00.of (aC args 0)) (argL .i64 args 1)) (λargs rows=>Z2q (Q00.of (aC args 0)) (argL .i64 args 1)) (λX=> .tup [.agg (Q01.cellsW (X.1) (.all 0) (.all 1) (.all 2)), .all 3]) (λX=>[⟨false,25,1, .ints .u32 (X.1).A0.Mem⟩,⟨false,126,4, .recs .apiEntry (X.1).B4⟩,⟨false,66,3, .recs .apiEvent (X.1).A3⟩,⟨false,71,4, .recs .apiOutput (X.2)⟩])
theorem Zgk:Q05 Tryz.prog Ziz:=Q0l drawn Q0j (.cons Qqs (.cons Ze (.nil))) Tryz.func57 Tryz.call57 (λargs rows=>Qcs (Q00.of (aC args 0)) (argL .i64 args 1)) [.row 25 1 (.ints .u32), .row 126 4 (.recs .apiEntry), .row 66 3 (.recs .apiEvent), .row 71 4 (.recs .apiOutput)] Z6f 3
end
noncomputable section
def tblZe0:List UInt8:=[(105:UInt8),32,114,49,44,32,104,97,110,100,108,101,114,10,99,115,114,119,32,114,49,44,32,49,10,108,105,32,114,49,44,32,51,49,10,99,115,114,119,32,114]
def Z87:List UInt8:=[(49:UInt8),44,32,55,10,108,105,32,114,49,44,32,52,10,99,115,114,119,32,114,49,44,32,54,10,108,105,32,114,50,44,32,53,49,50,10,108,105,32,114,51,44]
def Z7n:List UInt8:=[(32:UInt8),48,10,108,105,32,114,52,44,32,56,10,109,97,112,58,32,115,104,108,105,32,114,53,44,32,114,51,44,32,56,10,111,114,105,32,114,53,44,32,114,53]
def Z7k:List UInt8:=[(44:UInt8),32,55,10,115,104,108,105,32,114,54,44,32,114,51,44,32,50,10,97,100,100,32,114,54,44,32,114,54,44,32,114,50,10,115,119,32,114,53,44,32,48,40]
def Z74:List UInt8:=[(114:UInt8),54,41,10,97,100,100,105,32,114,51,44,32,114,51,44,32,49,10,98,108,116,32,114,51,44,32,114,52,44,32,109,97,112,10,108,105,32,114,49,44,32]
def Z96:List UInt8:=[(54:UInt8),10,111,117,116,32,114,49,44,32,55,10,108,105,32,114,49,44,32,50,10,111,117,116,32,114,49,44,32,57,10,108,105,32,114,49,44,32,49,48,48,10,111]
def Z8n:List UInt8:=[(117:UInt8),116,32,114,49,44,32,51,10,108,105,32,114,49,44,32,54,52,48,10,99,115,114,119,32,114,49,44,32,50,10,108,105,32,114,49,44,32,50,49,10,99]
def Z7z:List UInt8:=[(115:UInt8),114,119,32,114,49,44,32,48,10,101,114,101,116,10,104,97,110,100,108,101,114,58,32,99,115,114,119,32,114,49,44,32,53,10,99,115,114,114,32,114,49,44]
def Z70:List UInt8:=[(32:UInt8),51,10,115,108,116,105,32,114,49,44,32,114,49,44,32,49,54,10,98,101,113,32,114,49,44,32,114,48,44,32,105,114,113,10,99,115,114,114,32,114,49]
def Z75:List UInt8:=[(44:UInt8),32,50,10,97,100,100,105,32,114,49,44,32,114,49,44,32,52,10,99,115,114,119,32,114,49,44,32,50,10,105,110,32,114,51,44,32,50,10,111,117,116]
def Qve:List UInt8:=[(32:UInt8),114,51,44,32,48,10,108,105,32,114,49,44,32,49,10,111,117,116,32,114,49,44,32,52,10,108,105,32,114,49,44,32,55,10,111,117,116,32,114,49,44]
def Qvt:List UInt8:=[(32:UInt8),53,10,97,110,100,105,32,114,49,44,32,114,50,44,32,49,10,97,100,100,105,32,114,49,44,32,114,49,44,32,49,10,111,117,116,32,114,49,44,32,54,10]
def Qvb:List UInt8:=[(99:UInt8),115,114,114,32,114,49,44,32,53,10,101,114,101,116,10,105,114,113,58,32,105,110,32,114,49,44,32,48,10,111,117,116,32,114,49,44,32,48,10,111,117]
def Qxl:List UInt8:=[(116:UInt8),32,114,48,44,32,54,10,111,117,116,32,114,48,44,32,57,10,108,105,32,114,49,44,32,54,10,111,117,116,32,114,49,44,32,55,10,108,105,32,114,49,44]
def Qwv:List UInt8:=[(32:UInt8),50,10,111,117,116,32,114,49,44,32,57,10,105,110,32,114,49,44,32,50,10,97,100,100,105,32,114,49,44,32,114,49,44,32,50,48,10,111,117,116,32]
def Qxc:List UInt8:=[(114:UInt8),49,44,32,51,10,105,110,32,114,49,44,32,49,48,10,111,117,116,32,114,49,44,32,49,48,10,99,115,114,114,32,114,49,44,32,53,10,101,114,101,116,10]
def Zbj:List UInt8:=[(108:UInt8),105,32,114,49,44,32,104,97,110,100,108,101,114,10,99,115,114,119,32,114,49,44,32,49,10,108,105,32,114,49,44,32,51,49,10,99,115,114,119,32,114]
instance sumInhZe {α β:Type} [Inhabited β]:Inhabited (α⊕β):=⟨.inr default⟩
def Qlp(l:(List Q0g))(z:(Int)):Prop:=1<=z/\(z<=l.length\/z=1)
def Qek(l:(List Q0g))(z:(Int)):Nat:=(l.length-z).toNat
def Qft(l:(List Q0g)):Tree Bool:=
.lp inferInstance (Qek l 1+1) ((nR RK.apiEntry 4 l/\rE (1:Int)/\True)/\True) 1 λ(v0:Int)=> .br (decide (v0<(l.length:Int))) (let E4:=Nat.beq 4 4&&Nat.blt 0 4&&decide (0<=v0/\v0<(l.length:Int)); .cn E4 (let E2:=Nat.beq 4 4&&Nat.blt 0 4&&decide (0<=wrap i64 (v0-1)/\wrap i64 (v0-1)<(l.length:Int)); .cn E2 (let E3:=l.getD (Int.toNat (wrap i64 (v0-1))) (RK.dflt RK.apiEntry);let E5:=l.getD v0.toNat (RK.dflt RK.apiEntry); .br (decide (E5.At<E3.At)) (.lf (Sum.inr false)) (.cn E4 (.cn E2 (let T1:Tree ((Int)⊕(Bool)):= .nx ((nR RK.apiEntry 4 l/\rE ((wrap i64 (v0+1)):Int)/\True)/\True) (Sum.inl (wrap i64 (v0+1))); .br (E5.At==E3.At) (.cn E2 (.br (E3.C9.B6==1) (.lf (Sum.inr false)) T1)) T1)))))) (.lf (Sum.inr true))
def Qyg(l:(List Q0g)):Bool:=(Qft l).m
def Q8z(l:(List Q0g)):Prop:=
l.length<=1000000000000
theorem Qzr(l:(List Q0g))(hw:Q8z l):(Qft l).p:=by
 simp only[Q8z]at hw
 unfold Tree.p Qft
 repeat'(first|refine w_lp (inv:=Qlp l) (μ:=Qek l) ?_ (Nat.lt_succ_self _) (λ_ _=> ?_)|exact trivial|refine w_br (λ_=> ?_) (λ_=> ?_)|refine w_cn ?_ ?_|refine w_an ?_ ?_|refine w_lv (λ_ _=> ?_)|refine w_nx ?_|refine w_lf ?_|refine And.intro ?_ ?_)
 all_goals((try simp only[Qlp,Qek]at*);exact fin0)
def Z38:LInv:={
 α:=(Int)
 F:=λst a=>([(0,(lk st 0)),(3, .int i64 a)],[])
 a0:=λst=>(lk st 3).toInt
 ex0:=λst=>[]++[]
 next:=λst=>(lk st 3).toInt
 ex:=λst=>[]++[]}
def Qwa:List (Nat×LInv):=[(2,Z38)]
def Z5f:Q0d:=mkP 155 [] true [.one (.recs .apiEntry)] [] (λargs rows=>Q8z (argR .apiEntry args 0)) (λargs rows=>Qyg (argR .apiEntry args 0)) (λX=> .bool X) (λX=>[])
theorem Z3v:Q05 Tryz.prog Z5f:=Q0l drawn Q0j (.nil) Tryz.func155 Tryz.call155 (λargs rows=>Qft (argR .apiEntry args 0)) [] Qwa 3 (hp:=λargs rows h=>Qzr (argR .apiEntry args 0) h)
def Qhc(m:Q00)(script:(List Q0g))(until0:Int)(z:Q00×(List Q06)):Nat:=(until0-z.1.A1).toNat
def Qhf(m:Q00)(script:(List Q0g))(until0:Int)(v0:Q00×List Q06)(z:Unit):Nat:=0
def Qac(m:Q00)(script:(List Q0g))(until0:Int):Tree (Q00×(List Q06)×Int×Int):=
.lv (Q8h m) λ(x0:Bool)=>let E2:=({B2:={X:={a0:=0,a1:=0,a2:=0,a3:=0,a4:=0,a5:=0,a6:=0,a7:=0,a8:=0,a9:=0,a10:=0,a11:=0,a12:=0,a13:=0,a14:=0,a15:=0},Pc:=0,B5:={a0:=0,a1:=0,a2:=0,a3:=0,a4:=0,a5:=0,a6:=0,a7:=0}},Mem:=[],A6:={D3:=[]},B0:={D1:=false,C7:=0,D5:=false},B1:={Blocks:=0,C1:=0,Frame:=0,C0:=0,D8:=0,B7:=0,B3:=0,C3:=[]},C4:={Frame:=0,E0:=0,C5:=false,B9:=0,B8:=false,F1:=0},A2:={C8:=0,C2:=0},A1:=0,A7:=false,A9:=false}:Q00);let T1:Tree ((Q00×(List Q06)×Int×Int)):= .lf (E2,[],0,1300); .br (!x0) T1 (.br (decide (until0<m.A1)) T1 (.br (decide (wrap u64 (until0-m.A1)>4000)) T1 (.an (Q8z []) (.lv (Qyg []) λ(x1:Bool)=> .br (!x1) (.lf (E2,[],0,1301)) (.an (Qg7 m) (.lv (Qmh m) λ(x2:Q00)=> .lp inferInstance (Qhc m script until0 (x2,[])+1) ((((Els.Nil (Els.gen [])\/rE (0:Nat))/\rE ([]:List (List D)))/\rE (until0:Int)/\rZ/\rZ/\True/\rE (0:Int)/\True)/\(mE x2 True True)/\rE x2.Mem/\(mE zM True True)/\rE ([]:List (RK.T RK.apiOutput))/\True) (x2,[]) λ(v0:Q00×List Q06)=> .br (decide (v0.1.A1<until0)) (.br (decide (v0.1.A1<1152921504606846976)) (.lp inferInstance (Qhf m script until0 v0 ()+1) ((((Els.Nil (Els.gen [])\/rE (0:Nat))/\rE ([]:List (List D)))/\rE (until0:Int)/\rZ/\rZ/\True/\rE (0:Int)/\(rE (0:Nat)/\rE (46:Nat))/\rE v0.1.A1/\rE ((decide (v0.1.A1<1152921504606846976)):Bool)/\True)/\(mE v0.1 True True)/\rE v0.1.Mem/\(mE zM True True)/\rE v0.2/\True) () λ(v1:PUnit)=> .br v0.1.A9 (.lf (Sum.inr (Sum.inr (v0.1,v0.2,0,0)))) (.an (Qmo v0.1) (.lv (Qgo v0.1) λ(x3:Bool)=> .br x3 (.lf (Sum.inr (Sum.inr (v0.1,v0.2,0,0)))) (.an (Qkv v0.1) (.lv (Qi5 v0.1) λ(x4:Bool)=> .br (!false==x4) (.lf (Sum.inr (Sum.inr (E2,[],0,1302)))) (.an (Qnr v0.1 0) (.lv (Q0m v0.1 0) λ(x5:List Q06×Q00)=> .cn (decide (40*(v0.2.length+x5.1.length)<=140737488355328)) (.nx ((((Els.Nil (Els.gen [])\/rE (0:Nat))/\rE ([]:List (List D)))/\rE (until0:Int)/\rZ/\rZ/\True/\rE (0:Int)/\True)/\(mE x5.2 True True)/\rE x5.2.Mem/\(mE zM True True)/\rE ((v0.2++x5.1):List (RK.T RK.apiOutput))/\True) (Sum.inr (Sum.inl (x5.2,v0.2++x5.1))))))))))) (.lf (Sum.inr (v0.1,v0.2,0,0)))) (.lf (Sum.inr (v0.1,v0.2,0,0)))))))))
def Qfj(m:Q00)(script:(List Q0g))(until0:Int):(Q00×(List Q06)×Int×Int):=(Qac m script until0).m
abbrev Qc6(m:Q00)(script:(List Q0g))(until0:Int):Prop:=(Qac m script until0).p
def Zc4:LInv:={
 α:=Q00×(List Q06)
 F:=λst a=>([(1,(lk st 1)),(2,(lk st 2)),(3, .ptr 0 0 0),(6, .ptr 2 0 0),(10, .all 3),(11,(lk st 11))],[⟨true,43,49, .gen [mD a.1 (.all 1)]⟩,⟨false,25,1, .ints u32 a.1.Mem⟩,⟨true,43,49, .gen [mB (cT st 6)]⟩,⟨false,71,4, .recs RK.apiOutput a.2⟩])
 a0:=λst=>((mR (cT st 3) (Q5q st.rows (Q0r (cT st 3 25) 1000000))),(Q5h RK.apiOutput st.rows (rN st 10)))
 ex0:=λst=>[]++[(Q0r (lk st 3) (st.rows.length+0)),(Q0r (cT st 3 25) (st.rows.length+1)),(Q0r (lk st 6) (st.rows.length+2)),(Q0r (lk st 10) (st.rows.length+3))]
 next:=λst=>((mR (cT st 3) (Q5q st.rows (Q0r (cT st 3 25) 1000000))),(Q5h RK.apiOutput st.rows (rN st 10)))
 ex:=λst=>[]++[(Q0r (lk st 3) (st.rows.length+0)),(Q0r (cT st 3 25) (st.rows.length+1)),(Q0r (lk st 6) (st.rows.length+2)),(Q0r (lk st 10) (st.rows.length+3))]}
def Zci:LInv:={
 α:=Unit
 F:=λst a=>([(1,(lk st 1)),(2,(lk st 2)),(3, .ptr 0 0 0),(6, .ptr 2 0 0),(10, .all 3),(11,(lk st 11)),(61, .ptr 0 0 46),(62,(lk st 62)),(63,(lk st 63))],[⟨true,43,49, .gen [[(cT st 3 0),(cT st 3 1),(cT st 3 2),(cT st 3 3),(cT st 3 4),(cT st 3 5),(cT st 3 6),(cT st 3 7),(cT st 3 8),(cT st 3 9),(cT st 3 10),(cT st 3 11),(cT st 3 12),(cT st 3 13),(cT st 3 14),(cT st 3 15),(cT st 3 16),(cT st 3 17),(cT st 3 18),(cT st 3 19),(cT st 3 20),(cT st 3 21),(cT st 3 22),(cT st 3 23),(cT st 3 24), .all 1,(cT st 3 26),(cT st 3 27),(cT st 3 28),(cT st 3 29),(cT st 3 30),(cT st 3 31),(cT st 3 32),(cT st 3 33),(cT st 3 34),(cT st 3 35),(cT st 3 36),(cT st 3 37),(cT st 3 38),(cT st 3 39),(cT st 3 40),(cT st 3 41),(cT st 3 42),(cT st 3 43),(cT st 3 44),(cT st 3 45),(cT st 3 46),(cT st 3 47),(cT st 3 48)]]⟩,⟨false,25,1,esOf st.rows (Q0r (cT st 3 25) 1000000)⟩,⟨true,43,49, .gen [mB (cT st 6)]⟩,⟨false,71,4,esOf st.rows (rN st 10)⟩])
 a0:=λst=>()
 ex0:=λst=>[]++[(Q0r (lk st 3) (st.rows.length+0)),(Q0r (cT st 3 25) (st.rows.length+1)),(Q0r (lk st 6) (st.rows.length+2)),(Q0r (lk st 10) (st.rows.length+3))]
 next:=λst=>()
 ex:=λst=>[]++[(Q0r (lk st 3) (st.rows.length+0)),(Q0r (cT st 3 25) (st.rows.length+1)),(Q0r (lk st 6) (st.rows.length+2)),(Q0r (lk st 10) (st.rows.length+3))]}
def Z4g:List (Nat×LInv):=[(8,Zc4),(9,Zci)]
def Zfb:Q0d:=mkP 75 [] true [.agg Q00.sig, .one .nil, .one (.int .u64)] [] (λargs rows=>Qc6 (Q00.of (aC args 0)) (argR .apiEntry args 1) (argI args 2)) (λargs rows=>Qfj (Q00.of (aC args 0)) (argR .apiEntry args 1) (argI args 2)) (λX=> .tup [.agg (Q00.cellsW (X.1) (.all 0)), .all 1, .int .i64 (X.2.2.1), .int .i64 (X.2.2.2)]) (λX=>[⟨false,25,1, .ints .u32 (X.1).Mem⟩,⟨false,71,4, .recs .apiOutput (X.2.1)⟩])
theorem Zb:Q05 Tryz.prog Zfb:=Q0l drawn Q0j (.cons Qs (.cons Z3v (.cons Qs6 (.cons Zbn (.cons Qy (.cons Qui (.cons Z3l (.nil)))))))) Tryz.func75 Tryz.call75 (λargs rows=>Qac (Q00.of (aC args 0)) (argR .apiEntry args 1) (argI args 2)) [.row 25 1 (.ints .u32), .row 71 4 (.recs .apiOutput)] Z4g 3
def Qdu(kind:Int)(l:(List Int))(z:(List Int)):Nat:=160-z.length
def Q7g(kind:Int)(l:(List Int)):Tree Q00:=
.an (Q38 kind 3) (.lv (Q4r kind 3) λ(x0:Int)=> .br (decide (x0<2)) (.an (Qbb ((108:UInt8)::(tblZe0++Z87++(Z7n++Z7k)++(Z74++Z96++(Z8n++Z7z))++(Z70++Z75++(Qve++Qvt)++(Qvb++Qxl++(Qwv++Qxc)))))) (.lv (Q1j (List.append (List.append (List.append (List.append Zbj Z87) (List.append Z7n Z7k)) (List.append (List.append Z74 Z96) (List.append Z8n Z7z))) (List.append (List.append (List.append Z70 Z75) (List.append Qve Qvt)) (List.append (List.append Qvb Qxl) (List.append Qwv Qxc))))) λ(x1:List Int×Q1h)=> .lp inferInstance (Qdu kind l x1.1+1) ((rE (x0:Int)/\((Els.Nil (Els.ints i64 l)\/rE (1:Nat))/\rE (l:List Int))/\rZ/\True/\True)/\(mE zM True True)/\rE x1.1/\True) x1.1 λ(v0:List Int)=> .br (decide ((v0.length:Int)<(160:Int))) (.cn (decide (4*(v0.length+1)<=140737488355328)) (.nx ((rE (x0:Int)/\((Els.Nil (Els.ints i64 l)\/rE (1:Nat))/\rE (l:List Int))/\rZ/\True/\True)/\(mE zM True True)/\rE ((v0++[0]):List Int)/\True) (Sum.inl (v0++[0])))) (.an (Qhs l) (.lv (Qof l) λ(x2:List Int)=> .cn (decide (4*(v0.length+x2.length)<=140737488355328)) (.br (decide ((↑(List.length (v0++x2)):Int)>(256:Int))) (.cn (Nat.beq 1 1&&Nat.blt 0 1&&decide ((0:Int)<=(0:Int)/\(0:Int)<=(256:Int)/\256<=(↑(List.length (v0++x2)):Int))) (let E1:=List.take (Int.toNat 256-Int.toNat 0) (List.drop (Int.toNat 0) (v0++x2)); .an (Q9p 8 4 E1) (.lv (Q1x 8 4 E1) λ(x3:Q00×Bool)=> .br (x0==1) (.an (Qc6 x3.1 [] 87) (.lv (Qfj x3.1 [] 87) λ(x4:Q00×List Q06×Int×Int)=> .lf (Sum.inr x4.1))) (.lf (Sum.inr x3.1))))) (.an (Q9p 8 4 (v0++x2)) (.lv (Q1x 8 4 (v0++x2)) λ(x5:Q00×Bool)=> .br (x0==1) (.an (Qc6 x5.1 [] 87) (.lv (Qfj x5.1 [] 87) λ(x6:Q00×List Q06×Int×Int)=> .lf (Sum.inr x6.1))) (.lf (Sum.inr x5.1))))))))) (.an (Qhs l) (.lv (Qof l) λ(x7:List Int)=> .cn (decide (4*(0+x7.length)<=140737488355328)) (.br (decide ((x7.length:Int)>(256:Int))) (.cn (Nat.beq 1 1&&Nat.blt 0 1&&decide ((0:Int)<=(0:Int)/\(0:Int)<=(256:Int)/\256<=(x7.length:Int))) (let E2:=List.take (Int.toNat 256-Int.toNat 0) (List.drop (Int.toNat 0) x7); .an (Q9p 8 4 E2) (.lv (Q1x 8 4 E2) λ(x8:Q00×Bool)=> .br (x0==1) (.an (Qc6 x8.1 [] 87) (.lv (Qfj x8.1 [] 87) λ(x9:Q00×List Q06×Int×Int)=> .lf x9.1)) (.lf x8.1)))) (.an (Q9p 8 4 x7) (.lv (Q1x 8 4 x7) λ(x10:Q00×Bool)=> .br (x0==1) (.an (Qc6 x10.1 [] 87) (.lv (Qfj x10.1 [] 87) λ(x11:Q00×List Q06×Int×Int)=> .lf x11.1)) (.lf x10.1)))))))
def Qki(kind:Int)(l:(List Int)):Q00:=(Q7g kind l).m
abbrev Qnn(kind:Int)(l:(List Int)):Prop:=(Q7g kind l).p
def Z3r:LInv:={
 α:=(List Int)
 F:=λst a=>([(0,(lk st 0)),(1,(lk st 1)),(4, .ptr 0 0 0),(5, .all 1)],[⟨true,43,49, .gen [mB (cT st 4)]⟩,⟨false,25,1, .ints u32 a⟩])
 a0:=λst=>(Q5q st.rows (rN st 5))
 ex0:=λst=>[]++[(Q0r (lk st 4) (st.rows.length+0)),(Q0r (lk st 5) (st.rows.length+1))]
 next:=λst=>(Q5q st.rows (rN st 5))
 ex:=λst=>[]++[(Q0r (lk st 4) (st.rows.length+0)),(Q0r (lk st 5) (st.rows.length+1))]}
def Qwi:List (Nat×LInv):=[(5,Z3r)]
def Z60:Q0d:=mkP 41 [] true [.one (.int .i64), .one (.ints .i64)] [] (λargs rows=>Qnn (argI args 0) (argL .i64 args 1)) (λargs rows=>Qki (argI args 0) (argL .i64 args 1)) (λX=> .agg (Q00.cellsW X (.all 0))) (λX=>[⟨false,25,1, .ints .u32 X.Mem⟩])
theorem Z3u:Q05 Tryz.prog Z60:=Q0l drawn Q0j (.cons Qmf (.cons Qzv (.cons Zgq (.cons Z2e (.cons Zb (.nil)))))) Tryz.func41 Tryz.call41 (λargs rows=>Q7g (argI args 0) (argL .i64 args 1)) [.row 25 1 (.ints .u32)] Qwi 3
end
noncomputable section
def Qw(l:(List Int))(acts:(List Int)):Tree Bool:=
.br (decide ((l.length:Int)<=(40:Int))) (.lf (decide ((acts.length:Int)<=(30:Int)))) (.lf false)
def Qu5(l:(List Int))(acts:(List Int)):Bool:=(Qw l acts).m
def Zou:Q0d:=mkR 15 [] true [.one (.ints .i64), .one (.ints .i64)] [] (λargs rows=>Qu5 (argL .i64 args 0) (argL .i64 args 1)) (λX=> .bool X) (λX=>[])
theorem Zhn:Q05 Tryz.prog Zou:=Q0z drawn Q0j (.nil) Tryz.func15 Tryz.call15 (λargs rows=>Qw (argL .i64 args 0) (argL .i64 args 1)) [] [] 2
def Qpd(t:Q0h):Tree (Q0h×Bool):=
.br (!t.D1) (.lf (t,false)) (.lf ({D1:=false,C7:=t.C7,D5:=true},true))
def Qlu(t:Q0h):(Q0h×Bool):=(Qpd t).m
def Zf5:Q0d:=mkR 130 [] true [.agg Q0h.sig] [] (λargs rows=>Qlu (Q0h.of (aC args 0))) (λX=> .tup [.agg (Q0h.cells (X.1)), .bool (X.2)]) (λX=>[])
theorem Za5:Q05 Tryz.prog Zf5:=Q0z drawn Q0j (.nil) Tryz.func130 Tryz.call130 (λargs rows=>Qpd (Q0h.of (aC args 0))) [] [] 2
def Q7k(c:Q0c)(b:Int):Tree (Q0c×Bool):=
.br (decide ((c.D3.length:Int)>=(16:Int))) (.lf (c,false)) (.cn (decide (c.D3.length+1<=maxLen)) (.lf ({D3:=c.D3++[(λ(n:Int)=>UInt8.ofNat n.toNat) b]},true)))
def Qo7(c:Q0c)(b:Int):(Q0c×Bool):=(Q7k c b).m
abbrev Qhg(c:Q0c)(b:Int):Prop:=(Q7k c b).p
def Z56:Q0d:=mkP 131 [] true [.agg Q0c.sig, .one (.int .u8)] [] (λargs rows=>Qhg (Q0c.of (aC args 0)) (argI args 1)) (λargs rows=>Qo7 (Q0c.of (aC args 0)) (argI args 1)) (λX=> .tup [.agg (Q0c.cells (X.1)), .bool (X.2)]) (λX=>[])
theorem Z1h:Q05 Tryz.prog Z56:=Q0l drawn Q0j (.nil) Tryz.func131 Tryz.call131 (λargs rows=>Q7k (Q0c.of (aC args 0)) (argI args 1)) [] [] 2
def Q4h(d0:Q0e)(m:(List Int))(e:Q0a):Tree (Q0e×(List Int)×Bool):=
let T2:Tree ((Q0e×(List Int)×Bool)):= .an (Q09 m) (.lv (Q03 m) λ(x0:List Int)=> .lf (d0,x0,false)); .br (d0.C0 !=1) T2 (.br (e.B6 !=4) T2 (.br (decide (e.N>1)) T2 (.an (Q09 m) (.lv (Q03 m) λ(x3:List Int)=>let E3:=({Blocks:=d0.Blocks,C1:=d0.C1,Frame:=d0.Frame,C0:=2,D8:=0,B7:=0,B3:=0,C3:=[]}:Q0e);let E4:=({Blocks:=d0.Blocks,C1:=d0.C1,Frame:=d0.Frame,C0:=3,D8:=0,B7:=0,B3:=0,C3:=[]}:Q0e);let T1:Tree ((Q0e×(List Int)×Bool)):= .br (!decide (e.C6=[])) (.lf (d0,x3,false)) (.br (e.N==1) (.lf (E3,x3,true)) (.lf (E4,x3,true))); .br (e.N==1) (.br (d0.D8==1) (.lv (Qa1 m d0.B3) λ(x4:Bool)=> .br (!x4) (.lf (d0,x3,false)) (.an (Q78 m (wrap i64 d0.B3) e.C6) (.lv (Q2w m (wrap i64 d0.B3) e.C6) λ(x5:List Int×Bool)=> .br (!x5.2) (.lf (d0,x5.1,false)) (.br (e.N==1) (.lf (E3,x5.1,true)) (.lf (E4,x5.1,true)))))) T1) T1))))
def Qhw(d0:Q0e)(m:(List Int))(e:Q0a):(Q0e×(List Int)×Bool):=(Q4h d0 m e).m
abbrev Qfi(d0:Q0e)(m:(List Int))(e:Q0a):Prop:=(Q4h d0 m e).p
def Z19:Q0d:=mkP 132 [] true [.agg Q0e.sig, .one (.ints .u32), .agg Q0a.sig] [] (λargs rows=>Qfi (Q0e.of (aC args 0)) (argL .u32 args 1) (Q0a.of (aC args 2))) (λargs rows=>Qhw (Q0e.of (aC args 0)) (argL .u32 args 1) (Q0a.of (aC args 2))) (λX=> .tup [.agg (Q0e.cells (X.1)), .all 0, .bool (X.2.2)]) (λX=>[⟨false,25,1, .ints .u32 (X.2.1)⟩])
theorem Qzd:Q05 Tryz.prog Z19:=Q0l drawn Q0j (.cons Q0t (.cons Qrf (.cons Qfd (.nil)))) Tryz.func132 Tryz.call132 (λargs rows=>Q4h (Q0e.of (aC args 0)) (argL .u32 args 1) (Q0a.of (aC args 2))) [.row 25 1 (.ints .u32)] [] 2
def Q7(n:Q0o)(m:(List Int))(frame:(List UInt8)):Tree (Q0o×(List Int)×Bool):=
let T1:Tree ((Q0o×(List Int)×Bool)):= .an (Q09 m) (.lv (Q03 m) λ(x0:List Int)=> .lf (n,x0,false)); .br (!n.C5) T1 (.br (decide ((frame.length:Int)<(1:Int))) T1 (.br (decide ((frame.length:Int)>(128:Int))) T1 (.lv (Qau m n.B9) λ(x3:Bool)=> .br (!x3) T1 (.an (Q9s m (wrap i64 n.B9)) (.lv (Q65 m (wrap i64 n.B9)) λ(x5:List UInt8×Bool)=> .cn (decide (0<=(frame.length:Int)/\(frame.length:Int)<=(x5.1.length:Int)/\(x5.1.length:Int)<=(x5.1.length:Int))) (let E2:=Int.toNat (x5.1.length:Int)-Int.toNat (frame.length:Int);let E3:=List.drop (Int.toNat (frame.length:Int)) x5.1; .cn (decide (frame.length+List.length (List.take E2 E3)<=maxLen)) (.an (Q78 m (wrap i64 n.B9) (frame++List.take E2 E3)) (.lv (Q2w m (wrap i64 n.B9) (frame++List.take E2 E3)) λ(x6:List Int×Bool)=> .lf ({Frame:=n.Frame,E0:=n.E0,C5:=false,B9:=0,B8:=true,F1:=wrap u32 (frame.length:Int)},x6.1,true)))))))))
def Qmi(n:Q0o)(m:(List Int))(frame:(List UInt8)):(Q0o×(List Int)×Bool):=(Q7 n m frame).m
abbrev Qiw(n:Q0o)(m:(List Int))(frame:(List UInt8)):Prop:=(Q7 n m frame).p
def Zbb:Q0d:=mkP 133 [] true [.agg Q0o.sig, .one (.ints .u32), .one (.str)] [] (λargs rows=>Qiw (Q0o.of (aC args 0)) (argL .u32 args 1) (argS args 2)) (λargs rows=>Qmi (Q0o.of (aC args 0)) (argL .u32 args 1) (argS args 2)) (λX=> .tup [.agg (Q0o.cells (X.1)), .all 0, .bool (X.2.2)]) (λX=>[⟨false,25,1, .ints .u32 (X.2.1)⟩])
theorem Z57:Q05 Tryz.prog Zbb:=Q0l drawn Q0j (.cons Qne (.cons Q0t (.cons Ql8 (.cons Qfd (.nil))))) Tryz.func133 Tryz.call133 (λargs rows=>Q7 (Q0o.of (aC args 0)) (argL .u32 args 1) (argS args 2)) [.row 25 1 (.ints .u32)] [] 2
def Q4k(m:Q00)(e:Q0a):Tree (Q00×Bool):=
.an (Q09 m.Mem) (.lv (Q03 m.Mem) λ(x0:List Int)=>let E2:=({B2:=m.B2,Mem:=x0,A6:=m.A6,B0:=m.B0,B1:=m.B1,C4:=m.C4,A2:=m.A2,A1:=m.A1,A7:=m.A7,A9:=m.A9}:Q00); .an (Q3c E2) (.lv (Q1g E2) λ(x1:Bool)=>let T1:Tree ((Q00×Bool)):= .lf (E2,false); .br (!x1) T1 (.br m.A9 T1 (.br (e.B6==2) (.br (e.N==0) (.br (decide (e.C6=[])) (.lv (Qlu m.B0) λ(x2:Q0h×Bool)=> .lf ({B2:=m.B2,Mem:=x0,A6:=m.A6,B0:=x2.1,B1:=m.B1,C4:=m.C4,A2:=m.A2,A1:=m.A1,A7:=m.A7,A9:=m.A9},x2.2)) T1) T1) (.br (e.B6==3) (.br (decide (e.N<=255)) (.br (decide (e.C6=[])) (.an (Qhg m.A6 (wrap u8 e.N)) (.lv (Qo7 m.A6 (wrap u8 e.N)) λ(x3:Q0c×Bool)=> .lf ({B2:=m.B2,Mem:=x0,A6:=x3.1,B0:=m.B0,B1:=m.B1,C4:=m.C4,A2:=m.A2,A1:=m.A1,A7:=m.A7,A9:=m.A9},x3.2))) T1) T1) (.br (e.B6==4) (.an (Qfi m.B1 x0 e) (.lv (Qhw m.B1 x0 e) λ(x4:Q0e×List Int×Bool)=> .lf ({B2:=m.B2,Mem:=x4.2.1,A6:=m.A6,B0:=m.B0,B1:=x4.1,C4:=m.C4,A2:=m.A2,A1:=m.A1,A7:=m.A7,A9:=m.A9},x4.2.2))) (.br (e.B6==5) (.br (e.N==0) (.an (Qiw m.C4 x0 e.C6) (.lv (Qmi m.C4 x0 e.C6) λ(x5:Q0o×List Int×Bool)=> .lf ({B2:=m.B2,Mem:=x5.2.1,A6:=m.A6,B0:=m.B0,B1:=m.B1,C4:=x5.1,A2:=m.A2,A1:=m.A1,A7:=m.A7,A9:=m.A9},x5.2.2))) T1) (.br (e.B6==6) (.br (decide (e.C6=[])) (.lf ({B2:=m.B2,Mem:=x0,A6:=m.A6,B0:=m.B0,B1:=m.B1,C4:=m.C4,A2:={C8:=e.N,C2:=m.A2.C2},A1:=m.A1,A7:=m.A7,A9:=m.A9},true)) T1) T1))))))))
def Q5a(m:Q00)(e:Q0a):(Q00×Bool):=(Q4k m e).m
abbrev Q7z(m:Q00)(e:Q0a):Prop:=(Q4k m e).p
def Z2i:Q0d:=mkP 38 [] true [.agg Q00.sig, .agg Q0a.sig] [] (λargs rows=>Q7z (Q00.of (aC args 0)) (Q0a.of (aC args 1))) (λargs rows=>Q5a (Q00.of (aC args 0)) (Q0a.of (aC args 1))) (λX=> .tup [.agg (Q00.cellsW (X.1) (.all 0)), .bool (X.2)]) (λX=>[⟨false,25,1, .ints .u32 (X.1).Mem⟩])
theorem Qh8:Q05 Tryz.prog Z2i:=Q0l drawn Q0j (.cons Q0t (.cons Qca (.cons Za5 (.cons Z1h (.cons Qzd (.cons Z57 (.nil))))))) Tryz.func38 Tryz.call38 (λargs rows=>Q4k (Q00.of (aC args 0)) (Q0a.of (aC args 1))) [.row 25 1 (.ints .u32)] [] 2
end
noncomputable section
instance sumInhRa {α β:Type} [Inhabited β]:Inhabited (α⊕β):=⟨.inr default⟩
def Q1(s:(List Q0g)):(List Q0g):=
s
def Q0w(s:(List Q0g)):Prop:=
s.length<=3518437208883
def Q2r(s:(List Q0g)):List D:=[.sl 4 (.recs .apiEntry s) false]
def Q1z(s:(List Q0g)):List Row:=[]
def Q17(X:(List Q0g)):D:= .all 0
def Q19(X:(List Q0g)):List Row:=[⟨false,126,4, .recs .apiEntry X⟩]
def Qbt:List Dir:=[.row 126 4 (.recs .apiEntry)]
def Q5e:List PT:=[.one (.recs .apiEntry)]
def Q56:List RT:=[]
def Qcd(args:List D)(rows:List Row):(List Q0g):=Q1 (argR .apiEntry args 0)
def Qc2(args:List D)(rows:List Row):Prop:=Q0w (argR .apiEntry args 0)
def Qdn:Q0d:=mkP 210 [] true Q5e Q56 Qc2 Qcd Q17 Q19
def Q37(s:(List Q0g))(Leaf:(List Q0g)->Prop):Prop:=
(s=[]->Leaf [])/\cand (decide ((40:Nat)*((0:Nat)+s.length)<=(140737488355328:Nat))) (Leaf s)
set_option maxRecDepth 100000 in
theorem Qd4(s:(List Q0g))(Q:D->List Row->Prop):(fnVC tab [] (LL tab [] Tryz.f210.ntmps 0 [] 2) Tryz.f210 (Q2r s) (Q1z s) λd R=>Q9t (Q1z s).length Qbt d R Q)=Q37 s (λX=>Q (Q17 X) (Q19 X)):=by kernel_rfl
theorem Qbs(s:(List Q0g))(Leaf:(List Q0g)->Prop)(hw:Q0w s)(h:Leaf (Q1 s)):
Q37 s Leaf:=by
 delta Q37
 refine⟨λe=>by rw[e]at h;exact h,?_⟩
 rw[Q08]
 refine⟨dY ?_,h⟩
 have:s.length<=3518437208883:=hw
 omega
set_option maxRecDepth 100000 in
theorem Qba(s:(List Q0g))(hw:Q0w s):Q4l Tryz.prog 210 (Q2r s) (Q1z s) (Q17 (Q1 s)) (Q19 (Q1 s)):=
 have hG:Q7j Tryz.prog []:= .nil
 FnOK.calls drawn Q0j hG Tryz.func210 (rf:=none) (λ_ _=>trivial) (Zoz drawn Q0j hG (.inl rfl) 2 (invs:=[])) (FnOK.of (Qd4 s _) (Qbs s (λX=>Q17 X=Q17 (Q1 s)/\Q19 X=Q19 (Q1 s)) hw ⟨rfl,rfl⟩))
set_option maxRecDepth 100000 in
theorem Qbk(args:List D)(rows:List Row):Qgr Q5e args 0=Q2r (argR .apiEntry args 0):=by kernel_rfl
set_option maxRecDepth 100000 in
theorem Qav(args:List D)(rows:List Row):Q6f Q56 rows 0=Q1z (argR .apiEntry args 0):=by kernel_rfl
set_option maxRecDepth 100000 in
theorem Qd8(X:(List Q0g)):(ffB (Q17 X)&&ffBR (Q19 X))=true:=by kernel_rfl
theorem Q5x:Q05 Tryz.prog Qdn:=Qyn Tryz.call210 (λargs rows hp=>by rw[Qbk args rows,Qav args rows];exact Qba (argR .apiEntry args 0) hp) (λ_ X=>Qd8 X)
def Q16(s:(List Q0a)):(List Q0a):=
s
def Q0y(s:(List Q0a)):Prop:=
s.length<=3518437208883
def Q2o(s:(List Q0a)):List D:=[.sl 3 (.recs .apiEvent s) false]
def Q2(s:(List Q0a)):List Row:=[]
def Q18(X:(List Q0a)):D:= .all 0
def Q1a(X:(List Q0a)):List Row:=[⟨false,66,3, .recs .apiEvent X⟩]
def Qbp:List Dir:=[.row 66 3 (.recs .apiEvent)]
def Q5n:List PT:=[.one (.recs .apiEvent)]
def Q55:List RT:=[]
def Qc7(args:List D)(rows:List Row):(List Q0a):=Q16 (argR .apiEvent args 0)
def Qc(args:List D)(rows:List Row):Prop:=Q0y (argR .apiEvent args 0)
def Qdr:Q0d:=mkP 211 [] true Q5n Q55 Qc Qc7 Q18 Q1a
def Q36(s:(List Q0a))(Leaf:(List Q0a)->Prop):Prop:=
(s=[]->Leaf [])/\cand (decide ((32:Nat)*((0:Nat)+s.length)<=(140737488355328:Nat))) (Leaf s)
set_option maxRecDepth 100000 in
theorem Qcu(s:(List Q0a))(Q:D->List Row->Prop):(fnVC tab [] (LL tab [] Tryz.f211.ntmps 0 [] 2) Tryz.f211 (Q2o s) (Q2 s) λd R=>Q9t (Q2 s).length Qbp d R Q)=Q36 s (λX=>Q (Q18 X) (Q1a X)):=by kernel_rfl
theorem Qbi(s:(List Q0a))(Leaf:(List Q0a)->Prop)(hw:Q0y s)(h:Leaf (Q16 s)):
Q36 s Leaf:=by
 delta Q36
 refine⟨λe=>by rw[e]at h;exact h,?_⟩
 rw[Q08]
 refine⟨dY ?_,h⟩
 have:s.length<=3518437208883:=hw
 omega
set_option maxRecDepth 100000 in
theorem Qb6(s:(List Q0a))(hw:Q0y s):Q4l Tryz.prog 211 (Q2o s) (Q2 s) (Q18 (Q16 s)) (Q1a (Q16 s)):=
 have hG:Q7j Tryz.prog []:= .nil
 FnOK.calls drawn Q0j hG Tryz.func211 (rf:=none) (λ_ _=>trivial) (Zoz drawn Q0j hG (.inl rfl) 2 (invs:=[])) (FnOK.of (Qcu s _) (Qbi s (λX=>Q18 X=Q18 (Q16 s)/\Q1a X=Q1a (Q16 s)) hw ⟨rfl,rfl⟩))
set_option maxRecDepth 100000 in
theorem Qbg(args:List D)(rows:List Row):Qgr Q5n args 0=Q2o (argR .apiEvent args 0):=by kernel_rfl
set_option maxRecDepth 100000 in
theorem Qao(args:List D)(rows:List Row):Q6f Q55 rows 0=Q2 (argR .apiEvent args 0):=by kernel_rfl
set_option maxRecDepth 100000 in
theorem Qcp(X:(List Q0a)):(ffB (Q18 X)&&ffBR (Q1a X))=true:=by kernel_rfl
theorem Qco:Q05 Tryz.prog Qdr:=Qyn Tryz.call211 (λargs rows hp=>by rw[Qbg args rows,Qao args rows];exact Qb6 (argR .apiEvent args 0) hp) (λ_ X=>Qcp X)
def Q9z(r:Q01):Tree Q01:=
.an (Q09 r.A0.Mem) (.lv (Q03 r.A0.Mem) λ(x0:List Int)=> .an (Q0w r.B4) (.lv (Q1 r.B4) λ(x1:List Q0g)=> .an (Q0y r.A3) (.lv (Q16 r.A3) λ(x2:List Q0a)=> .lf ({A0:={B2:=r.A0.B2,Mem:=x0,A6:=r.A0.A6,B0:=r.A0.B0,B1:=r.A0.B1,C4:=r.A0.C4,A2:=r.A0.A2,A1:=r.A0.A1,A7:=r.A0.A7,A9:=r.A0.A9},A4:=r.A4,B4:=x1,A3:=x2}))))
def Qen(r:Q01):Q01:=(Q9z r).m
abbrev Q5u(r:Q01):Prop:=(Q9z r).p
def Z46:Q0d:=mkP 145 [] true [.agg Q01.sig] [] (λargs rows=>Q5u (Q01.of (aC args 0))) (λargs rows=>Qen (Q01.of (aC args 0))) (λX=> .agg (Q01.cellsW X (.all 0) (.all 1) (.all 2))) (λX=>[⟨false,25,1, .ints .u32 X.A0.Mem⟩,⟨false,126,4, .recs .apiEntry X.B4⟩,⟨false,66,3, .recs .apiEvent X.A3⟩])
theorem Qz4:Q05 Tryz.prog Z46:=Q0l drawn Q0j (.cons Q0t (.cons Q5x (.cons Qco (.nil)))) Tryz.func145 Tryz.call145 (λargs rows=>Q9z (Q01.of (aC args 0))) [.row 25 1 (.ints .u32), .row 126 4 (.recs .apiEntry), .row 66 3 (.recs .apiEvent)] [] 2
def Qgv(m:Q00):Tree Q01:=
.an (Q5u {A0:=m,A4:=0,B4:=[],A3:=[]}) (.lv (Qen {A0:=m,A4:=0,B4:=[],A3:=[]}) λ(x0:Q01)=> .lf x0)
def Z8p(m:Q00):Q01:=(Qgv m).m
abbrev Qkw(m:Q00):Prop:=(Qgv m).p
def Zfx:Q0d:=mkP 54 [] true [.agg Q00.sig] [] (λargs rows=>Qkw (Q00.of (aC args 0))) (λargs rows=>Z8p (Q00.of (aC args 0))) (λX=> .agg (Q01.cellsW X (.all 0) (.all 1) (.all 2))) (λX=>[⟨false,25,1, .ints .u32 X.A0.Mem⟩,⟨false,126,4, .recs .apiEntry X.B4⟩,⟨false,66,3, .recs .apiEvent X.A3⟩])
theorem Zb4:Q05 Tryz.prog Zfx:=Q0l drawn Q0j (.cons Qz4 (.nil)) Tryz.func54 Tryz.call54 (λargs rows=>Qgv (Q00.of (aC args 0))) [.row 25 1 (.ints .u32), .row 126 4 (.recs .apiEntry), .row 66 3 (.recs .apiEvent)] [] 2
def Qha(e:Q0a):Tree Bool:=
.br (e.B6==1) (.lf (decide (e.C6=[]))) (.br (e.B6==6) (.lf (decide (e.C6=[]))) (.br (e.B6==2) (.br (e.N==0) (.lf (decide (e.C6=[]))) (.lf false)) (.br (e.B6==3) (.br (decide (e.N<=255)) (.lf (decide (e.C6=[]))) (.lf false)) (.br (e.B6==4) (.br (e.N==1) (.br (decide (e.C6=[])) (.lf true) (.lf ((e.C6.length:Int)==(128:Int)))) (.br (e.N==0) (.lf (decide (e.C6=[]))) (.lf false))) (.br (e.B6==5) (.br (e.N==0) (.br (decide ((e.C6.length:Int)>=(1:Int))) (.lf (decide ((e.C6.length:Int)<=(128:Int)))) (.lf false)) (.lf false)) (.lf false))))))
def Qbu(e:Q0a):Bool:=(Qha e).m
def Z02:Q0d:=mkR 150 [] true [.agg Q0a.sig] [] (λargs rows=>Qbu (Q0a.of (aC args 0))) (λX=> .bool X) (λX=>[])
theorem Qwk:Q05 Tryz.prog Z02:=Q0z drawn Q0j (.nil) Tryz.func150 Tryz.call150 (λargs rows=>Qha (Q0a.of (aC args 0))) [] [] 2
def Qif(r:Q01)(e:Q0a):Tree (Q01×Bool):=
.an (Q5u r) (.lv (Qen r) λ(x0:Q01)=> .lv (Qbu e) λ(x1:Bool)=> .br (!x1) (.lf (x0,false)) (.br (e.B6==1) (.lf (x0,false)) (.br (decide ((x0.A3.length:Int)>=(16:Int))) (.lf (x0,false)) (.cn (decide (32*(x0.A3.length+1)<=140737488355328)) (.lf ({A0:=x0.A0,A4:=x0.A4,B4:=x0.B4,A3:=x0.A3++[e]},true))))))
abbrev Qvo(r:Q01)(e:Q0a):Prop:=(Qif r e).p
def Qp0(r:Q01):Tree (Q01×(List Q0g)×Int):=
.an (Q5u r) (.lv (Qen r) λ(x0:Q01)=> .lf ({A0:=x0.A0,A4:=x0.A4,B4:=[],A3:=x0.A3},x0.B4,x0.A0.A1))
abbrev Z6b(r:Q01):Prop:=(Qp0 r).p
def Zi0(t:Q0h)(now:Int):Tree Bool:=
.br t.D1 (.lf (decide (now>=t.C7))) (.lf false)
def vB(t:Q0h)(now:Int):Bool:=(Zi0 t now).m
def Q9k(e:Q0a)(fr0:Q01):Tree Q01:=
.cn (decide (40*(fr0.B4.length+1)<=140737488355328)) (.lf ({A0:=fr0.A0,A4:=fr0.A4,B4:=fr0.B4++[{At:=fr0.A0.A1,C9:=e}],A3:=fr0.A3}))
def Qnz(e:Q0a)(fr0:Q01):Q01:=(Q9k e fr0).m
abbrev Qbn(e:Q0a)(fr0:Q01):Prop:=(Q9k e fr0).p
def Q8j(e:Q0a)(fr0:Q01):Tree Q01:=
.cn (decide (40*(fr0.B4.length+1)<=140737488355328)) (.lf ({A0:=fr0.A0,A4:=fr0.A4,B4:=fr0.B4++[{At:=fr0.A0.A1,C9:=e}],A3:=fr0.A3}))
def Qx3(e:Q0a)(fr0:Q01):Q01:=(Q8j e fr0).m
abbrev Qh0(e:Q0a)(fr0:Q01):Prop:=(Q8j e fr0).p
def Q9g(e:Q0a)(fr0:Q01):Tree Q01:=
.an (Q7z fr0.A0 e) (.lv (Q5a fr0.A0 e) λ(x0:Q00×Bool)=> .br x0.2 (.an (Qh0 e {A0:=x0.1,A4:=fr0.A4,B4:=fr0.B4,A3:=fr0.A3}) (.lv (Qx3 e {A0:=x0.1,A4:=fr0.A4,B4:=fr0.B4,A3:=fr0.A3}) λ(x1:Q01)=> .lf x1)) (.lf fr0))
def Qno(e:Q0a)(fr0:Q01):Q01:=(Q9g e fr0).m
abbrev Qbr(e:Q0a)(fr0:Q01):Prop:=(Q9g e fr0).p
def Qqq(r:Q01)(steps:Int)(clock:Int)(z:(Int)×Q01):Nat:=(z.2.A3.length-z.1).toNat
def Qqn(r:Q01)(steps:Int)(clock:Int)(v0:Int×Q01)(z:(Int)×Q01×(List Q06)):Nat:=(4000-z.1).toNat
def Qh9(r:Q01)(steps:Int)(clock:Int):Tree (Q01×(List Q06)):=
.an (Q5u r) (.lv (Qen r) λ(x0:Q01)=> .an (Q3c x0.A0) (.lv (Q1g x0.A0) λ(x1:Bool)=> .br (!x1) (.lf (x0,[])) (.lp inferInstance (Qqq r steps clock (0,{A0:=x0.A0,A4:=if clock>x0.A4 then clock else x0.A4,B4:=x0.B4,A3:=x0.A3})+1) ((rE (steps:Int)/\rZ/\rZ/\rZ/\True/\rE x0.A3/\rE ((x0.A3.length:Int):Int)/\rE (0:Int)/\True)/\(mE x0.A0 (rE x0.A0.Mem) (rE ((if clock>x0.A4 then clock else x0.A4):Int)/\True/\rE x0.A3/\True))/\rE x0.B4/\(mE zM True (rE (0:Int)/\True/\True/\True))/\(True/\True)/\True) (0,{A0:=x0.A0,A4:=if clock>x0.A4 then clock else x0.A4,B4:=x0.B4,A3:=x0.A3}) λ(v0:Int×Q01)=> .br (decide (v0.1<(x0.A3.length:Int))) (.cn (Nat.beq 3 3&&Nat.blt 0 3&&decide (0<=v0.1/\v0.1<(x0.A3.length:Int))) (let E1:=x0.A3.getD v0.1.toNat (RK.dflt RK.apiEvent); .an (Qbr E1 v0.2) (.lv (Qno E1 v0.2) λ(x2:Q01)=> .nx ((rE (steps:Int)/\rZ/\rZ/\rZ/\True/\((Els.Nil (Els.recs RK.apiEvent x0.A3)\/eqAt Nat 3 3)/\rE x0.A3)/\rE ((x0.A3.length:Int):Int)/\rE ((wrap i64 (v0.1+1)):Int)/\True)/\(mE x2.A0 (((Els.Nil (Els.ints u32 x2.A0.Mem)\/rE (1:Nat))/\rE x2.A0.Mem)) (rE x2.A4/\True/\((Els.Nil (Els.recs RK.apiEvent x2.A3)\/rE (3:Nat))/\rE x2.A3)/\True))/\rE x2.B4/\(mE zM True (rE (0:Int)/\True/\True/\True))/\(True/\True)/\True) (Sum.inl (wrap i64 (v0.1+1),x2))))) (.lp inferInstance (Qqn r steps clock v0 (0,{A0:=v0.2.A0,A4:=v0.2.A4,B4:=v0.2.B4,A3:=[]},[])+1) ((rZ/\rZ/\rZ/\True/\True/\rE ((if 4000<if 0>steps then 0 else steps then 4000 else if 0>steps then 0 else steps):Int)/\rE (0:Int)/\True)/\(mE v0.2.A0 (((Els.Nil (Els.ints u32 v0.2.A0.Mem)\/eqAt Nat 1 1)/\rE v0.2.A0.Mem)) (rE v0.2.A4/\True/\rE ([]:List (RK.T RK.apiEvent))/\True))/\rE v0.2.B4/\(mE zM True (rE (0:Int)/\True/\True/\True))/\(True/\True)/\rE ([]:List (RK.T RK.apiOutput))/\True) (0,{A0:=v0.2.A0,A4:=v0.2.A4,B4:=v0.2.B4,A3:=[]},[]) λ(v1:Int×Q01×List Q06)=> .br (decide (v1.1<if 4000<if 0>steps then 0 else steps then 4000 else if 0>steps then 0 else steps)) (.lv (vB v1.2.1.A0.B0 v1.2.1.A4) λ(x3:Bool)=> .br x3 (.an (Qbr {B6:=2,N:=0,C6:=[]} v1.2.1) (.lv (Qno {B6:=2,N:=0,C6:=[]} v1.2.1) λ(x4:Q01)=> .br x4.A0.A9 (.lf (Sum.inr (Sum.inr (x4,v1.2.2)))) (.an (Q6j x4.A0) (.lv (Q86 x4.A0) λ(x5:Bool)=> .br x5 (.lf (Sum.inr (Sum.inr (x4,v1.2.2)))) (.br (x4.A0.A1==1152921504606846976) (.lf (Sum.inr (Sum.inr (x4,v1.2.2)))) (.an (Q29 x4.A0) (.lv (Q4s x4.A0) λ(x6:Bool)=> .br x6 (.an (Qbn {B6:=1,N:=x4.A4,C6:=[]} x4) (.lv (Qnz {B6:=1,N:=x4.A4,C6:=[]} x4) λ(x7:Q01)=> .an (Q3m x7.A0 x7.A4) (.lv (Q3l x7.A0 x7.A4) λ(x8:Q00×List Q06)=> .cn (decide (40*(v1.2.2.length+x8.2.length)<=140737488355328)) (.nx ((rZ/\rZ/\rZ/\True/\True/\rE ((if 4000<if 0>steps then 0 else steps then 4000 else if 0>steps then 0 else steps):Int)/\rE ((wrap i64 (v1.1+1)):Int)/\True)/\(mE x8.1 (((Els.Nil (Els.ints u32 x8.1.Mem)\/rE (1:Nat))/\rE x8.1.Mem)) (rE ((wrap u32 (x7.A4+1)):Int)/\True/\((Els.Nil (Els.recs RK.apiEvent x7.A3)\/rE (3:Nat))/\rE x7.A3)/\True))/\rE x7.B4/\(mE zM True (rE (0:Int)/\True/\True/\True))/\(True/\True)/\rE ((v1.2.2++x8.2):List (RK.T RK.apiOutput))/\True) (Sum.inl (wrap i64 (v1.1+1),{A0:=x8.1,A4:=wrap u32 (x7.A4+1),B4:=x7.B4,A3:=x7.A3},v1.2.2++x8.2)))))) (.an (Q3m x4.A0 x4.A4) (.lv (Q3l x4.A0 x4.A4) λ(x9:Q00×List Q06)=> .cn (decide (40*(v1.2.2.length+x9.2.length)<=140737488355328)) (.nx ((rZ/\rZ/\rZ/\True/\True/\rE ((if 4000<if 0>steps then 0 else steps then 4000 else if 0>steps then 0 else steps):Int)/\rE ((wrap i64 (v1.1+1)):Int)/\True)/\(mE x9.1 (((Els.Nil (Els.ints u32 x9.1.Mem)\/rE (1:Nat))/\rE x9.1.Mem)) (rE ((wrap u32 (x4.A4+1)):Int)/\True/\((Els.Nil (Els.recs RK.apiEvent x4.A3)\/rE (3:Nat))/\rE x4.A3)/\True))/\rE x4.B4/\(mE zM True (rE (0:Int)/\True/\True/\True))/\(True/\True)/\rE ((v1.2.2++x9.2):List (RK.T RK.apiOutput))/\True) (Sum.inl (wrap i64 (v1.1+1),{A0:=x9.1,A4:=wrap u32 (x4.A4+1),B4:=x4.B4,A3:=x4.A3},v1.2.2++x9.2)))))))))))) (.br v1.2.1.A0.A9 (.lf (Sum.inr (Sum.inr (v1.2.1,v1.2.2)))) (.an (Q6j v1.2.1.A0) (.lv (Q86 v1.2.1.A0) λ(x10:Bool)=> .br x10 (.lf (Sum.inr (Sum.inr (v1.2.1,v1.2.2)))) (.br (v1.2.1.A0.A1==1152921504606846976) (.lf (Sum.inr (Sum.inr (v1.2.1,v1.2.2)))) (.an (Q29 v1.2.1.A0) (.lv (Q4s v1.2.1.A0) λ(x11:Bool)=> .br x11 (.an (Qbn {B6:=1,N:=v1.2.1.A4,C6:=[]} v1.2.1) (.lv (Qnz {B6:=1,N:=v1.2.1.A4,C6:=[]} v1.2.1) λ(x12:Q01)=> .an (Q3m x12.A0 x12.A4) (.lv (Q3l x12.A0 x12.A4) λ(x13:Q00×List Q06)=> .cn (decide (40*(v1.2.2.length+x13.2.length)<=140737488355328)) (.nx ((rZ/\rZ/\rZ/\True/\True/\rE ((if 4000<if 0>steps then 0 else steps then 4000 else if 0>steps then 0 else steps):Int)/\rE ((wrap i64 (v1.1+1)):Int)/\True)/\(mE x13.1 (((Els.Nil (Els.ints u32 x13.1.Mem)\/rE (1:Nat))/\rE x13.1.Mem)) (rE ((wrap u32 (x12.A4+1)):Int)/\True/\((Els.Nil (Els.recs RK.apiEvent x12.A3)\/rE (3:Nat))/\rE x12.A3)/\True))/\rE x12.B4/\(mE zM True (rE (0:Int)/\True/\True/\True))/\(True/\True)/\rE ((v1.2.2++x13.2):List (RK.T RK.apiOutput))/\True) (Sum.inl (wrap i64 (v1.1+1),{A0:=x13.1,A4:=wrap u32 (x12.A4+1),B4:=x12.B4,A3:=x12.A3},v1.2.2++x13.2)))))) (.an (Q3m v1.2.1.A0 v1.2.1.A4) (.lv (Q3l v1.2.1.A0 v1.2.1.A4) λ(x14:Q00×List Q06)=> .cn (decide (40*(v1.2.2.length+x14.2.length)<=140737488355328)) (.nx ((rZ/\rZ/\rZ/\True/\True/\rE ((if 4000<if 0>steps then 0 else steps then 4000 else if 0>steps then 0 else steps):Int)/\rE ((wrap i64 (v1.1+1)):Int)/\True)/\(mE x14.1 (((Els.Nil (Els.ints u32 x14.1.Mem)\/rE (1:Nat))/\rE x14.1.Mem)) (rE ((wrap u32 (v1.2.1.A4+1)):Int)/\True/\((Els.Nil (Els.recs RK.apiEvent v1.2.1.A3)\/eqAt Nat 3 3)/\rE v1.2.1.A3)/\True))/\rE v1.2.1.B4/\(mE zM True (rE (0:Int)/\True/\True/\True))/\(True/\True)/\rE ((v1.2.2++x14.2):List (RK.T RK.apiOutput))/\True) (Sum.inl (wrap i64 (v1.1+1),{A0:=x14.1,A4:=wrap u32 (v1.2.1.A4+1),B4:=v1.2.1.B4,A3:=v1.2.1.A3},v1.2.2++x14.2)))))))))))) (.lf (Sum.inr (Sum.inr (v1.2.1,v1.2.2))))))))
abbrev Qt(r:Q01)(steps:Int)(clock:Int):Prop:=(Qh9 r steps clock).p
end
noncomputable section
instance sumInhRc {α β:Type} [Inhabited β]:Inhabited (α⊕β):=⟨.inr default⟩
end
noncomputable section
def Q6a(p:Q04):Tree Q04:=
.an (Q09 p.A0.Mem) (.lv (Q03 p.A0.Mem) λ(x0:List Int)=> .an (Q0w p.B4) (.lv (Q1 p.B4) λ(x1:List Q0g)=> .lf ({A0:={B2:=p.A0.B2,Mem:=x0,A6:=p.A0.A6,B0:=p.A0.B0,B1:=p.A0.B1,C4:=p.A0.C4,A2:=p.A0.A2,A1:=p.A0.A1,A7:=p.A0.A7,A9:=p.A0.A9},B4:=x1,D2:=p.D2,A4:=p.A4})))
def Qhu(p:Q04):Q04:=(Q6a p).m
abbrev Q7r(p:Q04):Prop:=(Q6a p).p
def Z1d:Q0d:=mkP 149 [] true [.agg Q04.sig] [] (λargs rows=>Q7r (Q04.of (aC args 0))) (λargs rows=>Qhu (Q04.of (aC args 0))) (λX=> .agg (Q04.cellsW X (.all 0) (.sl 4 (.recs .apiEntry X.B4) true))) (λX=>[⟨false,25,1, .ints .u32 X.A0.Mem⟩])
theorem Qck:Q05 Tryz.prog Z1d:=Q0l drawn Q0j (.cons Q0t (.cons Q5x (.nil))) Tryz.func149 Tryz.call149 (λargs rows=>Q6a (Q04.of (aC args 0))) [.row 25 1 (.ints .u32), .sl (.recs .apiEntry) true] [] 2
def Qad(m:Q00):Tree Q04:=
.an (Q7r {A0:=m,B4:=[],D2:=m.A1,A4:=0}) (.lv (Qhu {A0:=m,B4:=[],D2:=m.A1,A4:=0}) λ(x0:Q04)=> .lf x0)
def Qws(m:Q00):Q04:=(Qad m).m
abbrev Qfq(m:Q00):Prop:=(Qad m).p
def Zg8:Q0d:=mkP 74 [] true [.agg Q00.sig] [] (λargs rows=>Qfq (Q00.of (aC args 0))) (λargs rows=>Qws (Q00.of (aC args 0))) (λX=> .agg (Q04.cellsW X (.all 0) (.sl 4 (.recs .apiEntry X.B4) true))) (λX=>[⟨false,25,1, .ints .u32 X.A0.Mem⟩])
theorem Qsq:Q05 Tryz.prog Zg8:=Q0l drawn Q0j (.cons Qck (.nil)) Tryz.func74 Tryz.call74 (λargs rows=>Qad (Q00.of (aC args 0))) [.row 25 1 (.ints .u32), .sl (.recs .apiEntry) true] [] 2
def Qyp(p:Q04):Tree Int:=
.br (decide (p.A0.A1>p.D2)) (.lf 0) (.lf (wrap u64 (p.D2-p.A0.A1)))
def Qwn(p:Q04):Int:=(Qyp p).m
def Zcp:Q0d:=mkR 66 [] true [.agg Q04.sig] [] (λargs rows=>Qwn (Q04.of (aC args 0))) (λX=> .int .u64 X) (λX=>[])
theorem Z9l:Q05 Tryz.prog Zcp:=Q0z drawn Q0j (.nil) Tryz.func66 Tryz.call66 (λargs rows=>Qyp (Q04.of (aC args 0))) [] [] 2
def Qc8(p:Q04):Tree (Int×Bool×Bool):=
.br (decide ((p.B4.length:Int)>(0:Int))) (.cn (Nat.beq 4 4&&Nat.blt 0 4&&decide ((0:Int)<=(0:Int)/\0<(p.B4.length:Int))) (let E1:=p.B4.getD (Int.toNat 0) (RK.dflt RK.apiEntry); .br (E1.C9.B6==1) (.an (Q29 p.A0) (.lv (Q4s p.A0) λ(x0:Bool)=> .br (!x0) (.lf (0,false,!decide (E1.At<=p.A0.A1))) (.br (decide (E1.At<=p.A0.A1)) (.lf (E1.C9.N,true,E1.At==p.A0.A1)) (.lf (E1.C9.N,true,false))))) (.an (Q29 p.A0) (.lv (Q4s p.A0) λ(x1:Bool)=> .br (!x1) (.lf (0,false,true)) (.lf (E1.C9.N,true,false)))))) (.an (Q29 p.A0) (.lv (Q4s p.A0) λ(x2:Bool)=> .br (!x2) (.lf (0,false,true)) (.lf (0,true,false))))
def Qyl(p:Q04):(Int×Bool×Bool):=(Qc8 p).m
abbrev Qh4(p:Q04):Prop:=(Qc8 p).p
def Z4y:Q0d:=mkP 157 [] true [.agg Q04.sig] [] (λargs rows=>Qh4 (Q04.of (aC args 0))) (λargs rows=>Qyl (Q04.of (aC args 0))) (λX=> .tup [.int .u32 (X.1), .bool (X.2.1), .bool (X.2.2)]) (λX=>[])
theorem Qp:Q05 Tryz.prog Z4y:=Q0l drawn Q0j (.cons Qoa (.nil)) Tryz.func157 Tryz.call157 (λargs rows=>Qc8 (Q04.of (aC args 0))) [] [] 2
def Qs1(p:Q04)(z:(Int)×Q00):Nat:=(p.B4.length-z.1).toNat
def Qah(p:Q04):Tree (Q01×Bool):=
.an (Q3c p.A0) (.lv (Q1g p.A0) λ(x0:Bool)=>let T1:Tree ((Q01×Bool)):= .lf ({A0:={B2:={X:={a0:=0,a1:=0,a2:=0,a3:=0,a4:=0,a5:=0,a6:=0,a7:=0,a8:=0,a9:=0,a10:=0,a11:=0,a12:=0,a13:=0,a14:=0,a15:=0},Pc:=0,B5:={a0:=0,a1:=0,a2:=0,a3:=0,a4:=0,a5:=0,a6:=0,a7:=0}},Mem:=[],A6:={D3:=[]},B0:={D1:=false,C7:=0,D5:=false},B1:={Blocks:=0,C1:=0,Frame:=0,C0:=0,D8:=0,B7:=0,B3:=0,C3:=[]},C4:={Frame:=0,E0:=0,C5:=false,B9:=0,B8:=false,F1:=0},A2:={C8:=0,C2:=0},A1:=0,A7:=false,A9:=false},A4:=0,B4:=[],A3:=[]},false); .br (!x0) T1 (.br (p.A0.A1 !=p.D2) T1 (.lp inferInstance (Qs1 p (0,p.A0)+1) ((rZ/\rZ/\rZ/\((Els.Nil (Els.recs RK.apiEntry p.B4)\/rE (4:Nat))/\rE p.B4)/\rE ((p.B4.length:Int):Int)/\rE (0:Int)/\True)/\(mE p.A0 (((Els.Nil (Els.ints u32 p.A0.Mem)\/rE (1:Nat))/\rE p.A0.Mem)) (((Els.Nil (Els.recs RK.apiEntry p.B4)\/rE (4:Nat))/\rE p.B4)/\rE p.D2/\rE p.A4/\True))/\(mE zM True (rE (0:Int)/\True/\True/\True))/\(mE p.A0 (((Els.Nil (Els.ints u32 p.A0.Mem)\/rE (1:Nat))/\rE p.A0.Mem)) True)/\True) (0,p.A0) λ(v0:Int×Q00)=> .br (decide (v0.1<(p.B4.length:Int))) (.cn (Nat.beq 4 4&&Nat.blt 0 4&&decide (0<=v0.1/\v0.1<(p.B4.length:Int))) (let E2:=p.B4.getD v0.1.toNat (RK.dflt RK.apiEntry); .an (Q7z v0.2 E2.C9) (.lv (Q5a v0.2 E2.C9) λ(x1:Q00×Bool)=> .nx ((rZ/\rZ/\rZ/\((Els.Nil (Els.recs RK.apiEntry p.B4)\/rE (4:Nat))/\rE p.B4)/\rE ((p.B4.length:Int):Int)/\rE ((wrap i64 (v0.1+1)):Int)/\True)/\(mE p.A0 (((Els.Nil (Els.ints u32 p.A0.Mem)\/rE (1:Nat))/\rE p.A0.Mem)) (((Els.Nil (Els.recs RK.apiEntry p.B4)\/rE (4:Nat))/\rE p.B4)/\rE p.D2/\rE p.A4/\True))/\(mE zM True (rE (0:Int)/\True/\True/\True))/\(mE x1.1 (rE x1.1.Mem) True)/\True) (Sum.inl (wrap i64 (v0.1+1),x1.1))))) (.an (Qkw v0.2) (.lv (Z8p v0.2) λ(x2:Q01)=> .lf (Sum.inr ({A0:=x2.A0,A4:=p.A4,B4:=x2.B4,A3:=x2.A3},true)))))))
def Qn2(p:Q04):(Q01×Bool):=(Qah p).m
abbrev Qbc(p:Q04):Prop:=(Qah p).p
def Qz5:LInv:={
 α:=(Int)×Q00
 F:=λst a=>([(1, .ptr 0 0 0),(2, .ptr 1 0 0),(4, .ptr 2 0 0),(24,(lk st 24)),(25,(lk st 25)),(26, .int i64 a.1)],[⟨true,106,52, .gen [[(cT st 1 0),(cT st 1 1),(cT st 1 2),(cT st 1 3),(cT st 1 4),(cT st 1 5),(cT st 1 6),(cT st 1 7),(cT st 1 8),(cT st 1 9),(cT st 1 10),(cT st 1 11),(cT st 1 12),(cT st 1 13),(cT st 1 14),(cT st 1 15),(cT st 1 16),(cT st 1 17),(cT st 1 18),(cT st 1 19),(cT st 1 20),(cT st 1 21),(cT st 1 22),(cT st 1 23),(cT st 1 24),(cT st 1 25),(cT st 1 26),(cT st 1 27),(cT st 1 28),(cT st 1 29),(cT st 1 30),(cT st 1 31),(cT st 1 32),(cT st 1 33),(cT st 1 34),(cT st 1 35),(cT st 1 36),(cT st 1 37),(cT st 1 38),(cT st 1 39),(cT st 1 40),(cT st 1 41),(cT st 1 42),(cT st 1 43),(cT st 1 44),(cT st 1 45),(cT st 1 46),(cT st 1 47),(cT st 1 48),(cT st 1 49),(cT st 1 50),(cT st 1 51)]]⟩,⟨true,96,52, .gen [[(cT st 2 0),(cT st 2 1),(cT st 2 2),(cT st 2 3),(cT st 2 4),(cT st 2 5),(cT st 2 6),(cT st 2 7),(cT st 2 8),(cT st 2 9),(cT st 2 10),(cT st 2 11),(cT st 2 12),(cT st 2 13),(cT st 2 14),(cT st 2 15),(cT st 2 16),(cT st 2 17),(cT st 2 18),(cT st 2 19),(cT st 2 20),(cT st 2 21),(cT st 2 22),(cT st 2 23),(cT st 2 24),(cT st 2 25),(cT st 2 26),(cT st 2 27),(cT st 2 28),(cT st 2 29),(cT st 2 30),(cT st 2 31),(cT st 2 32),(cT st 2 33),(cT st 2 34),(cT st 2 35),(cT st 2 36),(cT st 2 37),(cT st 2 38),(cT st 2 39),(cT st 2 40),(cT st 2 41),(cT st 2 42),(cT st 2 43),(cT st 2 44),(cT st 2 45),(cT st 2 46),(cT st 2 47),(cT st 2 48),(cT st 2 49),(cT st 2 50),(cT st 2 51)]]⟩,⟨true,43,49, .gen [mD a.2 (.sl 1 (.ints u32 a.2.Mem) false)]⟩])
 a0:=λst=>((lk st 26).toInt,(mR (cT st 4) (frzI u32 st.rows (cT st 4 25))))
 ex0:=λst=>[]++[(Q0r (lk st 1) (st.rows.length+0)),(Q0r (lk st 2) (st.rows.length+1)),(Q0r (lk st 4) (st.rows.length+2))]
 next:=λst=>((lk st 26).toInt,(mR (cT st 4) (frzI u32 st.rows (cT st 4 25))))
 ex:=λst=>[]++[(Q0r (lk st 1) (st.rows.length+0)),(Q0r (lk st 2) (st.rows.length+1)),(Q0r (lk st 4) (st.rows.length+2))]}
def Qtl:List (Nat×LInv):=[(5,Qz5)]
def Z40:Q0d:=Q0d.fz<|mkP 71 [] true [.agg Q04.sig] [] (λargs rows=>Qbc (Q04.of (aC args 0))) (λargs rows=>Qn2 (Q04.of (aC args 0))) (λX=> .tup [.agg (Q01.cellsW (X.1) (.all 0) (.all 1) (.all 2)), .bool (X.2)]) (λX=>[⟨false,25,1, .ints .u32 (X.1).A0.Mem⟩,⟨false,126,4, .recs .apiEntry (X.1).B4⟩,⟨false,66,3, .recs .apiEvent (X.1).A3⟩])
theorem Qzz:Q05 Tryz.prog Z40:=Zo1<|Q0l drawn Q0j (.cons Qca (.cons Qh8 (.cons Zb4 (.nil)))) Tryz.func71 Tryz.call71 (λargs rows=>Qah (Q04.of (aC args 0))) [.row 25 1 (.ints .u32), .row 126 4 (.recs .apiEntry), .row 66 3 (.recs .apiEvent)] Qtl 3
end
noncomputable section
def Qm4(script:(List Q0g))(z:(Int)):Prop:=1<=z/\(z<=script.length\/z=1)
def Q4z(script:(List Q0g))(z:(Int)):Nat:=(script.length-z).toNat
def Q98(script:(List Q0g)):Tree Bool:=
.lp inferInstance (Q4z script 1+1) ((nR RK.apiEntry 4 script/\rE (1:Int)/\True)/\True) 1 λ(v0:Int)=> .br (decide (v0<(script.length:Int))) (.cn (Nat.beq 4 4&&Nat.blt 0 4&&decide (0<=wrap i64 (v0-1)/\wrap i64 (v0-1)<(script.length:Int))) (.cn (Nat.beq 4 4&&Nat.blt 0 4&&decide (0<=v0/\v0<(script.length:Int))) (let E2:=script.getD (Int.toNat (wrap i64 (v0-1))) (RK.dflt RK.apiEntry);let E3:=script.getD v0.toNat (RK.dflt RK.apiEntry); .br (decide (E3.At<E2.At)) (.lf (Sum.inr false)) (let T1:Tree ((Int)⊕(Bool)):= .nx ((nR RK.apiEntry 4 script/\rE ((wrap i64 (v0+1)):Int)/\True)/\True) (Sum.inl (wrap i64 (v0+1))); .br (E3.At==E2.At) (.br (E2.C9.B6==1) (.lf (Sum.inr false)) T1) T1)))) (.lf (Sum.inr true))
def Qdf(script:(List Q0g)):Bool:=(Q98 script).m
def Q53(script:(List Q0g)):Prop:=
script.length<=1000000000000
theorem Qzu(script:(List Q0g))(hw:Q53 script):(Q98 script).p:=by
 simp only[Q53]at hw
 unfold Tree.p Q98
 repeat'(first|refine w_lp (inv:=Qm4 script) (μ:=Q4z script) ?_ (Nat.lt_succ_self _) (λ_ _=> ?_)|exact trivial|refine w_br (λ_=> ?_) (λ_=> ?_)|refine w_cn ?_ ?_|refine w_an ?_ ?_|refine w_lv (λ_ _=> ?_)|refine w_nx ?_|refine w_lf ?_|refine And.intro ?_ ?_)
 all_goals((try simp only[Qm4,Q4z]at*);exact fin0)
def Z33:LInv:={
 α:=(Int)
 F:=λst a=>([(0,(lk st 0)),(3, .int i64 a)],[])
 a0:=λst=>(lk st 3).toInt
 ex0:=λst=>[]++[]
 next:=λst=>(lk st 3).toInt
 ex:=λst=>[]++[]}
def Qxn:List (Nat×LInv):=[(2,Z33)]
def Z6l:Q0d:=mkP 152 [] true [.one (.recs .apiEntry)] [] (λargs rows=>Q53 (argR .apiEntry args 0)) (λargs rows=>Qdf (argR .apiEntry args 0)) (λX=> .bool X) (λX=>[])
theorem Z1y:Q05 Tryz.prog Z6l:=Q0l drawn Q0j (.nil) Tryz.func152 Tryz.call152 (λargs rows=>Q98 (argR .apiEntry args 0)) [] Qxn 3 (hp:=λargs rows h=>Qzu (argR .apiEntry args 0) h)
def Q2k(s:(List Q0g))(n:Int):(List Q0g):=
[]
def Q1d(s:(List Q0g))(n:Int):Prop:=
0<=n/\n<=1000000000000
def Q5d(s:(List Q0g))(n:Int):List D:=[.nils, .int .i64 n]
def Q5i(s:(List Q0g))(n:Int):List Row:=[]
def Q2z(X:(List Q0g)):D:= .all 0
def Q30(X:(List Q0g)):List Row:=[⟨false,126,4, .recs .apiEntry X⟩]
def Q69:List PT:=[.one .nil0, .one (.int .i64)]
def Q5f:List RT:=[]
def Qd6(args:List D)(rows:List Row):(List Q0g):=Q2k (argR .apiEntry args 0) (argI args 1)
def Qcx(args:List D)(rows:List Row):Prop:=Q1d (argR .apiEntry args 0) (argI args 1)
def Qe1:Q0d:=mkP 215 [true,false] true Q69 Q5f Qcx Qd6 Q2z Q30
theorem Qbf(s:(List Q0g))(n:Int)(hw:Q1d s n):Q4l Tryz.prog 215 (Q5d s n) (Q5i s n) (Q2z (Q2k s n)) (Q30 (Q2k s n)):=by
 exact yT Tryz.lays8 Q0j rfl rfl (by decide) (by decide) hw.1 (by have:=hw.2;omega)
set_option maxRecDepth 100000 in
theorem Qcb(args:List D)(rows:List Row):Qgr Q69 args 0=Q5d (argR .apiEntry args 0) (argI args 1):=by kernel_rfl
set_option maxRecDepth 100000 in
theorem Qbl(args:List D)(rows:List Row):Q6f Q5f rows 0=Q5i (argR .apiEntry args 0) (argI args 1):=by kernel_rfl
set_option maxRecDepth 100000 in
theorem Qdp(X:(List Q0g)):(ffB (Q2z X)&&ffBR (Q30 X))=true:=by kernel_rfl
theorem Qdq:Q05 Tryz.prog Qe1:=Qyn Tryz.call215 (λargs rows hp=>by rw[Qcb args rows,Qbl args rows];exact Qbf (argR .apiEntry args 0) (argI args 1) hp) (λ_ X=>Qdp X)
def Q4e(slices:(List (List Q0g)))(z:(Int)×(Int)):Nat:=(slices.length-z.2).toNat
def Q49(slices:(List (List Q0g)))(z:(Int)×(List Q0g)):Nat:=(slices.length-z.1).toNat
def Q10(slices:(List (List Q0g))):Tree (List Q0g):=
.lp inferInstance (Q4e slices (0,0)+1) ((nR RK.lapiEntry 1 slices/\rE (0:Int)/\nR RK.lapiEntry 1 slices/\rE ((slices.length:Int):Int)/\rE (0:Int)/\True)/\True) (0,0) λ(v0:Int×Int)=> .br (decide (v0.2<(slices.length:Int))) (.cn (Nat.beq 1 1&&Nat.blt 0 1&&decide (0<=v0.2/\v0.2<(slices.length:Int))) (let E1:=(↑(List.length (slices.getD v0.2.toNat (RK.dflt RK.lapiEntry))):Int); .fl (decide (wrap i64 (v0.1+E1)<0)) (.nx ((nR RK.lapiEntry 1 slices/\rE ((wrap i64 (v0.1+(↑(List.length (slices.getD v0.2.toNat (RK.dflt RK.lapiEntry))):Int))):Int)/\nR RK.lapiEntry 1 slices/\rE ((slices.length:Int):Int)/\rE ((wrap i64 (v0.2+1)):Int)/\True)/\True) (Sum.inl (wrap i64 (v0.1+E1),wrap i64 (v0.2+1)))))) (.an (Q1d [] v0.1) (.lv (Q2k [] v0.1) λ(x0:List Q0g)=> .lp inferInstance (Q49 slices (0,x0)+1) ((True/\nR RK.lapiEntry 1 slices/\rE ((slices.length:Int):Int)/\rE (0:Int)/\True)/\rE (x0:List (RK.T RK.apiEntry))/\True) (0,x0) λ(v1:Int×List Q0g)=> .br (decide (v1.1<(slices.length:Int))) (.cn (Nat.beq 1 1&&Nat.blt 0 1&&decide (0<=v1.1/\v1.1<(slices.length:Int))) (.cn (decide (40*(v1.2.length+List.length (slices.getD v1.1.toNat (RK.dflt RK.lapiEntry)))<=140737488355328)) (.nx ((True/\nR RK.lapiEntry 1 slices/\rE ((slices.length:Int):Int)/\rE ((wrap i64 (v1.1+1)):Int)/\True)/\rE ((v1.2++slices.getD v1.1.toNat (RK.dflt RK.lapiEntry)):List (RK.T RK.apiEntry))/\True) (Sum.inl (wrap i64 (v1.1+1),v1.2++slices.getD v1.1.toNat (RK.dflt RK.lapiEntry)))))) (.lf (Sum.inr (Sum.inr v1.2)))))
def Q6y(slices:(List (List Q0g))):(List Q0g):=(Q10 slices).m
abbrev Q2p(slices:(List (List Q0g))):Prop:=(Q10 slices).p
def Qc1:LInv:={
 α:=(Int)×(Int)
 F:=λst a=>([(0,(lk st 0)),(3, .int i64 a.1),(9,(lk st 9)),(10,(lk st 10)),(11, .int i64 a.2)],[])
 a0:=λst=>((lk st 3).toInt,(lk st 11).toInt)
 ex0:=λst=>[]++[]
 next:=λst=>((lk st 3).toInt,(lk st 11).toInt)
 ex:=λst=>[]++[]}
def Qbx:LInv:={
 α:=(Int)×(List Q0g)
 F:=λst a=>([(6, .all 0),(25,(lk st 25)),(26,(lk st 26)),(27, .int i64 a.1)],[⟨false,126,4, .recs RK.apiEntry a.2⟩])
 a0:=λst=>((lk st 27).toInt,(Q5h RK.apiEntry st.rows (rN st 6)))
 ex0:=λst=>[]++[(Q0r (lk st 6) (st.rows.length+0))]
 next:=λst=>((lk st 27).toInt,(Q5h RK.apiEntry st.rows (rN st 6)))
 ex:=λst=>[]++[(Q0r (lk st 6) (st.rows.length+0))]}
def Qb8:List (Nat×LInv):=[(3,Qc1),(11,Qbx)]
def Qcn:Q0d:=mkP 151 [] true [.one (.recs .lapiEntry)] [] (λargs rows=>Q2p (argR .lapiEntry args 0)) (λargs rows=>Q6y (argR .lapiEntry args 0)) (λX=> .all 0) (λX=>[⟨false,126,4, .recs .apiEntry X⟩])
theorem Qce:Q05 Tryz.prog Qcn:=Q0l drawn Q0j (.cons Qdq (.nil)) Tryz.func151 Tryz.call151 (λargs rows=>Q10 (argR .lapiEntry args 0)) [.row 126 4 (.recs .apiEntry)] Qb8 3
def Qas(p:Q04)(l:(List Q0g))(known:Int)(z:(Int)):Nat:=(l.length-z).toNat
def Q8f(p:Q04)(l:(List Q0g))(known:Int):Tree (Q04×Bool):=
.an (Q7r p) (.lv (Qhu p) λ(x0:Q04)=> .br (decide (known<x0.D2)) (.lf (x0,false)) (.br (decide ((l.length:Int)>(400:Int))) (.lf (x0,false)) (.br (decide (wrap i64 ((x0.B4.length:Int)+(l.length:Int))>4096)) (.lf (x0,false)) (.lp inferInstance (Qas p l known 0+1) ((nR RK.apiEntry 4 l/\rE (known:Int)/\rZ/\rZ/\nR RK.apiEntry 4 l/\rE ((l.length:Int):Int)/\rE (0:Int)/\True)/\(mE x0.A0 True (((Els.Nil (Els.recs RK.apiEntry x0.B4)\/rE (4:Nat))/\rE x0.B4)/\rE x0.D2/\rE x0.A4/\True))/\rE x0.A0.Mem/\(mE zM True (True/\rE (0:Int)/\rE (0:Int)/\True))/\True) 0 λ(v0:Int)=> .br (decide (v0<(l.length:Int))) (.cn (Nat.beq 4 4&&Nat.blt 0 4&&decide (0<=v0/\v0<(l.length:Int))) (let E2:=l.getD v0.toNat (RK.dflt RK.apiEntry); .br (decide (E2.At<x0.D2)) (.lf (Sum.inr (x0,false))) (.br (decide (E2.At>known)) (.lf (Sum.inr (x0,false))) (let T1:Tree ((Int)⊕((Q04×Bool))):= .lv (Qbu E2.C9) λ(x1:Bool)=> .br (!x1) (.lf (Sum.inr (x0,false))) (.nx ((nR RK.apiEntry 4 l/\rE (known:Int)/\rZ/\rZ/\nR RK.apiEntry 4 l/\rE ((l.length:Int):Int)/\rE ((wrap i64 (v0+1)):Int)/\True)/\(mE x0.A0 True (((Els.Nil (Els.recs RK.apiEntry x0.B4)\/rE (4:Nat))/\rE x0.B4)/\rE x0.D2/\rE x0.A4/\True))/\rE x0.A0.Mem/\(mE zM True (True/\rE (0:Int)/\rE (0:Int)/\True))/\True) (Sum.inl (wrap i64 (v0+1)))); .br (E2.At==known) (.br (E2.C9.B6==1) (.lf (Sum.inr (x0,false))) T1) T1)))) (.an (Q2p [x0.B4,l]) (.lv (Q6y [x0.B4,l]) λ(x3:List Q0g)=> .an (Q53 x3) (.lv (Qdf x3) λ(x4:Bool)=> .br (!x4) (.lf (Sum.inr (x0,false))) (.lf (Sum.inr ({A0:=x0.A0,B4:=x3,D2:=known,A4:=x0.A4},true))))))))))
def Qf7(p:Q04)(l:(List Q0g))(known:Int):(Q04×Bool):=(Q8f p l known).m
abbrev Q6d(p:Q04)(l:(List Q0g))(known:Int):Prop:=(Q8f p l known).p
def Z5i:LInv:={
 α:=(Int)
 F:=λst a=>([(1,(lk st 1)),(2,(lk st 2)),(3, .ptr 0 0 0),(6, .ptr 2 0 0),(32,(lk st 32)),(33,(lk st 33)),(34, .int i64 a)],[⟨true,106,52, .gen [[(cT st 3 0),(cT st 3 1),(cT st 3 2),(cT st 3 3),(cT st 3 4),(cT st 3 5),(cT st 3 6),(cT st 3 7),(cT st 3 8),(cT st 3 9),(cT st 3 10),(cT st 3 11),(cT st 3 12),(cT st 3 13),(cT st 3 14),(cT st 3 15),(cT st 3 16),(cT st 3 17),(cT st 3 18),(cT st 3 19),(cT st 3 20),(cT st 3 21),(cT st 3 22),(cT st 3 23),(cT st 3 24), .all 1,(cT st 3 26),(cT st 3 27),(cT st 3 28),(cT st 3 29),(cT st 3 30),(cT st 3 31),(cT st 3 32),(cT st 3 33),(cT st 3 34),(cT st 3 35),(cT st 3 36),(cT st 3 37),(cT st 3 38),(cT st 3 39),(cT st 3 40),(cT st 3 41),(cT st 3 42),(cT st 3 43),(cT st 3 44),(cT st 3 45),(cT st 3 46),(cT st 3 47),(cT st 3 48),(cT st 3 49),(cT st 3 50),(cT st 3 51)]]⟩,⟨false,25,1,esOf st.rows (Q0r (cT st 3 25) 1000000)⟩,⟨true,106,52, .gen [[(cT st 6 0),(cT st 6 1),(cT st 6 2),(cT st 6 3),(cT st 6 4),(cT st 6 5),(cT st 6 6),(cT st 6 7),(cT st 6 8),(cT st 6 9),(cT st 6 10),(cT st 6 11),(cT st 6 12),(cT st 6 13),(cT st 6 14),(cT st 6 15),(cT st 6 16),(cT st 6 17),(cT st 6 18),(cT st 6 19),(cT st 6 20),(cT st 6 21),(cT st 6 22),(cT st 6 23),(cT st 6 24),(cT st 6 25),(cT st 6 26),(cT st 6 27),(cT st 6 28),(cT st 6 29),(cT st 6 30),(cT st 6 31),(cT st 6 32),(cT st 6 33),(cT st 6 34),(cT st 6 35),(cT st 6 36),(cT st 6 37),(cT st 6 38),(cT st 6 39),(cT st 6 40),(cT st 6 41),(cT st 6 42),(cT st 6 43),(cT st 6 44),(cT st 6 45),(cT st 6 46),(cT st 6 47),(cT st 6 48),(cT st 6 49),(cT st 6 50),(cT st 6 51)]]⟩])
 a0:=λst=>(lk st 34).toInt
 ex0:=λst=>[]++[(Q0r (lk st 3) (st.rows.length+0)),(Q0r (cT st 3 25) (st.rows.length+1)),(Q0r (lk st 6) (st.rows.length+2))]
 next:=λst=>(lk st 34).toInt
 ex:=λst=>[]++[(Q0r (lk st 3) (st.rows.length+0)),(Q0r (cT st 3 25) (st.rows.length+1)),(Q0r (lk st 6) (st.rows.length+2))]}
def Qzq:List (Nat×LInv):=[(5,Z5i)]
def Zc7:Q0d:=mkP 63 [] true [.agg Q04.sig, .one (.recs .apiEntry), .one (.int .u64)] [] (λargs rows=>Q6d (Q04.of (aC args 0)) (argR .apiEntry args 1) (argI args 2)) (λargs rows=>Qf7 (Q04.of (aC args 0)) (argR .apiEntry args 1) (argI args 2)) (λX=> .tup [.agg (Q04.cellsW (X.1) (.all 0) (.sl 4 (.recs .apiEntry X.1.B4) true)), .bool (X.2)]) (λX=>[⟨false,25,1, .ints .u32 (X.1).A0.Mem⟩])
theorem Qri:Q05 Tryz.prog Zc7:=Q0l drawn Q0j (.cons Qck (.cons Qwk (.cons Qce (.cons Z1y (.nil))))) Tryz.func63 Tryz.call63 (λargs rows=>Q8f (Q04.of (aC args 0)) (argR .apiEntry args 1) (argI args 2)) [.row 25 1 (.ints .u32), .sl (.recs .apiEntry) true] Qzq 3
end
noncomputable section
def Qgl:Q0d:=⟨156,[true],false,λargs rows=>match args,rows with|[.ptr r i o, .int .u64 n],[⟨true,ty,sz, .gen [e]⟩]=>(match Nat.beq r 0&&(Nat.beq i 0&&(Nat.beq o 49&&e.all D.stayB)) with|true=> .abs Unit () (λ_=> .clo 216 [.ptr 1 0 0, .ptr 2 0 0]) (λ_=>[⟨true,ty,sz, .gen [e]⟩,⟨true,219,1, .gen [[.ptr 0 0 49]]⟩,⟨true,41,1, .gen [[.int .u64 n]]⟩])|false=> .no)|_,_=> .no,none,false⟩
theorem Qtf:Q05 Tryz.prog Qgl:=by
  refine⟨λ_=>Tryz.call156,λ_=>by decide,λ_ args rows r r' hm=> ?_,λ_ args rows p r r' hm=> ?_,λ_ args rows α v res rows' hm=> ?_,λ_ args rows p α v res rows' hm=> ?_,λk hk=>(by cases hk),λk hk=>(by cases hk)⟩
  . simp only[Qgl]at hm;split at hm<;>(try split at hm)<;>cases hm
  . simp only[Qgl]at hm;split at hm<;>(try split at hm)<;>cases hm
  . simp only[Qgl]at hm
    split at hm
    . rename_i r i o n ty sz e
      split at hm
      . rename_i hc
        cases hm
        simp only[aE]at hc
        obtain⟨h1,h2,h3,he⟩:=hc
        have h1:=bE h1;have h2:=bE h2;have h3:=bE h3
        subst h1;subst h2;subst h3
        refine⟨?_,λh=>by cases h⟩
        have e1: ∀Q0:D->GD.Rows->Prop,(fnVC tab [] (λ_ _ _=>False) Tryz.f156 [.ptr 0 0 49, .int .u64 n] [⟨true,ty,sz, .gen [e]⟩] λd R=>Q0 d R)=Q0 (.clo 216 [.ptr 1 0 0, .ptr 2 0 0]) [some ⟨true,ty,sz, .gen [e]⟩,some ⟨true,219,1, .gen [[.ptr 0 0 49]]⟩,some ⟨true,41,1, .gen [[.int .u64 n]]⟩]:=λ_=>by kernel_rfl
        refine qag drawn Q0j Q7j.nil Tryz.func156 (rf:=none) (L:=λ_ _ _=>False) (λ_ _=>trivial) (λ_ _ _ _ h=>h.elim) (Q0:=λd R=>d= .clo 216 [.ptr 1 0 0, .ptr 2 0 0]/\R=[some ⟨true,ty,sz, .gen [e]⟩,some ⟨true,219,1, .gen [[.ptr 0 0 49]]⟩,some ⟨true,41,1, .gen [[.int .u64 n]]⟩]) (λd R h=> ?_) ((e1 _).symm▸⟨rfl,rfl⟩)
        obtain⟨rfl,rfl⟩:=h
        refine⟨[0,1,2],rfl,?_,?_⟩
        . simp [retD,retV,retC,cand,capX,inEx]
        . simp [Q3o,Z1x,retC,cand,inEx,Z7p he]
      . cases hm
    . cases hm
  . simp only[Qgl]at hm;split at hm<;>(try split at hm)<;>cases hm
def Q4b(p0:Q0a)(fr0:Q04):Tree (Bool×Q04):=
.an (Q7z fr0.A0 p0) (.lv (Q5a fr0.A0 p0) λ(x0:Q00×Bool)=> .lf (true,{A0:=x0.1,B4:=fr0.B4,D2:=fr0.D2,A4:=fr0.A4}))
def Qj9(p0:Q0a)(fr0:Q04):(Bool×Q04):=(Q4b p0 fr0).m
abbrev Q8g(p0:Q0a)(fr0:Q04):Prop:=(Q4b p0 fr0).p
def Qp7:Q0d:=mkKP 1 1000000068 [false,true] [.agg Q0a.sig, .ptr 0] [.box 106 52 Q04.sig] (λargs rows=>Q8g (Q0a.of (aC args 0)) (Q04.of (rows.getD 0 default).cs)) (λargs rows=>Qj9 (Q0a.of (aC args 0)) (Q04.of (rows.getD 0 default).cs)) (λX=> .bool (X.1)) (λX=>[⟨true,106,52, .gen [(Q04.cellsW (X.2) (.all 1) (.sl 4 (.recs .apiEntry X.2.B4) false))]⟩,⟨false,25,1, .ints .u32 (X.2).A0.Mem⟩])
theorem Qo1:Q05 Tryz.prog Qp7:=Zm7 none (λ_ _=>trivial) drawn Q0j (.cons Qck (.cons Qca (.cons Qtf (.cons Qh8 (.cons Qio (.cons Qp (.cons Qoh (.nil)))))))) (Tryz.func1000000068 ⟨λ_ _=>by kernel_rfl,rfl⟩) (λh=>absurd h (by decide)) (λargs rows=>Q4b (Q0a.of (aC args 0)) (Q04.of (rows.getD 0 default).cs)) [.row 25 1 (.ints .u32), .sl (.recs .apiEntry) false] [] 2 (λ_ _ _=>by kernel_rfl) (λ_ _=>rfl) (λ_ _ h=>h)
def Qts(p:Q04)(fr1:Int)(z:Q04):Nat:=z.B4.length
def Qbz(p:Q04)(fr1:Int):Tree (Q04×Int):=
.lp inferInstance (Qts p fr1 p+1) ((True/\rZ/\rZ/\True)/\(mE p.A0 (((Els.Nil (Els.ints u32 p.A0.Mem)\/rE (1:Nat))/\rE p.A0.Mem)) (((Els.Nil (Els.recs RK.apiEntry p.B4)\/rE (4:Nat))/\rE p.B4)/\rE p.D2/\rE p.A4/\True))/\(True/\True)/\(rE (fr1:Int)/\True)/\True) p λ(v0:Q04)=> .br (decide ((v0.B4.length:Int)>(0:Int))) (let E1:=Nat.beq 4 4&&Nat.blt 0 4&&decide ((0:Int)<=(0:Int)/\0<(v0.B4.length:Int)); .cn E1 (let E2:=v0.B4.getD (Int.toNat 0) (RK.dflt RK.apiEntry); .br (decide (E2.At<=fr1)) (.cn E1 (.br (E2.C9.B6 !=1) (.cn E1 (.cn (Nat.beq 4 4&&Nat.blt 0 4&&decide ((0:Int)<=(1:Int)/\1<=(v0.B4.length:Int)/\(v0.B4.length:Int)<=(v0.B4.length:Int))) (let E3:=Int.toNat (v0.B4.length:Int)-Int.toNat 1; .an (Q8g E2.C9 {A0:=v0.A0,B4:=List.take E3 (List.drop (Int.toNat 1) v0.B4),D2:=v0.D2,A4:=v0.A4}) (.lv (Qj9 E2.C9 {A0:=v0.A0,B4:=List.take E3 (List.drop (Int.toNat 1) v0.B4),D2:=v0.D2,A4:=v0.A4}) λ(x0:Bool×Q04)=> .br (!x0.1) (.lf (Sum.inr (x0.2,fr1))) (.nx ((True/\rZ/\rZ/\True)/\(mE x0.2.A0 (rE x0.2.A0.Mem) (((Els.Nil (Els.recs RK.apiEntry x0.2.B4)\/rE (4:Nat))/\rE x0.2.B4)/\rE x0.2.D2/\rE x0.2.A4/\True))/\(True/\True)/\(rE (fr1:Int)/\True)/\True) (Sum.inl x0.2)))))) (.lf (Sum.inr (v0,fr1))))) (.lf (Sum.inr (v0,fr1))))) (.lf (Sum.inr (v0,fr1)))
def Qyd(p:Q04)(fr1:Int):(Q04×Int):=(Qbz p fr1).m
abbrev Qh2(p:Q04)(fr1:Int):Prop:=(Qbz p fr1).p
def Z4c:LInv:={
 α:=Q04
 F:=λst a=>([(0, .clo 1000000068 [.ptr 0 0 0]),(1, .ptr 1 0 0),(2, .ptr 2 0 0)],[⟨true,106,52, .gen [[.int u32 a.A0.B2.X.a0, .int u32 a.A0.B2.X.a1, .int u32 a.A0.B2.X.a2, .int u32 a.A0.B2.X.a3, .int u32 a.A0.B2.X.a4, .int u32 a.A0.B2.X.a5, .int u32 a.A0.B2.X.a6, .int u32 a.A0.B2.X.a7, .int u32 a.A0.B2.X.a8, .int u32 a.A0.B2.X.a9, .int u32 a.A0.B2.X.a10, .int u32 a.A0.B2.X.a11, .int u32 a.A0.B2.X.a12, .int u32 a.A0.B2.X.a13, .int u32 a.A0.B2.X.a14, .int u32 a.A0.B2.X.a15, .int u32 a.A0.B2.Pc, .int u32 a.A0.B2.B5.a0, .int u32 a.A0.B2.B5.a1, .int u32 a.A0.B2.B5.a2, .int u32 a.A0.B2.B5.a3, .int u32 a.A0.B2.B5.a4, .int u32 a.A0.B2.B5.a5, .int u32 a.A0.B2.B5.a6, .int u32 a.A0.B2.B5.a7, .sl 1 (.ints u32 a.A0.Mem) false, .str a.A0.A6.D3, .bool a.A0.B0.D1, .int u32 a.A0.B0.C7, .bool a.A0.B0.D5, .int u32 a.A0.B1.Blocks, .int u32 a.A0.B1.C1, .int u32 a.A0.B1.Frame, .int i64 a.A0.B1.C0, .int i64 a.A0.B1.D8, .int u32 a.A0.B1.B7, .int u32 a.A0.B1.B3, .str a.A0.B1.C3, .int u32 a.A0.C4.Frame, .int u32 a.A0.C4.E0, .bool a.A0.C4.C5, .int u32 a.A0.C4.B9, .bool a.A0.C4.B8, .int u32 a.A0.C4.F1, .int u32 a.A0.A2.C8, .int u32 a.A0.A2.C2, .int u64 a.A0.A1, .bool a.A0.A7, .bool a.A0.A9, .sl 4 (.recs RK.apiEntry a.B4) false, .int u64 a.D2, .int u32 a.A4]]⟩,⟨true,219,1, .gen [[.ptr 0 0 49]]⟩,⟨true,41,1, .gen [[(Q0s st.rows 2 0)]]⟩])
 a0:=λst=>(⟨(⟨(⟨(⟨(Q0s st.rows 0 0).toInt,(Q0s st.rows 0 1).toInt,(Q0s st.rows 0 2).toInt,(Q0s st.rows 0 3).toInt,(Q0s st.rows 0 4).toInt,(Q0s st.rows 0 5).toInt,(Q0s st.rows 0 6).toInt,(Q0s st.rows 0 7).toInt,(Q0s st.rows 0 8).toInt,(Q0s st.rows 0 9).toInt,(Q0s st.rows 0 10).toInt,(Q0s st.rows 0 11).toInt,(Q0s st.rows 0 12).toInt,(Q0s st.rows 0 13).toInt,(Q0s st.rows 0 14).toInt,(Q0s st.rows 0 15).toInt⟩:(A16 Int)),(Q0s st.rows 0 16).toInt,(⟨(Q0s st.rows 0 17).toInt,(Q0s st.rows 0 18).toInt,(Q0s st.rows 0 19).toInt,(Q0s st.rows 0 20).toInt,(Q0s st.rows 0 21).toInt,(Q0s st.rows 0 22).toInt,(Q0s st.rows 0 23).toInt,(Q0s st.rows 0 24).toInt⟩:(A8 Int))⟩:Q02),(frzI u32 st.rows (Q0s st.rows 0 25)),(⟨(Q0s st.rows 0 26).toStr⟩:Q0c),(⟨(Q0s st.rows 0 27).toBool,(Q0s st.rows 0 28).toInt,(Q0s st.rows 0 29).toBool⟩:Q0h),(⟨(Q0s st.rows 0 30).toInt,(Q0s st.rows 0 31).toInt,(Q0s st.rows 0 32).toInt,(Q0s st.rows 0 33).toInt,(Q0s st.rows 0 34).toInt,(Q0s st.rows 0 35).toInt,(Q0s st.rows 0 36).toInt,(Q0s st.rows 0 37).toStr⟩:Q0e),(⟨(Q0s st.rows 0 38).toInt,(Q0s st.rows 0 39).toInt,(Q0s st.rows 0 40).toBool,(Q0s st.rows 0 41).toInt,(Q0s st.rows 0 42).toBool,(Q0s st.rows 0 43).toInt⟩:Q0o),(⟨(Q0s st.rows 0 44).toInt,(Q0s st.rows 0 45).toInt⟩:Q07),(Q0s st.rows 0 46).toInt,(Q0s st.rows 0 47).toBool,(Q0s st.rows 0 48).toBool⟩:Q00),(slR RK.apiEntry (Q0s st.rows 0 49)),(Q0s st.rows 0 50).toInt,(Q0s st.rows 0 51).toInt⟩:Q04)
 ex0:=λst=>[0,1,2]++[]
 next:=λst=>(⟨(⟨(⟨(⟨(Q0s st.rows 0 0).toInt,(Q0s st.rows 0 1).toInt,(Q0s st.rows 0 2).toInt,(Q0s st.rows 0 3).toInt,(Q0s st.rows 0 4).toInt,(Q0s st.rows 0 5).toInt,(Q0s st.rows 0 6).toInt,(Q0s st.rows 0 7).toInt,(Q0s st.rows 0 8).toInt,(Q0s st.rows 0 9).toInt,(Q0s st.rows 0 10).toInt,(Q0s st.rows 0 11).toInt,(Q0s st.rows 0 12).toInt,(Q0s st.rows 0 13).toInt,(Q0s st.rows 0 14).toInt,(Q0s st.rows 0 15).toInt⟩:(A16 Int)),(Q0s st.rows 0 16).toInt,(⟨(Q0s st.rows 0 17).toInt,(Q0s st.rows 0 18).toInt,(Q0s st.rows 0 19).toInt,(Q0s st.rows 0 20).toInt,(Q0s st.rows 0 21).toInt,(Q0s st.rows 0 22).toInt,(Q0s st.rows 0 23).toInt,(Q0s st.rows 0 24).toInt⟩:(A8 Int))⟩:Q02),(frzI u32 st.rows (Q0s st.rows 0 25)),(⟨(Q0s st.rows 0 26).toStr⟩:Q0c),(⟨(Q0s st.rows 0 27).toBool,(Q0s st.rows 0 28).toInt,(Q0s st.rows 0 29).toBool⟩:Q0h),(⟨(Q0s st.rows 0 30).toInt,(Q0s st.rows 0 31).toInt,(Q0s st.rows 0 32).toInt,(Q0s st.rows 0 33).toInt,(Q0s st.rows 0 34).toInt,(Q0s st.rows 0 35).toInt,(Q0s st.rows 0 36).toInt,(Q0s st.rows 0 37).toStr⟩:Q0e),(⟨(Q0s st.rows 0 38).toInt,(Q0s st.rows 0 39).toInt,(Q0s st.rows 0 40).toBool,(Q0s st.rows 0 41).toInt,(Q0s st.rows 0 42).toBool,(Q0s st.rows 0 43).toInt⟩:Q0o),(⟨(Q0s st.rows 0 44).toInt,(Q0s st.rows 0 45).toInt⟩:Q07),(Q0s st.rows 0 46).toInt,(Q0s st.rows 0 47).toBool,(Q0s st.rows 0 48).toBool⟩:Q00),(slR RK.apiEntry (Q0s st.rows 0 49)),(Q0s st.rows 0 50).toInt,(Q0s st.rows 0 51).toInt⟩:Q04)
 ex:=λst=>[0,1,2]++[]}
def Qvi:List (Nat×LInv):=[(0,Z4c)]
def Z53:Q0d:=mkKP 3 216 [true,true,true] [.clo 1000000068 [.ptr 0 0 0], .ptr 1, .ptr 2] [.box 106 52 Q04.sig, .box 219 1 [.pt 0 0 49], .box 41 1 [.int .u64]] (λargs rows=>Qh2 (Q04.of (rows.getD 0 default).cs) (rcell rows 2 0).toInt) (λargs rows=>Qyd (Q04.of (rows.getD 0 default).cs) (rcell rows 2 0).toInt) (λX=> .tup []) (λX=>[⟨true,106,52, .gen [(Q04.cells (X.1))]⟩,⟨true,219,1, .gen [[.ptr 0 0 49]]⟩,⟨true,41,1, .gen [[.int .u64 X.2]]⟩])
theorem Z4q:Q05 Tryz.prog Z53:=zx drawn Q0j (.cons Qo1 (.nil)) Tryz.func216 Tryz.call216 (λargs rows=>Qbz (Q04.of (rows.getD 0 default).cs) (rcell rows 2 0).toInt) [.sl (.ints .u32) false, .sl (.recs .apiEntry) false] Qvi 3 (λ_ _ _=>by kernel_rfl) (λ_ _=>rfl) (λ_ _ h=>h)
def Qqo(p:Q04)(steps:Int)(z:(Int)×Q04×(List Q06)):Nat:=(4000-z.1).toNat
def Q8w(p:Q04)(steps:Int):Tree (Q04×(List Q06)):=
.an (Q7r p) (.lv (Qhu p) λ(x0:Q04)=> .an (Q3c x0.A0) (.lv (Q1g x0.A0) λ(x1:Bool)=> .br (!x1) (.lf (x0,[])) (.lp inferInstance (Qqo p steps (0,x0,[])+1) ((rZ/\rZ/\True/\rE ((if 4000<if 0>steps then 0 else steps then 4000 else if 0>steps then 0 else steps):Int)/\rE (0:Int)/\True)/\(mE x0.A0 (rE x0.A0.Mem) (((Els.Nil (Els.recs RK.apiEntry x0.B4)\/rE (4:Nat))/\rE x0.B4)/\rE x0.D2/\rE x0.A4/\True))/\(mE zM True (True/\rE (0:Int)/\rE (0:Int)/\True))/\rE ([]:List (RK.T RK.apiOutput))/\True) (0,x0,[]) λ(v0:Int×Q04×List Q06)=> .br (decide (v0.1<if 4000<if 0>steps then 0 else steps then 4000 else if 0>steps then 0 else steps)) (.br (decide (v0.2.1.A0.A1>=v0.2.1.D2)) (.lf (Sum.inr (v0.2.1,v0.2.2))) (.lv () λ(x2:Unit)=> .an (Qh2 v0.2.1 v0.2.1.A0.A1) (.lv (Qyd v0.2.1 v0.2.1.A0.A1) λ(x3:Q04×Int)=> .br x3.1.A0.A9 (.lf (Sum.inr (x3.1,v0.2.2))) (.an (Q6j x3.1.A0) (.lv (Q86 x3.1.A0) λ(x4:Bool)=> .br x4 (.lf (Sum.inr (x3.1,v0.2.2))) (.br (x3.1.A0.A1==1152921504606846976) (.lf (Sum.inr (x3.1,v0.2.2))) (.an (Qh4 x3.1) (.lv (Qyl x3.1) λ(x5:Int×Bool×Bool)=> .br (!x5.2.2) (.lf (Sum.inr (x3.1,v0.2.2))) (.br x5.2.1 (.cn (Nat.beq 4 4&&Nat.blt 0 4&&decide ((0:Int)<=(1:Int)/\1<=(x3.1.B4.length:Int)/\(x3.1.B4.length:Int)<=(x3.1.B4.length:Int))) (.an (Q3m x3.1.A0 x5.1) (.lv (Q3l x3.1.A0 x5.1) λ(x6:Q00×List Q06)=> .cn (decide (40*(v0.2.2.length+x6.2.length)<=140737488355328)) (.nx ((rZ/\rZ/\True/\rE ((if 4000<if 0>steps then 0 else steps then 4000 else if 0>steps then 0 else steps):Int)/\rE ((wrap i64 (v0.1+1)):Int)/\True)/\(mE x6.1 (((Els.Nil (Els.ints u32 x6.1.Mem)\/rE (1:Nat))/\rE x6.1.Mem)) (((Els.Nil (Els.take (Els.drop (Els.recs RK.apiEntry x3.1.B4) (Int.toNat 1)) (Int.toNat (↑(Els.len (Els.recs RK.apiEntry x3.1.B4)):Int)-Int.toNat 1))\/rE (4:Nat))/\rE ((List.take (Int.toNat (x3.1.B4.length:Int)-Int.toNat 1) (List.drop (Int.toNat 1) x3.1.B4)):List (RK.T RK.apiEntry)))/\rE x3.1.D2/\rE ((wrap u32 (x5.1+1)):Int)/\True))/\(mE zM True (True/\rE (0:Int)/\rE (0:Int)/\True))/\rE ((v0.2.2++x6.2):List (RK.T RK.apiOutput))/\True) (Sum.inl (wrap i64 (v0.1+1),{A0:=x6.1,B4:=List.take (Int.toNat (x3.1.B4.length:Int)-Int.toNat 1) (List.drop (Int.toNat 1) x3.1.B4),D2:=x3.1.D2,A4:=wrap u32 (x5.1+1)},v0.2.2++x6.2)))))) (.an (Q3m x3.1.A0 x5.1) (.lv (Q3l x3.1.A0 x5.1) λ(x7:Q00×List Q06)=> .cn (decide (40*(v0.2.2.length+x7.2.length)<=140737488355328)) (.nx ((rZ/\rZ/\True/\rE ((if 4000<if 0>steps then 0 else steps then 4000 else if 0>steps then 0 else steps):Int)/\rE ((wrap i64 (v0.1+1)):Int)/\True)/\(mE x7.1 (((Els.Nil (Els.ints u32 x7.1.Mem)\/rE (1:Nat))/\rE x7.1.Mem)) (((Els.Nil (Els.recs RK.apiEntry x3.1.B4)\/rE (4:Nat))/\rE x3.1.B4)/\rE x3.1.D2/\rE x3.1.A4/\True))/\(mE zM True (True/\rE (0:Int)/\rE (0:Int)/\True))/\rE ((v0.2.2++x7.2):List (RK.T RK.apiOutput))/\True) (Sum.inl (wrap i64 (v0.1+1),{A0:=x7.1,B4:=x3.1.B4,D2:=x3.1.D2,A4:=x3.1.A4},v0.2.2++x7.2)))))))))))))) (.lf (Sum.inr (v0.2.1,v0.2.2))))))
def Qr3(p:Q04)(steps:Int):(Q04×(List Q06)):=(Q8w p steps).m
abbrev Qec(p:Q04)(steps:Int):Prop:=(Q8w p steps).p
def Qvp:LInv:={
 α:=(Int)×Q04×(List Q06)
 F:=λst a=>([(2, .ptr 0 0 0),(4, .ptr 1 0 0),(6, .all 2),(21,(lk st 21)),(22, .int i64 a.1)],[⟨true,106,52, .gen [[.int u32 a.2.1.A0.B2.X.a0, .int u32 a.2.1.A0.B2.X.a1, .int u32 a.2.1.A0.B2.X.a2, .int u32 a.2.1.A0.B2.X.a3, .int u32 a.2.1.A0.B2.X.a4, .int u32 a.2.1.A0.B2.X.a5, .int u32 a.2.1.A0.B2.X.a6, .int u32 a.2.1.A0.B2.X.a7, .int u32 a.2.1.A0.B2.X.a8, .int u32 a.2.1.A0.B2.X.a9, .int u32 a.2.1.A0.B2.X.a10, .int u32 a.2.1.A0.B2.X.a11, .int u32 a.2.1.A0.B2.X.a12, .int u32 a.2.1.A0.B2.X.a13, .int u32 a.2.1.A0.B2.X.a14, .int u32 a.2.1.A0.B2.X.a15, .int u32 a.2.1.A0.B2.Pc, .int u32 a.2.1.A0.B2.B5.a0, .int u32 a.2.1.A0.B2.B5.a1, .int u32 a.2.1.A0.B2.B5.a2, .int u32 a.2.1.A0.B2.B5.a3, .int u32 a.2.1.A0.B2.B5.a4, .int u32 a.2.1.A0.B2.B5.a5, .int u32 a.2.1.A0.B2.B5.a6, .int u32 a.2.1.A0.B2.B5.a7, .sl 1 (.ints u32 a.2.1.A0.Mem) false, .str a.2.1.A0.A6.D3, .bool a.2.1.A0.B0.D1, .int u32 a.2.1.A0.B0.C7, .bool a.2.1.A0.B0.D5, .int u32 a.2.1.A0.B1.Blocks, .int u32 a.2.1.A0.B1.C1, .int u32 a.2.1.A0.B1.Frame, .int i64 a.2.1.A0.B1.C0, .int i64 a.2.1.A0.B1.D8, .int u32 a.2.1.A0.B1.B7, .int u32 a.2.1.A0.B1.B3, .str a.2.1.A0.B1.C3, .int u32 a.2.1.A0.C4.Frame, .int u32 a.2.1.A0.C4.E0, .bool a.2.1.A0.C4.C5, .int u32 a.2.1.A0.C4.B9, .bool a.2.1.A0.C4.B8, .int u32 a.2.1.A0.C4.F1, .int u32 a.2.1.A0.A2.C8, .int u32 a.2.1.A0.A2.C2, .int u64 a.2.1.A0.A1, .bool a.2.1.A0.A7, .bool a.2.1.A0.A9, .sl 4 (.recs RK.apiEntry a.2.1.B4) false, .int u64 a.2.1.D2, .int u32 a.2.1.A4]]⟩,⟨true,106,52, .gen [[(cT st 4 0),(cT st 4 1),(cT st 4 2),(cT st 4 3),(cT st 4 4),(cT st 4 5),(cT st 4 6),(cT st 4 7),(cT st 4 8),(cT st 4 9),(cT st 4 10),(cT st 4 11),(cT st 4 12),(cT st 4 13),(cT st 4 14),(cT st 4 15),(cT st 4 16),(cT st 4 17),(cT st 4 18),(cT st 4 19),(cT st 4 20),(cT st 4 21),(cT st 4 22),(cT st 4 23),(cT st 4 24),(cT st 4 25),(cT st 4 26),(cT st 4 27),(cT st 4 28),(cT st 4 29),(cT st 4 30),(cT st 4 31),(cT st 4 32),(cT st 4 33),(cT st 4 34),(cT st 4 35),(cT st 4 36),(cT st 4 37),(cT st 4 38),(cT st 4 39),(cT st 4 40),(cT st 4 41),(cT st 4 42),(cT st 4 43),(cT st 4 44),(cT st 4 45),(cT st 4 46),(cT st 4 47),(cT st 4 48),(cT st 4 49),(cT st 4 50),(cT st 4 51)]]⟩,⟨false,71,4, .recs RK.apiOutput a.2.2⟩])
 a0:=λst=>((lk st 22).toInt,(⟨(mR (cT st 2) (frzI u32 st.rows (cT st 2 25))),(slR RK.apiEntry (cT st 2 49)),(cT st 2 50).toInt,(cT st 2 51).toInt⟩:Q04),(Q5h RK.apiOutput st.rows (rN st 6)))
 ex0:=λst=>[]++[(Q0r (lk st 2) (st.rows.length+0)),(Q0r (lk st 4) (st.rows.length+1)),(Q0r (lk st 6) (st.rows.length+2))]
 next:=λst=>((lk st 22).toInt,(⟨(mR (cT st 2) (frzI u32 st.rows (cT st 2 25))),(slR RK.apiEntry (cT st 2 49)),(cT st 2 50).toInt,(cT st 2 51).toInt⟩:Q04),(Q5h RK.apiOutput st.rows (rN st 6)))
 ex:=λst=>[]++[(Q0r (lk st 2) (st.rows.length+0)),(Q0r (lk st 4) (st.rows.length+1)),(Q0r (lk st 6) (st.rows.length+2))]}
def Qsj:List (Nat×LInv):=[(6,Qvp)]
def Qz6:Q0d:=Q0d.fz<|mkP 68 [] false [.agg Q04.sig, .one (.int .i64)] [] (λargs rows=>Qec (Q04.of (aC args 0)) (argI args 1)) (λargs rows=>Qr3 (Q04.of (aC args 0)) (argI args 1)) (λX=> .tup [.agg (Q04.cells (X.1)), .all 0]) (λX=>[⟨false,71,4, .recs .apiOutput (X.2)⟩])
theorem Qxm:Q05 Tryz.prog Qz6:=Zo1<|xx (some 1000000068) (rf_of (by kernel_rfl) rfl) drawn Q0j (.cons Qck (.cons Qca (.cons Qtf (.cons Qh8 (.cons Qio (.cons Qp (.cons Qoh (.cons Z4q (.nil))))))))) Tryz.func68 Tryz.call68 (λargs rows=>Q8w (Q04.of (aC args 0)) (argI args 1)) [.sl (.ints .u32) false, .sl (.recs .apiEntry) false, .row 71 4 (.recs .apiOutput)] Qsj 3 (λ_ _ _=>by kernel_rfl) (λ_ _=>rfl) (λ_ _ h=>h) (λh=>by cases h)
end
noncomputable section
def Qea:Tree Bool:=
.an (Q9p 1 0 []) (.lv (Q1x 1 0 []) λ(x0:Q00×Bool)=> .an (Qfq x0.1) (.lv (Qws x0.1) λ(x1:Q04)=> .an (Q6d x1 [] 3) (.lv (Qf7 x1 [] 3) λ(x2:Q04×Bool)=> .an (Qec x2.1 10) (.lv (Qr3 x2.1 10) λ(x3:Q04×List Q06)=> .an (Qbc x3.1) (.lv (Qn2 x3.1) λ(x4:Q01×Bool)=> .an (Qbc x2.1) (.lv (Qn2 x2.1) λ(x5:Q01×Bool)=> .br x2.2 (.lv (Qwn x2.1) λ(x6:Int)=> .br (x6==3) (.br (x3.1.A0.A1==3) (.br ((x3.2.length:Int)==(0:Int)) (.lv (Qwn x3.1) λ(x7:Int)=> .br (x7==0) (.br x4.2 (.lf (!x5.2)) (.lf false)) (.lf false)) (.lf false)) (.lf false)) (.lf false)) (.lf false)))))))
def Qcw:Bool:=(Qea).m
abbrev Q5v:Prop:=(Qea).p
def Zar:Q0d:=mkP 60 [] true [] [] (λargs rows=>Q5v) (λargs rows=>Qcw) (λX=> .bool X) (λX=>[])
theorem Z5p:Q05 Tryz.prog Zar:=Q0l drawn Q0j (.cons Z2e (.cons Qri (.cons Qsq (.cons Qxm (.cons Qzz (.cons Z9l (.nil))))))) Tryz.func60 Tryz.call60 (λargs rows=>Qea) [] [] 2
end
noncomputable section
def Q71(kind:Int)(l:(List Int))(acts:(List Int))(n:Int):Tree Bool:=
.lv (Qu5 l acts) λ(x0:Bool)=> .br (!x0) (.an Q5v (.lv Qcw λ(x1:Bool)=> .lf x1)) (.an (Qnn kind l) (.lv (Qki kind l) λ(x2:Q00)=> .an (Qul x2 acts) (.lv (Z2q x2 acts) λ(x3:Q01×List Q06)=> .br (x3.1.A0.A1==x2.A1) (.an Q5v (.lv Qcw λ(x4:Bool)=> .lf x4)) (.an (Qfq x2) (.lv (Qws x2) λ(x5:Q04)=> .an (Q6d x5 x3.1.B4 x3.1.A0.A1) (.lv (Qf7 x5 x3.1.B4 x3.1.A0.A1) λ(x6:Q04×Bool)=> .an (Ql2 n) (.lv (Q3w n) λ(x7:Q0a)=>let E1:=wrap u64 (x3.1.A0.A1+5);let E3:=({At:=wrap u64 (x3.1.A0.A1-1),C9:=x7}:Q0g); .an (Q6d x6.1 [E3] E1) (.lv (Qf7 x6.1 [E3] E1) λ(x8:Q04×Bool)=> .an (Q6d x6.1 [] (wrap u64 (x3.1.A0.A1-1))) (.lv (Qf7 x6.1 [] (wrap u64 (x3.1.A0.A1-1))) λ(x9:Q04×Bool)=>let E2:=({At:=wrap u64 (x3.1.A0.A1+5),C9:={B6:=1,N:=0,C6:=[]}}:Q0g); .an (Q6d x6.1 [E2] E1) (.lv (Qf7 x6.1 [E2] E1) λ(x10:Q04×Bool)=> .br x6.2 (.br (!x8.2) (.br (!x9.2) (.br (!x10.2) (.br (x8.1.D2==x3.1.A0.A1) (.br ((x8.1.B4.length:Int)==(x6.1.B4.length:Int)) (.an (Qn8 x8.1.A0 x2) (.lv (Zd8 x8.1.A0 x2) λ(x11:Bool)=> .br x11 (.an Q5v (.lv Qcw λ(x12:Bool)=> .lf x12)) (.lf false))) (.lf false)) (.lf false)) (.lf false)) (.lf false)) (.lf false)) (.lf false)))))))))))
def Qcz(kind:Int)(l:(List Int))(acts:(List Int))(n:Int):Bool:=(Q71 kind l acts n).m
abbrev Qe5(kind:Int)(l:(List Int))(acts:(List Int))(n:Int):Prop:=(Q71 kind l acts n).p
def Qoe:Q0d:=mkP 12 [] true [.one (.int .i64), .one (.ints .i64), .one (.ints .i64), .one (.int .i64)] [] (λargs rows=>Qe5 (argI args 0) (argL .i64 args 1) (argL .i64 args 2) (argI args 3)) (λargs rows=>Qcz (argI args 0) (argL .i64 args 1) (argL .i64 args 2) (argI args 3)) (λX=> .bool X) (λX=>[])
theorem Qo0:Q05 Tryz.prog Qoe:=Q0l drawn Q0j (.cons Zhn (.cons Z5p (.cons Z3u (.cons Zgk (.cons Qri (.cons Qsq (.cons Qte (.cons Zcw (.nil))))))))) Tryz.func12 Tryz.call12 (λargs rows=>Q71 (argI args 0) (argL .i64 args 1) (argL .i64 args 2) (argI args 3)) [] [] 2

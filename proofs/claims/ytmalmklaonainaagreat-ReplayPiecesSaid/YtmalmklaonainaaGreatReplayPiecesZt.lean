import Derived.Test.YtmalmklaonainaaGreatReplayPiecesZd
import Derived.Test.YtmalmklaonainaaGreatReplayPiecesZx
set_option maxRecDepth 100000
set_option linter.all false
namespace Go.Proofs.YtmalmklaonainaaGreat
open Go Go.GD Go.IntKind
noncomputable section
instance sumInhZi {α β:Type} [Inhabited β]:Inhabited (α⊕β):=⟨.inr default⟩
def Qsq(src:(List UInt8))(z:(Int)×(List Int)):Nat:=((Z5 src).2.1.length-z.1).toNat
def Qs1(src:(List UInt8))(v0:Int×List Int)(z:(Int)×(List Int)):Nat:=(1024-z.1).toNat
def Q9s(src:(List UInt8)):Tree ((List Int)×Q1i):=
.an (Qmk src) (.lv (Z5 src) λ(x0:List Q26×List Q0b×Q1i)=> .br (x0.2.2.Err !=0) (.lf ([],x0.2.2)) (.lp inferInstance (Qsq src (0,[])+1) ((True/\rZ/\True/\True/\True/\rE (0:Int)/\True)/\(rE (0:Int)/\rE (0:Int)/\True)/\rE x0.1/\rE x0.2.1/\rE ([]:List Int)/\True) (0,[]) λ(v0:Int×List Int)=> .br (decide (v0.1<(x0.2.1.length:Int))) (.cn (Nat.beq 6 6&&Nat.blt 0 6&&decide (0<=v0.1/\v0.1<(x0.2.1.length:Int))) (let E4:=x0.2.1.getD v0.1.toNat (RK.dflt RK.vmfleetref1Statement);let T1:Tree ((Int×List Int)⊕(((List Int)×Q1i))):= .lp inferInstance (Qs1 src v0 (0,v0.2)+1) ((True/\rZ/\True/\True/\True/\rE v0.1/\rZ/\rE (0:Int)/\True)/\(rE (0:Int)/\rE (0:Int)/\True)/\rE x0.1/\rE x0.2.1/\(rE ((x0.2.1.getD v0.1.toNat (RK.dflt RK.vmfleetref1Statement)).what:List UInt8)/\rE ((x0.2.1.getD v0.1.toNat (RK.dflt RK.vmfleetref1Statement)).op:Int)/\((Els.Nil (D.toEs (List.getD (Els.get (Els.recs RK.vmfleetref1Statement x0.2.1) v0.1.toNat) ((0:Nat)+(1:Nat)+(1:Nat)) D.dead))\/rE (3:Nat))/\rE ((x0.2.1.getD v0.1.toNat (RK.dflt RK.vmfleetref1Statement)).l:List (RK.T RK.vmfleetref1Arg)))/\rE ((x0.2.1.getD v0.1.toNat (RK.dflt RK.vmfleetref1Statement)).D7:Int)/\rE ((x0.2.1.getD v0.1.toNat (RK.dflt RK.vmfleetref1Statement)).at_:Int)/\rE ((x0.2.1.getD v0.1.toNat (RK.dflt RK.vmfleetref1Statement)).size:Int)/\True)/\rE v0.2/\True) (0,v0.2) λ(v1:Int×List Int)=> .br (decide (v1.1<E4.size)) (.cn (decide (4*(v1.2.length+1)<=140737488355328)) (.nx ((True/\rZ/\True/\True/\True/\rE v0.1/\rZ/\rE ((wrap i64 (v1.1+1)):Int)/\True)/\(rE (0:Int)/\rE (0:Int)/\True)/\rE x0.1/\rE x0.2.1/\(rE ((x0.2.1.getD v0.1.toNat (RK.dflt RK.vmfleetref1Statement)).what:List UInt8)/\rE ((x0.2.1.getD v0.1.toNat (RK.dflt RK.vmfleetref1Statement)).op:Int)/\((Els.Nil (Els.recs RK.vmfleetref1Arg (x0.2.1.getD v0.1.toNat (RK.dflt RK.vmfleetref1Statement)).l)\/rE (3:Nat))/\rE ((x0.2.1.getD v0.1.toNat (RK.dflt RK.vmfleetref1Statement)).l:List (RK.T RK.vmfleetref1Arg)))/\rE ((x0.2.1.getD v0.1.toNat (RK.dflt RK.vmfleetref1Statement)).D7:Int)/\rE ((x0.2.1.getD v0.1.toNat (RK.dflt RK.vmfleetref1Statement)).at_:Int)/\rE ((x0.2.1.getD v0.1.toNat (RK.dflt RK.vmfleetref1Statement)).size:Int)/\True)/\rE ((v1.2++[0]):List Int)/\True) (Sum.inl (wrap i64 (v1.1+1),v1.2++[0])))) (.nx ((True/\rZ/\True/\True/\True/\rE ((wrap i64 (v0.1+1)):Int)/\True)/\(rE (0:Int)/\rE (0:Int)/\True)/\rE x0.1/\rE x0.2.1/\rE v1.2/\True) (Sum.inr (Sum.inl (wrap i64 (v0.1+1),v1.2))));let E5:=Nat.beq 3 3&&Nat.blt 0 3&&decide ((0:Int)<=(0:Int)/\0<(↑(List.length E4.l):Int));let E7:=List.getD E4.l (Int.toNat 0) (RK.dflt RK.vmfleetref1Arg);let E8:=decide (4*(v0.2.length+1)<=140737488355328);let T2:Tree ((Int×List Int)⊕(((List Int)×Q1i))):= .cn E5 (.cn (Nat.beq 3 3&&Nat.blt 0 3&&decide ((0:Int)<=(1:Int)/\1<(↑(List.length E4.l):Int))) (.lv (Q1p {Op:=16,A:=E7.reg,B:=(List.getD E4.l (Int.toNat 1) (RK.dflt RK.vmfleetref1Arg)).reg,C:=0,Imm:=0}) λ(x4:Int×Bool)=> .cn E8 (.nx ((True/\rZ/\True/\True/\True/\rE ((wrap i64 (v0.1+1)):Int)/\True)/\(rE (0:Int)/\rE (0:Int)/\True)/\rE x0.1/\rE x0.2.1/\rE ((v0.2++[x4.1]):List Int)/\True) (Sum.inl (wrap i64 (v0.1+1),v0.2++[x4.1])))));let T3:Tree ((Int×List Int)⊕(((List Int)×Q1i))):= .lv (Q1p {Op:=16,A:=0,B:=0,C:=0,Imm:=0}) λ(x5:Int×Bool)=> .cn E8 (.nx ((True/\rZ/\True/\True/\True/\rE ((wrap i64 (v0.1+1)):Int)/\True)/\(rE (0:Int)/\rE (0:Int)/\True)/\rE x0.1/\rE x0.2.1/\rE ((v0.2++[x5.1]):List Int)/\True) (Sum.inl (wrap i64 (v0.1+1),v0.2++[x5.1])));let E9:=decide (E4.what=[(46:UInt8),115,112,97,99,101]);let E10:=decide (E4.what=[(46:UInt8),119,111,114,100]);let E12:=decide (E4.what=[(110:UInt8),111,112]);let E13:=decide (4*(v0.2.length+2)<=140737488355328);let E14:=decide (E4.what=[(108:UInt8),105]);let E15:=decide (E4.what=[(109:UInt8),118]); .br (decide ((↑(List.length E4.l):Int)>(0:Int))) (.cn (Nat.beq 3 3&&Nat.blt 0 3&&decide (0<=wrap i64 ((↑(List.length E4.l):Int)-(1:Int))/\wrap i64 ((↑(List.length E4.l):Int)-(1:Int))<(↑(List.length E4.l):Int))) (let E6:=List.getD E4.l (Int.toNat (wrap i64 ((↑(List.length E4.l):Int)-(1:Int)))) (RK.dflt RK.vmfleetref1Arg); .br (!decide (E6.label=[])) (.an (Q3k x0.1 E6.label) (.lv (Qo6 x0.1 E6.label) λ(x1:Int×Bool)=> .br (!x1.2) (.lf (Sum.inr ([],{Err:=302,Line:=E4.D7}))) (.br (decide (E4.op>0)) (let E11:=wrap i64 (wrap i64 (Int.tdiv (wrap i64 x1.1) 4)-E4.at_); .br E10 (.cn E8 (.nx ((True/\rZ/\True/\True/\True/\rE ((wrap i64 (v0.1+1)):Int)/\True)/\(rE (0:Int)/\rE (0:Int)/\True)/\rE x0.1/\rE x0.2.1/\rE ((v0.2++[wrap u32 (wrap i64 (wrap i64 (Int.tdiv (wrap i64 x1.1) 4)-(x0.2.1.getD v0.1.toNat (RK.dflt RK.vmfleetref1Statement)).at_))]):List Int)/\True) (Sum.inl (wrap i64 (v0.1+1),v0.2++[wrap u32 E11])))) (.br E9 T1 (.br E14 (.cn E5 (.lv (Q1p {Op:=24,A:=E7.reg,B:=0,C:=0,Imm:=wrap i32 (ishr u32 (wrap u32 E11) 16)}) λ(x2:Int×Bool)=> .cn E5 (.cn E5 (.lv (Q1p {Op:=18,A:=E7.reg,B:=E7.reg,C:=0,Imm:=wrap i32 (iand u32 (wrap u32 E11) 65535)}) λ(x3:Int×Bool)=> .cn E13 (.nx ((True/\rZ/\True/\True/\True/\rE ((wrap i64 (v0.1+1)):Int)/\True)/\(rE (0:Int)/\rE (0:Int)/\True)/\rE x0.1/\rE x0.2.1/\rE ((v0.2++[x2.1,x3.1]):List Int)/\True) (Sum.inl (wrap i64 (v0.1+1),v0.2++[x2.1,x3.1]))))))) (.br E15 T2 (.br E12 T3 (.an (Qac E4 E11) (.lv (Qoc E4 E11) λ(x6:Int×Bool)=> .br (!x6.2) (.lf (Sum.inr ([],{Err:=304,Line:=E4.D7}))) (.cn E8 (.nx ((True/\rZ/\True/\True/\True/\rE ((wrap i64 (v0.1+1)):Int)/\True)/\(rE (0:Int)/\rE (0:Int)/\True)/\rE x0.1/\rE x0.2.1/\rE ((v0.2++[x6.1]):List Int)/\True) (Sum.inl (wrap i64 (v0.1+1),v0.2++[x6.1]))))))))))) (.br E10 (.cn E8 (.nx ((True/\rZ/\True/\True/\True/\rE ((wrap i64 (v0.1+1)):Int)/\True)/\(rE (0:Int)/\rE (0:Int)/\True)/\rE x0.1/\rE x0.2.1/\rE ((v0.2++[wrap u32 (wrap i64 x1.1)]):List Int)/\True) (Sum.inl (wrap i64 (v0.1+1),v0.2++[wrap u32 (wrap i64 x1.1)])))) (.br E9 T1 (.br E14 (.cn E5 (.lv (Q1p {Op:=24,A:=E7.reg,B:=0,C:=0,Imm:=wrap i32 (ishr u32 (wrap u32 (wrap i64 x1.1)) 16)}) λ(x7:Int×Bool)=> .cn E5 (.cn E5 (.lv (Q1p {Op:=18,A:=E7.reg,B:=E7.reg,C:=0,Imm:=wrap i32 (iand u32 (wrap u32 (wrap i64 x1.1)) 65535)}) λ(x8:Int×Bool)=> .cn E13 (.nx ((True/\rZ/\True/\True/\True/\rE ((wrap i64 (v0.1+1)):Int)/\True)/\(rE (0:Int)/\rE (0:Int)/\True)/\rE x0.1/\rE x0.2.1/\rE ((v0.2++[x7.1,x8.1]):List Int)/\True) (Sum.inl (wrap i64 (v0.1+1),v0.2++[x7.1,x8.1]))))))) (.br E15 T2 (.br E12 T3 (.an (Qac E4 (wrap i64 x1.1)) (.lv (Qoc E4 (wrap i64 x1.1)) λ(x11:Int×Bool)=> .br (!x11.2) (.lf (Sum.inr ([],{Err:=304,Line:=E4.D7}))) (.cn E8 (.nx ((True/\rZ/\True/\True/\True/\rE ((wrap i64 (v0.1+1)):Int)/\True)/\(rE (0:Int)/\rE (0:Int)/\True)/\rE x0.1/\rE x0.2.1/\rE ((v0.2++[x11.1]):List Int)/\True) (Sum.inl (wrap i64 (v0.1+1),v0.2++[x11.1])))))))))))))) (.br E10 (.cn E8 (.nx ((True/\rZ/\True/\True/\True/\rE ((wrap i64 (v0.1+1)):Int)/\True)/\(rE (0:Int)/\rE (0:Int)/\True)/\rE x0.1/\rE x0.2.1/\rE ((v0.2++[wrap u32 (List.getD (x0.2.1.getD v0.1.toNat (RK.dflt RK.vmfleetref1Statement)).l (Int.toNat (wrap i64 ((↑(List.length (x0.2.1.getD v0.1.toNat (RK.dflt RK.vmfleetref1Statement)).l):Int)-(1:Int)))) (RK.dflt RK.vmfleetref1Arg)).num]):List Int)/\True) (Sum.inl (wrap i64 (v0.1+1),v0.2++[wrap u32 E6.num])))) (.br E9 T1 (.br E14 (.cn E5 (.lv (Q1p {Op:=24,A:=E7.reg,B:=0,C:=0,Imm:=wrap i32 (ishr u32 (wrap u32 E6.num) 16)}) λ(x12:Int×Bool)=> .cn E5 (.cn E5 (.lv (Q1p {Op:=18,A:=E7.reg,B:=E7.reg,C:=0,Imm:=wrap i32 (iand u32 (wrap u32 E6.num) 65535)}) λ(x13:Int×Bool)=> .cn E13 (.nx ((True/\rZ/\True/\True/\True/\rE ((wrap i64 (v0.1+1)):Int)/\True)/\(rE (0:Int)/\rE (0:Int)/\True)/\rE x0.1/\rE x0.2.1/\rE ((v0.2++[x12.1,x13.1]):List Int)/\True) (Sum.inl (wrap i64 (v0.1+1),v0.2++[x12.1,x13.1]))))))) (.br E15 T2 (.br E12 T3 (.an (Qac E4 E6.num) (.lv (Qoc E4 E6.num) λ(x16:Int×Bool)=> .br (!x16.2) (.lf (Sum.inr ([],{Err:=304,Line:=E4.D7}))) (.cn E8 (.nx ((True/\rZ/\True/\True/\True/\rE ((wrap i64 (v0.1+1)):Int)/\True)/\(rE (0:Int)/\rE (0:Int)/\True)/\rE x0.1/\rE x0.2.1/\rE ((v0.2++[x16.1]):List Int)/\True) (Sum.inl (wrap i64 (v0.1+1),v0.2++[x16.1]))))))))))))) (.br E10 (.cn E8 (.nx ((True/\rZ/\True/\True/\True/\rE ((wrap i64 (v0.1+1)):Int)/\True)/\(rE (0:Int)/\rE (0:Int)/\True)/\rE x0.1/\rE x0.2.1/\rE ((v0.2++[wrap u32 0]):List Int)/\True) (Sum.inl (wrap i64 (v0.1+1),v0.2++[wrap u32 0])))) (.br E9 T1 (.br E14 (.cn E5 (.lv (Q1p {Op:=24,A:=E7.reg,B:=0,C:=0,Imm:=wrap i32 (ishr u32 (wrap u32 0) 16)}) λ(x17:Int×Bool)=> .cn E5 (.cn E5 (.lv (Q1p {Op:=18,A:=E7.reg,B:=E7.reg,C:=0,Imm:=wrap i32 (iand u32 (wrap u32 0) 65535)}) λ(x18:Int×Bool)=> .cn E13 (.nx ((True/\rZ/\True/\True/\True/\rE ((wrap i64 (v0.1+1)):Int)/\True)/\(rE (0:Int)/\rE (0:Int)/\True)/\rE x0.1/\rE x0.2.1/\rE ((v0.2++[x17.1,x18.1]):List Int)/\True) (Sum.inl (wrap i64 (v0.1+1),v0.2++[x17.1,x18.1]))))))) (.br E15 T2 (.br E12 T3 (.an (Qac E4 0) (.lv (Qoc E4 0) λ(x21:Int×Bool)=> .br (!x21.2) (.lf (Sum.inr ([],{Err:=304,Line:=E4.D7}))) (.cn E8 (.nx ((True/\rZ/\True/\True/\True/\rE ((wrap i64 (v0.1+1)):Int)/\True)/\(rE (0:Int)/\rE (0:Int)/\True)/\rE x0.1/\rE x0.2.1/\rE ((v0.2++[x21.1]):List Int)/\True) (Sum.inl (wrap i64 (v0.1+1),v0.2++[x21.1]))))))))))))) (.lf (Sum.inr (v0.2,{Err:=0,Line:=0})))))
def Q1k(src:(List UInt8)):((List Int)×Q1i):=(Q9s src).m
abbrev Qak(src:(List UInt8)):Prop:=(Q9s src).p
def Z02:LInv:={
 α:=(Int)×(List Int)
 F:=λst a=>([(2,(lk st 2)),(3, .ptr 0 0 0),(4, .all 1),(5, .all 2),(7, .all 3),(8, .int i64 a.1)],[⟨true,59,2, .gen [[(cT st 3 0),(cT st 3 1)]]⟩,⟨false,257,2,esOf st.rows (rN st 4)⟩,⟨false,181,6,esOf st.rows (rN st 5)⟩,⟨false,25,1, .ints u32 a.2⟩])
 a0:=λst=>((lk st 8).toInt,(Q5k st.rows (rN st 7)))
 ex0:=λst=>[]++[(rX st 3 0),(rX st 4 1),(rX st 5 2),(rX st 7 3)]}
def Qzz:LInv:={
 α:=(Int)×(List Int)
 F:=λst a=>([(2,(lk st 2)),(3, .ptr 0 0 0),(4, .all 1),(5, .all 2),(7, .all 4),(8,(lk st 8)),(9, .ptr 3 0 0),(14, .int i64 a.1)],[⟨true,59,2, .gen [[(cT st 3 0),(cT st 3 1)]]⟩,⟨false,257,2,esOf st.rows (rN st 4)⟩,⟨false,181,6,esOf st.rows (rN st 5)⟩,⟨true,181,6, .gen [[(cT st 9 0),(cT st 9 1),(cT st 9 2),(cT st 9 3),(cT st 9 4),(cT st 9 5)]]⟩,⟨false,25,1, .ints u32 a.2⟩])
 a0:=λst=>((lk st 14).toInt,(Q5k st.rows (rN st 7)))
 ex0:=λst=>[]++[(rX st 3 0),(rX st 4 1),(rX st 5 2),(rX st 9 3),(rX st 7 4)]}
def Qvl:List (Nat×LInv):=[(6,Z02),(29,Qzz)]
def Z4f:Q0d:=mkP 36 [] true [.one (.str)] [] (λargs rows=>Qak (argS args 0)) (λargs rows=>Q1k (argS args 0)) (λX=> .tup [.all 0, .agg (Q1i.cells (X.2))]) (λX=>[⟨false,25,1, .ints .u32 (X.1)⟩])
theorem Qzp:Q06 pG Z4f:=Q0p drawn Q0k (.cons Zg3 (.cons Qpp (.cons Ql1 (.cons Ze0 (.nil))))) Tryz.func36 Tryz.call36 (λargs rows=>Q9s (argS args 0)) [.row 25 1 (.ints .u32)] Qvl 3
end
noncomputable section
instance sumInhZh {α β:Type} [Inhabited β]:Inhabited (α⊕β):=⟨.inr default⟩
def Q4(m:Q00):Tree Q01:=
.an (Qgc m) (.lv (Qmf m) λ(x0:Q00)=> .lf ({A0:=x0,A3:=0,B4:=[],A6:=[]}))
def Q3x(m:Q00):Q01:=(Q4 m).m
abbrev Qfu(m:Q00):Prop:=(Q4 m).p
def Qs6:Q0d:=mkP 148 [] true [.agg Q00.sig] [] (λargs rows=>Qfu (Q00.of (aC args 0))) (λargs rows=>Q3x (Q00.of (aC args 0))) (λX=> .agg (Q01.cellsW X (.all 0) (.all 1) (.all 2))) (λX=>[⟨false,25,1, .ints .u32 X.A0.Mem⟩,⟨false,126,4, .recs .apiEntry X.B4⟩,⟨false,66,3, .recs .apiEvent X.A6⟩])
theorem Qqr:Q06 pG Qs6:=Q0p drawn Q0k (.cons Qsa (.nil)) Tryz.func148 Tryz.call148 (λargs rows=>Q4 (Q00.of (aC args 0))) [.row 25 1 (.ints .u32), .row 126 4 (.recs .apiEntry), .row 66 3 (.recs .apiEvent)] [] 2
def Q88(r:Q01)(n:Int):Tree (Q01×(List Q04)):=
.lv (Q3f n 3) λ(x0:Int)=> .br (Int.tmod x0 (3:Int)==(0:Int)) (.an (Qr4 n) (.lv (Q4w n) λ(x1:Q0a)=> .an (Qnp r x1) (.lv (Q2p r x1) λ(x2:Q01×Bool)=> .lf (x2.1,[])))) (.an (Q43 (ishr i64 x0 4) 12) (.lv (Q4n (ishr i64 x0 4) 12) λ(x3:Int)=>let E1:=wrap u32 (iand i64 (ishr i64 x0 12) 255); .an (Qlg r x3 E1) (.lv (Qdu r x3 E1) λ(x4:Q01×List Q04)=> .lf (x4.1,x4.2))))
def Q3s(r:Q01)(n:Int):(Q01×(List Q04)):=(Q88 r n).m
abbrev Qto(r:Q01)(n:Int):Prop:=(Q88 r n).p
def Zj5:Q0d:=mkP 55 [] true [.agg Q01.sig, .one (.int .i64)] [] (λargs rows=>Qto (Q01.of (aC args 0)) (argI args 1)) (λargs rows=>Q3s (Q01.of (aC args 0)) (argI args 1)) (λX=> .tup [.agg (Q01.cellsW (X.1) (.all 0) (.all 1) (.all 2)), .all 3]) (λX=>[⟨false,25,1, .ints .u32 (X.1).A0.Mem⟩,⟨false,126,4, .recs .apiEntry (X.1).B4⟩,⟨false,66,3, .recs .apiEvent (X.1).A6⟩,⟨false,71,4, .recs .apiOutput (X.2)⟩])
theorem Zg2:Q06 pG Zj5:=Q0p drawn Q0k (.cons Qmi (.cons Z2f (.cons Zct (.cons Z0c (.cons Qmy (.nil)))))) Tryz.func55 Tryz.call55 (λargs rows=>Q88 (Q01.of (aC args 0)) (argI args 1)) [.row 25 1 (.ints .u32), .row 126 4 (.recs .apiEntry), .row 66 3 (.recs .apiEvent), .row 71 4 (.recs .apiOutput)] [] 2
def Qi9(m:Q00)(l:(List Int))(z:(Int)×Q01×(List Q04)):Nat:=(l.length-z.1).toNat
def Qcj(m:Q00)(l:(List Int)):Tree (Q01×(List Q04)):=
.an (Qfu m) (.lv (Q3x m) λ(x0:Q01)=> .lp inferInstance (Qi9 m l (0,x0,[])+1) ((((Els.Nil (Els.ints i64 l)\/rE (1:Nat))/\rE (l:List Int))/\rZ/\rZ/\True/\rE (0:Int)/\True)/\(mE zM True (rE (0:Int)/\True/\True/\True))/\(mE x0.A0 True (rE x0.A3/\True/\True/\True))/\rE x0.A0.Mem/\rE x0.B4/\rE x0.A6/\rE ([]:List (RK.T RK.apiOutput))/\True) (0,x0,[]) λ(v0:Int×Q01×List Q04)=> .br (decide (v0.1<(l.length:Int))) (.cn (Nat.beq 1 1&&Nat.blt 0 1&&decide (0<=v0.1/\v0.1<(l.length:Int))) (.an (Qto v0.2.1 (l.getD v0.1.toNat 0)) (.lv (Q3s v0.2.1 (l.getD v0.1.toNat 0)) λ(x1:Q01×List Q04)=> .cn (decide (40*(v0.2.2.length+x1.2.length)<=140737488355328)) (.nx ((((Els.Nil (Els.ints i64 l)\/rE (1:Nat))/\rE (l:List Int))/\rZ/\rZ/\True/\rE ((wrap i64 (v0.1+1)):Int)/\True)/\(mE zM True (rE (0:Int)/\True/\True/\True))/\(mE x1.1.A0 True (rE x1.1.A3/\True/\True/\True))/\rE x1.1.A0.Mem/\rE x1.1.B4/\rE x1.1.A6/\rE ((v0.2.2++x1.2):List (RK.T RK.apiOutput))/\True) (Sum.inl (wrap i64 (v0.1+1),x1.1,v0.2.2++x1.2)))))) (.lf (Sum.inr (v0.2.1,v0.2.2))))
def Z2y(m:Q00)(l:(List Int)):(Q01×(List Q04)):=(Qcj m l).m
abbrev Qv9(m:Q00)(l:(List Int)):Prop:=(Qcj m l).p
def Zfm:LInv:={
 α:=(Int)×Q01×(List Q04)
 F:=λst a=>([(1,(lk st 1)),(4, .ptr 0 0 0),(6, .ptr 1 0 0),(7, .all 5),(8, .int i64 a.1)],[⟨true,96,52, .gen [[(cT st 4 0),(cT st 4 1),(cT st 4 2),(cT st 4 3),(cT st 4 4),(cT st 4 5),(cT st 4 6),(cT st 4 7),(cT st 4 8),(cT st 4 9),(cT st 4 10),(cT st 4 11),(cT st 4 12),(cT st 4 13),(cT st 4 14),(cT st 4 15),(cT st 4 16),(cT st 4 17),(cT st 4 18),(cT st 4 19),(cT st 4 20),(cT st 4 21),(cT st 4 22),(cT st 4 23),(cT st 4 24),(cT st 4 25),(cT st 4 26),(cT st 4 27),(cT st 4 28),(cT st 4 29),(cT st 4 30),(cT st 4 31),(cT st 4 32),(cT st 4 33),(cT st 4 34),(cT st 4 35),(cT st 4 36),(cT st 4 37),(cT st 4 38),(cT st 4 39),(cT st 4 40),(cT st 4 41),(cT st 4 42),(cT st 4 43),(cT st 4 44),(cT st 4 45),(cT st 4 46),(cT st 4 47),(cT st 4 48),(cT st 4 49),(cT st 4 50),(cT st 4 51)]]⟩,⟨true,96,52, .gen [[.int u32 a.2.1.A0.B2.X.a0, .int u32 a.2.1.A0.B2.X.a1, .int u32 a.2.1.A0.B2.X.a2, .int u32 a.2.1.A0.B2.X.a3, .int u32 a.2.1.A0.B2.X.a4, .int u32 a.2.1.A0.B2.X.a5, .int u32 a.2.1.A0.B2.X.a6, .int u32 a.2.1.A0.B2.X.a7, .int u32 a.2.1.A0.B2.X.a8, .int u32 a.2.1.A0.B2.X.a9, .int u32 a.2.1.A0.B2.X.a10, .int u32 a.2.1.A0.B2.X.a11, .int u32 a.2.1.A0.B2.X.a12, .int u32 a.2.1.A0.B2.X.a13, .int u32 a.2.1.A0.B2.X.a14, .int u32 a.2.1.A0.B2.X.a15, .int u32 a.2.1.A0.B2.Pc, .int u32 a.2.1.A0.B2.B5.a0, .int u32 a.2.1.A0.B2.B5.a1, .int u32 a.2.1.A0.B2.B5.a2, .int u32 a.2.1.A0.B2.B5.a3, .int u32 a.2.1.A0.B2.B5.a4, .int u32 a.2.1.A0.B2.B5.a5, .int u32 a.2.1.A0.B2.B5.a6, .int u32 a.2.1.A0.B2.B5.a7, .all 2, .str a.2.1.A0.A4.D3, .bool a.2.1.A0.B0.D2, .int u32 a.2.1.A0.B0.C9, .bool a.2.1.A0.B0.D5, .int u32 a.2.1.A0.B1.Blocks, .int u32 a.2.1.A0.B1.C0, .int u32 a.2.1.A0.B1.Frame, .int i64 a.2.1.A0.B1.C1, .int i64 a.2.1.A0.B1.D8, .int u32 a.2.1.A0.B1.B7, .int u32 a.2.1.A0.B1.B3, .str a.2.1.A0.B1.C3, .int u32 a.2.1.A0.C4.Frame, .int u32 a.2.1.A0.C4.E0, .bool a.2.1.A0.C4.C6, .int u32 a.2.1.A0.C4.B9, .bool a.2.1.A0.C4.B8, .int u32 a.2.1.A0.C4.F1, .int u32 a.2.1.A0.A2.D0, .int u32 a.2.1.A0.A2.C2, .int u64 a.2.1.A0.A1, .bool a.2.1.A0.A7, .bool a.2.1.A0.A9, .int u32 a.2.1.A3, .all 3, .all 4]]⟩,⟨false,25,1, .ints u32 a.2.1.A0.Mem⟩,⟨false,126,4, .recs RK.apiEntry a.2.1.B4⟩,⟨false,66,3, .recs RK.apiEvent a.2.1.A6⟩,⟨false,71,4, .recs RK.apiOutput a.2.2⟩])
 a0:=λst=>((lk st 8).toInt,(⟨(mR (cT st 6) (Q5k st.rows (Q0t (cT st 6 25) 1000000))),(cT st 6 49).toInt,(Q5e RK.apiEntry st.rows (Q0t (cT st 6 50) 1000000)),(Q5e RK.apiEvent st.rows (Q0t (cT st 6 51) 1000000))⟩:Q01),(Q5e RK.apiOutput st.rows (rN st 7)))
 ex0:=λst=>[]++[(rX st 4 0),(rX st 6 1),(Q0t (cT st 6 25) (st.rows.length+2)),(Q0t (cT st 6 50) (st.rows.length+3)),(Q0t (cT st 6 51) (st.rows.length+4)),(rX st 7 5)]}
def Z6p:List (Nat×LInv):=[(4,Zfm)]
def Zk2:Q0d:=mkP 57 [] true [.agg Q00.sig, .one (.ints .i64)] [] (λargs rows=>Qv9 (Q00.of (aC args 0)) (argL .i64 args 1)) (λargs rows=>Z2y (Q00.of (aC args 0)) (argL .i64 args 1)) (λX=> .tup [.agg (Q01.cellsW (X.1) (.all 0) (.all 1) (.all 2)), .all 3]) (λX=>[⟨false,25,1, .ints .u32 (X.1).A0.Mem⟩,⟨false,126,4, .recs .apiEntry (X.1).B4⟩,⟨false,66,3, .recs .apiEvent (X.1).A6⟩,⟨false,71,4, .recs .apiOutput (X.2)⟩])
theorem Zee:Q06 pG Zk2:=Q0p drawn Q0k (.cons Qqr (.cons Zg2 (.nil))) Tryz.func57 Tryz.call57 (λargs rows=>Qcj (Q00.of (aC args 0)) (argL .i64 args 1)) [.row 25 1 (.ints .u32), .row 126 4 (.recs .apiEntry), .row 66 3 (.recs .apiEvent), .row 71 4 (.recs .apiOutput)] Z6p 3
end
noncomputable section
def tblZe0:List UInt8:=[(105:UInt8),32,114,49,44,32,104,97,110,100,108,101,114,10,99,115,114,119,32,114,49,44,32,49,10,108,105,32,114,49,44,32,51,49,10,99,115,114,119,32,114]
def Z8d:List UInt8:=[(49:UInt8),44,32,55,10,108,105,32,114,49,44,32,52,10,99,115,114,119,32,114,49,44,32,54,10,108,105,32,114,50,44,32,53,49,50,10,108,105,32,114,51,44]
def Z9q:List UInt8:=[(32:UInt8),48,10,108,105,32,114,52,44,32,56,10,109,97,112,58,32,115,104,108,105,32,114,53,44,32,114,51,44,32,56,10,111,114,105,32,114,53,44,32,114,53]
def Z7x:List UInt8:=[(44:UInt8),32,55,10,115,104,108,105,32,114,54,44,32,114,51,44,32,50,10,97,100,100,32,114,54,44,32,114,54,44,32,114,50,10,115,119,32,114,53,44,32,48,40]
def Z9d:List UInt8:=[(114:UInt8),54,41,10,97,100,100,105,32,114,51,44,32,114,51,44,32,49,10,98,108,116,32,114,51,44,32,114,52,44,32,109,97,112,10,108,105,32,114,49,44,32]
def Z82:List UInt8:=[(54:UInt8),10,111,117,116,32,114,49,44,32,55,10,108,105,32,114,49,44,32,50,10,111,117,116,32,114,49,44,32,57,10,108,105,32,114,49,44,32,49,48,48,10,111]
def Z8i:List UInt8:=[(117:UInt8),116,32,114,49,44,32,51,10,108,105,32,114,49,44,32,54,52,48,10,99,115,114,119,32,114,49,44,32,50,10,108,105,32,114,49,44,32,50,49,10,99]
def Z7u:List UInt8:=[(115:UInt8),114,119,32,114,49,44,32,48,10,101,114,101,116,10,104,97,110,100,108,101,114,58,32,99,115,114,119,32,114,49,44,32,53,10,99,115,114,114,32,114,49,44]
def Z84:List UInt8:=[(32:UInt8),51,10,115,108,116,105,32,114,49,44,32,114,49,44,32,49,54,10,98,101,113,32,114,49,44,32,114,48,44,32,105,114,113,10,99,115,114,114,32,114,49]
def Z8w:List UInt8:=[(44:UInt8),32,50,10,97,100,100,105,32,114,49,44,32,114,49,44,32,52,10,99,115,114,119,32,114,49,44,32,50,10,105,110,32,114,51,44,32,50,10,111,117,116]
def Qwj:List UInt8:=[(32:UInt8),114,51,44,32,48,10,108,105,32,114,49,44,32,49,10,111,117,116,32,114,49,44,32,52,10,108,105,32,114,49,44,32,55,10,111,117,116,32,114,49,44]
def Qxd:List UInt8:=[(32:UInt8),53,10,97,110,100,105,32,114,49,44,32,114,50,44,32,49,10,97,100,100,105,32,114,49,44,32,114,49,44,32,49,10,111,117,116,32,114,49,44,32,54,10]
def Qxi:List UInt8:=[(99:UInt8),115,114,114,32,114,49,44,32,53,10,101,114,101,116,10,105,114,113,58,32,105,110,32,114,49,44,32,48,10,111,117,116,32,114,49,44,32,48,10,111,117]
def Qx2:List UInt8:=[(116:UInt8),32,114,48,44,32,54,10,111,117,116,32,114,48,44,32,57,10,108,105,32,114,49,44,32,54,10,111,117,116,32,114,49,44,32,55,10,108,105,32,114,49,44]
def Qwg:List UInt8:=[(32:UInt8),50,10,111,117,116,32,114,49,44,32,57,10,105,110,32,114,49,44,32,50,10,97,100,100,105,32,114,49,44,32,114,49,44,32,50,48,10,111,117,116,32]
def Qvu:List UInt8:=[(114:UInt8),49,44,32,51,10,105,110,32,114,49,44,32,49,48,10,111,117,116,32,114,49,44,32,49,48,10,99,115,114,114,32,114,49,44,32,53,10,101,114,101,116,10]
def Zaf:List UInt8:=[(108:UInt8),105,32,114,49,44,32,104,97,110,100,108,101,114,10,99,115,114,119,32,114,49,44,32,49,10,108,105,32,114,49,44,32,51,49,10,99,115,114,119,32,114]
instance sumInhZe {α β:Type} [Inhabited β]:Inhabited (α⊕β):=⟨.inr default⟩
def Qlr(l:(List Q0g))(z:(Int)):Prop:=1<=z/\(z<=l.length\/z=1)
def Qea(l:(List Q0g))(z:(Int)):Nat:=(l.length-z).toNat
def Qfk(l:(List Q0g)):Tree Bool:=
.lp inferInstance (Qea l 1+1) ((nR RK.apiEntry 4 l/\rE (1:Int)/\True)/\True) 1 λ(v0:Int)=> .br (decide (v0<(l.length:Int))) (let E4:=Nat.beq 4 4&&Nat.blt 0 4&&decide (0<=v0/\v0<(l.length:Int)); .cn E4 (let E2:=Nat.beq 4 4&&Nat.blt 0 4&&decide (0<=wrap i64 (v0-1)/\wrap i64 (v0-1)<(l.length:Int)); .cn E2 (let E3:=l.getD (Int.toNat (wrap i64 (v0-1))) (RK.dflt RK.apiEntry);let E5:=l.getD v0.toNat (RK.dflt RK.apiEntry); .br (decide (E5.At<E3.At)) (.lf (Sum.inr false)) (.cn E4 (.cn E2 (let T1:Tree ((Int)⊕(Bool)):= .nx ((nR RK.apiEntry 4 l/\rE ((wrap i64 (v0+1)):Int)/\True)/\True) (Sum.inl (wrap i64 (v0+1))); .br (E5.At==E3.At) (.cn E2 (.br (E3.C5.B6==1) (.lf (Sum.inr false)) T1)) T1)))))) (.lf (Sum.inr true))
def Qyn(l:(List Q0g)):Bool:=(Qfk l).m
def Q8m(l:(List Q0g)):Prop:=
l.length<=1000000000000
theorem Qzv(l:(List Q0g))(hw:Q8m l):(Qfk l).p:=by
 simp only[Q8m]at hw
 unfold Tree.p Qfk
 repeat'(first|refine w_lp (inv:=Qlr l) (μ:=Qea l) ?_ (Nat.lt_succ_self _) (λ_ _=> ?_)|exact trivial|refine w_br (λ_=> ?_) (λ_=> ?_)|refine w_cn ?_ ?_|refine w_an ?_ ?_|refine w_lv (λ_ _=> ?_)|refine w_nx ?_|refine w_lf ?_|refine And.intro ?_ ?_)
 all_goals((try simp only[Qlr,Qea]at*);exact fin0)
def Z52:LInv:={
 α:=(Int)
 F:=λst a=>([(0,(lk st 0)),(3, .int i64 a)],[])
 a0:=λst=>(lk st 3).toInt
 ex0:=λst=>[]++[]}
def Qy2:List (Nat×LInv):=[(2,Z52)]
def Z6g:Q0d:=mkP 155 [] true [.one (.recs .apiEntry)] [] (λargs rows=>Q8m (argR .apiEntry args 0)) (λargs rows=>Qyn (argR .apiEntry args 0)) (λX=> .bool X) (λX=>[])
theorem Z3y:Q06 pG Z6g:=Q0p drawn Q0k (.nil) Tryz.func155 Tryz.call155 (λargs rows=>Qfk (argR .apiEntry args 0)) [] Qy2 3 (hp:=λargs rows h=>Qzv (argR .apiEntry args 0) h)
def Qh0(m:Q00)(script:(List Q0g))(until0:Int)(z:Q00×(List Q04)):Nat:=(until0-z.1.A1).toNat
def Qh8(m:Q00)(script:(List Q0g))(until0:Int)(v0:Q00×List Q04)(z:Unit):Nat:=0
def Q9b(m:Q00)(script:(List Q0g))(until0:Int):Tree (Q00×(List Q04)×Int×Int):=
.lv (Q6r m) λ(x0:Bool)=>let E2:=({B2:={X:={a0:=0,a1:=0,a2:=0,a3:=0,a4:=0,a5:=0,a6:=0,a7:=0,a8:=0,a9:=0,a10:=0,a11:=0,a12:=0,a13:=0,a14:=0,a15:=0},Pc:=0,B5:={a0:=0,a1:=0,a2:=0,a3:=0,a4:=0,a5:=0,a6:=0,a7:=0}},Mem:=[],A4:={D3:=[]},B0:={D2:=false,C9:=0,D5:=false},B1:={Blocks:=0,C0:=0,Frame:=0,C1:=0,D8:=0,B7:=0,B3:=0,C3:=[]},C4:={Frame:=0,E0:=0,C6:=false,B9:=0,B8:=false,F1:=0},A2:={D0:=0,C2:=0},A1:=0,A7:=false,A9:=false}:Q00);let T1:Tree ((Q00×(List Q04)×Int×Int)):= .lf (E2,[],0,1300); .br (!x0) T1 (.br (decide (until0<m.A1)) T1 (.br (decide (wrap u64 (until0-m.A1)>4000)) T1 (.an (Q8m []) (.lv (Qyn []) λ(x1:Bool)=> .br (!x1) (.lf (E2,[],0,1301)) (.an (Qgc m) (.lv (Qmf m) λ(x2:Q00)=> .lp inferInstance (Qh0 m script until0 (x2,[])+1) ((((Els.Nil (Els.gen [])\/rE (0:Nat))/\rE ([]:List (List D)))/\rE (until0:Int)/\rZ/\rZ/\True/\rE (0:Int)/\True)/\(mE x2 True True)/\rE x2.Mem/\(mE zM True True)/\rE ([]:List (RK.T RK.apiOutput))/\True) (x2,[]) λ(v0:Q00×List Q04)=> .br (decide (v0.1.A1<until0)) (.br (decide (v0.1.A1<1152921504606846976)) (.lp inferInstance (Qh8 m script until0 v0 ()+1) ((((Els.Nil (Els.gen [])\/rE (0:Nat))/\rE ([]:List (List D)))/\rE (until0:Int)/\rZ/\rZ/\True/\rE (0:Int)/\(rE (0:Nat)/\rE (46:Nat))/\rE v0.1.A1/\rE ((decide (v0.1.A1<1152921504606846976)):Bool)/\True)/\(mE v0.1 True True)/\rE v0.1.Mem/\(mE zM True True)/\rE v0.2/\True) () λ(v1:PUnit)=> .br v0.1.A9 (.lf (Sum.inr (Sum.inr (v0.1,v0.2,0,0)))) (.an (Qmg v0.1) (.lv (Qds v0.1) λ(x3:Bool)=> .br x3 (.lf (Sum.inr (Sum.inr (v0.1,v0.2,0,0)))) (.an (Qkx v0.1) (.lv (Qfb v0.1) λ(x4:Bool)=> .br (!false==x4) (.lf (Sum.inr (Sum.inr (E2,[],0,1302)))) (.an (Qnh v0.1 0) (.lv (Q0o v0.1 0) λ(x5:List Q04×Q00)=> .cn (decide (40*(v0.2.length+x5.1.length)<=140737488355328)) (.nx ((((Els.Nil (Els.gen [])\/rE (0:Nat))/\rE ([]:List (List D)))/\rE (until0:Int)/\rZ/\rZ/\True/\rE (0:Int)/\True)/\(mE x5.2 True True)/\rE x5.2.Mem/\(mE zM True True)/\rE ((v0.2++x5.1):List (RK.T RK.apiOutput))/\True) (Sum.inr (Sum.inl (x5.2,v0.2++x5.1))))))))))) (.lf (Sum.inr (v0.1,v0.2,0,0)))) (.lf (Sum.inr (v0.1,v0.2,0,0)))))))))
def Qf3(m:Q00)(script:(List Q0g))(until0:Int):(Q00×(List Q04)×Int×Int):=(Q9b m script until0).m
abbrev Qbu(m:Q00)(script:(List Q0g))(until0:Int):Prop:=(Q9b m script until0).p
def Zc5:LInv:={
 α:=Q00×(List Q04)
 F:=λst a=>([(1,(lk st 1)),(2,(lk st 2)),(3, .ptr 0 0 0),(6, .ptr 2 0 0),(10, .all 3),(11,(lk st 11))],[⟨true,43,49, .gen [mD a.1 (.all 1)]⟩,⟨false,25,1, .ints u32 a.1.Mem⟩,⟨true,43,49, .gen [mB (cT st 6)]⟩,⟨false,71,4, .recs RK.apiOutput a.2⟩])
 a0:=λst=>((mR (cT st 3) (Q5k st.rows (Q0t (cT st 3 25) 1000000))),(Q5e RK.apiOutput st.rows (rN st 10)))
 ex0:=λst=>[]++[(rX st 3 0),(Q0t (cT st 3 25) (st.rows.length+1)),(rX st 6 2),(rX st 10 3)]}
def Zbd:LInv:={
 α:=Unit
 F:=λst a=>([(1,(lk st 1)),(2,(lk st 2)),(3, .ptr 0 0 0),(6, .ptr 2 0 0),(10, .all 3),(11,(lk st 11)),(61, .ptr 0 0 46),(62,(lk st 62)),(63,(lk st 63))],[⟨true,43,49, .gen [[(cT st 3 0),(cT st 3 1),(cT st 3 2),(cT st 3 3),(cT st 3 4),(cT st 3 5),(cT st 3 6),(cT st 3 7),(cT st 3 8),(cT st 3 9),(cT st 3 10),(cT st 3 11),(cT st 3 12),(cT st 3 13),(cT st 3 14),(cT st 3 15),(cT st 3 16),(cT st 3 17),(cT st 3 18),(cT st 3 19),(cT st 3 20),(cT st 3 21),(cT st 3 22),(cT st 3 23),(cT st 3 24), .all 1,(cT st 3 26),(cT st 3 27),(cT st 3 28),(cT st 3 29),(cT st 3 30),(cT st 3 31),(cT st 3 32),(cT st 3 33),(cT st 3 34),(cT st 3 35),(cT st 3 36),(cT st 3 37),(cT st 3 38),(cT st 3 39),(cT st 3 40),(cT st 3 41),(cT st 3 42),(cT st 3 43),(cT st 3 44),(cT st 3 45),(cT st 3 46),(cT st 3 47),(cT st 3 48)]]⟩,⟨false,25,1,esOf st.rows (Q0t (cT st 3 25) 1000000)⟩,⟨true,43,49, .gen [mB (cT st 6)]⟩,⟨false,71,4,esOf st.rows (rN st 10)⟩])
 a0:=λst=>()
 ex0:=λst=>[]++[(rX st 3 0),(Q0t (cT st 3 25) (st.rows.length+1)),(rX st 6 2),(rX st 10 3)]}
def Z34:List (Nat×LInv):=[(8,Zc5),(9,Zbd)]
def Zhv:Q0d:=mkP 75 [] true [.agg Q00.sig, .one .nil, .one (.int .u64)] [] (λargs rows=>Qbu (Q00.of (aC args 0)) (argR .apiEntry args 1) (argI args 2)) (λargs rows=>Qf3 (Q00.of (aC args 0)) (argR .apiEntry args 1) (argI args 2)) (λX=> .tup [.agg (Q00.cellsW (X.1) (.all 0)), .all 1, .int .i64 (X.2.2.1), .int .i64 (X.2.2.2)]) (λX=>[⟨false,25,1, .ints .u32 (X.1).Mem⟩,⟨false,71,4, .recs .apiOutput (X.2.1)⟩])
theorem Zcm:Q06 pG Zhv:=Q0p drawn Q0k (.cons Qs2 (.cons Z3y (.cons Qsa (.cons Zab (.cons Qz8 (.cons Qun (.cons Z46 (.nil)))))))) Tryz.func75 Tryz.call75 (λargs rows=>Q9b (Q00.of (aC args 0)) (argR .apiEntry args 1) (argI args 2)) [.row 25 1 (.ints .u32), .row 71 4 (.recs .apiOutput)] Z34 3
def Qee(kind:Int)(l:(List Int))(z:(List Int)):Nat:=160-z.length
def Q72(kind:Int)(l:(List Int)):Tree Q00:=
.an (Q43 kind 3) (.lv (Q4n kind 3) λ(x0:Int)=> .br (decide (x0<2)) (.an (Qak ((108:UInt8)::(tblZe0++Z8d++(Z9q++Z7x)++(Z9d++Z82++(Z8i++Z7u))++(Z84++Z8w++(Qwj++Qxd)++(Qxi++Qx2++(Qwg++Qvu)))))) (.lv (Q1k (List.append (List.append (List.append (List.append Zaf Z8d) (List.append Z9q Z7x)) (List.append (List.append Z9d Z82) (List.append Z8i Z7u))) (List.append (List.append (List.append Z84 Z8w) (List.append Qwj Qxd)) (List.append (List.append Qxi Qx2) (List.append Qwg Qvu))))) λ(x1:List Int×Q1i)=> .lp inferInstance (Qee kind l x1.1+1) ((rE (x0:Int)/\((Els.Nil (Els.ints i64 l)\/rE (1:Nat))/\rE (l:List Int))/\rZ/\True/\True)/\(mE zM True True)/\rE x1.1/\True) x1.1 λ(v0:List Int)=> .br (decide ((v0.length:Int)<(160:Int))) (.cn (decide (4*(v0.length+1)<=140737488355328)) (.nx ((rE (x0:Int)/\((Els.Nil (Els.ints i64 l)\/rE (1:Nat))/\rE (l:List Int))/\rZ/\True/\True)/\(mE zM True True)/\rE ((v0++[0]):List Int)/\True) (Sum.inl (v0++[0])))) (.an (Qmp l) (.lv (Qph l) λ(x2:List Int)=> .cn (decide (4*(v0.length+x2.length)<=140737488355328)) (.br (decide ((↑(List.length (v0++x2)):Int)>(256:Int))) (.cn (Nat.beq 1 1&&Nat.blt 0 1&&decide ((0:Int)<=(0:Int)/\(0:Int)<=(256:Int)/\256<=(↑(List.length (v0++x2)):Int))) (let E1:=List.take (Int.toNat 256-Int.toNat 0) (List.drop (Int.toNat 0) (v0++x2)); .an (Q9n 8 4 E1) (.lv (Q1y 8 4 E1) λ(x3:Q00×Bool)=> .br (x0==1) (.an (Qbu x3.1 [] 87) (.lv (Qf3 x3.1 [] 87) λ(x4:Q00×List Q04×Int×Int)=> .lf (Sum.inr x4.1))) (.lf (Sum.inr x3.1))))) (.an (Q9n 8 4 (v0++x2)) (.lv (Q1y 8 4 (v0++x2)) λ(x5:Q00×Bool)=> .br (x0==1) (.an (Qbu x5.1 [] 87) (.lv (Qf3 x5.1 [] 87) λ(x6:Q00×List Q04×Int×Int)=> .lf (Sum.inr x6.1))) (.lf (Sum.inr x5.1))))))))) (.an (Qmp l) (.lv (Qph l) λ(x7:List Int)=> .cn (decide (4*(0+x7.length)<=140737488355328)) (.br (decide ((x7.length:Int)>(256:Int))) (.cn (Nat.beq 1 1&&Nat.blt 0 1&&decide ((0:Int)<=(0:Int)/\(0:Int)<=(256:Int)/\256<=(x7.length:Int))) (let E2:=List.take (Int.toNat 256-Int.toNat 0) (List.drop (Int.toNat 0) x7); .an (Q9n 8 4 E2) (.lv (Q1y 8 4 E2) λ(x8:Q00×Bool)=> .br (x0==1) (.an (Qbu x8.1 [] 87) (.lv (Qf3 x8.1 [] 87) λ(x9:Q00×List Q04×Int×Int)=> .lf x9.1)) (.lf x8.1)))) (.an (Q9n 8 4 x7) (.lv (Q1y 8 4 x7) λ(x10:Q00×Bool)=> .br (x0==1) (.an (Qbu x10.1 [] 87) (.lv (Qf3 x10.1 [] 87) λ(x11:Q00×List Q04×Int×Int)=> .lf x11.1)) (.lf x10.1)))))))
def Qk5(kind:Int)(l:(List Int)):Q00:=(Q72 kind l).m
abbrev Qns(kind:Int)(l:(List Int)):Prop:=(Q72 kind l).p
def Z4a:LInv:={
 α:=(List Int)
 F:=λst a=>([(0,(lk st 0)),(1,(lk st 1)),(4, .ptr 0 0 0),(5, .all 1)],[⟨true,43,49, .gen [mB (cT st 4)]⟩,⟨false,25,1, .ints u32 a⟩])
 a0:=λst=>(Q5k st.rows (rN st 5))
 ex0:=λst=>[]++[(rX st 4 0),(rX st 5 1)]}
def Qy:List (Nat×LInv):=[(5,Z4a)]
def Z60:Q0d:=mkP 41 [] true [.one (.int .i64), .one (.ints .i64)] [] (λargs rows=>Qns (argI args 0) (argL .i64 args 1)) (λargs rows=>Qk5 (argI args 0) (argL .i64 args 1)) (λX=> .agg (Q00.cellsW X (.all 0))) (λX=>[⟨false,25,1, .ints .u32 X.Mem⟩])
theorem Z33:Q06 pG Z60:=Q0p drawn Q0k (.cons Qmy (.cons Qzp (.cons Zew (.cons Z1x (.cons Zcm (.nil)))))) Tryz.func41 Tryz.call41 (λargs rows=>Q72 (argI args 0) (argL .i64 args 1)) [.row 25 1 (.ints .u32)] Qy 3
end
noncomputable section
def Qwc(l:(List Int))(acts:(List Int)):Tree Bool:=
.br (decide ((l.length:Int)<=(40:Int))) (.lf (decide ((acts.length:Int)<=(30:Int)))) (.lf false)
def Qul(l:(List Int))(acts:(List Int)):Bool:=(Qwc l acts).m
def Zoi:Q0d:=mkR 15 [] true [.one (.ints .i64), .one (.ints .i64)] [] (λargs rows=>Qul (argL .i64 args 0) (argL .i64 args 1)) (λX=> .bool X) (λX=>[])
theorem Zk5:Q06 pG Zoi:=Q11 drawn Q0k (.nil) Tryz.func15 Tryz.call15 (λargs rows=>Qwc (argL .i64 args 0) (argL .i64 args 1)) [] [] 2
def Qpo(t:Q0i):Tree (Q0i×Bool):=
.br (!t.D2) (.lf (t,false)) (.lf ({D2:=false,C9:=t.C9,D5:=true},true))
def Ql8(t:Q0i):(Q0i×Bool):=(Qpo t).m
def Zhr:Q0d:=mkR 130 [] true [.agg Q0i.sig] [] (λargs rows=>Ql8 (Q0i.of (aC args 0))) (λX=> .tup [.agg (Q0i.cells (X.1)), .bool (X.2)]) (λX=>[])
theorem Zce:Q06 pG Zhr:=Q11 drawn Q0k (.nil) Tryz.func130 Tryz.call130 (λargs rows=>Qpo (Q0i.of (aC args 0))) [] [] 2
def Qbo(c:Q0c)(b:Int):Tree (Q0c×Bool):=
.br (decide ((c.D3.length:Int)>=(16:Int))) (.lf (c,false)) (.cn (decide (c.D3.length+1<=maxLen)) (.lf ({D3:=c.D3++[(λ(n:Int)=>UInt8.ofNat n.toNat) b]},true)))
def Qp5(c:Q0c)(b:Int):(Q0c×Bool):=(Qbo c b).m
abbrev Qnv(c:Q0c)(b:Int):Prop:=(Qbo c b).p
def Z5w:Q0d:=mkP 131 [] true [.agg Q0c.sig, .one (.int .u8)] [] (λargs rows=>Qnv (Q0c.of (aC args 0)) (argI args 1)) (λargs rows=>Qp5 (Q0c.of (aC args 0)) (argI args 1)) (λX=> .tup [.agg (Q0c.cells (X.1)), .bool (X.2)]) (λX=>[])
theorem Z48:Q06 pG Z5w:=Q0p drawn Q0k (.nil) Tryz.func131 Tryz.call131 (λargs rows=>Qbo (Q0c.of (aC args 0)) (argI args 1)) [] [] 2
def Q7j(d0:Q0f)(m:(List Int))(e:Q0a):Tree (Q0f×(List Int)×Bool):=
let T2:Tree ((Q0f×(List Int)×Bool)):= .an (Q08 m) (.lv (Q03 m) λ(x0:List Int)=> .lf (d0,x0,false)); .br (d0.C1 !=1) T2 (.br (e.B6 !=4) T2 (.br (decide (e.N>1)) T2 (.an (Q08 m) (.lv (Q03 m) λ(x3:List Int)=>let E3:=({Blocks:=d0.Blocks,C0:=d0.C0,Frame:=d0.Frame,C1:=2,D8:=0,B7:=0,B3:=0,C3:=[]}:Q0f);let E4:=({Blocks:=d0.Blocks,C0:=d0.C0,Frame:=d0.Frame,C1:=3,D8:=0,B7:=0,B3:=0,C3:=[]}:Q0f);let T1:Tree ((Q0f×(List Int)×Bool)):= .br (!decide (e.C8=[])) (.lf (d0,x3,false)) (.br (e.N==1) (.lf (E3,x3,true)) (.lf (E4,x3,true))); .br (e.N==1) (.br (d0.D8==1) (.lv (Q9p m d0.B3) λ(x4:Bool)=> .br (!x4) (.lf (d0,x3,false)) (.an (Q99 m (wrap i64 d0.B3) e.C8) (.lv (Q2v m (wrap i64 d0.B3) e.C8) λ(x5:List Int×Bool)=> .br (!x5.2) (.lf (d0,x5.1,false)) (.br (e.N==1) (.lf (E3,x5.1,true)) (.lf (E4,x5.1,true)))))) T1) T1))))
def Qhs(d0:Q0f)(m:(List Int))(e:Q0a):(Q0f×(List Int)×Bool):=(Q7j d0 m e).m
abbrev Qlt(d0:Q0f)(m:(List Int))(e:Q0a):Prop:=(Q7j d0 m e).p
def Z1w:Q0d:=mkP 132 [] true [.agg Q0f.sig, .one (.ints .u32), .agg Q0a.sig] [] (λargs rows=>Qlt (Q0f.of (aC args 0)) (argL .u32 args 1) (Q0a.of (aC args 2))) (λargs rows=>Qhs (Q0f.of (aC args 0)) (argL .u32 args 1) (Q0a.of (aC args 2))) (λX=> .tup [.agg (Q0f.cells (X.1)), .all 0, .bool (X.2.2)]) (λX=>[⟨false,25,1, .ints .u32 (X.2.1)⟩])
theorem Z0i:Q06 pG Z1w:=Q0p drawn Q0k (.cons Q0w (.cons Qrx (.cons Qey (.nil)))) Tryz.func132 Tryz.call132 (λargs rows=>Q7j (Q0f.of (aC args 0)) (argL .u32 args 1) (Q0a.of (aC args 2))) [.row 25 1 (.ints .u32)] [] 2
def Qaf(n:Q0r)(m:(List Int))(frame:(List UInt8)):Tree (Q0r×(List Int)×Bool):=
let T1:Tree ((Q0r×(List Int)×Bool)):= .an (Q08 m) (.lv (Q03 m) λ(x0:List Int)=> .lf (n,x0,false)); .br (!n.C6) T1 (.br (decide ((frame.length:Int)<(1:Int))) T1 (.br (decide ((frame.length:Int)>(128:Int))) T1 (.lv (Qan m n.B9) λ(x3:Bool)=> .br (!x3) T1 (.an (Qdd m (wrap i64 n.B9)) (.lv (Q5x m (wrap i64 n.B9)) λ(x5:List UInt8×Bool)=> .cn (decide (0<=(frame.length:Int)/\(frame.length:Int)<=(x5.1.length:Int)/\(x5.1.length:Int)<=(x5.1.length:Int))) (let E2:=Int.toNat (x5.1.length:Int)-Int.toNat (frame.length:Int);let E3:=List.drop (Int.toNat (frame.length:Int)) x5.1; .cn (decide (frame.length+List.length (List.take E2 E3)<=maxLen)) (.an (Q99 m (wrap i64 n.B9) (frame++List.take E2 E3)) (.lv (Q2v m (wrap i64 n.B9) (frame++List.take E2 E3)) λ(x6:List Int×Bool)=> .lf ({Frame:=n.Frame,E0:=n.E0,C6:=false,B9:=0,B8:=true,F1:=wrap u32 (frame.length:Int)},x6.1,true)))))))))
def Qmm(n:Q0r)(m:(List Int))(frame:(List UInt8)):(Q0r×(List Int)×Bool):=(Qaf n m frame).m
abbrev Qp0(n:Q0r)(m:(List Int))(frame:(List UInt8)):Prop:=(Qaf n m frame).p
def Zbn:Q0d:=mkP 133 [] true [.agg Q0r.sig, .one (.ints .u32), .one (.str)] [] (λargs rows=>Qp0 (Q0r.of (aC args 0)) (argL .u32 args 1) (argS args 2)) (λargs rows=>Qmm (Q0r.of (aC args 0)) (argL .u32 args 1) (argS args 2)) (λX=> .tup [.agg (Q0r.cells (X.1)), .all 0, .bool (X.2.2)]) (λX=>[⟨false,25,1, .ints .u32 (X.2.1)⟩])
theorem Z62:Q06 pG Zbn:=Q0p drawn Q0k (.cons Qma (.cons Q0w (.cons Qkv (.cons Qey (.nil))))) Tryz.func133 Tryz.call133 (λargs rows=>Qaf (Q0r.of (aC args 0)) (argL .u32 args 1) (argS args 2)) [.row 25 1 (.ints .u32)] [] 2
def Q4b(m:Q00)(e:Q0a):Tree (Q00×Bool):=
.an (Q08 m.Mem) (.lv (Q03 m.Mem) λ(x0:List Int)=>let E2:=({B2:=m.B2,Mem:=x0,A4:=m.A4,B0:=m.B0,B1:=m.B1,C4:=m.C4,A2:=m.A2,A1:=m.A1,A7:=m.A7,A9:=m.A9}:Q00); .an (Q47 E2) (.lv (Q1f E2) λ(x1:Bool)=>let T1:Tree ((Q00×Bool)):= .lf (E2,false); .br (!x1) T1 (.br m.A9 T1 (.br (e.B6==2) (.br (e.N==0) (.br (decide (e.C8=[])) (.lv (Ql8 m.B0) λ(x2:Q0i×Bool)=> .lf ({B2:=m.B2,Mem:=x0,A4:=m.A4,B0:=x2.1,B1:=m.B1,C4:=m.C4,A2:=m.A2,A1:=m.A1,A7:=m.A7,A9:=m.A9},x2.2)) T1) T1) (.br (e.B6==3) (.br (decide (e.N<=255)) (.br (decide (e.C8=[])) (.an (Qnv m.A4 (wrap u8 e.N)) (.lv (Qp5 m.A4 (wrap u8 e.N)) λ(x3:Q0c×Bool)=> .lf ({B2:=m.B2,Mem:=x0,A4:=x3.1,B0:=m.B0,B1:=m.B1,C4:=m.C4,A2:=m.A2,A1:=m.A1,A7:=m.A7,A9:=m.A9},x3.2))) T1) T1) (.br (e.B6==4) (.an (Qlt m.B1 x0 e) (.lv (Qhs m.B1 x0 e) λ(x4:Q0f×List Int×Bool)=> .lf ({B2:=m.B2,Mem:=x4.2.1,A4:=m.A4,B0:=m.B0,B1:=x4.1,C4:=m.C4,A2:=m.A2,A1:=m.A1,A7:=m.A7,A9:=m.A9},x4.2.2))) (.br (e.B6==5) (.br (e.N==0) (.an (Qp0 m.C4 x0 e.C8) (.lv (Qmm m.C4 x0 e.C8) λ(x5:Q0r×List Int×Bool)=> .lf ({B2:=m.B2,Mem:=x5.2.1,A4:=m.A4,B0:=m.B0,B1:=m.B1,C4:=x5.1,A2:=m.A2,A1:=m.A1,A7:=m.A7,A9:=m.A9},x5.2.2))) T1) (.br (e.B6==6) (.br (decide (e.C8=[])) (.lf ({B2:=m.B2,Mem:=x0,A4:=m.A4,B0:=m.B0,B1:=m.B1,C4:=m.C4,A2:={D0:=e.N,C2:=m.A2.C2},A1:=m.A1,A7:=m.A7,A9:=m.A9},true)) T1) T1))))))))
def Q6u(m:Q00)(e:Q0a):(Q00×Bool):=(Q4b m e).m
abbrev Qas(m:Q00)(e:Q0a):Prop:=(Q4b m e).p
def Z54:Q0d:=mkP 38 [] true [.agg Q00.sig, .agg Q0a.sig] [] (λargs rows=>Qas (Q00.of (aC args 0)) (Q0a.of (aC args 1))) (λargs rows=>Q6u (Q00.of (aC args 0)) (Q0a.of (aC args 1))) (λX=> .tup [.agg (Q00.cellsW (X.1) (.all 0)), .bool (X.2)]) (λX=>[⟨false,25,1, .ints .u32 (X.1).Mem⟩])
theorem Qh4:Q06 pG Z54:=Q0p drawn Q0k (.cons Q0w (.cons Qbm (.cons Zce (.cons Z48 (.cons Z0i (.cons Z62 (.nil))))))) Tryz.func38 Tryz.call38 (λargs rows=>Q4b (Q00.of (aC args 0)) (Q0a.of (aC args 1))) [.row 25 1 (.ints .u32)] [] 2
end
noncomputable section
instance sumInhRa {α β:Type} [Inhabited β]:Inhabited (α⊕β):=⟨.inr default⟩
def Q13(s:(List Q0g)):(List Q0g):=
s
def Q0y(s:(List Q0g)):Prop:=
s.length<=3518437208883
def Q2n(s:(List Q0g)):List D:=[.sl 4 (.recs .apiEntry s) false]
def Q1z(s:(List Q0g)):List Row:=[]
def Q1d(X:(List Q0g)):D:= .all 0
def Q1a(X:(List Q0g)):List Row:=[⟨false,126,4, .recs .apiEntry X⟩]
def Qba:List Dir:=[.row 126 4 (.recs .apiEntry)]
def Q5h:List PT:=[.one (.recs .apiEntry)]
def Q57:List RT:=[]
def Qbv(args:List D)(rows:List Row):(List Q0g):=Q13 (argR .apiEntry args 0)
def Qbl(args:List D)(rows:List Row):Prop:=Q0y (argR .apiEntry args 0)
def Qd9:Q0d:=mkP 210 [] true Q5h Q57 Qbl Qbv Q1d Q1a
def Q36(s:(List Q0g))(Leaf:(List Q0g)->Prop):Prop:=
(s=[]->Leaf [])/\cand (decide ((40:Nat)*((0:Nat)+s.length)<=(140737488355328:Nat))) (Leaf s)
set_option maxRecDepth 100000 in
theorem Qch(s:(List Q0g))(Q:D->List Row->Prop):(fnVC tab [] (LL tab [] Tryz.f210.ntmps 0 [] 2) Tryz.f210 (Q2n s) (Q1z s) λd R=>Q9w (Q1z s).length Qba d R Q)=Q36 s (λX=>Q (Q1d X) (Q1a X)):=by kernel_rfl
theorem Qb2(s:(List Q0g))(Leaf:(List Q0g)->Prop)(hw:Q0y s)(h:Leaf (Q13 s)):
Q36 s Leaf:=by
 delta Q36
 refine⟨λe=>by rw[e]at h;exact h,?_⟩
 rw[Q07]
 refine⟨dY ?_,h⟩
 have:s.length<=3518437208883:=hw
 omega
set_option maxRecDepth 100000 in
theorem Qau(s:(List Q0g))(hw:Q0y s):Q4e pG 210 (Q2n s) (Q1z s) (Q1d (Q13 s)) (Q1a (Q13 s)):=
 have hG:Q7a pG []:= .nil
 FnOK.calls drawn Q0k hG Tryz.func210 (rf:=none) (λ_ _=>trivial) (Zng drawn Q0k hG (.inl rfl) 2 (invs:=[])) (FnOK.of (Qch s _) (Qb2 s (λX=>Q1d X=Q1d (Q13 s)/\Q1a X=Q1a (Q13 s)) hw ⟨rfl,rfl⟩))
set_option maxRecDepth 100000 in
theorem Qb3(args:List D)(rows:List Row):Qga Q5h args 0=Q2n (argR .apiEntry args 0):=by kernel_rfl
set_option maxRecDepth 100000 in
theorem Qaz(args:List D)(rows:List Row):Q67 Q57 rows 0=Q1z (argR .apiEntry args 0):=by kernel_rfl
set_option maxRecDepth 100000 in
theorem Qcd(X:(List Q0g)):(ffB (Q1d X)&&ffBR (Q1a X))=true:=by kernel_rfl
theorem Q5s:Q06 pG Qd9:=Qz0 Tryz.call210 (λargs rows hp=>by rw[Qb3 args rows,Qaz args rows];exact Qau (argR .apiEntry args 0) hp) (λ_ X=>Qcd X)
def Q18(s:(List Q0a)):(List Q0a):=
s
def Q12(s:(List Q0a)):Prop:=
s.length<=3518437208883
def Q2m(s:(List Q0a)):List D:=[.sl 3 (.recs .apiEvent s) false]
def Q2(s:(List Q0a)):List Row:=[]
def Q1b(X:(List Q0a)):D:= .all 0
def Q1c(X:(List Q0a)):List Row:=[⟨false,66,3, .recs .apiEvent X⟩]
def Qbc:List Dir:=[.row 66 3 (.recs .apiEvent)]
def Q5o:List PT:=[.one (.recs .apiEvent)]
def Q54:List RT:=[]
def Qbz(args:List D)(rows:List Row):(List Q0a):=Q18 (argR .apiEvent args 0)
def Qbs(args:List D)(rows:List Row):Prop:=Q12 (argR .apiEvent args 0)
def Qd8:Q0d:=mkP 211 [] true Q5o Q54 Qbs Qbz Q1b Q1c
def Q37(s:(List Q0a))(Leaf:(List Q0a)->Prop):Prop:=
(s=[]->Leaf [])/\cand (decide ((32:Nat)*((0:Nat)+s.length)<=(140737488355328:Nat))) (Leaf s)
set_option maxRecDepth 100000 in
theorem Qcc(s:(List Q0a))(Q:D->List Row->Prop):(fnVC tab [] (LL tab [] Tryz.f211.ntmps 0 [] 2) Tryz.f211 (Q2m s) (Q2 s) λd R=>Q9w (Q2 s).length Qbc d R Q)=Q37 s (λX=>Q (Q1b X) (Q1c X)):=by kernel_rfl
theorem Qb4(s:(List Q0a))(Leaf:(List Q0a)->Prop)(hw:Q12 s)(h:Leaf (Q18 s)):
Q37 s Leaf:=by
 delta Q37
 refine⟨λe=>by rw[e]at h;exact h,?_⟩
 rw[Q07]
 refine⟨dY ?_,h⟩
 have:s.length<=3518437208883:=hw
 omega
set_option maxRecDepth 100000 in
theorem Qb1(s:(List Q0a))(hw:Q12 s):Q4e pG 211 (Q2m s) (Q2 s) (Q1b (Q18 s)) (Q1c (Q18 s)):=
 have hG:Q7a pG []:= .nil
 FnOK.calls drawn Q0k hG Tryz.func211 (rf:=none) (λ_ _=>trivial) (Zng drawn Q0k hG (.inl rfl) 2 (invs:=[])) (FnOK.of (Qcc s _) (Qb4 s (λX=>Q1b X=Q1b (Q18 s)/\Q1c X=Q1c (Q18 s)) hw ⟨rfl,rfl⟩))
set_option maxRecDepth 100000 in
theorem Qbb(args:List D)(rows:List Row):Qga Q5o args 0=Q2m (argR .apiEvent args 0):=by kernel_rfl
set_option maxRecDepth 100000 in
theorem Qa9(args:List D)(rows:List Row):Q67 Q54 rows 0=Q2 (argR .apiEvent args 0):=by kernel_rfl
set_option maxRecDepth 100000 in
theorem Qce(X:(List Q0a)):(ffB (Q1b X)&&ffBR (Q1c X))=true:=by kernel_rfl
theorem Qcl:Q06 pG Qd8:=Qz0 Tryz.call211 (λargs rows hp=>by rw[Qbb args rows,Qa9 args rows];exact Qb1 (argR .apiEvent args 0) hp) (λ_ X=>Qce X)
def Q9i(r:Q01):Tree Q01:=
.an (Q08 r.A0.Mem) (.lv (Q03 r.A0.Mem) λ(x0:List Int)=> .an (Q0y r.B4) (.lv (Q13 r.B4) λ(x1:List Q0g)=> .an (Q12 r.A6) (.lv (Q18 r.A6) λ(x2:List Q0a)=> .lf ({A0:={B2:=r.A0.B2,Mem:=x0,A4:=r.A0.A4,B0:=r.A0.B0,B1:=r.A0.B1,C4:=r.A0.C4,A2:=r.A0.A2,A1:=r.A0.A1,A7:=r.A0.A7,A9:=r.A0.A9},A3:=r.A3,B4:=x1,A6:=x2}))))
def Qtn(r:Q01):Q01:=(Q9i r).m
abbrev Qev(r:Q01):Prop:=(Q9i r).p
def Z4s:Q0d:=mkP 145 [] true [.agg Q01.sig] [] (λargs rows=>Qev (Q01.of (aC args 0))) (λargs rows=>Qtn (Q01.of (aC args 0))) (λX=> .agg (Q01.cellsW X (.all 0) (.all 1) (.all 2))) (λX=>[⟨false,25,1, .ints .u32 X.A0.Mem⟩,⟨false,126,4, .recs .apiEntry X.B4⟩,⟨false,66,3, .recs .apiEvent X.A6⟩])
theorem Z0:Q06 pG Z4s:=Q0p drawn Q0k (.cons Q0w (.cons Q5s (.cons Qcl (.nil)))) Tryz.func145 Tryz.call145 (λargs rows=>Q9i (Q01.of (aC args 0))) [.row 25 1 (.ints .u32), .row 126 4 (.recs .apiEntry), .row 66 3 (.recs .apiEvent)] [] 2
def Qgi(m:Q00):Tree Q01:=
.an (Qev {A0:=m,A3:=0,B4:=[],A6:=[]}) (.lv (Qtn {A0:=m,A3:=0,B4:=[],A6:=[]}) λ(x0:Q01)=> .lf x0)
def Z7s(m:Q00):Q01:=(Qgi m).m
abbrev Ql4(m:Q00):Prop:=(Qgi m).p
def Zge:Q0d:=mkP 54 [] true [.agg Q00.sig] [] (λargs rows=>Ql4 (Q00.of (aC args 0))) (λargs rows=>Z7s (Q00.of (aC args 0))) (λX=> .agg (Q01.cellsW X (.all 0) (.all 1) (.all 2))) (λX=>[⟨false,25,1, .ints .u32 X.A0.Mem⟩,⟨false,126,4, .recs .apiEntry X.B4⟩,⟨false,66,3, .recs .apiEvent X.A6⟩])
theorem Zad:Q06 pG Zge:=Q0p drawn Q0k (.cons Z0 (.nil)) Tryz.func54 Tryz.call54 (λargs rows=>Qgi (Q00.of (aC args 0))) [.row 25 1 (.ints .u32), .row 126 4 (.recs .apiEntry), .row 66 3 (.recs .apiEvent)] [] 2
def Qgx(e:Q0a):Tree Bool:=
.br (e.B6==1) (.lf (decide (e.C8=[]))) (.br (e.B6==6) (.lf (decide (e.C8=[]))) (.br (e.B6==2) (.br (e.N==0) (.lf (decide (e.C8=[]))) (.lf false)) (.br (e.B6==3) (.br (decide (e.N<=255)) (.lf (decide (e.C8=[]))) (.lf false)) (.br (e.B6==4) (.br (e.N==1) (.br (decide (e.C8=[])) (.lf true) (.lf ((e.C8.length:Int)==(128:Int)))) (.br (e.N==0) (.lf (decide (e.C8=[]))) (.lf false))) (.br (e.B6==5) (.br (e.N==0) (.br (decide ((e.C8.length:Int)>=(1:Int))) (.lf (decide ((e.C8.length:Int)<=(128:Int)))) (.lf false)) (.lf false)) (.lf false))))))
def Qfs(e:Q0a):Bool:=(Qgx e).m
def Z07:Q0d:=mkR 150 [] true [.agg Q0a.sig] [] (λargs rows=>Qfs (Q0a.of (aC args 0))) (λX=> .bool X) (λX=>[])
theorem Qww:Q06 pG Z07:=Q11 drawn Q0k (.nil) Tryz.func150 Tryz.call150 (λargs rows=>Qgx (Q0a.of (aC args 0))) [] [] 2
end
noncomputable section
instance sumInhRc {α β:Type} [Inhabited β]:Inhabited (α⊕β):=⟨.inr default⟩
def Qgs(a:(List Q04))(b:(List Q04))(z:(Int)):Prop:=0<=z/\z<=a.length/\a.length=b.length
def Q64(a:(List Q04))(b:(List Q04))(z:(Int)):Nat:=(a.length-z).toNat
def Q4t(a:(List Q04))(b:(List Q04)):Tree Bool:=
.br ((a.length:Int) !=(b.length:Int)) (.lf false) (.lp inferInstance (Q64 a b 0+1) ((nR RK.apiOutput 4 a/\nR RK.apiOutput 4 b/\rE (0:Int)/\True)/\True) 0 λ(v0:Int)=> .br (decide (v0<(a.length:Int))) (.cn (Nat.beq 4 4&&Nat.blt 0 4&&decide (0<=v0/\v0<(a.length:Int))) (.cn (Nat.beq 4 4&&Nat.blt 0 4&&decide (0<=v0/\v0<(b.length:Int))) (let E1:=a.getD v0.toNat (RK.dflt RK.apiOutput);let E2:=b.getD v0.toNat (RK.dflt RK.apiOutput); .br (!eqs [D.int i64 E1.B6,D.int u64 E1.At,D.int u32 E1.C0,D.str E1.C8] [D.int i64 E2.B6,D.int u64 E2.At,D.int u32 E2.C0,D.str E2.C8]) (.lf (Sum.inr false)) (.nx ((nR RK.apiOutput 4 a/\nR RK.apiOutput 4 b/\rE ((wrap i64 (v0+1)):Int)/\True)/\True) (Sum.inl (wrap i64 (v0+1))))))) (.lf (Sum.inr true)))
def Qc0(a:(List Q04))(b:(List Q04)):Bool:=(Q4t a b).m
def Q7h(a:(List Q04))(b:(List Q04)):Prop:=
a.length<=1000000000000
theorem Qr1(a:(List Q04))(b:(List Q04))(hw:Q7h a b):(Q4t a b).p:=by
 simp only[Q7h]at hw
 unfold Tree.p Q4t
 repeat'(first|refine w_lp (inv:=Qgs a b) (μ:=Q64 a b) ?_ (Nat.lt_succ_self _) (λ_ _=> ?_)|exact trivial|refine w_br (λ_=> ?_) (λ_=> ?_)|refine w_cn ?_ ?_|refine w_an ?_ ?_|refine w_lv (λ_ _=> ?_)|refine w_nx ?_|refine w_lf ?_|refine And.intro ?_ ?_)
 all_goals((try simp only[Qgs,Q64]at*);exact fin0)
def Qs7:LInv:={
 α:=(Int)
 F:=λst a=>([(0,(lk st 0)),(1,(lk st 1)),(5, .int i64 a)],[])
 a0:=λst=>(lk st 5).toInt
 ex0:=λst=>[]++[]}
def Qob:List (Nat×LInv):=[(4,Qs7)]
def Qtf:Q0d:=mkP 70 [] true [.one (.recs .apiOutput), .one (.recs .apiOutput)] [] (λargs rows=>Q7h (argR .apiOutput args 0) (argR .apiOutput args 1)) (λargs rows=>Qc0 (argR .apiOutput args 0) (argR .apiOutput args 1)) (λX=> .bool X) (λX=>[])
theorem Qso:Q06 pG Qtf:=Q0p drawn Q0k (.nil) Tryz.func70 Tryz.call70 (λargs rows=>Q4t (argR .apiOutput args 0) (argR .apiOutput args 1)) [] Qob 3 (hp:=λargs rows h=>Qr1 (argR .apiOutput args 0) (argR .apiOutput args 1) h)
def Qem(a:(List Q0g))(b:(List Q0g))(z:(Int)):Nat:=(a.length-z).toNat
def Q6n(a:(List Q0g))(b:(List Q0g)):Tree Bool:=
.br ((a.length:Int) !=(b.length:Int)) (.lf false) (.lp inferInstance (Qem a b 0+1) ((nR RK.apiEntry 4 a/\nR RK.apiEntry 4 b/\rE (0:Int)/\True)/\True) 0 λ(v0:Int)=> .br (decide (v0<(a.length:Int))) (.cn (Nat.beq 4 4&&Nat.blt 0 4&&decide (0<=v0/\v0<(a.length:Int))) (.cn (Nat.beq 4 4&&Nat.blt 0 4&&decide (0<=v0/\v0<(b.length:Int))) (let E1:=a.getD v0.toNat (RK.dflt RK.apiEntry);let E2:=b.getD v0.toNat (RK.dflt RK.apiEntry); .br (!eqs [D.int u64 E1.At,D.int i64 E1.C5.B6,D.int u32 E1.C5.N,D.str E1.C5.C8] [D.int u64 E2.At,D.int i64 E2.C5.B6,D.int u32 E2.C5.N,D.str E2.C5.C8]) (.lf (Sum.inr false)) (.nx ((nR RK.apiEntry 4 a/\nR RK.apiEntry 4 b/\rE ((wrap i64 (v0+1)):Int)/\True)/\True) (Sum.inl (wrap i64 (v0+1))))))) (.lf (Sum.inr true)))
def Qnf(a:(List Q0g))(b:(List Q0g)):Bool:=(Q6n a b).m
abbrev Qhc(a:(List Q0g))(b:(List Q0g)):Prop:=(Q6n a b).p
def Qss:LInv:={
 α:=(Int)
 F:=λst a=>([(0,(lk st 0)),(1,(lk st 1)),(5, .int i64 a)],[])
 a0:=λst=>(lk st 5).toInt
 ex0:=λst=>[]++[]}
def Qpu:List (Nat×LInv):=[(4,Qss)]
def Que:Q0d:=mkP 58 [] true [.one (.recs .apiEntry), .one (.recs .apiEntry)] [] (λargs rows=>Qhc (argR .apiEntry args 0) (argR .apiEntry args 1)) (λargs rows=>Qnf (argR .apiEntry args 0) (argR .apiEntry args 1)) (λX=> .bool X) (λX=>[])
theorem Qsy:Q06 pG Que:=Q0p drawn Q0k (.nil) Tryz.func58 Tryz.call58 (λargs rows=>Q6n (argR .apiEntry args 0) (argR .apiEntry args 1)) [] Qpu 3
end
noncomputable section
def Q5t(p:Q02):Tree Q02:=
.an (Q08 p.A0.Mem) (.lv (Q03 p.A0.Mem) λ(x0:List Int)=> .an (Q0y p.B4) (.lv (Q13 p.B4) λ(x1:List Q0g)=> .lf ({A0:={B2:=p.A0.B2,Mem:=x0,A4:=p.A0.A4,B0:=p.A0.B0,B1:=p.A0.B1,C4:=p.A0.C4,A2:=p.A0.A2,A1:=p.A0.A1,A7:=p.A0.A7,A9:=p.A0.A9},B4:=x1,C7:=p.C7,A3:=p.A3})))
def Qht(p:Q02):Q02:=(Q5t p).m
abbrev Q7v(p:Q02):Prop:=(Q5t p).p
def Z32:Q0d:=mkP 149 [] true [.agg Q02.sig] [] (λargs rows=>Q7v (Q02.of (aC args 0))) (λargs rows=>Qht (Q02.of (aC args 0))) (λX=> .agg (Q02.cellsW X (.all 0) (.sl 4 (.recs .apiEntry X.B4) true))) (λX=>[⟨false,25,1, .ints .u32 X.A0.Mem⟩])
theorem Qc3:Q06 pG Z32:=Q0p drawn Q0k (.cons Q0w (.cons Q5s (.nil))) Tryz.func149 Tryz.call149 (λargs rows=>Q5t (Q02.of (aC args 0))) [.row 25 1 (.ints .u32), .sl (.recs .apiEntry) true] [] 2
def Q9r(m:Q00):Tree Q02:=
.an (Q7v {A0:=m,B4:=[],C7:=m.A1,A3:=0}) (.lv (Qht {A0:=m,B4:=[],C7:=m.A1,A3:=0}) λ(x0:Q02)=> .lf x0)
def Qwy(m:Q00):Q02:=(Q9r m).m
abbrev Qfq(m:Q00):Prop:=(Q9r m).p
def Ze7:Q0d:=mkP 74 [] true [.agg Q00.sig] [] (λargs rows=>Qfq (Q00.of (aC args 0))) (λargs rows=>Qwy (Q00.of (aC args 0))) (λX=> .agg (Q02.cellsW X (.all 0) (.sl 4 (.recs .apiEntry X.B4) true))) (λX=>[⟨false,25,1, .ints .u32 X.A0.Mem⟩])
theorem Qtv:Q06 pG Ze7:=Q0p drawn Q0k (.cons Qc3 (.nil)) Tryz.func74 Tryz.call74 (λargs rows=>Q9r (Q00.of (aC args 0))) [.row 25 1 (.ints .u32), .sl (.recs .apiEntry) true] [] 2
def Qzn(p:Q02):Tree Int:=
.br (decide (p.A0.A1>p.C7)) (.lf 0) (.lf (wrap u64 (p.C7-p.A0.A1)))
def Qvy(p:Q02):Int:=(Qzn p).m
def Zeb:Q0d:=mkR 66 [] true [.agg Q02.sig] [] (λargs rows=>Qvy (Q02.of (aC args 0))) (λX=> .int .u64 X) (λX=>[])
theorem Zae:Q06 pG Zeb:=Q11 drawn Q0k (.nil) Tryz.func66 Tryz.call66 (λargs rows=>Qzn (Q02.of (aC args 0))) [] [] 2
def Q76(p:Q02):Tree (Int×Bool×Bool):=
.br (decide ((p.B4.length:Int)>(0:Int))) (.cn (Nat.beq 4 4&&Nat.blt 0 4&&decide ((0:Int)<=(0:Int)/\0<(p.B4.length:Int))) (let E1:=p.B4.getD (Int.toNat 0) (RK.dflt RK.apiEntry); .br (E1.C5.B6==1) (.an (Q2r p.A0) (.lv (Q3c p.A0) λ(x0:Bool)=> .br (!x0) (.lf (0,false,!decide (E1.At<=p.A0.A1))) (.br (decide (E1.At<=p.A0.A1)) (.lf (E1.C5.N,true,E1.At==p.A0.A1)) (.lf (E1.C5.N,true,false))))) (.an (Q2r p.A0) (.lv (Q3c p.A0) λ(x1:Bool)=> .br (!x1) (.lf (0,false,true)) (.lf (E1.C5.N,true,false)))))) (.an (Q2r p.A0) (.lv (Q3c p.A0) λ(x2:Bool)=> .br (!x2) (.lf (0,false,true)) (.lf (0,true,false))))
def Qya(p:Q02):(Int×Bool×Bool):=(Q76 p).m
abbrev Qh1(p:Q02):Prop:=(Q76 p).p
def Z7a:Q0d:=mkP 157 [] true [.agg Q02.sig] [] (λargs rows=>Qh1 (Q02.of (aC args 0))) (λargs rows=>Qya (Q02.of (aC args 0))) (λX=> .tup [.int .u32 (X.1), .bool (X.2.1), .bool (X.2.2)]) (λX=>[])
theorem Qp1:Q06 pG Z7a:=Q0p drawn Q0k (.cons Qp3 (.nil)) Tryz.func157 Tryz.call157 (λargs rows=>Q76 (Q02.of (aC args 0))) [] [] 2
def Qsb(p:Q02)(z:(Int)×Q00):Nat:=(p.B4.length-z.1).toNat
def Qa3(p:Q02):Tree (Q01×Bool):=
.an (Q47 p.A0) (.lv (Q1f p.A0) λ(x0:Bool)=>let T1:Tree ((Q01×Bool)):= .lf ({A0:={B2:={X:={a0:=0,a1:=0,a2:=0,a3:=0,a4:=0,a5:=0,a6:=0,a7:=0,a8:=0,a9:=0,a10:=0,a11:=0,a12:=0,a13:=0,a14:=0,a15:=0},Pc:=0,B5:={a0:=0,a1:=0,a2:=0,a3:=0,a4:=0,a5:=0,a6:=0,a7:=0}},Mem:=[],A4:={D3:=[]},B0:={D2:=false,C9:=0,D5:=false},B1:={Blocks:=0,C0:=0,Frame:=0,C1:=0,D8:=0,B7:=0,B3:=0,C3:=[]},C4:={Frame:=0,E0:=0,C6:=false,B9:=0,B8:=false,F1:=0},A2:={D0:=0,C2:=0},A1:=0,A7:=false,A9:=false},A3:=0,B4:=[],A6:=[]},false); .br (!x0) T1 (.br (p.A0.A1 !=p.C7) T1 (.lp inferInstance (Qsb p (0,p.A0)+1) ((rZ/\rZ/\rZ/\((Els.Nil (Els.recs RK.apiEntry p.B4)\/rE (4:Nat))/\rE p.B4)/\rE ((p.B4.length:Int):Int)/\rE (0:Int)/\True)/\(mE p.A0 (((Els.Nil (Els.ints u32 p.A0.Mem)\/rE (1:Nat))/\rE p.A0.Mem)) (((Els.Nil (Els.recs RK.apiEntry p.B4)\/rE (4:Nat))/\rE p.B4)/\rE p.C7/\rE p.A3/\True))/\(mE zM True (rE (0:Int)/\True/\True/\True))/\(mE p.A0 (((Els.Nil (Els.ints u32 p.A0.Mem)\/rE (1:Nat))/\rE p.A0.Mem)) True)/\True) (0,p.A0) λ(v0:Int×Q00)=> .br (decide (v0.1<(p.B4.length:Int))) (.cn (Nat.beq 4 4&&Nat.blt 0 4&&decide (0<=v0.1/\v0.1<(p.B4.length:Int))) (let E2:=p.B4.getD v0.1.toNat (RK.dflt RK.apiEntry); .an (Qas v0.2 E2.C5) (.lv (Q6u v0.2 E2.C5) λ(x1:Q00×Bool)=> .nx ((rZ/\rZ/\rZ/\((Els.Nil (Els.recs RK.apiEntry p.B4)\/rE (4:Nat))/\rE p.B4)/\rE ((p.B4.length:Int):Int)/\rE ((wrap i64 (v0.1+1)):Int)/\True)/\(mE p.A0 (((Els.Nil (Els.ints u32 p.A0.Mem)\/rE (1:Nat))/\rE p.A0.Mem)) (((Els.Nil (Els.recs RK.apiEntry p.B4)\/rE (4:Nat))/\rE p.B4)/\rE p.C7/\rE p.A3/\True))/\(mE zM True (rE (0:Int)/\True/\True/\True))/\(mE x1.1 (rE x1.1.Mem) True)/\True) (Sum.inl (wrap i64 (v0.1+1),x1.1))))) (.an (Ql4 v0.2) (.lv (Z7s v0.2) λ(x2:Q01)=> .lf (Sum.inr ({A0:=x2.A0,A3:=p.A3,B4:=x2.B4,A6:=x2.A6},true)))))))
def Qms(p:Q02):(Q01×Bool):=(Qa3 p).m
abbrev Qay(p:Q02):Prop:=(Qa3 p).p
def Z08:LInv:={
 α:=(Int)×Q00
 F:=λst a=>([(1, .ptr 0 0 0),(2, .ptr 1 0 0),(4, .ptr 2 0 0),(24,(lk st 24)),(25,(lk st 25)),(26, .int i64 a.1)],[⟨true,106,52, .gen [[(cT st 1 0),(cT st 1 1),(cT st 1 2),(cT st 1 3),(cT st 1 4),(cT st 1 5),(cT st 1 6),(cT st 1 7),(cT st 1 8),(cT st 1 9),(cT st 1 10),(cT st 1 11),(cT st 1 12),(cT st 1 13),(cT st 1 14),(cT st 1 15),(cT st 1 16),(cT st 1 17),(cT st 1 18),(cT st 1 19),(cT st 1 20),(cT st 1 21),(cT st 1 22),(cT st 1 23),(cT st 1 24),(cT st 1 25),(cT st 1 26),(cT st 1 27),(cT st 1 28),(cT st 1 29),(cT st 1 30),(cT st 1 31),(cT st 1 32),(cT st 1 33),(cT st 1 34),(cT st 1 35),(cT st 1 36),(cT st 1 37),(cT st 1 38),(cT st 1 39),(cT st 1 40),(cT st 1 41),(cT st 1 42),(cT st 1 43),(cT st 1 44),(cT st 1 45),(cT st 1 46),(cT st 1 47),(cT st 1 48),(cT st 1 49),(cT st 1 50),(cT st 1 51)]]⟩,⟨true,96,52, .gen [[(cT st 2 0),(cT st 2 1),(cT st 2 2),(cT st 2 3),(cT st 2 4),(cT st 2 5),(cT st 2 6),(cT st 2 7),(cT st 2 8),(cT st 2 9),(cT st 2 10),(cT st 2 11),(cT st 2 12),(cT st 2 13),(cT st 2 14),(cT st 2 15),(cT st 2 16),(cT st 2 17),(cT st 2 18),(cT st 2 19),(cT st 2 20),(cT st 2 21),(cT st 2 22),(cT st 2 23),(cT st 2 24),(cT st 2 25),(cT st 2 26),(cT st 2 27),(cT st 2 28),(cT st 2 29),(cT st 2 30),(cT st 2 31),(cT st 2 32),(cT st 2 33),(cT st 2 34),(cT st 2 35),(cT st 2 36),(cT st 2 37),(cT st 2 38),(cT st 2 39),(cT st 2 40),(cT st 2 41),(cT st 2 42),(cT st 2 43),(cT st 2 44),(cT st 2 45),(cT st 2 46),(cT st 2 47),(cT st 2 48),(cT st 2 49),(cT st 2 50),(cT st 2 51)]]⟩,⟨true,43,49, .gen [mD a.2 (.sl 1 (.ints u32 a.2.Mem) false)]⟩])
 a0:=λst=>((lk st 26).toInt,(mR (cT st 4) (frzI u32 st.rows (cT st 4 25))))
 ex0:=λst=>[]++[(rX st 1 0),(rX st 2 1),(rX st 4 2)]}
def Qvj:List (Nat×LInv):=[(5,Z08)]
def Z3a:Q0d:=Q0d.fz<|mkP 71 [] true [.agg Q02.sig] [] (λargs rows=>Qay (Q02.of (aC args 0))) (λargs rows=>Qms (Q02.of (aC args 0))) (λX=> .tup [.agg (Q01.cellsW (X.1) (.all 0) (.all 1) (.all 2)), .bool (X.2)]) (λX=>[⟨false,25,1, .ints .u32 (X.1).A0.Mem⟩,⟨false,126,4, .recs .apiEntry (X.1).B4⟩,⟨false,66,3, .recs .apiEvent (X.1).A6⟩])
theorem Z0l:Q06 pG Z3a:=Zov<|Q0p drawn Q0k (.cons Qbm (.cons Qh4 (.cons Zad (.nil)))) Tryz.func71 Tryz.call71 (λargs rows=>Qa3 (Q02.of (aC args 0))) [.row 25 1 (.ints .u32), .row 126 4 (.recs .apiEntry), .row 66 3 (.recs .apiEvent)] Qvj 3
def Q56(a:Q02)(b:Q02):Tree Bool:=
.an (Qu7 a.A0 b.A0) (.lv (Zf3 a.A0 b.A0) λ(x0:Bool)=> .br x0 (.an (Qhc a.B4 b.B4) (.lv (Qnf a.B4 b.B4) λ(x1:Bool)=> .br x1 (.br (a.C7==b.C7) (.lf (a.A3==b.A3)) (.lf false)) (.lf false))) (.lf false))
def Qk7(a:Q02)(b:Q02):Bool:=(Q56 a b).m
abbrev Qel(a:Q02)(b:Q02):Prop:=(Q56 a b).p
def Qqz:Q0d:=mkP 65 [] true [.agg Q02.sig, .agg Q02.sig] [] (λargs rows=>Qel (Q02.of (aC args 0)) (Q02.of (aC args 1))) (λargs rows=>Qk7 (Q02.of (aC args 0)) (Q02.of (aC args 1))) (λX=> .bool X) (λX=>[])
theorem Qpk:Q06 pG Qqz:=Q0p drawn Q0k (.cons Zep (.cons Qsy (.nil))) Tryz.func65 Tryz.call65 (λargs rows=>Q56 (Q02.of (aC args 0)) (Q02.of (aC args 1))) [] [] 2
end
noncomputable section
def Qlx(script:(List Q0g))(z:(Int)):Prop:=1<=z/\(z<=script.length\/z=1)
def Q4s(script:(List Q0g))(z:(Int)):Nat:=(script.length-z).toNat
def Q9(script:(List Q0g)):Tree Bool:=
.lp inferInstance (Q4s script 1+1) ((nR RK.apiEntry 4 script/\rE (1:Int)/\True)/\True) 1 λ(v0:Int)=> .br (decide (v0<(script.length:Int))) (.cn (Nat.beq 4 4&&Nat.blt 0 4&&decide (0<=wrap i64 (v0-1)/\wrap i64 (v0-1)<(script.length:Int))) (.cn (Nat.beq 4 4&&Nat.blt 0 4&&decide (0<=v0/\v0<(script.length:Int))) (let E2:=script.getD (Int.toNat (wrap i64 (v0-1))) (RK.dflt RK.apiEntry);let E3:=script.getD v0.toNat (RK.dflt RK.apiEntry); .br (decide (E3.At<E2.At)) (.lf (Sum.inr false)) (let T1:Tree ((Int)⊕(Bool)):= .nx ((nR RK.apiEntry 4 script/\rE ((wrap i64 (v0+1)):Int)/\True)/\True) (Sum.inl (wrap i64 (v0+1))); .br (E3.At==E2.At) (.br (E2.C5.B6==1) (.lf (Sum.inr false)) T1) T1)))) (.lf (Sum.inr true))
def Qd3(script:(List Q0g)):Bool:=(Q9 script).m
def Q52(script:(List Q0g)):Prop:=
script.length<=1000000000000
theorem Z0e(script:(List Q0g))(hw:Q52 script):(Q9 script).p:=by
 simp only[Q52]at hw
 unfold Tree.p Q9
 repeat'(first|refine w_lp (inv:=Qlx script) (μ:=Q4s script) ?_ (Nat.lt_succ_self _) (λ_ _=> ?_)|exact trivial|refine w_br (λ_=> ?_) (λ_=> ?_)|refine w_cn ?_ ?_|refine w_an ?_ ?_|refine w_lv (λ_ _=> ?_)|refine w_nx ?_|refine w_lf ?_|refine And.intro ?_ ?_)
 all_goals((try simp only[Qlx,Q4s]at*);exact fin0)
def Z22:LInv:={
 α:=(Int)
 F:=λst a=>([(0,(lk st 0)),(3, .int i64 a)],[])
 a0:=λst=>(lk st 3).toInt
 ex0:=λst=>[]++[]}
def Qy4:List (Nat×LInv):=[(2,Z22)]
def Z5r:Q0d:=mkP 152 [] true [.one (.recs .apiEntry)] [] (λargs rows=>Q52 (argR .apiEntry args 0)) (λargs rows=>Qd3 (argR .apiEntry args 0)) (λX=> .bool X) (λX=>[])
theorem Z56:Q06 pG Z5r:=Q0p drawn Q0k (.nil) Tryz.func152 Tryz.call152 (λargs rows=>Q9 (argR .apiEntry args 0)) [] Qy4 3 (hp:=λargs rows h=>Z0e (argR .apiEntry args 0) h)
def Q2e(s:(List Q0g))(n:Int):(List Q0g):=
[]
def Q1g(s:(List Q0g))(n:Int):Prop:=
0<=n/\n<=1000000000000
def Q5i(s:(List Q0g))(n:Int):List D:=[.nils, .int .i64 n]
def Q5l(s:(List Q0g))(n:Int):List Row:=[]
def Q2z(X:(List Q0g)):D:= .all 0
def Q3(X:(List Q0g)):List Row:=[⟨false,126,4, .recs .apiEntry X⟩]
def Q6:List PT:=[.one .nil0, .one (.int .i64)]
def Q5j:List RT:=[]
def Qco(args:List D)(rows:List Row):(List Q0g):=Q2e (argR .apiEntry args 0) (argI args 1)
def Qcu(args:List D)(rows:List Row):Prop:=Q1g (argR .apiEntry args 0) (argI args 1)
def Qdy:Q0d:=mkP 215 [true,false] true Q6 Q5j Qcu Qco Q2z Q3
theorem Qb8(s:(List Q0g))(n:Int)(hw:Q1g s n):Q4e pG 215 (Q5i s n) (Q5l s n) (Q2z (Q2e s n)) (Q3 (Q2e s n)):=by
 exact qG Tryz.lays8 Q0k rfl rfl (by decide) (by decide) hw.1 (by have:=hw.2;omega)
set_option maxRecDepth 100000 in
theorem Qbf(args:List D)(rows:List Row):Qga Q6 args 0=Q5i (argR .apiEntry args 0) (argI args 1):=by kernel_rfl
set_option maxRecDepth 100000 in
theorem Qb6(args:List D)(rows:List Row):Q67 Q5j rows 0=Q5l (argR .apiEntry args 0) (argI args 1):=by kernel_rfl
set_option maxRecDepth 100000 in
theorem Qda(X:(List Q0g)):(ffB (Q2z X)&&ffBR (Q3 X))=true:=by kernel_rfl
theorem Qdb:Q06 pG Qdy:=Qz0 Tryz.call215 (λargs rows hp=>by rw[Qbf args rows,Qb6 args rows];exact Qb8 (argR .apiEntry args 0) (argI args 1) hp) (λ_ X=>Qda X)
def Q4c(slices:(List (List Q0g)))(z:(Int)×(Int)):Nat:=(slices.length-z.2).toNat
def Q4f(slices:(List (List Q0g)))(z:(Int)×(List Q0g)):Nat:=(slices.length-z.1).toNat
def Q14(slices:(List (List Q0g))):Tree (List Q0g):=
.lp inferInstance (Q4c slices (0,0)+1) ((nR RK.lapiEntry 1 slices/\rE (0:Int)/\nR RK.lapiEntry 1 slices/\rE ((slices.length:Int):Int)/\rE (0:Int)/\True)/\True) (0,0) λ(v0:Int×Int)=> .br (decide (v0.2<(slices.length:Int))) (.cn (Nat.beq 1 1&&Nat.blt 0 1&&decide (0<=v0.2/\v0.2<(slices.length:Int))) (let E1:=(↑(List.length (slices.getD v0.2.toNat (RK.dflt RK.lapiEntry))):Int); .fl (decide (wrap i64 (v0.1+E1)<0)) (.nx ((nR RK.lapiEntry 1 slices/\rE ((wrap i64 (v0.1+(↑(List.length (slices.getD v0.2.toNat (RK.dflt RK.lapiEntry))):Int))):Int)/\nR RK.lapiEntry 1 slices/\rE ((slices.length:Int):Int)/\rE ((wrap i64 (v0.2+1)):Int)/\True)/\True) (Sum.inl (wrap i64 (v0.1+E1),wrap i64 (v0.2+1)))))) (.an (Q1g [] v0.1) (.lv (Q2e [] v0.1) λ(x0:List Q0g)=> .lp inferInstance (Q4f slices (0,x0)+1) ((True/\nR RK.lapiEntry 1 slices/\rE ((slices.length:Int):Int)/\rE (0:Int)/\True)/\rE (x0:List (RK.T RK.apiEntry))/\True) (0,x0) λ(v1:Int×List Q0g)=> .br (decide (v1.1<(slices.length:Int))) (.cn (Nat.beq 1 1&&Nat.blt 0 1&&decide (0<=v1.1/\v1.1<(slices.length:Int))) (.cn (decide (40*(v1.2.length+List.length (slices.getD v1.1.toNat (RK.dflt RK.lapiEntry)))<=140737488355328)) (.nx ((True/\nR RK.lapiEntry 1 slices/\rE ((slices.length:Int):Int)/\rE ((wrap i64 (v1.1+1)):Int)/\True)/\rE ((v1.2++slices.getD v1.1.toNat (RK.dflt RK.lapiEntry)):List (RK.T RK.apiEntry))/\True) (Sum.inl (wrap i64 (v1.1+1),v1.2++slices.getD v1.1.toNat (RK.dflt RK.lapiEntry)))))) (.lf (Sum.inr (Sum.inr v1.2)))))
def Q6m(slices:(List (List Q0g))):(List Q0g):=(Q14 slices).m
abbrev Q2l(slices:(List (List Q0g))):Prop:=(Q14 slices).p
def Qby:LInv:={
 α:=(Int)×(Int)
 F:=λst a=>([(0,(lk st 0)),(3, .int i64 a.1),(9,(lk st 9)),(10,(lk st 10)),(11, .int i64 a.2)],[])
 a0:=λst=>((lk st 3).toInt,(lk st 11).toInt)
 ex0:=λst=>[]++[]}
def Qbt:LInv:={
 α:=(Int)×(List Q0g)
 F:=λst a=>([(6, .all 0),(25,(lk st 25)),(26,(lk st 26)),(27, .int i64 a.1)],[⟨false,126,4, .recs RK.apiEntry a.2⟩])
 a0:=λst=>((lk st 27).toInt,(Q5e RK.apiEntry st.rows (rN st 6)))
 ex0:=λst=>[]++[(rX st 6 0)]}
def Qb:List (Nat×LInv):=[(3,Qby),(11,Qbt)]
def Qca:Q0d:=mkP 151 [] true [.one (.recs .lapiEntry)] [] (λargs rows=>Q2l (argR .lapiEntry args 0)) (λargs rows=>Q6m (argR .lapiEntry args 0)) (λX=> .all 0) (λX=>[⟨false,126,4, .recs .apiEntry X⟩])
theorem Qbi:Q06 pG Qca:=Q0p drawn Q0k (.cons Qdb (.nil)) Tryz.func151 Tryz.call151 (λargs rows=>Q14 (argR .lapiEntry args 0)) [.row 126 4 (.recs .apiEntry)] Qb 3
def Qaa(p:Q02)(l:(List Q0g))(known:Int)(z:(Int)):Nat:=(l.length-z).toNat
def Q89(p:Q02)(l:(List Q0g))(known:Int):Tree (Q02×Bool):=
.an (Q7v p) (.lv (Qht p) λ(x0:Q02)=> .br (decide (known<x0.C7)) (.lf (x0,false)) (.br (decide ((l.length:Int)>(400:Int))) (.lf (x0,false)) (.br (decide (wrap i64 ((x0.B4.length:Int)+(l.length:Int))>4096)) (.lf (x0,false)) (.lp inferInstance (Qaa p l known 0+1) ((nR RK.apiEntry 4 l/\rE (known:Int)/\rZ/\rZ/\nR RK.apiEntry 4 l/\rE ((l.length:Int):Int)/\rE (0:Int)/\True)/\(mE x0.A0 True (((Els.Nil (Els.recs RK.apiEntry x0.B4)\/rE (4:Nat))/\rE x0.B4)/\rE x0.C7/\rE x0.A3/\True))/\rE x0.A0.Mem/\(mE zM True (True/\rE (0:Int)/\rE (0:Int)/\True))/\True) 0 λ(v0:Int)=> .br (decide (v0<(l.length:Int))) (.cn (Nat.beq 4 4&&Nat.blt 0 4&&decide (0<=v0/\v0<(l.length:Int))) (let E2:=l.getD v0.toNat (RK.dflt RK.apiEntry); .br (decide (E2.At<x0.C7)) (.lf (Sum.inr (x0,false))) (.br (decide (E2.At>known)) (.lf (Sum.inr (x0,false))) (let T1:Tree ((Int)⊕((Q02×Bool))):= .lv (Qfs E2.C5) λ(x1:Bool)=> .br (!x1) (.lf (Sum.inr (x0,false))) (.nx ((nR RK.apiEntry 4 l/\rE (known:Int)/\rZ/\rZ/\nR RK.apiEntry 4 l/\rE ((l.length:Int):Int)/\rE ((wrap i64 (v0+1)):Int)/\True)/\(mE x0.A0 True (((Els.Nil (Els.recs RK.apiEntry x0.B4)\/rE (4:Nat))/\rE x0.B4)/\rE x0.C7/\rE x0.A3/\True))/\rE x0.A0.Mem/\(mE zM True (True/\rE (0:Int)/\rE (0:Int)/\True))/\True) (Sum.inl (wrap i64 (v0+1)))); .br (E2.At==known) (.br (E2.C5.B6==1) (.lf (Sum.inr (x0,false))) T1) T1)))) (.an (Q2l [x0.B4,l]) (.lv (Q6m [x0.B4,l]) λ(x3:List Q0g)=> .an (Q52 x3) (.lv (Qd3 x3) λ(x4:Bool)=> .br (!x4) (.lf (Sum.inr (x0,false))) (.lf (Sum.inr ({A0:=x0.A0,B4:=x3,C7:=known,A3:=x0.A3},true))))))))))
def Qry(p:Q02)(l:(List Q0g))(known:Int):(Q02×Bool):=(Q89 p l known).m
abbrev Qdx(p:Q02)(l:(List Q0g))(known:Int):Prop:=(Q89 p l known).p
def Z7c:LInv:={
 α:=(Int)
 F:=λst a=>([(1,(lk st 1)),(2,(lk st 2)),(3, .ptr 0 0 0),(6, .ptr 2 0 0),(32,(lk st 32)),(33,(lk st 33)),(34, .int i64 a)],[⟨true,106,52, .gen [[(cT st 3 0),(cT st 3 1),(cT st 3 2),(cT st 3 3),(cT st 3 4),(cT st 3 5),(cT st 3 6),(cT st 3 7),(cT st 3 8),(cT st 3 9),(cT st 3 10),(cT st 3 11),(cT st 3 12),(cT st 3 13),(cT st 3 14),(cT st 3 15),(cT st 3 16),(cT st 3 17),(cT st 3 18),(cT st 3 19),(cT st 3 20),(cT st 3 21),(cT st 3 22),(cT st 3 23),(cT st 3 24), .all 1,(cT st 3 26),(cT st 3 27),(cT st 3 28),(cT st 3 29),(cT st 3 30),(cT st 3 31),(cT st 3 32),(cT st 3 33),(cT st 3 34),(cT st 3 35),(cT st 3 36),(cT st 3 37),(cT st 3 38),(cT st 3 39),(cT st 3 40),(cT st 3 41),(cT st 3 42),(cT st 3 43),(cT st 3 44),(cT st 3 45),(cT st 3 46),(cT st 3 47),(cT st 3 48),(cT st 3 49),(cT st 3 50),(cT st 3 51)]]⟩,⟨false,25,1,esOf st.rows (Q0t (cT st 3 25) 1000000)⟩,⟨true,106,52, .gen [[(cT st 6 0),(cT st 6 1),(cT st 6 2),(cT st 6 3),(cT st 6 4),(cT st 6 5),(cT st 6 6),(cT st 6 7),(cT st 6 8),(cT st 6 9),(cT st 6 10),(cT st 6 11),(cT st 6 12),(cT st 6 13),(cT st 6 14),(cT st 6 15),(cT st 6 16),(cT st 6 17),(cT st 6 18),(cT st 6 19),(cT st 6 20),(cT st 6 21),(cT st 6 22),(cT st 6 23),(cT st 6 24),(cT st 6 25),(cT st 6 26),(cT st 6 27),(cT st 6 28),(cT st 6 29),(cT st 6 30),(cT st 6 31),(cT st 6 32),(cT st 6 33),(cT st 6 34),(cT st 6 35),(cT st 6 36),(cT st 6 37),(cT st 6 38),(cT st 6 39),(cT st 6 40),(cT st 6 41),(cT st 6 42),(cT st 6 43),(cT st 6 44),(cT st 6 45),(cT st 6 46),(cT st 6 47),(cT st 6 48),(cT st 6 49),(cT st 6 50),(cT st 6 51)]]⟩])
 a0:=λst=>(lk st 34).toInt
 ex0:=λst=>[]++[(rX st 3 0),(Q0t (cT st 3 25) (st.rows.length+1)),(rX st 6 2)]}
def Z04:List (Nat×LInv):=[(5,Z7c)]
def Zbi:Q0d:=mkP 63 [] true [.agg Q02.sig, .one (.recs .apiEntry), .one (.int .u64)] [] (λargs rows=>Qdx (Q02.of (aC args 0)) (argR .apiEntry args 1) (argI args 2)) (λargs rows=>Qry (Q02.of (aC args 0)) (argR .apiEntry args 1) (argI args 2)) (λX=> .tup [.agg (Q02.cellsW (X.1) (.all 0) (.sl 4 (.recs .apiEntry X.1.B4) true)), .bool (X.2)]) (λX=>[⟨false,25,1, .ints .u32 (X.1).A0.Mem⟩])
theorem Qrs:Q06 pG Zbi:=Q0p drawn Q0k (.cons Qc3 (.cons Qww (.cons Qbi (.cons Z56 (.nil))))) Tryz.func63 Tryz.call63 (λargs rows=>Q89 (Q02.of (aC args 0)) (argR .apiEntry args 1) (argI args 2)) [.row 25 1 (.ints .u32), .sl (.recs .apiEntry) true] Z04 3
end
noncomputable section
def Qgq:Q0d:=⟨156,[true],false,λargs rows=>match args,rows with|[.ptr r i o, .int .u64 n],[⟨true,ty,sz, .gen [e]⟩]=>(match Nat.beq r 0&&(Nat.beq i 0&&(Nat.beq o 49&&e.all D.stayB)) with|true=> .abs Unit () (λ_=> .clo 216 [.ptr 1 0 0, .ptr 2 0 0]) (λ_=>[⟨true,ty,sz, .gen [e]⟩,⟨true,219,1, .gen [[.ptr 0 0 49]]⟩,⟨true,41,1, .gen [[.int .u64 n]]⟩])|false=> .no)|_,_=> .no,none,false⟩
theorem Qu:Q06 pG Qgq:=by
  refine⟨λ_=>Tryz.call156,λ_=>by decide,λ_ args rows r r' hm=> ?_,λ_ args rows p r r' hm=> ?_,λ_ args rows α v res rows' hm=> ?_,λ_ args rows p α v res rows' hm=> ?_,λk hk=>(by cases hk),λk hk=>(by cases hk)⟩
  . simp only[Qgq]at hm;split at hm<;>(try split at hm)<;>cases hm
  . simp only[Qgq]at hm;split at hm<;>(try split at hm)<;>cases hm
  . simp only[Qgq]at hm
    split at hm
    . rename_i r i o n ty sz e
      split at hm
      . rename_i hc
        cases hm
        simp only[aE]at hc
        obtain⟨h1,h2,h3,he⟩:=hc
        have h1:=bE h1;have h2:=bE h2;have h3:=bE h3
        subst h1;subst h2;subst h3
        refine⟨?_,λh=>by cases h⟩
        have e1: ∀Q0:D->GD.Rows->Prop,(fnVC tab [] (λ_ _ _=>False) Tryz.f156 [.ptr 0 0 49, .int .u64 n] [⟨true,ty,sz, .gen [e]⟩] λd R=>Q0 d R)=Q0 (.clo 216 [.ptr 1 0 0, .ptr 2 0 0]) [some ⟨true,ty,sz, .gen [e]⟩,some ⟨true,219,1, .gen [[.ptr 0 0 49]]⟩,some ⟨true,41,1, .gen [[.int .u64 n]]⟩]:=λ_=>by kernel_rfl
        refine vZ drawn Q0k Q7a.nil Tryz.func156 (rf:=none) (L:=λ_ _ _=>False) (λ_ _=>trivial) (λ_ _ _ _ h=>h.elim) (Q0:=λd R=>d= .clo 216 [.ptr 1 0 0, .ptr 2 0 0]/\R=[some ⟨true,ty,sz, .gen [e]⟩,some ⟨true,219,1, .gen [[.ptr 0 0 49]]⟩,some ⟨true,41,1, .gen [[.int .u64 n]]⟩]) (λd R h=> ?_) ((e1 _).symm▸⟨rfl,rfl⟩)
        obtain⟨rfl,rfl⟩:=h
        refine⟨[0,1,2],rfl,?_,?_⟩
        . simp [retD,retV,retC,cand,capX,inEx]
        . simp [Q3o,Z4p,retC,cand,inEx,Z8o he]
      . cases hm
    . cases hm
  . simp only[Qgq]at hm;split at hm<;>(try split at hm)<;>cases hm
def Q4d(p0:Q0a)(fr0:Q02):Tree (Bool×Q02):=
.an (Qas fr0.A0 p0) (.lv (Q6u fr0.A0 p0) λ(x0:Q00×Bool)=> .lf (true,{A0:=x0.1,B4:=fr0.B4,C7:=fr0.C7,A3:=fr0.A3}))
def Qih(p0:Q0a)(fr0:Q02):(Bool×Q02):=(Q4d p0 fr0).m
abbrev Qef(p0:Q0a)(fr0:Q02):Prop:=(Q4d p0 fr0).p
def Qod:Q0d:=mkKP 1 1000000068 [false,true] [.agg Q0a.sig, .ptr 0] [.box 106 52 Q02.sig] (λargs rows=>Qef (Q0a.of (aC args 0)) (Q02.of (rows.getD 0 default).cs)) (λargs rows=>Qih (Q0a.of (aC args 0)) (Q02.of (rows.getD 0 default).cs)) (λX=> .bool (X.1)) (λX=>[⟨true,106,52, .gen [(Q02.cellsW (X.2) (.all 1) (.sl 4 (.recs .apiEntry X.2.B4) false))]⟩,⟨false,25,1, .ints .u32 (X.2).A0.Mem⟩])
theorem Qo:Q06 pG Qod:=Zmy none (λ_ _=>trivial) drawn Q0k (.cons Qc3 (.cons Qbm (.cons Qu (.cons Qh4 (.cons Qji (.cons Qp1 (.cons Qoj (.nil)))))))) (Tryz.func1000000068 ⟨λ_ _=>by kernel_rfl,rfl⟩) (λh=>absurd h (by decide)) (λargs rows=>Q4d (Q0a.of (aC args 0)) (Q02.of (rows.getD 0 default).cs)) [.row 25 1 (.ints .u32), .sl (.recs .apiEntry) false] [] 2 (λ_ _ _=>by kernel_rfl) (λ_ _=>rfl) (λ_ _ h=>h)
def Qkd(p:Q02)(fr1:Int)(z:Q02):Nat:=z.B4.length
def Q74(p:Q02)(fr1:Int):Tree (Q02×Int):=
.lp inferInstance (Qkd p fr1 p+1) ((True/\rZ/\rZ/\True)/\(mE p.A0 (((Els.Nil (Els.ints u32 p.A0.Mem)\/rE (1:Nat))/\rE p.A0.Mem)) (((Els.Nil (Els.recs RK.apiEntry p.B4)\/rE (4:Nat))/\rE p.B4)/\rE p.C7/\rE p.A3/\True))/\(True/\True)/\(rE (fr1:Int)/\True)/\True) p λ(v0:Q02)=> .br (decide ((v0.B4.length:Int)>(0:Int))) (let E1:=Nat.beq 4 4&&Nat.blt 0 4&&decide ((0:Int)<=(0:Int)/\0<(v0.B4.length:Int)); .cn E1 (let E2:=v0.B4.getD (Int.toNat 0) (RK.dflt RK.apiEntry); .br (decide (E2.At<=fr1)) (.cn E1 (.br (E2.C5.B6 !=1) (.cn E1 (.cn (Nat.beq 4 4&&Nat.blt 0 4&&decide ((0:Int)<=(1:Int)/\1<=(v0.B4.length:Int)/\(v0.B4.length:Int)<=(v0.B4.length:Int))) (let E3:=Int.toNat (v0.B4.length:Int)-Int.toNat 1; .an (Qef E2.C5 {A0:=v0.A0,B4:=List.take E3 (List.drop (Int.toNat 1) v0.B4),C7:=v0.C7,A3:=v0.A3}) (.lv (Qih E2.C5 {A0:=v0.A0,B4:=List.take E3 (List.drop (Int.toNat 1) v0.B4),C7:=v0.C7,A3:=v0.A3}) λ(x0:Bool×Q02)=> .br (!x0.1) (.lf (Sum.inr (x0.2,fr1))) (.nx ((True/\rZ/\rZ/\True)/\(mE x0.2.A0 (rE x0.2.A0.Mem) (((Els.Nil (Els.recs RK.apiEntry x0.2.B4)\/rE (4:Nat))/\rE x0.2.B4)/\rE x0.2.C7/\rE x0.2.A3/\True))/\(True/\True)/\(rE (fr1:Int)/\True)/\True) (Sum.inl x0.2)))))) (.lf (Sum.inr (v0,fr1))))) (.lf (Sum.inr (v0,fr1))))) (.lf (Sum.inr (v0,fr1)))
def Qza(p:Q02)(fr1:Int):(Q02×Int):=(Q74 p fr1).m
abbrev Qh9(p:Q02)(fr1:Int):Prop:=(Q74 p fr1).p
def Z2x:LInv:={
 α:=Q02
 F:=λst a=>([(0, .clo 1000000068 [.ptr 0 0 0]),(1, .ptr 1 0 0),(2, .ptr 2 0 0)],[⟨true,106,52, .gen [[.int u32 a.A0.B2.X.a0, .int u32 a.A0.B2.X.a1, .int u32 a.A0.B2.X.a2, .int u32 a.A0.B2.X.a3, .int u32 a.A0.B2.X.a4, .int u32 a.A0.B2.X.a5, .int u32 a.A0.B2.X.a6, .int u32 a.A0.B2.X.a7, .int u32 a.A0.B2.X.a8, .int u32 a.A0.B2.X.a9, .int u32 a.A0.B2.X.a10, .int u32 a.A0.B2.X.a11, .int u32 a.A0.B2.X.a12, .int u32 a.A0.B2.X.a13, .int u32 a.A0.B2.X.a14, .int u32 a.A0.B2.X.a15, .int u32 a.A0.B2.Pc, .int u32 a.A0.B2.B5.a0, .int u32 a.A0.B2.B5.a1, .int u32 a.A0.B2.B5.a2, .int u32 a.A0.B2.B5.a3, .int u32 a.A0.B2.B5.a4, .int u32 a.A0.B2.B5.a5, .int u32 a.A0.B2.B5.a6, .int u32 a.A0.B2.B5.a7, .sl 1 (.ints u32 a.A0.Mem) false, .str a.A0.A4.D3, .bool a.A0.B0.D2, .int u32 a.A0.B0.C9, .bool a.A0.B0.D5, .int u32 a.A0.B1.Blocks, .int u32 a.A0.B1.C0, .int u32 a.A0.B1.Frame, .int i64 a.A0.B1.C1, .int i64 a.A0.B1.D8, .int u32 a.A0.B1.B7, .int u32 a.A0.B1.B3, .str a.A0.B1.C3, .int u32 a.A0.C4.Frame, .int u32 a.A0.C4.E0, .bool a.A0.C4.C6, .int u32 a.A0.C4.B9, .bool a.A0.C4.B8, .int u32 a.A0.C4.F1, .int u32 a.A0.A2.D0, .int u32 a.A0.A2.C2, .int u64 a.A0.A1, .bool a.A0.A7, .bool a.A0.A9, .sl 4 (.recs RK.apiEntry a.B4) false, .int u64 a.C7, .int u32 a.A3]]⟩,⟨true,219,1, .gen [[.ptr 0 0 49]]⟩,⟨true,41,1, .gen [[(Q0u st.rows 2 0)]]⟩])
 a0:=λst=>(⟨(⟨(⟨(⟨(Q0u st.rows 0 0).toInt,(Q0u st.rows 0 1).toInt,(Q0u st.rows 0 2).toInt,(Q0u st.rows 0 3).toInt,(Q0u st.rows 0 4).toInt,(Q0u st.rows 0 5).toInt,(Q0u st.rows 0 6).toInt,(Q0u st.rows 0 7).toInt,(Q0u st.rows 0 8).toInt,(Q0u st.rows 0 9).toInt,(Q0u st.rows 0 10).toInt,(Q0u st.rows 0 11).toInt,(Q0u st.rows 0 12).toInt,(Q0u st.rows 0 13).toInt,(Q0u st.rows 0 14).toInt,(Q0u st.rows 0 15).toInt⟩:(A16 Int)),(Q0u st.rows 0 16).toInt,(⟨(Q0u st.rows 0 17).toInt,(Q0u st.rows 0 18).toInt,(Q0u st.rows 0 19).toInt,(Q0u st.rows 0 20).toInt,(Q0u st.rows 0 21).toInt,(Q0u st.rows 0 22).toInt,(Q0u st.rows 0 23).toInt,(Q0u st.rows 0 24).toInt⟩:(A8 Int))⟩:Q05),(frzI u32 st.rows (Q0u st.rows 0 25)),(⟨(Q0u st.rows 0 26).toStr⟩:Q0c),(⟨(Q0u st.rows 0 27).toBool,(Q0u st.rows 0 28).toInt,(Q0u st.rows 0 29).toBool⟩:Q0i),(⟨(Q0u st.rows 0 30).toInt,(Q0u st.rows 0 31).toInt,(Q0u st.rows 0 32).toInt,(Q0u st.rows 0 33).toInt,(Q0u st.rows 0 34).toInt,(Q0u st.rows 0 35).toInt,(Q0u st.rows 0 36).toInt,(Q0u st.rows 0 37).toStr⟩:Q0f),(⟨(Q0u st.rows 0 38).toInt,(Q0u st.rows 0 39).toInt,(Q0u st.rows 0 40).toBool,(Q0u st.rows 0 41).toInt,(Q0u st.rows 0 42).toBool,(Q0u st.rows 0 43).toInt⟩:Q0r),(⟨(Q0u st.rows 0 44).toInt,(Q0u st.rows 0 45).toInt⟩:Q09),(Q0u st.rows 0 46).toInt,(Q0u st.rows 0 47).toBool,(Q0u st.rows 0 48).toBool⟩:Q00),(slR RK.apiEntry (Q0u st.rows 0 49)),(Q0u st.rows 0 50).toInt,(Q0u st.rows 0 51).toInt⟩:Q02)
 ex0:=λst=>[0,1,2]++[]}
def Qwb:List (Nat×LInv):=[(0,Z2x)]
def Z7f:Q0d:=mkKP 3 216 [true,true,true] [.clo 1000000068 [.ptr 0 0 0], .ptr 1, .ptr 2] [.box 106 52 Q02.sig, .box 219 1 [.pt 0 0 49], .box 41 1 [.int .u64]] (λargs rows=>Qh9 (Q02.of (rows.getD 0 default).cs) (rcell rows 2 0).toInt) (λargs rows=>Qza (Q02.of (rows.getD 0 default).cs) (rcell rows 2 0).toInt) (λX=> .tup []) (λX=>[⟨true,106,52, .gen [(Q02.cells (X.1))]⟩,⟨true,219,1, .gen [[.ptr 0 0 49]]⟩,⟨true,41,1, .gen [[.int .u64 X.2]]⟩])
theorem Z2d:Q06 pG Z7f:=yz drawn Q0k (.cons Qo (.nil)) Tryz.func216 Tryz.call216 (λargs rows=>Q74 (Q02.of (rows.getD 0 default).cs) (rcell rows 2 0).toInt) [.sl (.ints .u32) false, .sl (.recs .apiEntry) false] Qwb 3 (λ_ _ _=>by kernel_rfl) (λ_ _=>rfl) (λ_ _ h=>h)
def Q7i(p:Q02)(steps:Int)(z:(Int)×Q02×(List Q04)):Nat:=(4000-z.1).toNat
def Q53(p:Q02)(steps:Int):Tree (Q02×(List Q04)):=
.an (Q7v p) (.lv (Qht p) λ(x0:Q02)=> .an (Q47 x0.A0) (.lv (Q1f x0.A0) λ(x1:Bool)=> .br (!x1) (.lf (x0,[])) (.lp inferInstance (Q7i p steps (0,x0,[])+1) ((rZ/\rZ/\True/\rE ((if 4000<if 0>steps then 0 else steps then 4000 else if 0>steps then 0 else steps):Int)/\rE (0:Int)/\True)/\(mE x0.A0 (rE x0.A0.Mem) (((Els.Nil (Els.recs RK.apiEntry x0.B4)\/rE (4:Nat))/\rE x0.B4)/\rE x0.C7/\rE x0.A3/\True))/\(mE zM True (True/\rE (0:Int)/\rE (0:Int)/\True))/\rE ([]:List (RK.T RK.apiOutput))/\True) (0,x0,[]) λ(v0:Int×Q02×List Q04)=> .br (decide (v0.1<if 4000<if 0>steps then 0 else steps then 4000 else if 0>steps then 0 else steps)) (.br (decide (v0.2.1.A0.A1>=v0.2.1.C7)) (.lf (Sum.inr (v0.2.1,v0.2.2))) (.lv () λ(x2:Unit)=> .an (Qh9 v0.2.1 v0.2.1.A0.A1) (.lv (Qza v0.2.1 v0.2.1.A0.A1) λ(x3:Q02×Int)=> .br x3.1.A0.A9 (.lf (Sum.inr (x3.1,v0.2.2))) (.an (Q8k x3.1.A0) (.lv (Q4a x3.1.A0) λ(x4:Bool)=> .br x4 (.lf (Sum.inr (x3.1,v0.2.2))) (.br (x3.1.A0.A1==1152921504606846976) (.lf (Sum.inr (x3.1,v0.2.2))) (.an (Qh1 x3.1) (.lv (Qya x3.1) λ(x5:Int×Bool×Bool)=> .br (!x5.2.2) (.lf (Sum.inr (x3.1,v0.2.2))) (.br x5.2.1 (.cn (Nat.beq 4 4&&Nat.blt 0 4&&decide ((0:Int)<=(1:Int)/\1<=(x3.1.B4.length:Int)/\(x3.1.B4.length:Int)<=(x3.1.B4.length:Int))) (.an (Q6f x3.1.A0 x5.1) (.lv (Q3m x3.1.A0 x5.1) λ(x6:Q00×List Q04)=> .cn (decide (40*(v0.2.2.length+x6.2.length)<=140737488355328)) (.nx ((rZ/\rZ/\True/\rE ((if 4000<if 0>steps then 0 else steps then 4000 else if 0>steps then 0 else steps):Int)/\rE ((wrap i64 (v0.1+1)):Int)/\True)/\(mE x6.1 (((Els.Nil (Els.ints u32 x6.1.Mem)\/rE (1:Nat))/\rE x6.1.Mem)) (((Els.Nil (Els.take (Els.drop (Els.recs RK.apiEntry x3.1.B4) (Int.toNat 1)) (Int.toNat (↑(Els.len (Els.recs RK.apiEntry x3.1.B4)):Int)-Int.toNat 1))\/rE (4:Nat))/\rE ((List.take (Int.toNat (x3.1.B4.length:Int)-Int.toNat 1) (List.drop (Int.toNat 1) x3.1.B4)):List (RK.T RK.apiEntry)))/\rE x3.1.C7/\rE ((wrap u32 (x5.1+1)):Int)/\True))/\(mE zM True (True/\rE (0:Int)/\rE (0:Int)/\True))/\rE ((v0.2.2++x6.2):List (RK.T RK.apiOutput))/\True) (Sum.inl (wrap i64 (v0.1+1),{A0:=x6.1,B4:=List.take (Int.toNat (x3.1.B4.length:Int)-Int.toNat 1) (List.drop (Int.toNat 1) x3.1.B4),C7:=x3.1.C7,A3:=wrap u32 (x5.1+1)},v0.2.2++x6.2)))))) (.an (Q6f x3.1.A0 x5.1) (.lv (Q3m x3.1.A0 x5.1) λ(x7:Q00×List Q04)=> .cn (decide (40*(v0.2.2.length+x7.2.length)<=140737488355328)) (.nx ((rZ/\rZ/\True/\rE ((if 4000<if 0>steps then 0 else steps then 4000 else if 0>steps then 0 else steps):Int)/\rE ((wrap i64 (v0.1+1)):Int)/\True)/\(mE x7.1 (((Els.Nil (Els.ints u32 x7.1.Mem)\/rE (1:Nat))/\rE x7.1.Mem)) (((Els.Nil (Els.recs RK.apiEntry x3.1.B4)\/rE (4:Nat))/\rE x3.1.B4)/\rE x3.1.C7/\rE x3.1.A3/\True))/\(mE zM True (True/\rE (0:Int)/\rE (0:Int)/\True))/\rE ((v0.2.2++x7.2):List (RK.T RK.apiOutput))/\True) (Sum.inl (wrap i64 (v0.1+1),{A0:=x7.1,B4:=x3.1.B4,C7:=x3.1.C7,A3:=x3.1.A3},v0.2.2++x7.2)))))))))))))) (.lf (Sum.inr (v0.2.1,v0.2.2))))))
def Qbw(p:Q02)(steps:Int):(Q02×(List Q04)):=(Q53 p steps).m
abbrev Q4q(p:Q02)(steps:Int):Prop:=(Q53 p steps).p
def Qvz:LInv:={
 α:=(Int)×Q02×(List Q04)
 F:=λst a=>([(2, .ptr 0 0 0),(4, .ptr 1 0 0),(6, .all 2),(21,(lk st 21)),(22, .int i64 a.1)],[⟨true,106,52, .gen [[.int u32 a.2.1.A0.B2.X.a0, .int u32 a.2.1.A0.B2.X.a1, .int u32 a.2.1.A0.B2.X.a2, .int u32 a.2.1.A0.B2.X.a3, .int u32 a.2.1.A0.B2.X.a4, .int u32 a.2.1.A0.B2.X.a5, .int u32 a.2.1.A0.B2.X.a6, .int u32 a.2.1.A0.B2.X.a7, .int u32 a.2.1.A0.B2.X.a8, .int u32 a.2.1.A0.B2.X.a9, .int u32 a.2.1.A0.B2.X.a10, .int u32 a.2.1.A0.B2.X.a11, .int u32 a.2.1.A0.B2.X.a12, .int u32 a.2.1.A0.B2.X.a13, .int u32 a.2.1.A0.B2.X.a14, .int u32 a.2.1.A0.B2.X.a15, .int u32 a.2.1.A0.B2.Pc, .int u32 a.2.1.A0.B2.B5.a0, .int u32 a.2.1.A0.B2.B5.a1, .int u32 a.2.1.A0.B2.B5.a2, .int u32 a.2.1.A0.B2.B5.a3, .int u32 a.2.1.A0.B2.B5.a4, .int u32 a.2.1.A0.B2.B5.a5, .int u32 a.2.1.A0.B2.B5.a6, .int u32 a.2.1.A0.B2.B5.a7, .sl 1 (.ints u32 a.2.1.A0.Mem) false, .str a.2.1.A0.A4.D3, .bool a.2.1.A0.B0.D2, .int u32 a.2.1.A0.B0.C9, .bool a.2.1.A0.B0.D5, .int u32 a.2.1.A0.B1.Blocks, .int u32 a.2.1.A0.B1.C0, .int u32 a.2.1.A0.B1.Frame, .int i64 a.2.1.A0.B1.C1, .int i64 a.2.1.A0.B1.D8, .int u32 a.2.1.A0.B1.B7, .int u32 a.2.1.A0.B1.B3, .str a.2.1.A0.B1.C3, .int u32 a.2.1.A0.C4.Frame, .int u32 a.2.1.A0.C4.E0, .bool a.2.1.A0.C4.C6, .int u32 a.2.1.A0.C4.B9, .bool a.2.1.A0.C4.B8, .int u32 a.2.1.A0.C4.F1, .int u32 a.2.1.A0.A2.D0, .int u32 a.2.1.A0.A2.C2, .int u64 a.2.1.A0.A1, .bool a.2.1.A0.A7, .bool a.2.1.A0.A9, .sl 4 (.recs RK.apiEntry a.2.1.B4) false, .int u64 a.2.1.C7, .int u32 a.2.1.A3]]⟩,⟨true,106,52, .gen [[(cT st 4 0),(cT st 4 1),(cT st 4 2),(cT st 4 3),(cT st 4 4),(cT st 4 5),(cT st 4 6),(cT st 4 7),(cT st 4 8),(cT st 4 9),(cT st 4 10),(cT st 4 11),(cT st 4 12),(cT st 4 13),(cT st 4 14),(cT st 4 15),(cT st 4 16),(cT st 4 17),(cT st 4 18),(cT st 4 19),(cT st 4 20),(cT st 4 21),(cT st 4 22),(cT st 4 23),(cT st 4 24),(cT st 4 25),(cT st 4 26),(cT st 4 27),(cT st 4 28),(cT st 4 29),(cT st 4 30),(cT st 4 31),(cT st 4 32),(cT st 4 33),(cT st 4 34),(cT st 4 35),(cT st 4 36),(cT st 4 37),(cT st 4 38),(cT st 4 39),(cT st 4 40),(cT st 4 41),(cT st 4 42),(cT st 4 43),(cT st 4 44),(cT st 4 45),(cT st 4 46),(cT st 4 47),(cT st 4 48),(cT st 4 49),(cT st 4 50),(cT st 4 51)]]⟩,⟨false,71,4, .recs RK.apiOutput a.2.2⟩])
 a0:=λst=>((lk st 22).toInt,(⟨(mR (cT st 2) (frzI u32 st.rows (cT st 2 25))),(slR RK.apiEntry (cT st 2 49)),(cT st 2 50).toInt,(cT st 2 51).toInt⟩:Q02),(Q5e RK.apiOutput st.rows (rN st 6)))
 ex0:=λst=>[]++[(rX st 2 0),(rX st 4 1),(rX st 6 2)]}
def Qsx:List (Nat×LInv):=[(6,Qvz)]
def Z00:Q0d:=Q0d.fz<|mkP 68 [] false [.agg Q02.sig, .one (.int .i64)] [] (λargs rows=>Q4q (Q02.of (aC args 0)) (argI args 1)) (λargs rows=>Qbw (Q02.of (aC args 0)) (argI args 1)) (λX=> .tup [.agg (Q02.cells (X.1)), .all 0]) (λX=>[⟨false,71,4, .recs .apiOutput (X.2)⟩])
theorem Qll:Q06 pG Z00:=Zov<|xz (some 1000000068) (rf_of (by kernel_rfl) rfl) drawn Q0k (.cons Qc3 (.cons Qbm (.cons Qu (.cons Qh4 (.cons Qji (.cons Qp1 (.cons Qoj (.cons Z2d (.nil))))))))) Tryz.func68 Tryz.call68 (λargs rows=>Q53 (Q02.of (aC args 0)) (argI args 1)) [.sl (.ints .u32) false, .sl (.recs .apiEntry) false, .row 71 4 (.recs .apiOutput)] Qsx 3 (λ_ _ _=>by kernel_rfl) (λ_ _=>rfl) (λ_ _ h=>h) (λh=>by cases h)
end
noncomputable section
def Qe8:Tree Bool:=
.an (Q9n 1 0 []) (.lv (Q1y 1 0 []) λ(x0:Q00×Bool)=> .an (Qfq x0.1) (.lv (Qwy x0.1) λ(x1:Q02)=> .an (Qdx x1 [] 3) (.lv (Qry x1 [] 3) λ(x2:Q02×Bool)=> .an (Q4q x2.1 10) (.lv (Qbw x2.1 10) λ(x3:Q02×List Q04)=> .an (Qay x3.1) (.lv (Qms x3.1) λ(x4:Q01×Bool)=> .an (Qay x2.1) (.lv (Qms x2.1) λ(x5:Q01×Bool)=> .br x2.2 (.lv (Qvy x2.1) λ(x6:Int)=> .br (x6==3) (.br (x3.1.A0.A1==3) (.br ((x3.2.length:Int)==(0:Int)) (.lv (Qvy x3.1) λ(x7:Int)=> .br (x7==0) (.br x4.2 (.lf (!x5.2)) (.lf false)) (.lf false)) (.lf false)) (.lf false)) (.lf false)) (.lf false)))))))
def Q79:Bool:=(Qe8).m
abbrev Q2x:Prop:=(Qe8).p
def Zcg:Q0d:=mkP 60 [] true [] [] (λargs rows=>Q2x) (λargs rows=>Q79) (λX=> .bool X) (λX=>[])
theorem Z5y:Q06 pG Zcg:=Q0p drawn Q0k (.cons Z1x (.cons Qrs (.cons Qtv (.cons Qll (.cons Z0l (.cons Zae (.nil))))))) Tryz.func60 Tryz.call60 (λargs rows=>Qe8) [] [] 2
end
noncomputable section
def Q7g(kind:Int)(l:(List Int))(acts:(List Int))(one:Int)(two:Int):Tree Bool:=
.lv (Qul l acts) λ(x0:Bool)=> .br (!x0) (.an Q2x (.lv Q79 λ(x1:Bool)=> .lf x1)) (.br (decide (one<0)) (.an Q2x (.lv Q79 λ(x2:Bool)=> .lf x2)) (.br (decide (one>200)) (.an Q2x (.lv Q79 λ(x3:Bool)=> .lf x3)) (.br (decide (two<0)) (.an Q2x (.lv Q79 λ(x4:Bool)=> .lf x4)) (.br (decide (two>200)) (.an Q2x (.lv Q79 λ(x5:Bool)=> .lf x5)) (.an (Qns kind l) (.lv (Qk5 kind l) λ(x6:Q00)=> .an (Qv9 x6 acts) (.lv (Z2y x6 acts) λ(x7:Q01×List Q04)=> .an (Qfq x6) (.lv (Qwy x6) λ(x8:Q02)=> .an (Qdx x8 x7.1.B4 x7.1.A0.A1) (.lv (Qry x8 x7.1.B4 x7.1.A0.A1) λ(x9:Q02×Bool)=> .an (Q4q x9.1 one) (.lv (Qbw x9.1 one) λ(x10:Q02×List Q04)=> .an (Q4q x10.1 two) (.lv (Qbw x10.1 two) λ(x11:Q02×List Q04)=> .an (Q4q x9.1 (wrap i64 (one+two))) (.lv (Qbw x9.1 (wrap i64 (one+two))) λ(x12:Q02×List Q04)=> .br x9.2 (.an (Qel x11.1 x12.1) (.lv (Qk7 x11.1 x12.1) λ(x13:Bool)=> .br x13 (.cn (decide (40*(0+x10.2.length)<=140737488355328)) (.cn (decide (40*(x10.2.length+x11.2.length)<=140737488355328)) (.an (Q7h (x10.2++x11.2) x12.2) (.lv (Qc0 (x10.2++x11.2) x12.2) λ(x14:Bool)=> .br x14 (.an Q2x (.lv Q79 λ(x15:Bool)=> .lf x15)) (.lf false))))) (.lf false))) (.lf false)))))))))))))
def Qec(kind:Int)(l:(List Int))(acts:(List Int))(one:Int)(two:Int):Bool:=(Q7g kind l acts one two).m
abbrev Qen(kind:Int)(l:(List Int))(acts:(List Int))(one:Int)(two:Int):Prop:=(Q7g kind l acts one two).p
def Qqt:Q0d:=mkP 9 [] true [.one (.int .i64), .one (.ints .i64), .one (.ints .i64), .one (.int .i64), .one (.int .i64)] [] (λargs rows=>Qen (argI args 0) (argL .i64 args 1) (argL .i64 args 2) (argI args 3) (argI args 4)) (λargs rows=>Qec (argI args 0) (argL .i64 args 1) (argL .i64 args 2) (argI args 3) (argI args 4)) (λX=> .bool X) (λX=>[])
theorem Qog:Q06 pG Qqt:=Q0p drawn Q0k (.cons Zk5 (.cons Z5y (.cons Z33 (.cons Zee (.cons Qrs (.cons Qtv (.cons Qll (.cons Qpk (.cons Qso (.nil)))))))))) Tryz.func9 Tryz.call9 (λargs rows=>Q7g (argI args 0) (argL .i64 args 1) (argL .i64 args 2) (argI args 3) (argI args 4)) [] [] 2

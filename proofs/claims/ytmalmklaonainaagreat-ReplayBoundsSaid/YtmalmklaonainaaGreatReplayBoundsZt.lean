import Derived.Test.YtmalmklaonainaaGreatReplayBoundsZd
import Derived.Test.YtmalmklaonainaaGreatReplayBoundsZx
open Nat renaming beq->bS, blt->bT, lt_succ_self->cK
open List renaming getD->aK, length->dH, append->cO, take->cY, drop->cZ
open Int renaming toNat->dC, tmod->dB
set_option maxRecDepth 100000
set_option linter.all false
namespace Go.Proofs.YtmalmklaonainaaGreat
open Go Go.GD Go.IntKind
noncomputable section
instance sumInhZi {α β:Type} [Inhabited β]:Inhabited (α⊕β):=⟨.inr default⟩
def Qs0(src:List UInt8)(z:(Int)×(List Int)):Nat:=((Z4h src).2.1.length-z.1).toNat
def Qs2(src:List UInt8)(v0:Int×List Int)(z:(Int)×(List Int)):Nat:=(1024-z.1).toNat
def Q9v(src:List UInt8):Tree ((List Int)×Q1k):=
.an (Qm5 src) (.lv (Z4h src) λ(x0:List Q26×List Q0b×Q1k)=> .br (x0.2.2.Err !=0) (.lf ([],x0.2.2)) (.lp inferInstance (Qs0 src (0,[])+1) ((True/\rZ/\True/\True/\True/\rE (0:Int)/\True)/\(rE (0:Int)/\rE (0:Int)/\True)/\rE x0.1/\rE x0.2.1/\rE ([]:List Int)/\True) (0,[]) λ(v0:Int×List Int)=> .br (decide (v0.1<(x0.2.1.length:Int))) (.cn (bS 6 6&&bT 0 6&&decide (0<=v0.1/\v0.1<(x0.2.1.length:Int))) (let E4:=x0.2.1.getD v0.1.toNat (RK.dflt RK.vmfleetref1Statement);let T1:Tree ((Int×List Int)⊕(((List Int)×Q1k))):= .lp inferInstance (Qs2 src v0 (0,v0.2)+1) ((True/\rZ/\True/\True/\True/\rE v0.1/\rZ/\rE (0:Int)/\True)/\(rE (0:Int)/\rE (0:Int)/\True)/\rE x0.1/\rE x0.2.1/\(rE ((x0.2.1.getD v0.1.toNat (RK.dflt RK.vmfleetref1Statement)).what:List UInt8)/\rE ((x0.2.1.getD v0.1.toNat (RK.dflt RK.vmfleetref1Statement)).op:Int)/\((Els.Nil (D.toEs (aK (Els.get (Els.recs RK.vmfleetref1Statement x0.2.1) v0.1.toNat) ((0:Nat)+(1:Nat)+(1:Nat)) D.dead))\/rE (3:Nat))/\rE ((x0.2.1.getD v0.1.toNat (RK.dflt RK.vmfleetref1Statement)).l:List (RK.T RK.vmfleetref1Arg)))/\rE ((x0.2.1.getD v0.1.toNat (RK.dflt RK.vmfleetref1Statement)).D7:Int)/\rE ((x0.2.1.getD v0.1.toNat (RK.dflt RK.vmfleetref1Statement)).at_:Int)/\rE ((x0.2.1.getD v0.1.toNat (RK.dflt RK.vmfleetref1Statement)).size:Int)/\True)/\rE v0.2/\True) (0,v0.2) λ(v1:Int×List Int)=> .br (decide (v1.1<E4.size)) (.cn (decide (4*(v1.2.length+1)<=140737488355328)) (.nx ((True/\rZ/\True/\True/\True/\rE v0.1/\rZ/\rE ((wrap i64 (v1.1+1)):Int)/\True)/\(rE (0:Int)/\rE (0:Int)/\True)/\rE x0.1/\rE x0.2.1/\(rE ((x0.2.1.getD v0.1.toNat (RK.dflt RK.vmfleetref1Statement)).what:List UInt8)/\rE ((x0.2.1.getD v0.1.toNat (RK.dflt RK.vmfleetref1Statement)).op:Int)/\((Els.Nil (Els.recs RK.vmfleetref1Arg (x0.2.1.getD v0.1.toNat (RK.dflt RK.vmfleetref1Statement)).l)\/rE (3:Nat))/\rE ((x0.2.1.getD v0.1.toNat (RK.dflt RK.vmfleetref1Statement)).l:List (RK.T RK.vmfleetref1Arg)))/\rE ((x0.2.1.getD v0.1.toNat (RK.dflt RK.vmfleetref1Statement)).D7:Int)/\rE ((x0.2.1.getD v0.1.toNat (RK.dflt RK.vmfleetref1Statement)).at_:Int)/\rE ((x0.2.1.getD v0.1.toNat (RK.dflt RK.vmfleetref1Statement)).size:Int)/\True)/\rE ((v1.2++[0]):List Int)/\True) (Sum.inl (wrap i64 (v1.1+1),v1.2++[0])))) (.nx ((True/\rZ/\True/\True/\True/\rE ((wrap i64 (v0.1+1)):Int)/\True)/\(rE (0:Int)/\rE (0:Int)/\True)/\rE x0.1/\rE x0.2.1/\rE v1.2/\True) (Sum.inr (Sum.inl (wrap i64 (v0.1+1),v1.2))));let E5:=bS 3 3&&bT 0 3&&decide ((0:Int)<=(0:Int)/\0<(↑(dH E4.l):Int));let E7:=aK E4.l (dC 0) (RK.dflt RK.vmfleetref1Arg);let E8:=decide (4*(v0.2.length+1)<=140737488355328);let T2:Tree ((Int×List Int)⊕(((List Int)×Q1k))):= .cn E5 (.cn (bS 3 3&&bT 0 3&&decide ((0:Int)<=(1:Int)/\1<(↑(dH E4.l):Int))) (.lv (Q1n {Op:=16,A:=E7.reg,B:=(aK E4.l (dC 1) (RK.dflt RK.vmfleetref1Arg)).reg,C:=0,Imm:=0}) λ(x4:Int×Bool)=> .cn E8 (.nx ((True/\rZ/\True/\True/\True/\rE ((wrap i64 (v0.1+1)):Int)/\True)/\(rE (0:Int)/\rE (0:Int)/\True)/\rE x0.1/\rE x0.2.1/\rE ((v0.2++[x4.1]):List Int)/\True) (Sum.inl (wrap i64 (v0.1+1),v0.2++[x4.1])))));let T3:Tree ((Int×List Int)⊕(((List Int)×Q1k))):= .lv (Q1n {Op:=16,A:=0,B:=0,C:=0,Imm:=0}) λ(x5:Int×Bool)=> .cn E8 (.nx ((True/\rZ/\True/\True/\True/\rE ((wrap i64 (v0.1+1)):Int)/\True)/\(rE (0:Int)/\rE (0:Int)/\True)/\rE x0.1/\rE x0.2.1/\rE ((v0.2++[x5.1]):List Int)/\True) (Sum.inl (wrap i64 (v0.1+1),v0.2++[x5.1])));let E9:=decide (E4.what=[(46:UInt8),115,112,97,99,101]);let E10:=decide (E4.what=[(46:UInt8),119,111,114,100]);let E12:=decide (E4.what=[(110:UInt8),111,112]);let E13:=decide (4*(v0.2.length+2)<=140737488355328);let E14:=decide (E4.what=[(108:UInt8),105]);let E15:=decide (E4.what=[(109:UInt8),118]); .br (decide ((↑(dH E4.l):Int)>(0:Int))) (.cn (bS 3 3&&bT 0 3&&decide (0<=wrap i64 ((↑(dH E4.l):Int)-(1:Int))/\wrap i64 ((↑(dH E4.l):Int)-(1:Int))<(↑(dH E4.l):Int))) (let E6:=aK E4.l (dC (wrap i64 ((↑(dH E4.l):Int)-(1:Int)))) (RK.dflt RK.vmfleetref1Arg); .br (!decide (E6.label=[])) (.an (Q3m x0.1 E6.label) (.lv (Qov x0.1 E6.label) λ(x1:Int×Bool)=> .br (!x1.2) (.lf (Sum.inr ([],{Err:=302,Line:=E4.D7}))) (.br (decide (E4.op>0)) (let E11:=wrap i64 (wrap i64 (Int.tdiv (wrap i64 x1.1) 4)-E4.at_); .br E10 (.cn E8 (.nx ((True/\rZ/\True/\True/\True/\rE ((wrap i64 (v0.1+1)):Int)/\True)/\(rE (0:Int)/\rE (0:Int)/\True)/\rE x0.1/\rE x0.2.1/\rE ((v0.2++[wrap u32 (wrap i64 (wrap i64 (Int.tdiv (wrap i64 x1.1) 4)-(x0.2.1.getD v0.1.toNat (RK.dflt RK.vmfleetref1Statement)).at_))]):List Int)/\True) (Sum.inl (wrap i64 (v0.1+1),v0.2++[wrap u32 E11])))) (.br E9 T1 (.br E14 (.cn E5 (.lv (Q1n {Op:=24,A:=E7.reg,B:=0,C:=0,Imm:=wrap i32 (ishr u32 (wrap u32 E11) 16)}) λ(x2:Int×Bool)=> .cn E5 (.cn E5 (.lv (Q1n {Op:=18,A:=E7.reg,B:=E7.reg,C:=0,Imm:=wrap i32 (iand u32 (wrap u32 E11) 65535)}) λ(x3:Int×Bool)=> .cn E13 (.nx ((True/\rZ/\True/\True/\True/\rE ((wrap i64 (v0.1+1)):Int)/\True)/\(rE (0:Int)/\rE (0:Int)/\True)/\rE x0.1/\rE x0.2.1/\rE ((v0.2++[x2.1,x3.1]):List Int)/\True) (Sum.inl (wrap i64 (v0.1+1),v0.2++[x2.1,x3.1]))))))) (.br E15 T2 (.br E12 T3 (.an (Qal E4 E11) (.lv (Qof E4 E11) λ(x6:Int×Bool)=> .br (!x6.2) (.lf (Sum.inr ([],{Err:=304,Line:=E4.D7}))) (.cn E8 (.nx ((True/\rZ/\True/\True/\True/\rE ((wrap i64 (v0.1+1)):Int)/\True)/\(rE (0:Int)/\rE (0:Int)/\True)/\rE x0.1/\rE x0.2.1/\rE ((v0.2++[x6.1]):List Int)/\True) (Sum.inl (wrap i64 (v0.1+1),v0.2++[x6.1]))))))))))) (.br E10 (.cn E8 (.nx ((True/\rZ/\True/\True/\True/\rE ((wrap i64 (v0.1+1)):Int)/\True)/\(rE (0:Int)/\rE (0:Int)/\True)/\rE x0.1/\rE x0.2.1/\rE ((v0.2++[wrap u32 (wrap i64 x1.1)]):List Int)/\True) (Sum.inl (wrap i64 (v0.1+1),v0.2++[wrap u32 (wrap i64 x1.1)])))) (.br E9 T1 (.br E14 (.cn E5 (.lv (Q1n {Op:=24,A:=E7.reg,B:=0,C:=0,Imm:=wrap i32 (ishr u32 (wrap u32 (wrap i64 x1.1)) 16)}) λ(x7:Int×Bool)=> .cn E5 (.cn E5 (.lv (Q1n {Op:=18,A:=E7.reg,B:=E7.reg,C:=0,Imm:=wrap i32 (iand u32 (wrap u32 (wrap i64 x1.1)) 65535)}) λ(x8:Int×Bool)=> .cn E13 (.nx ((True/\rZ/\True/\True/\True/\rE ((wrap i64 (v0.1+1)):Int)/\True)/\(rE (0:Int)/\rE (0:Int)/\True)/\rE x0.1/\rE x0.2.1/\rE ((v0.2++[x7.1,x8.1]):List Int)/\True) (Sum.inl (wrap i64 (v0.1+1),v0.2++[x7.1,x8.1]))))))) (.br E15 T2 (.br E12 T3 (.an (Qal E4 (wrap i64 x1.1)) (.lv (Qof E4 (wrap i64 x1.1)) λ(x11:Int×Bool)=> .br (!x11.2) (.lf (Sum.inr ([],{Err:=304,Line:=E4.D7}))) (.cn E8 (.nx ((True/\rZ/\True/\True/\True/\rE ((wrap i64 (v0.1+1)):Int)/\True)/\(rE (0:Int)/\rE (0:Int)/\True)/\rE x0.1/\rE x0.2.1/\rE ((v0.2++[x11.1]):List Int)/\True) (Sum.inl (wrap i64 (v0.1+1),v0.2++[x11.1])))))))))))))) (.br E10 (.cn E8 (.nx ((True/\rZ/\True/\True/\True/\rE ((wrap i64 (v0.1+1)):Int)/\True)/\(rE (0:Int)/\rE (0:Int)/\True)/\rE x0.1/\rE x0.2.1/\rE ((v0.2++[wrap u32 (aK (x0.2.1.getD v0.1.toNat (RK.dflt RK.vmfleetref1Statement)).l (dC (wrap i64 ((↑(dH (x0.2.1.getD v0.1.toNat (RK.dflt RK.vmfleetref1Statement)).l):Int)-(1:Int)))) (RK.dflt RK.vmfleetref1Arg)).num]):List Int)/\True) (Sum.inl (wrap i64 (v0.1+1),v0.2++[wrap u32 E6.num])))) (.br E9 T1 (.br E14 (.cn E5 (.lv (Q1n {Op:=24,A:=E7.reg,B:=0,C:=0,Imm:=wrap i32 (ishr u32 (wrap u32 E6.num) 16)}) λ(x12:Int×Bool)=> .cn E5 (.cn E5 (.lv (Q1n {Op:=18,A:=E7.reg,B:=E7.reg,C:=0,Imm:=wrap i32 (iand u32 (wrap u32 E6.num) 65535)}) λ(x13:Int×Bool)=> .cn E13 (.nx ((True/\rZ/\True/\True/\True/\rE ((wrap i64 (v0.1+1)):Int)/\True)/\(rE (0:Int)/\rE (0:Int)/\True)/\rE x0.1/\rE x0.2.1/\rE ((v0.2++[x12.1,x13.1]):List Int)/\True) (Sum.inl (wrap i64 (v0.1+1),v0.2++[x12.1,x13.1]))))))) (.br E15 T2 (.br E12 T3 (.an (Qal E4 E6.num) (.lv (Qof E4 E6.num) λ(x16:Int×Bool)=> .br (!x16.2) (.lf (Sum.inr ([],{Err:=304,Line:=E4.D7}))) (.cn E8 (.nx ((True/\rZ/\True/\True/\True/\rE ((wrap i64 (v0.1+1)):Int)/\True)/\(rE (0:Int)/\rE (0:Int)/\True)/\rE x0.1/\rE x0.2.1/\rE ((v0.2++[x16.1]):List Int)/\True) (Sum.inl (wrap i64 (v0.1+1),v0.2++[x16.1]))))))))))))) (.br E10 (.cn E8 (.nx ((True/\rZ/\True/\True/\True/\rE ((wrap i64 (v0.1+1)):Int)/\True)/\(rE (0:Int)/\rE (0:Int)/\True)/\rE x0.1/\rE x0.2.1/\rE ((v0.2++[wrap u32 0]):List Int)/\True) (Sum.inl (wrap i64 (v0.1+1),v0.2++[wrap u32 0])))) (.br E9 T1 (.br E14 (.cn E5 (.lv (Q1n {Op:=24,A:=E7.reg,B:=0,C:=0,Imm:=wrap i32 (ishr u32 (wrap u32 0) 16)}) λ(x17:Int×Bool)=> .cn E5 (.cn E5 (.lv (Q1n {Op:=18,A:=E7.reg,B:=E7.reg,C:=0,Imm:=wrap i32 (iand u32 (wrap u32 0) 65535)}) λ(x18:Int×Bool)=> .cn E13 (.nx ((True/\rZ/\True/\True/\True/\rE ((wrap i64 (v0.1+1)):Int)/\True)/\(rE (0:Int)/\rE (0:Int)/\True)/\rE x0.1/\rE x0.2.1/\rE ((v0.2++[x17.1,x18.1]):List Int)/\True) (Sum.inl (wrap i64 (v0.1+1),v0.2++[x17.1,x18.1]))))))) (.br E15 T2 (.br E12 T3 (.an (Qal E4 0) (.lv (Qof E4 0) λ(x21:Int×Bool)=> .br (!x21.2) (.lf (Sum.inr ([],{Err:=304,Line:=E4.D7}))) (.cn E8 (.nx ((True/\rZ/\True/\True/\True/\rE ((wrap i64 (v0.1+1)):Int)/\True)/\(rE (0:Int)/\rE (0:Int)/\True)/\rE x0.1/\rE x0.2.1/\rE ((v0.2++[x21.1]):List Int)/\True) (Sum.inl (wrap i64 (v0.1+1),v0.2++[x21.1]))))))))))))) (.lf (Sum.inr (v0.2,{Err:=0,Line:=0})))))
def Q1j src:=(Q9v src).m
abbrev Qa7 src:=(Q9v src).p
def Qzl:LInv:={
 α:=(Int)×(List Int)
 F:=λst a=>([(2,(lk st 2)),(3, .ptr 0 0 0),(4, .all 1),(5, .all 2),(7, .all 3),(8, .int i64 a.1)],[⟨true,59,2, .gen [[(cT st 3 0),(cT st 3 1)]]⟩,⟨false,257,2,esOf st.rows (rN st 4)⟩,⟨false,181,6,esOf st.rows (rN st 5)⟩,⟨false,25,1, .ints u32 a.2⟩])
 a0:=λst=>((lk st 8).toInt,(Q5e st.rows (rN st 7)))
 ex0:=λst=>[]++[(rX st 3 0),(rX st 4 1),(rX st 5 2),(rX st 7 3)]}
def Z0c:LInv:={
 α:=(Int)×(List Int)
 F:=λst a=>([(2,(lk st 2)),(3, .ptr 0 0 0),(4, .all 1),(5, .all 2),(7, .all 4),(8,(lk st 8)),(9, .ptr 3 0 0),(14, .int i64 a.1)],[⟨true,59,2, .gen [[(cT st 3 0),(cT st 3 1)]]⟩,⟨false,257,2,esOf st.rows (rN st 4)⟩,⟨false,181,6,esOf st.rows (rN st 5)⟩,⟨true,181,6, .gen [[(cT st 9 0),(cT st 9 1),(cT st 9 2),(cT st 9 3),(cT st 9 4),(cT st 9 5)]]⟩,⟨false,25,1, .ints u32 a.2⟩])
 a0:=λst=>((lk st 14).toInt,(Q5e st.rows (rN st 7)))
 ex0:=λst=>[]++[(rX st 3 0),(rX st 4 1),(rX st 5 2),(rX st 9 3),(rX st 7 4)]}
def Quc:List (Nat×LInv):=[(6,Qzl),(29,Z0c)]
def Z4s:Q0d:=mT 36 [] true [.one (.str)] [] (λa r=>Q9v (argS a 0)) (λX=> .tup [.all 0, .agg (Q1k.cells (X.2))]) (λX=>[⟨false,25,1, .ints .u32 (X.1)⟩])
theorem Qzu:Q06 pG Z4s:=oT (.cons Zex (.cons Qp1 (.cons Qkt (.cons Zen (.nil))))) Tryz.func36 Tryz.call36 [.row 25 1 (.ints .u32)] Quc 3
end
noncomputable section
instance sumInhZh {α β:Type} [Inhabited β]:Inhabited (α⊕β):=⟨.inr default⟩
def Q4(m:Q00):Tree Q01:=
.an (Qgb m) (.lv (Qmp m) λ(x0:Q00)=> .lf ({A0:=x0,A3:=0,B4:=[],A6:=[]}))
def Q3w m:=(Q4 m).m
abbrev Qfq m:=(Q4 m).p
def Qry:Q0d:=mT 148 [] true [.agg Q00.sig] [] (λa r=>Q4 (Q00.of (aC a 0))) (λX=> .agg (Q01.cellsW X (.all 0) (.all 1) (.all 2))) (λX=>[⟨false,25,1, .ints .u32 X.A0.Mem⟩,⟨false,126,4, .recs .apiEntry X.B4⟩,⟨false,66,3, .recs .apiEvent X.A6⟩])
theorem Qqm:Q06 pG Qry:=oT (.cons Qrm (.nil)) Tryz.func148 Tryz.call148 [.row 25 1 (.ints .u32), .row 126 4 (.recs .apiEntry), .row 66 3 (.recs .apiEvent)] [] 2
def Q8e(r:Q01)(n:Int):Tree (Q01×(List Q04)):=
.lv (Q3a n 3) λ(x0:Int)=> .br (dB x0 (3:Int)==(0:Int)) (.an (Qre n) (.lv (Q4r n) λ(x1:Q0a)=> .an (Qnj r x1) (.lv (Q2s r x1) λ(x2:Q01×Bool)=> .lf (x2.1,[])))) (.an (Q43 (ishr i64 x0 4) 12) (.lv (Q4v (ishr i64 x0 4) 12) λ(x3:Int)=>let E1:=wrap u32 (iand i64 (ishr i64 x0 12) 255); .an (Qky r x3 E1) (.lv (Qe8 r x3 E1) λ(x4:Q01×List Q04)=> .lf (x4.1,x4.2))))
def Q3t r n:=(Q8e r n).m
abbrev Qsr r n:=(Q8e r n).p
def Zik:Q0d:=mT 55 [] true [.agg Q01.sig, .one (.int .i64)] [] (λa r=>Q8e (Q01.of (aC a 0)) (argI a 1)) (λX=> .tup [.agg (Q01.cellsW (X.1) (.all 0) (.all 1) (.all 2)), .all 3]) (λX=>[⟨false,25,1, .ints .u32 (X.1).A0.Mem⟩,⟨false,126,4, .recs .apiEntry (X.1).B4⟩,⟨false,66,3, .recs .apiEvent (X.1).A6⟩,⟨false,71,4, .recs .apiOutput (X.2)⟩])
theorem Zhf:Q06 pG Zik:=oT (.cons Qn (.cons Z46 (.cons Z9f (.cons Qzg (.cons Qmd (.nil)))))) Tryz.func55 Tryz.call55 [.row 25 1 (.ints .u32), .row 126 4 (.recs .apiEntry), .row 66 3 (.recs .apiEvent), .row 71 4 (.recs .apiOutput)] [] 2
def Qii(m:Q00)(l:List Int)(z:(Int)×Q01×(List Q04)):Nat:=(l.length-z.1).toNat
def Qcl(m:Q00)(l:List Int):Tree (Q01×(List Q04)):=
.an (Qfq m) (.lv (Q3w m) λ(x0:Q01)=> .lp inferInstance (Qii m l (0,x0,[])+1) ((((Els.Nil (Els.ints i64 l)\/rE (1:Nat))/\rE (l:List Int))/\rZ/\rZ/\True/\rE (0:Int)/\True)/\(mE zM True (rE (0:Int)/\True/\True/\True))/\(mE x0.A0 True (rE x0.A3/\True/\True/\True))/\rE x0.A0.Mem/\rE x0.B4/\rE x0.A6/\rE ([]:List (RK.T RK.apiOutput))/\True) (0,x0,[]) λ(v0:Int×Q01×List Q04)=> .br (decide (v0.1<(l.length:Int))) (.cn (bS 1 1&&bT 0 1&&decide (0<=v0.1/\v0.1<(l.length:Int))) (.an (Qsr v0.2.1 (l.getD v0.1.toNat 0)) (.lv (Q3t v0.2.1 (l.getD v0.1.toNat 0)) λ(x1:Q01×List Q04)=> .cn (decide (40*(v0.2.2.length+x1.2.length)<=140737488355328)) (.nx ((((Els.Nil (Els.ints i64 l)\/rE (1:Nat))/\rE (l:List Int))/\rZ/\rZ/\True/\rE ((wrap i64 (v0.1+1)):Int)/\True)/\(mE zM True (rE (0:Int)/\True/\True/\True))/\(mE x1.1.A0 True (rE x1.1.A3/\True/\True/\True))/\rE x1.1.A0.Mem/\rE x1.1.B4/\rE x1.1.A6/\rE ((v0.2.2++x1.2):List (RK.T RK.apiOutput))/\True) (Sum.inl (wrap i64 (v0.1+1),x1.1,v0.2.2++x1.2)))))) (.lf (Sum.inr (v0.2.1,v0.2.2))))
def Z43 m l:=(Qcl m l).m
abbrev Qtd m l:=(Qcl m l).p
def Zcz:LInv:={
 α:=(Int)×Q01×(List Q04)
 F:=λst a=>([(1,(lk st 1)),(4, .ptr 0 0 0),(6, .ptr 1 0 0),(7, .all 5),(8, .int i64 a.1)],[⟨true,96,52, .gen [[(cT st 4 0),(cT st 4 1),(cT st 4 2),(cT st 4 3),(cT st 4 4),(cT st 4 5),(cT st 4 6),(cT st 4 7),(cT st 4 8),(cT st 4 9),(cT st 4 10),(cT st 4 11),(cT st 4 12),(cT st 4 13),(cT st 4 14),(cT st 4 15),(cT st 4 16),(cT st 4 17),(cT st 4 18),(cT st 4 19),(cT st 4 20),(cT st 4 21),(cT st 4 22),(cT st 4 23),(cT st 4 24),(cT st 4 25),(cT st 4 26),(cT st 4 27),(cT st 4 28),(cT st 4 29),(cT st 4 30),(cT st 4 31),(cT st 4 32),(cT st 4 33),(cT st 4 34),(cT st 4 35),(cT st 4 36),(cT st 4 37),(cT st 4 38),(cT st 4 39),(cT st 4 40),(cT st 4 41),(cT st 4 42),(cT st 4 43),(cT st 4 44),(cT st 4 45),(cT st 4 46),(cT st 4 47),(cT st 4 48),(cT st 4 49),(cT st 4 50),(cT st 4 51)]]⟩,⟨true,96,52, .gen [[.int u32 a.2.1.A0.B2.X.a0, .int u32 a.2.1.A0.B2.X.a1, .int u32 a.2.1.A0.B2.X.a2, .int u32 a.2.1.A0.B2.X.a3, .int u32 a.2.1.A0.B2.X.a4, .int u32 a.2.1.A0.B2.X.a5, .int u32 a.2.1.A0.B2.X.a6, .int u32 a.2.1.A0.B2.X.a7, .int u32 a.2.1.A0.B2.X.a8, .int u32 a.2.1.A0.B2.X.a9, .int u32 a.2.1.A0.B2.X.a10, .int u32 a.2.1.A0.B2.X.a11, .int u32 a.2.1.A0.B2.X.a12, .int u32 a.2.1.A0.B2.X.a13, .int u32 a.2.1.A0.B2.X.a14, .int u32 a.2.1.A0.B2.X.a15, .int u32 a.2.1.A0.B2.Pc, .int u32 a.2.1.A0.B2.B6.a0, .int u32 a.2.1.A0.B2.B6.a1, .int u32 a.2.1.A0.B2.B6.a2, .int u32 a.2.1.A0.B2.B6.a3, .int u32 a.2.1.A0.B2.B6.a4, .int u32 a.2.1.A0.B2.B6.a5, .int u32 a.2.1.A0.B2.B6.a6, .int u32 a.2.1.A0.B2.B6.a7, .all 2, .str a.2.1.A0.A4.D3, .bool a.2.1.A0.B0.D2, .int u32 a.2.1.A0.B0.C9, .bool a.2.1.A0.B0.D5, .int u32 a.2.1.A0.B1.Blocks, .int u32 a.2.1.A0.B1.C1, .int u32 a.2.1.A0.B1.Frame, .int i64 a.2.1.A0.B1.C0, .int i64 a.2.1.A0.B1.D8, .int u32 a.2.1.A0.B1.B7, .int u32 a.2.1.A0.B1.B3, .str a.2.1.A0.B1.C3, .int u32 a.2.1.A0.C4.Frame, .int u32 a.2.1.A0.C4.E0, .bool a.2.1.A0.C4.C7, .int u32 a.2.1.A0.C4.B9, .bool a.2.1.A0.C4.B8, .int u32 a.2.1.A0.C4.F3, .int u32 a.2.1.A0.A2.D0, .int u32 a.2.1.A0.A2.C2, .int u64 a.2.1.A0.A1, .bool a.2.1.A0.A7, .bool a.2.1.A0.A9, .int u32 a.2.1.A3, .all 3, .all 4]]⟩,⟨false,25,1, .ints u32 a.2.1.A0.Mem⟩,⟨false,126,4, .recs RK.apiEntry a.2.1.B4⟩,⟨false,66,3, .recs RK.apiEvent a.2.1.A6⟩,⟨false,71,4, .recs RK.apiOutput a.2.2⟩])
 a0:=λst=>((lk st 8).toInt,(⟨(mR (cT st 6) (Q5e st.rows (Q0t (cT st 6 25) 1000000))),(cT st 6 49).toInt,(Q5f RK.apiEntry st.rows (Q0t (cT st 6 50) 1000000)),(Q5f RK.apiEvent st.rows (Q0t (cT st 6 51) 1000000))⟩:Q01),(Q5f RK.apiOutput st.rows (rN st 7)))
 ex0:=λst=>[]++[(rX st 4 0),(rX st 6 1),(Q0t (cT st 6 25) (st.rows.length+2)),(Q0t (cT st 6 50) (st.rows.length+3)),(Q0t (cT st 6 51) (st.rows.length+4)),(rX st 7 5)]}
def Z5c:List (Nat×LInv):=[(4,Zcz)]
def Zhi:Q0d:=mT 57 [] true [.agg Q00.sig, .one (.ints .i64)] [] (λa r=>Qcl (Q00.of (aC a 0)) (argL .i64 a 1)) (λX=> .tup [.agg (Q01.cellsW (X.1) (.all 0) (.all 1) (.all 2)), .all 3]) (λX=>[⟨false,25,1, .ints .u32 (X.1).A0.Mem⟩,⟨false,126,4, .recs .apiEntry (X.1).B4⟩,⟨false,66,3, .recs .apiEvent (X.1).A6⟩,⟨false,71,4, .recs .apiOutput (X.2)⟩])
theorem Zf0:Q06 pG Zhi:=oT (.cons Qqm (.cons Zhf (.nil))) Tryz.func57 Tryz.call57 [.row 25 1 (.ints .u32), .row 126 4 (.recs .apiEntry), .row 66 3 (.recs .apiEvent), .row 71 4 (.recs .apiOutput)] Z5c 3
end
noncomputable section
def tblZe0:List UInt8:=[(105:UInt8),32,114,49,44,32,104,97,110,100,108,101,114,10,99,115,114,119,32,114,49,44,32,49,10,108,105,32,114,49,44,32,51,49,10,99,115,114,119,32,114]
def Z7j:List UInt8:=[(49:UInt8),44,32,55,10,108,105,32,114,49,44,32,52,10,99,115,114,119,32,114,49,44,32,54,10,108,105,32,114,50,44,32,53,49,50,10,108,105,32,114,51,44]
def Z8v:List UInt8:=[(32:UInt8),48,10,108,105,32,114,52,44,32,56,10,109,97,112,58,32,115,104,108,105,32,114,53,44,32,114,51,44,32,56,10,111,114,105,32,114,53,44,32,114,53]
def Z9b:List UInt8:=[(44:UInt8),32,55,10,115,104,108,105,32,114,54,44,32,114,51,44,32,50,10,97,100,100,32,114,54,44,32,114,54,44,32,114,50,10,115,119,32,114,53,44,32,48,40]
def Z97:List UInt8:=[(114:UInt8),54,41,10,97,100,100,105,32,114,51,44,32,114,51,44,32,49,10,98,108,116,32,114,51,44,32,114,52,44,32,109,97,112,10,108,105,32,114,49,44,32]
def Z8b:List UInt8:=[(54:UInt8),10,111,117,116,32,114,49,44,32,55,10,108,105,32,114,49,44,32,50,10,111,117,116,32,114,49,44,32,57,10,108,105,32,114,49,44,32,49,48,48,10,111]
def Z74:List UInt8:=[(117:UInt8),116,32,114,49,44,32,51,10,108,105,32,114,49,44,32,54,52,48,10,99,115,114,119,32,114,49,44,32,50,10,108,105,32,114,49,44,32,50,49,10,99]
def Z7g:List UInt8:=[(115:UInt8),114,119,32,114,49,44,32,48,10,101,114,101,116,10,104,97,110,100,108,101,114,58,32,99,115,114,119,32,114,49,44,32,53,10,99,115,114,114,32,114,49,44]
def Z8o:List UInt8:=[(32:UInt8),51,10,115,108,116,105,32,114,49,44,32,114,49,44,32,49,54,10,98,101,113,32,114,49,44,32,114,48,44,32,105,114,113,10,99,115,114,114,32,114,49]
def Z8t:List UInt8:=[(44:UInt8),32,50,10,97,100,100,105,32,114,49,44,32,114,49,44,32,52,10,99,115,114,119,32,114,49,44,32,50,10,105,110,32,114,51,44,32,50,10,111,117,116]
def Qwr:List UInt8:=[(32:UInt8),114,51,44,32,48,10,108,105,32,114,49,44,32,49,10,111,117,116,32,114,49,44,32,52,10,108,105,32,114,49,44,32,55,10,111,117,116,32,114,49,44]
def Qw1:List UInt8:=[(32:UInt8),53,10,97,110,100,105,32,114,49,44,32,114,50,44,32,49,10,97,100,100,105,32,114,49,44,32,114,49,44,32,49,10,111,117,116,32,114,49,44,32,54,10]
def Qvs:List UInt8:=[(99:UInt8),115,114,114,32,114,49,44,32,53,10,101,114,101,116,10,105,114,113,58,32,105,110,32,114,49,44,32,48,10,111,117,116,32,114,49,44,32,48,10,111,117]
def Qwq:List UInt8:=[(116:UInt8),32,114,48,44,32,54,10,111,117,116,32,114,48,44,32,57,10,108,105,32,114,49,44,32,54,10,111,117,116,32,114,49,44,32,55,10,108,105,32,114,49,44]
def Qw0:List UInt8:=[(32:UInt8),50,10,111,117,116,32,114,49,44,32,57,10,105,110,32,114,49,44,32,50,10,97,100,100,105,32,114,49,44,32,114,49,44,32,50,48,10,111,117,116,32]
def Qwp:List UInt8:=[(114:UInt8),49,44,32,51,10,105,110,32,114,49,44,32,49,48,10,111,117,116,32,114,49,44,32,49,48,10,99,115,114,114,32,114,49,44,32,53,10,101,114,101,116,10]
def Za4:List UInt8:=[(108:UInt8),105,32,114,49,44,32,104,97,110,100,108,101,114,10,99,115,114,119,32,114,49,44,32,49,10,108,105,32,114,49,44,32,51,49,10,99,115,114,119,32,114]
instance sumInhZe {α β:Type} [Inhabited β]:Inhabited (α⊕β):=⟨.inr default⟩
def Qld(l:List Q0g)(z:(Int)):Prop:=1<=z/\(z<=l.length\/z=1)
def Qdu(l:List Q0g)(z:(Int)):Nat:=(l.length-z).toNat
def Qfi(l:List Q0g):Tree Bool:=
.lp inferInstance (Qdu l 1+1) ((nR RK.apiEntry 4 l/\rE (1:Int)/\True)/\True) 1 λ(v0:Int)=> .br (decide (v0<(l.length:Int))) (let E4:=bS 4 4&&bT 0 4&&decide (0<=v0/\v0<(l.length:Int)); .cn E4 (let E2:=bS 4 4&&bT 0 4&&decide (0<=wrap i64 (v0-1)/\wrap i64 (v0-1)<(l.length:Int)); .cn E2 (let E3:=l.getD (dC (wrap i64 (v0-1))) (RK.dflt RK.apiEntry);let E5:=l.getD v0.toNat (RK.dflt RK.apiEntry); .br (decide (E5.At<E3.At)) (.lf (Sum.inr false)) (.cn E4 (.cn E2 (let T1:Tree ((Int)⊕(Bool)):= .nx ((nR RK.apiEntry 4 l/\rE ((wrap i64 (v0+1)):Int)/\True)/\True) (Sum.inl (wrap i64 (v0+1))); .br (E5.At==E3.At) (.cn E2 (.br (E3.C5.B5==1) (.lf (Sum.inr false)) T1)) T1)))))) (.lf (Sum.inr true))
def Qya l:=(Qfi l).m
def Q8k(l:List Q0g):Prop:=
l.length<=1000000000000
theorem Z06(l:List Q0g)(hw:Q8k l):(Qfi l).p:=by
 simp only[Q8k]at hw
 unfold Tree.p Qfi
 repeat'(first|refine w_lp (inv:=Qld l) (μ:=Qdu l) ?_ (cK _) (λ_ _=> ?_)|exact trivial|refine w_br (λ_=> ?_) (λ_=> ?_)|refine w_cn ?_ ?_|refine w_an ?_ ?_|refine w_lv (λ_ _=> ?_)|refine w_nx ?_|refine w_lf ?_|refine And.intro ?_ ?_)
 all_goals((try simp only[Qld,Qdu]at*);exact fin0)
def Z4g:LInv:={
 α:=(Int)
 F:=λst a=>([(0,(lk st 0)),(3, .int i64 a)],[])
 a0:=λst=>(lk st 3).toInt
 ex0:=λst=>[]++[]}
def Qxg:List (Nat×LInv):=[(2,Z4g)]
def Z6g:Q0d:=mkP 155 [] true [.one (.recs .apiEntry)] [] (λa r=>Q8k (argR .apiEntry a 0)) (λa r=>Qya (argR .apiEntry a 0)) (λX=> .bool X) (λX=>[])
theorem Z1m:Q06 pG Z6g:=Q0q drawn Q0m (.nil) Tryz.func155 Tryz.call155 (λa r=>Qfi (argR .apiEntry a 0)) [] Qxg 3 (hp:=λa r h=>Z06 (argR .apiEntry a 0) h)
def Qgu(m:Q00)(script:List Q0g)(until0:Int)(z:Q00×(List Q04)):Nat:=(until0-z.1.A1).toNat
def Qgq(m:Q00)(script:List Q0g)(until0:Int)(v0:Q00×List Q04)(z:Unit):Nat:=0
def Q9u(m:Q00)(script:List Q0g)(until0:Int):Tree (Q00×(List Q04)×Int×Int):=
.lv (Q6o m) λ(x0:Bool)=>let E2:=({B2:={X:={a0:=0,a1:=0,a2:=0,a3:=0,a4:=0,a5:=0,a6:=0,a7:=0,a8:=0,a9:=0,a10:=0,a11:=0,a12:=0,a13:=0,a14:=0,a15:=0},Pc:=0,B6:={a0:=0,a1:=0,a2:=0,a3:=0,a4:=0,a5:=0,a6:=0,a7:=0}},Mem:=[],A4:={D3:=[]},B0:={D2:=false,C9:=0,D5:=false},B1:={Blocks:=0,C1:=0,Frame:=0,C0:=0,D8:=0,B7:=0,B3:=0,C3:=[]},C4:={Frame:=0,E0:=0,C7:=false,B9:=0,B8:=false,F3:=0},A2:={D0:=0,C2:=0},A1:=0,A7:=false,A9:=false}:Q00);let T1:Tree ((Q00×(List Q04)×Int×Int)):= .lf (E2,[],0,1300); .br (!x0) T1 (.br (decide (until0<m.A1)) T1 (.br (decide (wrap u64 (until0-m.A1)>4000)) T1 (.an (Q8k []) (.lv (Qya []) λ(x1:Bool)=> .br (!x1) (.lf (E2,[],0,1301)) (.an (Qgb m) (.lv (Qmp m) λ(x2:Q00)=> .lp inferInstance (Qgu m script until0 (x2,[])+1) ((((Els.Nil (Els.gen [])\/rE (0:Nat))/\rE ([]:List (List D)))/\rE (until0:Int)/\rZ/\rZ/\True/\rE (0:Int)/\True)/\(mE x2 True True)/\rE x2.Mem/\(mE zM True True)/\rE ([]:List (RK.T RK.apiOutput))/\True) (x2,[]) λ(v0:Q00×List Q04)=> .br (decide (v0.1.A1<until0)) (.br (decide (v0.1.A1<1152921504606846976)) (.lp inferInstance (Qgq m script until0 v0 ()+1) ((((Els.Nil (Els.gen [])\/rE (0:Nat))/\rE ([]:List (List D)))/\rE (until0:Int)/\rZ/\rZ/\True/\rE (0:Int)/\(rE (0:Nat)/\rE (46:Nat))/\rE v0.1.A1/\rE ((decide (v0.1.A1<1152921504606846976)):Bool)/\True)/\(mE v0.1 True True)/\rE v0.1.Mem/\(mE zM True True)/\rE v0.2/\True) () λ(v1:PUnit)=> .br v0.1.A9 (.lf (Sum.inr (Sum.inr (v0.1,v0.2,0,0)))) (.an (Qmq v0.1) (.lv (Qdd v0.1) λ(x3:Bool)=> .br x3 (.lf (Sum.inr (Sum.inr (v0.1,v0.2,0,0)))) (.an (Qko v0.1) (.lv (Qfa v0.1) λ(x4:Bool)=> .br (!false==x4) (.lf (Sum.inr (Sum.inr (E2,[],0,1302)))) (.an (Qni v0.1 0) (.lv (Q0l v0.1 0) λ(x5:List Q04×Q00)=> .cn (decide (40*(v0.2.length+x5.1.length)<=140737488355328)) (.nx ((((Els.Nil (Els.gen [])\/rE (0:Nat))/\rE ([]:List (List D)))/\rE (until0:Int)/\rZ/\rZ/\True/\rE (0:Int)/\True)/\(mE x5.2 True True)/\rE x5.2.Mem/\(mE zM True True)/\rE ((v0.2++x5.1):List (RK.T RK.apiOutput))/\True) (Sum.inr (Sum.inl (x5.2,v0.2++x5.1))))))))))) (.lf (Sum.inr (v0.1,v0.2,0,0)))) (.lf (Sum.inr (v0.1,v0.2,0,0)))))))))
def Qf3 m script until0:=(Q9u m script until0).m
abbrev Qbj m script until0:=(Q9u m script until0).p
def Zbp:LInv:={
 α:=Q00×(List Q04)
 F:=λst a=>([(1,(lk st 1)),(2,(lk st 2)),(3, .ptr 0 0 0),(6, .ptr 2 0 0),(10, .all 3),(11,(lk st 11))],[⟨true,43,49, .gen [mD a.1 (.all 1)]⟩,⟨false,25,1, .ints u32 a.1.Mem⟩,⟨true,43,49, .gen [mB (cT st 6)]⟩,⟨false,71,4, .recs RK.apiOutput a.2⟩])
 a0:=λst=>((mR (cT st 3) (Q5e st.rows (Q0t (cT st 3 25) 1000000))),(Q5f RK.apiOutput st.rows (rN st 10)))
 ex0:=λst=>[]++[(rX st 3 0),(Q0t (cT st 3 25) (st.rows.length+1)),(rX st 6 2),(rX st 10 3)]}
def Za9:LInv:={
 α:=Unit
 F:=λst a=>([(1,(lk st 1)),(2,(lk st 2)),(3, .ptr 0 0 0),(6, .ptr 2 0 0),(10, .all 3),(11,(lk st 11)),(61, .ptr 0 0 46),(62,(lk st 62)),(63,(lk st 63))],[⟨true,43,49, .gen [[(cT st 3 0),(cT st 3 1),(cT st 3 2),(cT st 3 3),(cT st 3 4),(cT st 3 5),(cT st 3 6),(cT st 3 7),(cT st 3 8),(cT st 3 9),(cT st 3 10),(cT st 3 11),(cT st 3 12),(cT st 3 13),(cT st 3 14),(cT st 3 15),(cT st 3 16),(cT st 3 17),(cT st 3 18),(cT st 3 19),(cT st 3 20),(cT st 3 21),(cT st 3 22),(cT st 3 23),(cT st 3 24), .all 1,(cT st 3 26),(cT st 3 27),(cT st 3 28),(cT st 3 29),(cT st 3 30),(cT st 3 31),(cT st 3 32),(cT st 3 33),(cT st 3 34),(cT st 3 35),(cT st 3 36),(cT st 3 37),(cT st 3 38),(cT st 3 39),(cT st 3 40),(cT st 3 41),(cT st 3 42),(cT st 3 43),(cT st 3 44),(cT st 3 45),(cT st 3 46),(cT st 3 47),(cT st 3 48)]]⟩,⟨false,25,1,esOf st.rows (Q0t (cT st 3 25) 1000000)⟩,⟨true,43,49, .gen [mB (cT st 6)]⟩,⟨false,71,4,esOf st.rows (rN st 10)⟩])
 a0:=λst=>()
 ex0:=λst=>[]++[(rX st 3 0),(Q0t (cT st 3 25) (st.rows.length+1)),(rX st 6 2),(rX st 10 3)]}
def Z2t:List (Nat×LInv):=[(8,Zbp),(9,Za9)]
def Zfm:Q0d:=mT 75 [] true [.agg Q00.sig, .one .nil, .one (.int .u64)] [] (λa r=>Q9u (Q00.of (aC a 0)) (argR .apiEntry a 1) (argI a 2)) (λX=> .tup [.agg (Q00.cellsW (X.1) (.all 0)), .all 1, .int .i64 (X.2.2.1), .int .i64 (X.2.2.2)]) (λX=>[⟨false,25,1, .ints .u32 (X.1).Mem⟩,⟨false,71,4, .recs .apiOutput (X.2.1)⟩])
theorem Zao:Q06 pG Zfm:=oT (.cons Qsf (.cons Z1m (.cons Qrm (.cons Zae (.cons Qxq (.cons Qsx (.cons Z1a (.nil)))))))) Tryz.func75 Tryz.call75 [.row 25 1 (.ints .u32), .row 71 4 (.recs .apiOutput)] Z2t 3
def Qde(kind:Int)(l z:List Int):Nat:=160-z.length
def Q75(kind:Int)(l:List Int):Tree Q00:=
.an (Q43 kind 3) (.lv (Q4v kind 3) λ(x0:Int)=> .br (decide (x0<2)) (.an (Qa7 ((108:UInt8)::(tblZe0++Z7j++(Z8v++Z9b)++(Z97++Z8b++(Z74++Z7g))++(Z8o++Z8t++(Qwr++Qw1)++(Qvs++Qwq++(Qw0++Qwp)))))) (.lv (Q1j (cO (cO (cO (cO Za4 Z7j) (cO Z8v Z9b)) (cO (cO Z97 Z8b) (cO Z74 Z7g))) (cO (cO (cO Z8o Z8t) (cO Qwr Qw1)) (cO (cO Qvs Qwq) (cO Qw0 Qwp))))) λ(x1:List Int×Q1k)=> .lp inferInstance (Qde kind l x1.1+1) ((rE (x0:Int)/\((Els.Nil (Els.ints i64 l)\/rE (1:Nat))/\rE (l:List Int))/\rZ/\True/\True)/\(mE zM True True)/\rE x1.1/\True) x1.1 λ(v0:List Int)=> .br (decide ((v0.length:Int)<(160:Int))) (.cn (decide (4*(v0.length+1)<=140737488355328)) (.nx ((rE (x0:Int)/\((Els.Nil (Els.ints i64 l)\/rE (1:Nat))/\rE (l:List Int))/\rZ/\True/\True)/\(mE zM True True)/\rE ((v0++[0]):List Int)/\True) (Sum.inl (v0++[0])))) (.an (Qml l) (.lv (Qpb l) λ(x2:List Int)=> .cn (decide (4*(v0.length+x2.length)<=140737488355328)) (.br (decide ((↑(dH (v0++x2)):Int)>(256:Int))) (.cn (bS 1 1&&bT 0 1&&decide ((0:Int)<=(0:Int)/\(0:Int)<=(256:Int)/\256<=(↑(dH (v0++x2)):Int))) (let E1:=cY (dC 256-dC 0) (cZ (dC 0) (v0++x2)); .an (Q98 8 4 E1) (.lv (Q1x 8 4 E1) λ(x3:Q00×Bool)=> .br (x0==1) (.an (Qbj x3.1 [] 87) (.lv (Qf3 x3.1 [] 87) λ(x4:Q00×List Q04×Int×Int)=> .lf (Sum.inr x4.1))) (.lf (Sum.inr x3.1))))) (.an (Q98 8 4 (v0++x2)) (.lv (Q1x 8 4 (v0++x2)) λ(x5:Q00×Bool)=> .br (x0==1) (.an (Qbj x5.1 [] 87) (.lv (Qf3 x5.1 [] 87) λ(x6:Q00×List Q04×Int×Int)=> .lf (Sum.inr x6.1))) (.lf (Sum.inr x5.1))))))))) (.an (Qml l) (.lv (Qpb l) λ(x7:List Int)=> .cn (decide (4*(0+x7.length)<=140737488355328)) (.br (decide ((x7.length:Int)>(256:Int))) (.cn (bS 1 1&&bT 0 1&&decide ((0:Int)<=(0:Int)/\(0:Int)<=(256:Int)/\256<=(x7.length:Int))) (let E2:=cY (dC 256-dC 0) (cZ (dC 0) x7); .an (Q98 8 4 E2) (.lv (Q1x 8 4 E2) λ(x8:Q00×Bool)=> .br (x0==1) (.an (Qbj x8.1 [] 87) (.lv (Qf3 x8.1 [] 87) λ(x9:Q00×List Q04×Int×Int)=> .lf x9.1)) (.lf x8.1)))) (.an (Q98 8 4 x7) (.lv (Q1x 8 4 x7) λ(x10:Q00×Bool)=> .br (x0==1) (.an (Qbj x10.1 [] 87) (.lv (Qf3 x10.1 [] 87) λ(x11:Q00×List Q04×Int×Int)=> .lf x11.1)) (.lf x10.1)))))))
def Qjx kind l:=(Q75 kind l).m
abbrev Qno kind l:=(Q75 kind l).p
def Z2c:LInv:={
 α:=(List Int)
 F:=λst a=>([(0,(lk st 0)),(1,(lk st 1)),(4, .ptr 0 0 0),(5, .all 1)],[⟨true,43,49, .gen [mB (cT st 4)]⟩,⟨false,25,1, .ints u32 a⟩])
 a0:=λst=>(Q5e st.rows (rN st 5))
 ex0:=λst=>[]++[(rX st 4 0),(rX st 5 1)]}
def Qvx:List (Nat×LInv):=[(5,Z2c)]
def Z68:Q0d:=mT 41 [] true [.one (.int .i64), .one (.ints .i64)] [] (λa r=>Q75 (argI a 0) (argL .i64 a 1)) (λX=> .agg (Q00.cellsW X (.all 0))) (λX=>[⟨false,25,1, .ints .u32 X.Mem⟩])
theorem Z3x:Q06 pG Z68:=oT (.cons Qmd (.cons Qzu (.cons Zeu (.cons Z3w (.cons Zao (.nil)))))) Tryz.func41 Tryz.call41 [.row 25 1 (.ints .u32)] Qvx 3
end
noncomputable section
def Qw9(l acts:List Int):Tree Bool:=
.br (decide ((l.length:Int)<=(40:Int))) (.lf (decide ((acts.length:Int)<=(30:Int)))) (.lf false)
def Qty l acts:=(Qw9 l acts).m
def Zoz:Q0d:=mS 15 [] true [.one (.ints .i64), .one (.ints .i64)] [] (λa r=>Qw9 (argL .i64 a 0) (argL .i64 a 1)) (λX=> .bool X) (λX=>[])
theorem Zif:Q06 pG Zoz:=oS (.nil) Tryz.func15 Tryz.call15 [] [] 2
def Qp7(t:Q0i):Tree (Q0i×Bool):=
.br (!t.D2) (.lf (t,false)) (.lf ({D2:=false,C9:=t.C9,D5:=true},true))
def Qlc t:=(Qp7 t).m
def Zdo:Q0d:=mS 130 [] true [.agg Q0i.sig] [] (λa r=>Qp7 (Q0i.of (aC a 0))) (λX=> .tup [.agg (Q0i.cells (X.1)), .bool (X.2)]) (λX=>[])
theorem Zag:Q06 pG Zdo:=oS (.nil) Tryz.func130 Tryz.call130 [] [] 2
def Qbi(c:Q0c)(b:Int):Tree (Q0c×Bool):=
.br (decide ((c.D3.length:Int)>=(16:Int))) (.lf (c,false)) (.cn (decide (c.D3.length+1<=maxLen)) (.lf ({D3:=c.D3++[(λ(n:Int)=>UInt8.ofNat n.toNat) b]},true)))
def Qox c b:=(Qbi c b).m
abbrev Qnm c b:=(Qbi c b).p
def Z6s:Q0d:=mT 131 [] true [.agg Q0c.sig, .one (.int .u8)] [] (λa r=>Qbi (Q0c.of (aC a 0)) (argI a 1)) (λX=> .tup [.agg (Q0c.cells (X.1)), .bool (X.2)]) (λX=>[])
theorem Z17:Q06 pG Z6s:=oT (.nil) Tryz.func131 Tryz.call131 [] [] 2
def Q7q(d0:Q0f)(m:List Int)(e:Q0a):Tree (Q0f×(List Int)×Bool):=
let T2:Tree ((Q0f×(List Int)×Bool)):= .an (Q08 m) (.lv (Q03 m) λ(x0:List Int)=> .lf (d0,x0,false)); .br (d0.C0 !=1) T2 (.br (e.B5 !=4) T2 (.br (decide (e.N>1)) T2 (.an (Q08 m) (.lv (Q03 m) λ(x3:List Int)=>let E3:=({Blocks:=d0.Blocks,C1:=d0.C1,Frame:=d0.Frame,C0:=2,D8:=0,B7:=0,B3:=0,C3:=[]}:Q0f);let E4:=({Blocks:=d0.Blocks,C1:=d0.C1,Frame:=d0.Frame,C0:=3,D8:=0,B7:=0,B3:=0,C3:=[]}:Q0f);let T1:Tree ((Q0f×(List Int)×Bool)):= .br (!decide (e.C8=[])) (.lf (d0,x3,false)) (.br (e.N==1) (.lf (E3,x3,true)) (.lf (E4,x3,true))); .br (e.N==1) (.br (d0.D8==1) (.lv (Qa m d0.B3) λ(x4:Bool)=> .br (!x4) (.lf (d0,x3,false)) (.an (Q94 m (wrap i64 d0.B3) e.C8) (.lv (Q2y m (wrap i64 d0.B3) e.C8) λ(x5:List Int×Bool)=> .br (!x5.2) (.lf (d0,x5.1,false)) (.br (e.N==1) (.lf (E3,x5.1,true)) (.lf (E4,x5.1,true)))))) T1) T1))))
def Qha d0 m e:=(Q7q d0 m e).m
abbrev Qlu d0 m e:=(Q7q d0 m e).p
def Z4c:Q0d:=mT 132 [] true [.agg Q0f.sig, .one (.ints .u32), .agg Q0a.sig] [] (λa r=>Q7q (Q0f.of (aC a 0)) (argL .u32 a 1) (Q0a.of (aC a 2))) (λX=> .tup [.agg (Q0f.cells (X.1)), .all 0, .bool (X.2.2)]) (λX=>[⟨false,25,1, .ints .u32 (X.2.1)⟩])
theorem Qzc:Q06 pG Z4c:=oT (.cons Q0x (.cons Qqx (.cons Qf1 (.nil)))) Tryz.func132 Tryz.call132 [.row 25 1 (.ints .u32)] [] 2
def Qaw(n:Q0r)(m:List Int)(frame:List UInt8):Tree (Q0r×(List Int)×Bool):=
let T1:Tree ((Q0r×(List Int)×Bool)):= .an (Q08 m) (.lv (Q03 m) λ(x0:List Int)=> .lf (n,x0,false)); .br (!n.C7) T1 (.br (decide ((frame.length:Int)<(1:Int))) T1 (.br (decide ((frame.length:Int)>(128:Int))) T1 (.lv (Qa9 m n.B9) λ(x3:Bool)=> .br (!x3) T1 (.an (Qdm m (wrap i64 n.B9)) (.lv (Q5s m (wrap i64 n.B9)) λ(x5:List UInt8×Bool)=> .cn (decide (0<=(frame.length:Int)/\(frame.length:Int)<=(x5.1.length:Int)/\(x5.1.length:Int)<=(x5.1.length:Int))) (let E2:=dC (x5.1.length:Int)-dC (frame.length:Int);let E3:=cZ (dC (frame.length:Int)) x5.1; .cn (decide (frame.length+dH (cY E2 E3)<=maxLen)) (.an (Q94 m (wrap i64 n.B9) (frame++cY E2 E3)) (.lv (Q2y m (wrap i64 n.B9) (frame++cY E2 E3)) λ(x6:List Int×Bool)=> .lf ({Frame:=n.Frame,E0:=n.E0,C7:=false,B9:=0,B8:=true,F3:=wrap u32 (frame.length:Int)},x6.1,true)))))))))
def Qmx n m frame:=(Qaw n m frame).m
abbrev Qoy n m frame:=(Qaw n m frame).p
def Zbr:Q0d:=mT 133 [] true [.agg Q0r.sig, .one (.ints .u32), .one (.str)] [] (λa r=>Qaw (Q0r.of (aC a 0)) (argL .u32 a 1) (argS a 2)) (λX=> .tup [.agg (Q0r.cells (X.1)), .all 0, .bool (X.2.2)]) (λX=>[⟨false,25,1, .ints .u32 (X.2.1)⟩])
theorem Z6b:Q06 pG Zbr:=oT (.cons Qmf (.cons Q0x (.cons Qkj (.cons Qf1 (.nil))))) Tryz.func133 Tryz.call133 [.row 25 1 (.ints .u32)] [] 2
def Q4m(m:Q00)(e:Q0a):Tree (Q00×Bool):=
.an (Q08 m.Mem) (.lv (Q03 m.Mem) λ(x0:List Int)=>let E2:=({B2:=m.B2,Mem:=x0,A4:=m.A4,B0:=m.B0,B1:=m.B1,C4:=m.C4,A2:=m.A2,A1:=m.A1,A7:=m.A7,A9:=m.A9}:Q00); .an (Q4i E2) (.lv (Q1g E2) λ(x1:Bool)=>let T1:Tree ((Q00×Bool)):= .lf (E2,false); .br (!x1) T1 (.br m.A9 T1 (.br (e.B5==2) (.br (e.N==0) (.br (decide (e.C8=[])) (.lv (Qlc m.B0) λ(x2:Q0i×Bool)=> .lf ({B2:=m.B2,Mem:=x0,A4:=m.A4,B0:=x2.1,B1:=m.B1,C4:=m.C4,A2:=m.A2,A1:=m.A1,A7:=m.A7,A9:=m.A9},x2.2)) T1) T1) (.br (e.B5==3) (.br (decide (e.N<=255)) (.br (decide (e.C8=[])) (.an (Qnm m.A4 (wrap u8 e.N)) (.lv (Qox m.A4 (wrap u8 e.N)) λ(x3:Q0c×Bool)=> .lf ({B2:=m.B2,Mem:=x0,A4:=x3.1,B0:=m.B0,B1:=m.B1,C4:=m.C4,A2:=m.A2,A1:=m.A1,A7:=m.A7,A9:=m.A9},x3.2))) T1) T1) (.br (e.B5==4) (.an (Qlu m.B1 x0 e) (.lv (Qha m.B1 x0 e) λ(x4:Q0f×List Int×Bool)=> .lf ({B2:=m.B2,Mem:=x4.2.1,A4:=m.A4,B0:=m.B0,B1:=x4.1,C4:=m.C4,A2:=m.A2,A1:=m.A1,A7:=m.A7,A9:=m.A9},x4.2.2))) (.br (e.B5==5) (.br (e.N==0) (.an (Qoy m.C4 x0 e.C8) (.lv (Qmx m.C4 x0 e.C8) λ(x5:Q0r×List Int×Bool)=> .lf ({B2:=m.B2,Mem:=x5.2.1,A4:=m.A4,B0:=m.B0,B1:=m.B1,C4:=x5.1,A2:=m.A2,A1:=m.A1,A7:=m.A7,A9:=m.A9},x5.2.2))) T1) (.br (e.B5==6) (.br (decide (e.C8=[])) (.lf ({B2:=m.B2,Mem:=x0,A4:=m.A4,B0:=m.B0,B1:=m.B1,C4:=m.C4,A2:={D0:=e.N,C2:=m.A2.C2},A1:=m.A1,A7:=m.A7,A9:=m.A9},true)) T1) T1))))))))
def Q6z m e:=(Q4m m e).m
abbrev Qaq m e:=(Q4m m e).p
def Z3o:Q0d:=mT 38 [] true [.agg Q00.sig, .agg Q0a.sig] [] (λa r=>Q4m (Q00.of (aC a 0)) (Q0a.of (aC a 1))) (λX=> .tup [.agg (Q00.cellsW (X.1) (.all 0)), .bool (X.2)]) (λX=>[⟨false,25,1, .ints .u32 (X.1).Mem⟩])
theorem Qgv:Q06 pG Z3o:=oT (.cons Q0x (.cons Qbl (.cons Zag (.cons Z17 (.cons Qzc (.cons Z6b (.nil))))))) Tryz.func38 Tryz.call38 [.row 25 1 (.ints .u32)] [] 2
end
noncomputable section
instance sumInhRa {α β:Type} [Inhabited β]:Inhabited (α⊕β):=⟨.inr default⟩
def Q13(s:List Q0g):(List Q0g):=
s
def Q0y(s:List Q0g):Prop:=
s.length<=3518437208883
def Q2q(s:List Q0g):List D:=[.sl 4 (.recs .apiEntry s) false]
def Q2(s:List Q0g):List Row:=[]
def Q1d(X:List Q0g):D:= .all 0
def Q1b(X:List Q0g):List Row:=[⟨false,126,4, .recs .apiEntry X⟩]
def Qb6:List Dir:=[.row 126 4 (.recs .apiEntry)]
def Q5i:List PT:=[.one (.recs .apiEntry)]
def Q53:List RT:=[]
def Qbr(args:List D)(rows:List Row):(List Q0g):=Q13 (argR .apiEntry args 0)
def Qbm(args:List D)(rows:List Row):Prop:=Q0y (argR .apiEntry args 0)
def Qdc:Q0d:=mkP 210 [] true Q5i Q53 Qbm Qbr Q1d Q1b
def Q36(s:List Q0g)(Leaf:(List Q0g)->Prop):Prop:=
(s=[]->Leaf [])/\cand (decide ((40:Nat)*((0:Nat)+s.length)<=(140737488355328:Nat))) (Leaf s)
set_option maxRecDepth 100000 in
theorem Qck(s:List Q0g)(Q:D->List Row->Prop):(fnVC tab [] (LL tab [] Tryz.f210.ntmps 0 [] 2) Tryz.f210 (Q2q s) (Q2 s) λd R=>Q9c (Q2 s).length Qb6 d R Q)=Q36 s (λX=>Q (Q1d X) (Q1b X)):=by kernel_rfl
theorem Qba(s:List Q0g)(Leaf:(List Q0g)->Prop)(hw:Q0y s)(h:Leaf (Q13 s)):
Q36 s Leaf:=by
 delta Q36
 refine⟨λe=>by rw[e]at h;exact h,?_⟩
 rw[Q07]
 refine⟨dY ?_,h⟩
 have:s.length<=3518437208883:=hw
 omega
set_option maxRecDepth 100000 in
theorem Qae(s:List Q0g)(hw:Q0y s):Q4k pG 210 (Q2q s) (Q2 s) (Q1d (Q13 s)) (Q1b (Q13 s)):=
 have hG:Q73 pG []:= .nil
 FnOK.calls drawn Q0m hG Tryz.func210 (rf:=none) (λ_ _=>trivial) (Zp1 drawn Q0m hG (.inl rfl) 2 (invs:=[])) (FnOK.of (Qck s _) (Qba s (λX=>Q1d X=Q1d (Q13 s)/\Q1b X=Q1b (Q13 s)) hw ⟨rfl,rfl⟩))
set_option maxRecDepth 100000 in
theorem Qbb(args:List D)(rows:List Row):Qgf Q5i args 0=Q2q (argR .apiEntry args 0):=by kernel_rfl
set_option maxRecDepth 100000 in
theorem Qau(args:List D)(rows:List Row):Q65 Q53 rows 0=Q2 (argR .apiEntry args 0):=by kernel_rfl
set_option maxRecDepth 100000 in
theorem Qcf(X:List Q0g):(ffB (Q1d X)&&ffBR (Q1b X))=true:=by kernel_rfl
theorem Q60:Q06 pG Qdc:=Qyi Tryz.call210 (λargs rows hp=>by rw[Qbb args rows,Qau args rows];exact Qae (argR .apiEntry args 0) hp) (λ_ X=>Qcf X)
def Q19(s:List Q0a):(List Q0a):=
s
def Q12(s:List Q0a):Prop:=
s.length<=3518437208883
def Q2n(s:List Q0a):List D:=[.sl 3 (.recs .apiEvent s) false]
def Q1z(s:List Q0a):List Row:=[]
def Q1c(X:List Q0a):D:= .all 0
def Q1e(X:List Q0a):List Row:=[⟨false,66,3, .recs .apiEvent X⟩]
def Qb8:List Dir:=[.row 66 3 (.recs .apiEvent)]
def Q5l:List PT:=[.one (.recs .apiEvent)]
def Q52:List RT:=[]
def Qbs(args:List D)(rows:List Row):(List Q0a):=Q19 (argR .apiEvent args 0)
def Qbn(args:List D)(rows:List Row):Prop:=Q12 (argR .apiEvent args 0)
def Qda:Q0d:=mkP 211 [] true Q5l Q52 Qbn Qbs Q1c Q1e
def Q37(s:List Q0a)(Leaf:(List Q0a)->Prop):Prop:=
(s=[]->Leaf [])/\cand (decide ((32:Nat)*((0:Nat)+s.length)<=(140737488355328:Nat))) (Leaf s)
set_option maxRecDepth 100000 in
theorem Qcn(s:List Q0a)(Q:D->List Row->Prop):(fnVC tab [] (LL tab [] Tryz.f211.ntmps 0 [] 2) Tryz.f211 (Q2n s) (Q1z s) λd R=>Q9c (Q1z s).length Qb8 d R Q)=Q37 s (λX=>Q (Q1c X) (Q1e X)):=by kernel_rfl
theorem Qb9(s:List Q0a)(Leaf:(List Q0a)->Prop)(hw:Q12 s)(h:Leaf (Q19 s)):
Q37 s Leaf:=by
 delta Q37
 refine⟨λe=>by rw[e]at h;exact h,?_⟩
 rw[Q07]
 refine⟨dY ?_,h⟩
 have:s.length<=3518437208883:=hw
 omega
set_option maxRecDepth 100000 in
theorem Qad(s:List Q0a)(hw:Q12 s):Q4k pG 211 (Q2n s) (Q1z s) (Q1c (Q19 s)) (Q1e (Q19 s)):=
 have hG:Q73 pG []:= .nil
 FnOK.calls drawn Q0m hG Tryz.func211 (rf:=none) (λ_ _=>trivial) (Zp1 drawn Q0m hG (.inl rfl) 2 (invs:=[])) (FnOK.of (Qcn s _) (Qb9 s (λX=>Q1c X=Q1c (Q19 s)/\Q1e X=Q1e (Q19 s)) hw ⟨rfl,rfl⟩))
set_option maxRecDepth 100000 in
theorem Qb3(args:List D)(rows:List Row):Qgf Q5l args 0=Q2n (argR .apiEvent args 0):=by kernel_rfl
set_option maxRecDepth 100000 in
theorem Qav(args:List D)(rows:List Row):Q65 Q52 rows 0=Q1z (argR .apiEvent args 0):=by kernel_rfl
set_option maxRecDepth 100000 in
theorem Qcp(X:List Q0a):(ffB (Q1c X)&&ffBR (Q1e X))=true:=by kernel_rfl
theorem Qcg:Q06 pG Qda:=Qyi Tryz.call211 (λargs rows hp=>by rw[Qb3 args rows,Qav args rows];exact Qad (argR .apiEvent args 0) hp) (λ_ X=>Qcp X)
def Q99(r:Q01):Tree Q01:=
.an (Q08 r.A0.Mem) (.lv (Q03 r.A0.Mem) λ(x0:List Int)=> .an (Q0y r.B4) (.lv (Q13 r.B4) λ(x1:List Q0g)=> .an (Q12 r.A6) (.lv (Q19 r.A6) λ(x2:List Q0a)=> .lf ({A0:={B2:=r.A0.B2,Mem:=x0,A4:=r.A0.A4,B0:=r.A0.B0,B1:=r.A0.B1,C4:=r.A0.C4,A2:=r.A0.A2,A1:=r.A0.A1,A7:=r.A0.A7,A9:=r.A0.A9},A3:=r.A3,B4:=x1,A6:=x2}))))
def Qta r:=(Q99 r).m
abbrev Qf8 r:=(Q99 r).p
def Z3s:Q0d:=mT 145 [] true [.agg Q01.sig] [] (λa r=>Q99 (Q01.of (aC a 0))) (λX=> .agg (Q01.cellsW X (.all 0) (.all 1) (.all 2))) (λX=>[⟨false,25,1, .ints .u32 X.A0.Mem⟩,⟨false,126,4, .recs .apiEntry X.B4⟩,⟨false,66,3, .recs .apiEvent X.A6⟩])
theorem Qz8:Q06 pG Z3s:=oT (.cons Q0x (.cons Q60 (.cons Qcg (.nil)))) Tryz.func145 Tryz.call145 [.row 25 1 (.ints .u32), .row 126 4 (.recs .apiEntry), .row 66 3 (.recs .apiEvent)] [] 2
def Qfw(m:Q00):Tree Q01:=
.an (Qf8 {A0:=m,A3:=0,B4:=[],A6:=[]}) (.lv (Qta {A0:=m,A3:=0,B4:=[],A6:=[]}) λ(x0:Q01)=> .lf x0)
def Z8l m:=(Qfw m).m
abbrev Qkh m:=(Qfw m).p
def Zfx:Q0d:=mT 54 [] true [.agg Q00.sig] [] (λa r=>Qfw (Q00.of (aC a 0))) (λX=> .agg (Q01.cellsW X (.all 0) (.all 1) (.all 2))) (λX=>[⟨false,25,1, .ints .u32 X.A0.Mem⟩,⟨false,126,4, .recs .apiEntry X.B4⟩,⟨false,66,3, .recs .apiEvent X.A6⟩])
theorem Zbl:Q06 pG Zfx:=oT (.cons Qz8 (.nil)) Tryz.func54 Tryz.call54 [.row 25 1 (.ints .u32), .row 126 4 (.recs .apiEntry), .row 66 3 (.recs .apiEvent)] [] 2
def Qgo(e:Q0a):Tree Bool:=
.br (e.B5==1) (.lf (decide (e.C8=[]))) (.br (e.B5==6) (.lf (decide (e.C8=[]))) (.br (e.B5==2) (.br (e.N==0) (.lf (decide (e.C8=[]))) (.lf false)) (.br (e.B5==3) (.br (decide (e.N<=255)) (.lf (decide (e.C8=[]))) (.lf false)) (.br (e.B5==4) (.br (e.N==1) (.br (decide (e.C8=[])) (.lf true) (.lf ((e.C8.length:Int)==(128:Int)))) (.br (e.N==0) (.lf (decide (e.C8=[]))) (.lf false))) (.br (e.B5==5) (.br (e.N==0) (.br (decide ((e.C8.length:Int)>=(1:Int))) (.lf (decide ((e.C8.length:Int)<=(128:Int)))) (.lf false)) (.lf false)) (.lf false))))))
def Qfh e:=(Qgo e).m
def Qzw:Q0d:=mS 150 [] true [.agg Q0a.sig] [] (λa r=>Qgo (Q0a.of (aC a 0))) (λX=> .bool X) (λX=>[])
theorem Qw5:Q06 pG Qzw:=oS (.nil) Tryz.func150 Tryz.call150 [] [] 2
end
noncomputable section
instance sumInhRc {α β:Type} [Inhabited β]:Inhabited (α⊕β):=⟨.inr default⟩
def Qgd(a b:List Q04)(z:(Int)):Prop:=0<=z/\z<=a.length/\a.length=b.length
def Q63(a b:List Q04)(z:(Int)):Nat:=(a.length-z).toNat
def Q4t(a b:List Q04):Tree Bool:=
.br ((a.length:Int) !=(b.length:Int)) (.lf false) (.lp inferInstance (Q63 a b 0+1) ((nR RK.apiOutput 4 a/\nR RK.apiOutput 4 b/\rE (0:Int)/\True)/\True) 0 λ(v0:Int)=> .br (decide (v0<(a.length:Int))) (.cn (bS 4 4&&bT 0 4&&decide (0<=v0/\v0<(a.length:Int))) (.cn (bS 4 4&&bT 0 4&&decide (0<=v0/\v0<(b.length:Int))) (let E1:=a.getD v0.toNat (RK.dflt RK.apiOutput);let E2:=b.getD v0.toNat (RK.dflt RK.apiOutput); .br (!eqs [D.int i64 E1.B5,D.int u64 E1.At,D.int u32 E1.C1,D.str E1.C8] [D.int i64 E2.B5,D.int u64 E2.At,D.int u32 E2.C1,D.str E2.C8]) (.lf (Sum.inr false)) (.nx ((nR RK.apiOutput 4 a/\nR RK.apiOutput 4 b/\rE ((wrap i64 (v0+1)):Int)/\True)/\True) (Sum.inl (wrap i64 (v0+1))))))) (.lf (Sum.inr true)))
def Qc3 a b:=(Q4t a b).m
def Q7g(a b:List Q04):Prop:=
a.length<=1000000000000
theorem Qqf(a b:List Q04)(hw:Q7g a b):(Q4t a b).p:=by
 simp only[Q7g]at hw
 unfold Tree.p Q4t
 repeat'(first|refine w_lp (inv:=Qgd a b) (μ:=Q63 a b) ?_ (cK _) (λ_ _=> ?_)|exact trivial|refine w_br (λ_=> ?_) (λ_=> ?_)|refine w_cn ?_ ?_|refine w_an ?_ ?_|refine w_lv (λ_ _=> ?_)|refine w_nx ?_|refine w_lf ?_|refine And.intro ?_ ?_)
 all_goals((try simp only[Qgd,Q63]at*);exact fin0)
def Qs3:LInv:={
 α:=(Int)
 F:=λst a=>([(0,(lk st 0)),(1,(lk st 1)),(5, .int i64 a)],[])
 a0:=λst=>(lk st 5).toInt
 ex0:=λst=>[]++[]}
def Qpa:List (Nat×LInv):=[(4,Qs3)]
def Qv0:Q0d:=mkP 70 [] true [.one (.recs .apiOutput), .one (.recs .apiOutput)] [] (λa r=>Q7g (argR .apiOutput a 0) (argR .apiOutput a 1)) (λa r=>Qc3 (argR .apiOutput a 0) (argR .apiOutput a 1)) (λX=> .bool X) (λX=>[])
theorem Qro:Q06 pG Qv0:=Q0q drawn Q0m (.nil) Tryz.func70 Tryz.call70 (λa r=>Q4t (argR .apiOutput a 0) (argR .apiOutput a 1)) [] Qpa 3 (hp:=λa r h=>Qqf (argR .apiOutput a 0) (argR .apiOutput a 1) h)
end
noncomputable section
def Q5v(p:Q02):Tree Q02:=
.an (Q08 p.A0.Mem) (.lv (Q03 p.A0.Mem) λ(x0:List Int)=> .an (Q0y p.B4) (.lv (Q13 p.B4) λ(x1:List Q0g)=> .lf ({A0:={B2:=p.A0.B2,Mem:=x0,A4:=p.A0.A4,B0:=p.A0.B0,B1:=p.A0.B1,C4:=p.A0.C4,A2:=p.A0.A2,A1:=p.A0.A1,A7:=p.A0.A7,A9:=p.A0.A9},B4:=x1,C6:=p.C6,A3:=p.A3})))
def Qhg p:=(Q5v p).m
abbrev Q7n p:=(Q5v p).p
def Z1l:Q0d:=mT 149 [] true [.agg Q02.sig] [] (λa r=>Q5v (Q02.of (aC a 0))) (λX=> .agg (Q02.cellsW X (.all 0) (.sl 4 (.recs .apiEntry X.B4) true))) (λX=>[⟨false,25,1, .ints .u32 X.A0.Mem⟩])
theorem Qc4:Q06 pG Z1l:=oT (.cons Q0x (.cons Q60 (.nil))) Tryz.func149 Tryz.call149 [.row 25 1 (.ints .u32), .sl (.recs .apiEntry) true] [] 2
def Qa4(m:Q00):Tree Q02:=
.an (Q7n {A0:=m,B4:=[],C6:=m.A1,A3:=0}) (.lv (Qhg {A0:=m,B4:=[],C6:=m.A1,A3:=0}) λ(x0:Q02)=> .lf x0)
def Qww m:=(Qa4 m).m
abbrev Qfj m:=(Qa4 m).p
def Zh9:Q0d:=mT 74 [] true [.agg Q00.sig] [] (λa r=>Qa4 (Q00.of (aC a 0))) (λX=> .agg (Q02.cellsW X (.all 0) (.sl 4 (.recs .apiEntry X.B4) true))) (λX=>[⟨false,25,1, .ints .u32 X.A0.Mem⟩])
theorem Qua:Q06 pG Zh9:=oT (.cons Qc4 (.nil)) Tryz.func74 Tryz.call74 [.row 25 1 (.ints .u32), .sl (.recs .apiEntry) true] [] 2
def Qyd(p:Q02):Tree Int:=
.br (decide (p.A0.A1>p.C6)) (.lf 0) (.lf (wrap u64 (p.C6-p.A0.A1)))
def Qw3 p:=(Qyd p).m
def Zdq:Q0d:=mS 66 [] true [.agg Q02.sig] [] (λa r=>Qyd (Q02.of (aC a 0))) (λX=> .int .u64 X) (λX=>[])
theorem Zan:Q06 pG Zdq:=oS (.nil) Tryz.func66 Tryz.call66 [] [] 2
def Q72(p:Q02):Tree (Int×Bool×Bool):=
.br (decide ((p.B4.length:Int)>(0:Int))) (.cn (bS 4 4&&bT 0 4&&decide ((0:Int)<=(0:Int)/\0<(p.B4.length:Int))) (let E1:=p.B4.getD (dC 0) (RK.dflt RK.apiEntry); .br (E1.C5.B5==1) (.an (Q2u p.A0) (.lv (Q2a p.A0) λ(x0:Bool)=> .br (!x0) (.lf (0,false,!decide (E1.At<=p.A0.A1))) (.br (decide (E1.At<=p.A0.A1)) (.lf (E1.C5.N,true,E1.At==p.A0.A1)) (.lf (E1.C5.N,true,false))))) (.an (Q2u p.A0) (.lv (Q2a p.A0) λ(x1:Bool)=> .br (!x1) (.lf (0,false,true)) (.lf (E1.C5.N,true,false)))))) (.an (Q2u p.A0) (.lv (Q2a p.A0) λ(x2:Bool)=> .br (!x2) (.lf (0,false,true)) (.lf (0,true,false))))
def Qxt p:=(Q72 p).m
abbrev Qgs p:=(Q72 p).p
def Z5q:Q0d:=mT 157 [] true [.agg Q02.sig] [] (λa r=>Q72 (Q02.of (aC a 0))) (λX=> .tup [.int .u32 (X.1), .bool (X.2.1), .bool (X.2.2)]) (λX=>[])
theorem Qnw:Q06 pG Z5q:=oT (.cons Qoq (.nil)) Tryz.func157 Tryz.call157 [] [] 2
def Qs4(p:Q02)(z:(Int)×Q00):Nat:=(p.B4.length-z.1).toNat
def Q9n(p:Q02):Tree (Q01×Bool):=
.an (Q4i p.A0) (.lv (Q1g p.A0) λ(x0:Bool)=>let T1:Tree ((Q01×Bool)):= .lf ({A0:={B2:={X:={a0:=0,a1:=0,a2:=0,a3:=0,a4:=0,a5:=0,a6:=0,a7:=0,a8:=0,a9:=0,a10:=0,a11:=0,a12:=0,a13:=0,a14:=0,a15:=0},Pc:=0,B6:={a0:=0,a1:=0,a2:=0,a3:=0,a4:=0,a5:=0,a6:=0,a7:=0}},Mem:=[],A4:={D3:=[]},B0:={D2:=false,C9:=0,D5:=false},B1:={Blocks:=0,C1:=0,Frame:=0,C0:=0,D8:=0,B7:=0,B3:=0,C3:=[]},C4:={Frame:=0,E0:=0,C7:=false,B9:=0,B8:=false,F3:=0},A2:={D0:=0,C2:=0},A1:=0,A7:=false,A9:=false},A3:=0,B4:=[],A6:=[]},false); .br (!x0) T1 (.br (p.A0.A1 !=p.C6) T1 (.lp inferInstance (Qs4 p (0,p.A0)+1) ((rZ/\rZ/\rZ/\((Els.Nil (Els.recs RK.apiEntry p.B4)\/rE (4:Nat))/\rE p.B4)/\rE ((p.B4.length:Int):Int)/\rE (0:Int)/\True)/\(mE p.A0 (((Els.Nil (Els.ints u32 p.A0.Mem)\/rE (1:Nat))/\rE p.A0.Mem)) (((Els.Nil (Els.recs RK.apiEntry p.B4)\/rE (4:Nat))/\rE p.B4)/\rE p.C6/\rE p.A3/\True))/\(mE zM True (rE (0:Int)/\True/\True/\True))/\(mE p.A0 (((Els.Nil (Els.ints u32 p.A0.Mem)\/rE (1:Nat))/\rE p.A0.Mem)) True)/\True) (0,p.A0) λ(v0:Int×Q00)=> .br (decide (v0.1<(p.B4.length:Int))) (.cn (bS 4 4&&bT 0 4&&decide (0<=v0.1/\v0.1<(p.B4.length:Int))) (let E2:=p.B4.getD v0.1.toNat (RK.dflt RK.apiEntry); .an (Qaq v0.2 E2.C5) (.lv (Q6z v0.2 E2.C5) λ(x1:Q00×Bool)=> .nx ((rZ/\rZ/\rZ/\((Els.Nil (Els.recs RK.apiEntry p.B4)\/rE (4:Nat))/\rE p.B4)/\rE ((p.B4.length:Int):Int)/\rE ((wrap i64 (v0.1+1)):Int)/\True)/\(mE p.A0 (((Els.Nil (Els.ints u32 p.A0.Mem)\/rE (1:Nat))/\rE p.A0.Mem)) (((Els.Nil (Els.recs RK.apiEntry p.B4)\/rE (4:Nat))/\rE p.B4)/\rE p.C6/\rE p.A3/\True))/\(mE zM True (rE (0:Int)/\True/\True/\True))/\(mE x1.1 (rE x1.1.Mem) True)/\True) (Sum.inl (wrap i64 (v0.1+1),x1.1))))) (.an (Qkh v0.2) (.lv (Z8l v0.2) λ(x2:Q01)=> .lf (Sum.inr ({A0:=x2.A0,A3:=p.A3,B4:=x2.B4,A6:=x2.A6},true)))))))
def Qmy p:=(Q9n p).m
abbrev Qb p:=(Q9n p).p
def Z0:LInv:={
 α:=(Int)×Q00
 F:=λst a=>([(1, .ptr 0 0 0),(2, .ptr 1 0 0),(4, .ptr 2 0 0),(24,(lk st 24)),(25,(lk st 25)),(26, .int i64 a.1)],[⟨true,106,52, .gen [[(cT st 1 0),(cT st 1 1),(cT st 1 2),(cT st 1 3),(cT st 1 4),(cT st 1 5),(cT st 1 6),(cT st 1 7),(cT st 1 8),(cT st 1 9),(cT st 1 10),(cT st 1 11),(cT st 1 12),(cT st 1 13),(cT st 1 14),(cT st 1 15),(cT st 1 16),(cT st 1 17),(cT st 1 18),(cT st 1 19),(cT st 1 20),(cT st 1 21),(cT st 1 22),(cT st 1 23),(cT st 1 24),(cT st 1 25),(cT st 1 26),(cT st 1 27),(cT st 1 28),(cT st 1 29),(cT st 1 30),(cT st 1 31),(cT st 1 32),(cT st 1 33),(cT st 1 34),(cT st 1 35),(cT st 1 36),(cT st 1 37),(cT st 1 38),(cT st 1 39),(cT st 1 40),(cT st 1 41),(cT st 1 42),(cT st 1 43),(cT st 1 44),(cT st 1 45),(cT st 1 46),(cT st 1 47),(cT st 1 48),(cT st 1 49),(cT st 1 50),(cT st 1 51)]]⟩,⟨true,96,52, .gen [[(cT st 2 0),(cT st 2 1),(cT st 2 2),(cT st 2 3),(cT st 2 4),(cT st 2 5),(cT st 2 6),(cT st 2 7),(cT st 2 8),(cT st 2 9),(cT st 2 10),(cT st 2 11),(cT st 2 12),(cT st 2 13),(cT st 2 14),(cT st 2 15),(cT st 2 16),(cT st 2 17),(cT st 2 18),(cT st 2 19),(cT st 2 20),(cT st 2 21),(cT st 2 22),(cT st 2 23),(cT st 2 24),(cT st 2 25),(cT st 2 26),(cT st 2 27),(cT st 2 28),(cT st 2 29),(cT st 2 30),(cT st 2 31),(cT st 2 32),(cT st 2 33),(cT st 2 34),(cT st 2 35),(cT st 2 36),(cT st 2 37),(cT st 2 38),(cT st 2 39),(cT st 2 40),(cT st 2 41),(cT st 2 42),(cT st 2 43),(cT st 2 44),(cT st 2 45),(cT st 2 46),(cT st 2 47),(cT st 2 48),(cT st 2 49),(cT st 2 50),(cT st 2 51)]]⟩,⟨true,43,49, .gen [mD a.2 (.sl 1 (.ints u32 a.2.Mem) false)]⟩])
 a0:=λst=>((lk st 26).toInt,(mR (cT st 4) (frzI u32 st.rows (cT st 4 25))))
 ex0:=λst=>[]++[(rX st 1 0),(rX st 2 1),(rX st 4 2)]}
def Qtg:List (Nat×LInv):=[(5,Z0)]
def Z1z:Q0d:=Q0d.fz<|mkP 71 [] true [.agg Q02.sig] [] (λa r=>Qb (Q02.of (aC a 0))) (λa r=>Qmy (Q02.of (aC a 0))) (λX=> .tup [.agg (Q01.cellsW (X.1) (.all 0) (.all 1) (.all 2)), .bool (X.2)]) (λX=>[⟨false,25,1, .ints .u32 (X.1).A0.Mem⟩,⟨false,126,4, .recs .apiEntry (X.1).B4⟩,⟨false,66,3, .recs .apiEvent (X.1).A6⟩])
theorem Z03:Q06 pG Z1z:=Znt<|Q0q drawn Q0m (.cons Qbl (.cons Qgv (.cons Zbl (.nil)))) Tryz.func71 Tryz.call71 (λa r=>Q9n (Q02.of (aC a 0))) [.row 25 1 (.ints .u32), .row 126 4 (.recs .apiEntry), .row 66 3 (.recs .apiEvent)] Qtg 3
end
noncomputable section
def Qlq(script:List Q0g)(z:(Int)):Prop:=1<=z/\(z<=script.length\/z=1)
def Q4q(script:List Q0g)(z:(Int)):Nat:=(script.length-z).toNat
def Q8x(script:List Q0g):Tree Bool:=
.lp inferInstance (Q4q script 1+1) ((nR RK.apiEntry 4 script/\rE (1:Int)/\True)/\True) 1 λ(v0:Int)=> .br (decide (v0<(script.length:Int))) (.cn (bS 4 4&&bT 0 4&&decide (0<=wrap i64 (v0-1)/\wrap i64 (v0-1)<(script.length:Int))) (.cn (bS 4 4&&bT 0 4&&decide (0<=v0/\v0<(script.length:Int))) (let E2:=script.getD (dC (wrap i64 (v0-1))) (RK.dflt RK.apiEntry);let E3:=script.getD v0.toNat (RK.dflt RK.apiEntry); .br (decide (E3.At<E2.At)) (.lf (Sum.inr false)) (let T1:Tree ((Int)⊕(Bool)):= .nx ((nR RK.apiEntry 4 script/\rE ((wrap i64 (v0+1)):Int)/\True)/\True) (Sum.inl (wrap i64 (v0+1))); .br (E3.At==E2.At) (.br (E2.C5.B5==1) (.lf (Sum.inr false)) T1) T1)))) (.lf (Sum.inr true))
def Qd5 script:=(Q8x script).m
def Q51(script:List Q0g):Prop:=
script.length<=1000000000000
theorem Qz7(script:List Q0g)(hw:Q51 script):(Q8x script).p:=by
 simp only[Q51]at hw
 unfold Tree.p Q8x
 repeat'(first|refine w_lp (inv:=Qlq script) (μ:=Q4q script) ?_ (cK _) (λ_ _=> ?_)|exact trivial|refine w_br (λ_=> ?_) (λ_=> ?_)|refine w_cn ?_ ?_|refine w_an ?_ ?_|refine w_lv (λ_ _=> ?_)|refine w_nx ?_|refine w_lf ?_|refine And.intro ?_ ?_)
 all_goals((try simp only[Qlq,Q4q]at*);exact fin0)
def Z1s:LInv:={
 α:=(Int)
 F:=λst a=>([(0,(lk st 0)),(3, .int i64 a)],[])
 a0:=λst=>(lk st 3).toInt
 ex0:=λst=>[]++[]}
def Qv9:List (Nat×LInv):=[(2,Z1s)]
def Z6h:Q0d:=mkP 152 [] true [.one (.recs .apiEntry)] [] (λa r=>Q51 (argR .apiEntry a 0)) (λa r=>Qd5 (argR .apiEntry a 0)) (λX=> .bool X) (λX=>[])
theorem Z25:Q06 pG Z6h:=Q0q drawn Q0m (.nil) Tryz.func152 Tryz.call152 (λa r=>Q8x (argR .apiEntry a 0)) [] Qv9 3 (hp:=λa r h=>Qz7 (argR .apiEntry a 0) h)
def Q2l(s:List Q0g)(n:Int):(List Q0g):=
[]
def Q1h(s:List Q0g)(n:Int):Prop:=
0<=n/\n<=1000000000000
def Q5a(s:List Q0g)(n:Int):List D:=[.nils, .int .i64 n]
def Q5h(s:List Q0g)(n:Int):List Row:=[]
def Q3(X:List Q0g):D:= .all 0
def Q30(X:List Q0g):List Row:=[⟨false,126,4, .recs .apiEntry X⟩]
def Q5w:List PT:=[.one .nil0, .one (.int .i64)]
def Q5b:List RT:=[]
def Qcq(args:List D)(rows:List Row):(List Q0g):=Q2l (argR .apiEntry args 0) (argI args 1)
def Qcc(args:List D)(rows:List Row):Prop:=Q1h (argR .apiEntry args 0) (argI args 1)
def Qdv:Q0d:=mkP 215 [true,false] true Q5w Q5b Qcc Qcq Q3 Q30
theorem Qb1(s:List Q0g)(n:Int)(hw:Q1h s n):Q4k pG 215 (Q5a s n) (Q5h s n) (Q3 (Q2l s n)) (Q30 (Q2l s n)):=by
 exact yF Tryz.lays8 Q0m rfl rfl (by decide) (by decide) hw.1 (by have:=hw.2;omega)
set_option maxRecDepth 100000 in
theorem Qbo(args:List D)(rows:List Row):Qgf Q5w args 0=Q5a (argR .apiEntry args 0) (argI args 1):=by kernel_rfl
set_option maxRecDepth 100000 in
theorem Qb4(args:List D)(rows:List Row):Q65 Q5b rows 0=Q5h (argR .apiEntry args 0) (argI args 1):=by kernel_rfl
set_option maxRecDepth 100000 in
theorem Qdb(X:List Q0g):(ffB (Q3 X)&&ffBR (Q30 X))=true:=by kernel_rfl
theorem Qd7:Q06 pG Qdv:=Qyi Tryz.call215 (λargs rows hp=>by rw[Qbo args rows,Qb4 args rows];exact Qb1 (argR .apiEntry args 0) (argI args 1) hp) (λ_ X=>Qdb X)
def Q4b(slices:(List (List Q0g)))(z:(Int)×(Int)):Nat:=(slices.length-z.2).toNat
def Q4c(slices:(List (List Q0g)))(z:(Int)×(List Q0g)):Nat:=(slices.length-z.1).toNat
def Q14(slices:(List (List Q0g))):Tree (List Q0g):=
.lp inferInstance (Q4b slices (0,0)+1) ((nR RK.lapiEntry 1 slices/\rE (0:Int)/\nR RK.lapiEntry 1 slices/\rE ((slices.length:Int):Int)/\rE (0:Int)/\True)/\True) (0,0) λ(v0:Int×Int)=> .br (decide (v0.2<(slices.length:Int))) (.cn (bS 1 1&&bT 0 1&&decide (0<=v0.2/\v0.2<(slices.length:Int))) (let E1:=(↑(dH (slices.getD v0.2.toNat (RK.dflt RK.lapiEntry))):Int); .fl (decide (wrap i64 (v0.1+E1)<0)) (.nx ((nR RK.lapiEntry 1 slices/\rE ((wrap i64 (v0.1+(↑(dH (slices.getD v0.2.toNat (RK.dflt RK.lapiEntry))):Int))):Int)/\nR RK.lapiEntry 1 slices/\rE ((slices.length:Int):Int)/\rE ((wrap i64 (v0.2+1)):Int)/\True)/\True) (Sum.inl (wrap i64 (v0.1+E1),wrap i64 (v0.2+1)))))) (.an (Q1h [] v0.1) (.lv (Q2l [] v0.1) λ(x0:List Q0g)=> .lp inferInstance (Q4c slices (0,x0)+1) ((True/\nR RK.lapiEntry 1 slices/\rE ((slices.length:Int):Int)/\rE (0:Int)/\True)/\rE (x0:List (RK.T RK.apiEntry))/\True) (0,x0) λ(v1:Int×List Q0g)=> .br (decide (v1.1<(slices.length:Int))) (.cn (bS 1 1&&bT 0 1&&decide (0<=v1.1/\v1.1<(slices.length:Int))) (.cn (decide (40*(v1.2.length+dH (slices.getD v1.1.toNat (RK.dflt RK.lapiEntry)))<=140737488355328)) (.nx ((True/\nR RK.lapiEntry 1 slices/\rE ((slices.length:Int):Int)/\rE ((wrap i64 (v1.1+1)):Int)/\True)/\rE ((v1.2++slices.getD v1.1.toNat (RK.dflt RK.lapiEntry)):List (RK.T RK.apiEntry))/\True) (Sum.inl (wrap i64 (v1.1+1),v1.2++slices.getD v1.1.toNat (RK.dflt RK.lapiEntry)))))) (.lf (Sum.inr (Sum.inr v1.2)))))
def Q6y slices:=(Q14 slices).m
abbrev Q2p slices:=(Q14 slices).p
def Qbf:LInv:={
 α:=(Int)×(Int)
 F:=λst a=>([(0,(lk st 0)),(3, .int i64 a.1),(9,(lk st 9)),(10,(lk st 10)),(11, .int i64 a.2)],[])
 a0:=λst=>((lk st 3).toInt,(lk st 11).toInt)
 ex0:=λst=>[]++[]}
def Qbv:LInv:={
 α:=(Int)×(List Q0g)
 F:=λst a=>([(6, .all 0),(25,(lk st 25)),(26,(lk st 26)),(27, .int i64 a.1)],[⟨false,126,4, .recs RK.apiEntry a.2⟩])
 a0:=λst=>((lk st 27).toInt,(Q5f RK.apiEntry st.rows (rN st 6)))
 ex0:=λst=>[]++[(rX st 6 0)]}
def Qax:List (Nat×LInv):=[(3,Qbf),(11,Qbv)]
def Qcb:Q0d:=mT 151 [] true [.one (.recs .lapiEntry)] [] (λa r=>Q14 (argR .lapiEntry a 0)) (λX=> .all 0) (λX=>[⟨false,126,4, .recs .apiEntry X⟩])
theorem Qbd:Q06 pG Qcb:=oT (.cons Qd7 (.nil)) Tryz.func151 Tryz.call151 [.row 126 4 (.recs .apiEntry)] Qax 3
def Qas(p:Q02)(l:List Q0g)(known:Int)(z:(Int)):Nat:=(l.length-z).toNat
def Q84(p:Q02)(l:List Q0g)(known:Int):Tree (Q02×Bool):=
.an (Q7n p) (.lv (Qhg p) λ(x0:Q02)=> .br (decide (known<x0.C6)) (.lf (x0,false)) (.br (decide ((l.length:Int)>(400:Int))) (.lf (x0,false)) (.br (decide (wrap i64 ((x0.B4.length:Int)+(l.length:Int))>4096)) (.lf (x0,false)) (.lp inferInstance (Qas p l known 0+1) ((nR RK.apiEntry 4 l/\rE (known:Int)/\rZ/\rZ/\nR RK.apiEntry 4 l/\rE ((l.length:Int):Int)/\rE (0:Int)/\True)/\(mE x0.A0 True (((Els.Nil (Els.recs RK.apiEntry x0.B4)\/rE (4:Nat))/\rE x0.B4)/\rE x0.C6/\rE x0.A3/\True))/\rE x0.A0.Mem/\(mE zM True (True/\rE (0:Int)/\rE (0:Int)/\True))/\True) 0 λ(v0:Int)=> .br (decide (v0<(l.length:Int))) (.cn (bS 4 4&&bT 0 4&&decide (0<=v0/\v0<(l.length:Int))) (let E2:=l.getD v0.toNat (RK.dflt RK.apiEntry); .br (decide (E2.At<x0.C6)) (.lf (Sum.inr (x0,false))) (.br (decide (E2.At>known)) (.lf (Sum.inr (x0,false))) (let T1:Tree ((Int)⊕((Q02×Bool))):= .lv (Qfh E2.C5) λ(x1:Bool)=> .br (!x1) (.lf (Sum.inr (x0,false))) (.nx ((nR RK.apiEntry 4 l/\rE (known:Int)/\rZ/\rZ/\nR RK.apiEntry 4 l/\rE ((l.length:Int):Int)/\rE ((wrap i64 (v0+1)):Int)/\True)/\(mE x0.A0 True (((Els.Nil (Els.recs RK.apiEntry x0.B4)\/rE (4:Nat))/\rE x0.B4)/\rE x0.C6/\rE x0.A3/\True))/\rE x0.A0.Mem/\(mE zM True (True/\rE (0:Int)/\rE (0:Int)/\True))/\True) (Sum.inl (wrap i64 (v0+1)))); .br (E2.At==known) (.br (E2.C5.B5==1) (.lf (Sum.inr (x0,false))) T1) T1)))) (.an (Q2p [x0.B4,l]) (.lv (Q6y [x0.B4,l]) λ(x3:List Q0g)=> .an (Q51 x3) (.lv (Qd5 x3) λ(x4:Bool)=> .br (!x4) (.lf (Sum.inr (x0,false))) (.lf (Sum.inr ({A0:=x0.A0,B4:=x3,C6:=known,A3:=x0.A3},true))))))))))
def Qmu p l known:=(Q84 p l known).m
abbrev Qa2 p l known:=(Q84 p l known).p
def Z5l:LInv:={
 α:=(Int)
 F:=λst a=>([(1,(lk st 1)),(2,(lk st 2)),(3, .ptr 0 0 0),(6, .ptr 2 0 0),(32,(lk st 32)),(33,(lk st 33)),(34, .int i64 a)],[⟨true,106,52, .gen [[(cT st 3 0),(cT st 3 1),(cT st 3 2),(cT st 3 3),(cT st 3 4),(cT st 3 5),(cT st 3 6),(cT st 3 7),(cT st 3 8),(cT st 3 9),(cT st 3 10),(cT st 3 11),(cT st 3 12),(cT st 3 13),(cT st 3 14),(cT st 3 15),(cT st 3 16),(cT st 3 17),(cT st 3 18),(cT st 3 19),(cT st 3 20),(cT st 3 21),(cT st 3 22),(cT st 3 23),(cT st 3 24), .all 1,(cT st 3 26),(cT st 3 27),(cT st 3 28),(cT st 3 29),(cT st 3 30),(cT st 3 31),(cT st 3 32),(cT st 3 33),(cT st 3 34),(cT st 3 35),(cT st 3 36),(cT st 3 37),(cT st 3 38),(cT st 3 39),(cT st 3 40),(cT st 3 41),(cT st 3 42),(cT st 3 43),(cT st 3 44),(cT st 3 45),(cT st 3 46),(cT st 3 47),(cT st 3 48),(cT st 3 49),(cT st 3 50),(cT st 3 51)]]⟩,⟨false,25,1,esOf st.rows (Q0t (cT st 3 25) 1000000)⟩,⟨true,106,52, .gen [[(cT st 6 0),(cT st 6 1),(cT st 6 2),(cT st 6 3),(cT st 6 4),(cT st 6 5),(cT st 6 6),(cT st 6 7),(cT st 6 8),(cT st 6 9),(cT st 6 10),(cT st 6 11),(cT st 6 12),(cT st 6 13),(cT st 6 14),(cT st 6 15),(cT st 6 16),(cT st 6 17),(cT st 6 18),(cT st 6 19),(cT st 6 20),(cT st 6 21),(cT st 6 22),(cT st 6 23),(cT st 6 24),(cT st 6 25),(cT st 6 26),(cT st 6 27),(cT st 6 28),(cT st 6 29),(cT st 6 30),(cT st 6 31),(cT st 6 32),(cT st 6 33),(cT st 6 34),(cT st 6 35),(cT st 6 36),(cT st 6 37),(cT st 6 38),(cT st 6 39),(cT st 6 40),(cT st 6 41),(cT st 6 42),(cT st 6 43),(cT st 6 44),(cT st 6 45),(cT st 6 46),(cT st 6 47),(cT st 6 48),(cT st 6 49),(cT st 6 50),(cT st 6 51)]]⟩])
 a0:=λst=>(lk st 34).toInt
 ex0:=λst=>[]++[(rX st 3 0),(Q0t (cT st 3 25) (st.rows.length+1)),(rX st 6 2)]}
def Qzd:List (Nat×LInv):=[(5,Z5l)]
def Zbb:Q0d:=mT 63 [] true [.agg Q02.sig, .one (.recs .apiEntry), .one (.int .u64)] [] (λa r=>Q84 (Q02.of (aC a 0)) (argR .apiEntry a 1) (argI a 2)) (λX=> .tup [.agg (Q02.cellsW (X.1) (.all 0) (.sl 4 (.recs .apiEntry X.1.B4) true)), .bool (X.2)]) (λX=>[⟨false,25,1, .ints .u32 (X.1).A0.Mem⟩])
theorem Qrk:Q06 pG Zbb:=oT (.cons Qc4 (.cons Qw5 (.cons Qbd (.cons Z25 (.nil))))) Tryz.func63 Tryz.call63 [.row 25 1 (.ints .u32), .sl (.recs .apiEntry) true] Qzd 3
end
noncomputable section
def Qg6:Q0d:=⟨156,[true],false,λargs rows=>match args,rows with|[.ptr r i o, .int .u64 n],[⟨true,ty,sz, .gen [e]⟩]=>(match bS r 0&&(bS i 0&&(bS o 49&&e.all D.stayB)) with|true=> .abs Unit () (λ_=> .clo 216 [.ptr 1 0 0, .ptr 2 0 0]) (λ_=>[⟨true,ty,sz, .gen [e]⟩,⟨true,219,1, .gen [[.ptr 0 0 49]]⟩,⟨true,41,1, .gen [[.int .u64 n]]⟩])|false=> .no)|_,_=> .no,none,false⟩
theorem Qss:Q06 pG Qg6:=by
  refine⟨λ_=>Tryz.call156,λ_=>by decide,λ_ args rows r r' hm=> ?_,λ_ args rows p r r' hm=> ?_,λ_ args rows α v res rows' hm=> ?_,λ_ args rows p α v res rows' hm=> ?_,λk hk=>(by cases hk),λk hk=>(by cases hk)⟩
  . simp only[Qg6]at hm;split at hm<;>(try split at hm)<;>cases hm
  . simp only[Qg6]at hm;split at hm<;>(try split at hm)<;>cases hm
  . simp only[Qg6]at hm
    split at hm
    . rename_i r i o n ty sz e
      split at hm
      . rename_i hc
        cases hm
        simp only[aE]at hc
        obtain⟨h1,h2,h3,he⟩:=hc
        have h1:=bE h1;have h2:=bE h2;have h3:=bE h3
        subst h1;subst h2;subst h3
        refine⟨?_,λh=>by cases h⟩
        have e1: ∀Q0:D->GD.Rows->Prop,(fnVC tab [] (λ_ _ _=>False) Tryz.f156 [.ptr 0 0 49, .int .u64 n] [⟨true,ty,sz, .gen [e]⟩] λd R=>Q0 d R)=Q0 (.clo 216 [.ptr 1 0 0, .ptr 2 0 0]) [some ⟨true,ty,sz, .gen [e]⟩,some ⟨true,219,1, .gen [[.ptr 0 0 49]]⟩,some ⟨true,41,1, .gen [[.int .u64 n]]⟩]:=λ_=>by kernel_rfl
        refine vZ drawn Q0m Q73.nil Tryz.func156 (rf:=none) (L:=λ_ _ _=>False) (λ_ _=>trivial) (λ_ _ _ _ h=>h.elim) (Q0:=λd R=>d= .clo 216 [.ptr 1 0 0, .ptr 2 0 0]/\R=[some ⟨true,ty,sz, .gen [e]⟩,some ⟨true,219,1, .gen [[.ptr 0 0 49]]⟩,some ⟨true,41,1, .gen [[.int .u64 n]]⟩]) (λd R h=> ?_) ((e1 _).symm▸⟨rfl,rfl⟩)
        obtain⟨rfl,rfl⟩:=h
        refine⟨[0,1,2],rfl,?_,?_⟩
        . simp [retD,retV,retC,cand,capX,inEx]
        . simp [Q3n,Z2z,retC,cand,inEx,Z86 he]
      . cases hm
    . cases hm
  . simp only[Qg6]at hm;split at hm<;>(try split at hm)<;>cases hm
def Q48(p0:Q0a)(fr0:Q02):Tree (Bool×Q02):=
.an (Qaq fr0.A0 p0) (.lv (Q6z fr0.A0 p0) λ(x0:Q00×Bool)=> .lf (true,{A0:=x0.1,B4:=fr0.B4,C6:=fr0.C6,A3:=fr0.A3}))
def Qj6 p0 fr0:=(Q48 p0 fr0).m
abbrev Qea p0 fr0:=(Q48 p0 fr0).p
def Qp4:Q0d:=mkKP 1 1000000068 [false,true] [.agg Q0a.sig, .ptr 0] [.box 106 52 Q02.sig] (λa r=>Qea (Q0a.of (aC a 0)) (Q02.of (r.getD 0 default).cs)) (λa r=>Qj6 (Q0a.of (aC a 0)) (Q02.of (r.getD 0 default).cs)) (λX=> .bool (X.1)) (λX=>[⟨true,106,52, .gen [(Q02.cellsW (X.2) (.all 1) (.sl 4 (.recs .apiEntry X.2.B4) false))]⟩,⟨false,25,1, .ints .u32 (X.2).A0.Mem⟩])
theorem Qns:Q06 pG Qp4:=Zki none (λ_ _=>trivial) drawn Q0m (.cons Qc4 (.cons Qbl (.cons Qss (.cons Qgv (.cons Qj7 (.cons Qnw (.cons Qp8 (.nil)))))))) (Tryz.func1000000068 ⟨λ_ _=>by kernel_rfl,rfl⟩) (λh=>absurd h (by decide)) (λa r=>Q48 (Q0a.of (aC a 0)) (Q02.of (r.getD 0 default).cs)) [.row 25 1 (.ints .u32), .sl (.recs .apiEntry) false] [] 2 (λ_ _ _=>by kernel_rfl) (λ_ _=>rfl) (λ_ _ h=>h)
def Qkf(p:Q02)(fr1:Int)(z:Q02):Nat:=z.B4.length
def Q78(p:Q02)(fr1:Int):Tree (Q02×Int):=
.lp inferInstance (Qkf p fr1 p+1) ((True/\rZ/\rZ/\True)/\(mE p.A0 (((Els.Nil (Els.ints u32 p.A0.Mem)\/rE (1:Nat))/\rE p.A0.Mem)) (((Els.Nil (Els.recs RK.apiEntry p.B4)\/rE (4:Nat))/\rE p.B4)/\rE p.C6/\rE p.A3/\True))/\(True/\True)/\(rE (fr1:Int)/\True)/\True) p λ(v0:Q02)=> .br (decide ((v0.B4.length:Int)>(0:Int))) (let E1:=bS 4 4&&bT 0 4&&decide ((0:Int)<=(0:Int)/\0<(v0.B4.length:Int)); .cn E1 (let E2:=v0.B4.getD (dC 0) (RK.dflt RK.apiEntry); .br (decide (E2.At<=fr1)) (.cn E1 (.br (E2.C5.B5 !=1) (.cn E1 (.cn (bS 4 4&&bT 0 4&&decide ((0:Int)<=(1:Int)/\1<=(v0.B4.length:Int)/\(v0.B4.length:Int)<=(v0.B4.length:Int))) (let E3:=dC (v0.B4.length:Int)-dC 1; .an (Qea E2.C5 {A0:=v0.A0,B4:=cY E3 (cZ (dC 1) v0.B4),C6:=v0.C6,A3:=v0.A3}) (.lv (Qj6 E2.C5 {A0:=v0.A0,B4:=cY E3 (cZ (dC 1) v0.B4),C6:=v0.C6,A3:=v0.A3}) λ(x0:Bool×Q02)=> .br (!x0.1) (.lf (Sum.inr (x0.2,fr1))) (.nx ((True/\rZ/\rZ/\True)/\(mE x0.2.A0 (rE x0.2.A0.Mem) (((Els.Nil (Els.recs RK.apiEntry x0.2.B4)\/rE (4:Nat))/\rE x0.2.B4)/\rE x0.2.C6/\rE x0.2.A3/\True))/\(True/\True)/\(rE (fr1:Int)/\True)/\True) (Sum.inl x0.2)))))) (.lf (Sum.inr (v0,fr1))))) (.lf (Sum.inr (v0,fr1))))) (.lf (Sum.inr (v0,fr1)))
def Qyh p fr1:=(Q78 p fr1).m
abbrev Qh0 p fr1:=(Q78 p fr1).p
def Z4r:LInv:={
 α:=Q02
 F:=λst a=>([(0, .clo 1000000068 [.ptr 0 0 0]),(1, .ptr 1 0 0),(2, .ptr 2 0 0)],[⟨true,106,52, .gen [[.int u32 a.A0.B2.X.a0, .int u32 a.A0.B2.X.a1, .int u32 a.A0.B2.X.a2, .int u32 a.A0.B2.X.a3, .int u32 a.A0.B2.X.a4, .int u32 a.A0.B2.X.a5, .int u32 a.A0.B2.X.a6, .int u32 a.A0.B2.X.a7, .int u32 a.A0.B2.X.a8, .int u32 a.A0.B2.X.a9, .int u32 a.A0.B2.X.a10, .int u32 a.A0.B2.X.a11, .int u32 a.A0.B2.X.a12, .int u32 a.A0.B2.X.a13, .int u32 a.A0.B2.X.a14, .int u32 a.A0.B2.X.a15, .int u32 a.A0.B2.Pc, .int u32 a.A0.B2.B6.a0, .int u32 a.A0.B2.B6.a1, .int u32 a.A0.B2.B6.a2, .int u32 a.A0.B2.B6.a3, .int u32 a.A0.B2.B6.a4, .int u32 a.A0.B2.B6.a5, .int u32 a.A0.B2.B6.a6, .int u32 a.A0.B2.B6.a7, .sl 1 (.ints u32 a.A0.Mem) false, .str a.A0.A4.D3, .bool a.A0.B0.D2, .int u32 a.A0.B0.C9, .bool a.A0.B0.D5, .int u32 a.A0.B1.Blocks, .int u32 a.A0.B1.C1, .int u32 a.A0.B1.Frame, .int i64 a.A0.B1.C0, .int i64 a.A0.B1.D8, .int u32 a.A0.B1.B7, .int u32 a.A0.B1.B3, .str a.A0.B1.C3, .int u32 a.A0.C4.Frame, .int u32 a.A0.C4.E0, .bool a.A0.C4.C7, .int u32 a.A0.C4.B9, .bool a.A0.C4.B8, .int u32 a.A0.C4.F3, .int u32 a.A0.A2.D0, .int u32 a.A0.A2.C2, .int u64 a.A0.A1, .bool a.A0.A7, .bool a.A0.A9, .sl 4 (.recs RK.apiEntry a.B4) false, .int u64 a.C6, .int u32 a.A3]]⟩,⟨true,219,1, .gen [[.ptr 0 0 49]]⟩,⟨true,41,1, .gen [[(Q0w st.rows 2 0)]]⟩])
 a0:=λst=>(⟨(⟨(⟨(⟨(Q0w st.rows 0 0).toInt,(Q0w st.rows 0 1).toInt,(Q0w st.rows 0 2).toInt,(Q0w st.rows 0 3).toInt,(Q0w st.rows 0 4).toInt,(Q0w st.rows 0 5).toInt,(Q0w st.rows 0 6).toInt,(Q0w st.rows 0 7).toInt,(Q0w st.rows 0 8).toInt,(Q0w st.rows 0 9).toInt,(Q0w st.rows 0 10).toInt,(Q0w st.rows 0 11).toInt,(Q0w st.rows 0 12).toInt,(Q0w st.rows 0 13).toInt,(Q0w st.rows 0 14).toInt,(Q0w st.rows 0 15).toInt⟩:(A16 Int)),(Q0w st.rows 0 16).toInt,(⟨(Q0w st.rows 0 17).toInt,(Q0w st.rows 0 18).toInt,(Q0w st.rows 0 19).toInt,(Q0w st.rows 0 20).toInt,(Q0w st.rows 0 21).toInt,(Q0w st.rows 0 22).toInt,(Q0w st.rows 0 23).toInt,(Q0w st.rows 0 24).toInt⟩:(A8 Int))⟩:Q05),(frzI u32 st.rows (Q0w st.rows 0 25)),(⟨(Q0w st.rows 0 26).toStr⟩:Q0c),(⟨(Q0w st.rows 0 27).toBool,(Q0w st.rows 0 28).toInt,(Q0w st.rows 0 29).toBool⟩:Q0i),(⟨(Q0w st.rows 0 30).toInt,(Q0w st.rows 0 31).toInt,(Q0w st.rows 0 32).toInt,(Q0w st.rows 0 33).toInt,(Q0w st.rows 0 34).toInt,(Q0w st.rows 0 35).toInt,(Q0w st.rows 0 36).toInt,(Q0w st.rows 0 37).toStr⟩:Q0f),(⟨(Q0w st.rows 0 38).toInt,(Q0w st.rows 0 39).toInt,(Q0w st.rows 0 40).toBool,(Q0w st.rows 0 41).toInt,(Q0w st.rows 0 42).toBool,(Q0w st.rows 0 43).toInt⟩:Q0r),(⟨(Q0w st.rows 0 44).toInt,(Q0w st.rows 0 45).toInt⟩:Q09),(Q0w st.rows 0 46).toInt,(Q0w st.rows 0 47).toBool,(Q0w st.rows 0 48).toBool⟩:Q00),(slR RK.apiEntry (Q0w st.rows 0 49)),(Q0w st.rows 0 50).toInt,(Q0w st.rows 0 51).toInt⟩:Q02)
 ex0:=λst=>[0,1,2]++[]}
def Qvq:List (Nat×LInv):=[(0,Z4r)]
def Z62:Q0d:=mkKP 3 216 [true,true,true] [.clo 1000000068 [.ptr 0 0 0], .ptr 1, .ptr 2] [.box 106 52 Q02.sig, .box 219 1 [.pt 0 0 49], .box 41 1 [.int .u64]] (λa r=>Qh0 (Q02.of (r.getD 0 default).cs) (rcell r 2 0).toInt) (λa r=>Qyh (Q02.of (r.getD 0 default).cs) (rcell r 2 0).toInt) (λX=> .tup []) (λX=>[⟨true,106,52, .gen [(Q02.cells (X.1))]⟩,⟨true,219,1, .gen [[.ptr 0 0 49]]⟩,⟨true,41,1, .gen [[.int .u64 X.2]]⟩])
theorem Z3k:Q06 pG Z62:=qz drawn Q0m (.cons Qns (.nil)) Tryz.func216 Tryz.call216 (λa r=>Q78 (Q02.of (r.getD 0 default).cs) (rcell r 2 0).toInt) [.sl (.ints .u32) false, .sl (.recs .apiEntry) false] Qvq 3 (λ_ _ _=>by kernel_rfl) (λ_ _=>rfl) (λ_ _ h=>h)
def Q7e(p:Q02)(steps:Int)(z:(Int)×Q02×(List Q04)):Nat:=(4000-z.1).toNat
def Q4y(p:Q02)(steps:Int):Tree (Q02×(List Q04)):=
.an (Q7n p) (.lv (Qhg p) λ(x0:Q02)=> .an (Q4i x0.A0) (.lv (Q1g x0.A0) λ(x1:Bool)=> .br (!x1) (.lf (x0,[])) (.lp inferInstance (Q7e p steps (0,x0,[])+1) ((rZ/\rZ/\True/\rE ((if 4000<if 0>steps then 0 else steps then 4000 else if 0>steps then 0 else steps):Int)/\rE (0:Int)/\True)/\(mE x0.A0 (rE x0.A0.Mem) (((Els.Nil (Els.recs RK.apiEntry x0.B4)\/rE (4:Nat))/\rE x0.B4)/\rE x0.C6/\rE x0.A3/\True))/\(mE zM True (True/\rE (0:Int)/\rE (0:Int)/\True))/\rE ([]:List (RK.T RK.apiOutput))/\True) (0,x0,[]) λ(v0:Int×Q02×List Q04)=> .br (decide (v0.1<if 4000<if 0>steps then 0 else steps then 4000 else if 0>steps then 0 else steps)) (.br (decide (v0.2.1.A0.A1>=v0.2.1.C6)) (.lf (Sum.inr (v0.2.1,v0.2.2))) (.lv () λ(x2:Unit)=> .an (Qh0 v0.2.1 v0.2.1.A0.A1) (.lv (Qyh v0.2.1 v0.2.1.A0.A1) λ(x3:Q02×Int)=> .br x3.1.A0.A9 (.lf (Sum.inr (x3.1,v0.2.2))) (.an (Q8o x3.1.A0) (.lv (Q4a x3.1.A0) λ(x4:Bool)=> .br x4 (.lf (Sum.inr (x3.1,v0.2.2))) (.br (x3.1.A0.A1==1152921504606846976) (.lf (Sum.inr (x3.1,v0.2.2))) (.an (Qgs x3.1) (.lv (Qxt x3.1) λ(x5:Int×Bool×Bool)=> .br (!x5.2.2) (.lf (Sum.inr (x3.1,v0.2.2))) (.br x5.2.1 (.cn (bS 4 4&&bT 0 4&&decide ((0:Int)<=(1:Int)/\1<=(x3.1.B4.length:Int)/\(x3.1.B4.length:Int)<=(x3.1.B4.length:Int))) (.an (Q6a x3.1.A0 x5.1) (.lv (Q2g x3.1.A0 x5.1) λ(x6:Q00×List Q04)=> .cn (decide (40*(v0.2.2.length+x6.2.length)<=140737488355328)) (.nx ((rZ/\rZ/\True/\rE ((if 4000<if 0>steps then 0 else steps then 4000 else if 0>steps then 0 else steps):Int)/\rE ((wrap i64 (v0.1+1)):Int)/\True)/\(mE x6.1 (((Els.Nil (Els.ints u32 x6.1.Mem)\/rE (1:Nat))/\rE x6.1.Mem)) (((Els.Nil (Els.take (Els.drop (Els.recs RK.apiEntry x3.1.B4) (dC 1)) (dC (↑(Els.len (Els.recs RK.apiEntry x3.1.B4)):Int)-dC 1))\/rE (4:Nat))/\rE ((cY (dC (x3.1.B4.length:Int)-dC 1) (cZ (dC 1) x3.1.B4)):List (RK.T RK.apiEntry)))/\rE x3.1.C6/\rE ((wrap u32 (x5.1+1)):Int)/\True))/\(mE zM True (True/\rE (0:Int)/\rE (0:Int)/\True))/\rE ((v0.2.2++x6.2):List (RK.T RK.apiOutput))/\True) (Sum.inl (wrap i64 (v0.1+1),{A0:=x6.1,B4:=cY (dC (x3.1.B4.length:Int)-dC 1) (cZ (dC 1) x3.1.B4),C6:=x3.1.C6,A3:=wrap u32 (x5.1+1)},v0.2.2++x6.2)))))) (.an (Q6a x3.1.A0 x5.1) (.lv (Q2g x3.1.A0 x5.1) λ(x7:Q00×List Q04)=> .cn (decide (40*(v0.2.2.length+x7.2.length)<=140737488355328)) (.nx ((rZ/\rZ/\True/\rE ((if 4000<if 0>steps then 0 else steps then 4000 else if 0>steps then 0 else steps):Int)/\rE ((wrap i64 (v0.1+1)):Int)/\True)/\(mE x7.1 (((Els.Nil (Els.ints u32 x7.1.Mem)\/rE (1:Nat))/\rE x7.1.Mem)) (((Els.Nil (Els.recs RK.apiEntry x3.1.B4)\/rE (4:Nat))/\rE x3.1.B4)/\rE x3.1.C6/\rE x3.1.A3/\True))/\(mE zM True (True/\rE (0:Int)/\rE (0:Int)/\True))/\rE ((v0.2.2++x7.2):List (RK.T RK.apiOutput))/\True) (Sum.inl (wrap i64 (v0.1+1),{A0:=x7.1,B4:=x3.1.B4,C6:=x3.1.C6,A3:=x3.1.A3},v0.2.2++x7.2)))))))))))))) (.lf (Sum.inr (v0.2.1,v0.2.2))))))
def Qbw p steps:=(Q4y p steps).m
abbrev Q4p p steps:=(Q4y p steps).p
def Qxn:LInv:={
 α:=(Int)×Q02×(List Q04)
 F:=λst a=>([(2, .ptr 0 0 0),(4, .ptr 1 0 0),(6, .all 2),(21,(lk st 21)),(22, .int i64 a.1)],[⟨true,106,52, .gen [[.int u32 a.2.1.A0.B2.X.a0, .int u32 a.2.1.A0.B2.X.a1, .int u32 a.2.1.A0.B2.X.a2, .int u32 a.2.1.A0.B2.X.a3, .int u32 a.2.1.A0.B2.X.a4, .int u32 a.2.1.A0.B2.X.a5, .int u32 a.2.1.A0.B2.X.a6, .int u32 a.2.1.A0.B2.X.a7, .int u32 a.2.1.A0.B2.X.a8, .int u32 a.2.1.A0.B2.X.a9, .int u32 a.2.1.A0.B2.X.a10, .int u32 a.2.1.A0.B2.X.a11, .int u32 a.2.1.A0.B2.X.a12, .int u32 a.2.1.A0.B2.X.a13, .int u32 a.2.1.A0.B2.X.a14, .int u32 a.2.1.A0.B2.X.a15, .int u32 a.2.1.A0.B2.Pc, .int u32 a.2.1.A0.B2.B6.a0, .int u32 a.2.1.A0.B2.B6.a1, .int u32 a.2.1.A0.B2.B6.a2, .int u32 a.2.1.A0.B2.B6.a3, .int u32 a.2.1.A0.B2.B6.a4, .int u32 a.2.1.A0.B2.B6.a5, .int u32 a.2.1.A0.B2.B6.a6, .int u32 a.2.1.A0.B2.B6.a7, .sl 1 (.ints u32 a.2.1.A0.Mem) false, .str a.2.1.A0.A4.D3, .bool a.2.1.A0.B0.D2, .int u32 a.2.1.A0.B0.C9, .bool a.2.1.A0.B0.D5, .int u32 a.2.1.A0.B1.Blocks, .int u32 a.2.1.A0.B1.C1, .int u32 a.2.1.A0.B1.Frame, .int i64 a.2.1.A0.B1.C0, .int i64 a.2.1.A0.B1.D8, .int u32 a.2.1.A0.B1.B7, .int u32 a.2.1.A0.B1.B3, .str a.2.1.A0.B1.C3, .int u32 a.2.1.A0.C4.Frame, .int u32 a.2.1.A0.C4.E0, .bool a.2.1.A0.C4.C7, .int u32 a.2.1.A0.C4.B9, .bool a.2.1.A0.C4.B8, .int u32 a.2.1.A0.C4.F3, .int u32 a.2.1.A0.A2.D0, .int u32 a.2.1.A0.A2.C2, .int u64 a.2.1.A0.A1, .bool a.2.1.A0.A7, .bool a.2.1.A0.A9, .sl 4 (.recs RK.apiEntry a.2.1.B4) false, .int u64 a.2.1.C6, .int u32 a.2.1.A3]]⟩,⟨true,106,52, .gen [[(cT st 4 0),(cT st 4 1),(cT st 4 2),(cT st 4 3),(cT st 4 4),(cT st 4 5),(cT st 4 6),(cT st 4 7),(cT st 4 8),(cT st 4 9),(cT st 4 10),(cT st 4 11),(cT st 4 12),(cT st 4 13),(cT st 4 14),(cT st 4 15),(cT st 4 16),(cT st 4 17),(cT st 4 18),(cT st 4 19),(cT st 4 20),(cT st 4 21),(cT st 4 22),(cT st 4 23),(cT st 4 24),(cT st 4 25),(cT st 4 26),(cT st 4 27),(cT st 4 28),(cT st 4 29),(cT st 4 30),(cT st 4 31),(cT st 4 32),(cT st 4 33),(cT st 4 34),(cT st 4 35),(cT st 4 36),(cT st 4 37),(cT st 4 38),(cT st 4 39),(cT st 4 40),(cT st 4 41),(cT st 4 42),(cT st 4 43),(cT st 4 44),(cT st 4 45),(cT st 4 46),(cT st 4 47),(cT st 4 48),(cT st 4 49),(cT st 4 50),(cT st 4 51)]]⟩,⟨false,71,4, .recs RK.apiOutput a.2.2⟩])
 a0:=λst=>((lk st 22).toInt,(⟨(mR (cT st 2) (frzI u32 st.rows (cT st 2 25))),(slR RK.apiEntry (cT st 2 49)),(cT st 2 50).toInt,(cT st 2 51).toInt⟩:Q02),(Q5f RK.apiOutput st.rows (rN st 6)))
 ex0:=λst=>[]++[(rX st 2 0),(rX st 4 1),(rX st 6 2)]}
def Qrw:List (Nat×LInv):=[(6,Qxn)]
def Z0d:Q0d:=Q0d.fz<|mkP 68 [] false [.agg Q02.sig, .one (.int .i64)] [] (λa r=>Q4p (Q02.of (aC a 0)) (argI a 1)) (λa r=>Qbw (Q02.of (aC a 0)) (argI a 1)) (λX=> .tup [.agg (Q02.cells (X.1)), .all 0]) (λX=>[⟨false,71,4, .recs .apiOutput (X.2)⟩])
theorem Qlh:Q06 pG Z0d:=Znt<|yy (some 1000000068) (rf_of (by kernel_rfl) rfl) drawn Q0m (.cons Qc4 (.cons Qbl (.cons Qss (.cons Qgv (.cons Qj7 (.cons Qnw (.cons Qp8 (.cons Z3k (.nil))))))))) Tryz.func68 Tryz.call68 (λa r=>Q4y (Q02.of (aC a 0)) (argI a 1)) [.sl (.ints .u32) false, .sl (.recs .apiEntry) false, .row 71 4 (.recs .apiOutput)] Qrw 3 (λ_ _ _=>by kernel_rfl) (λ_ _=>rfl) (λ_ _ h=>h) (λh=>by cases h)
end
noncomputable section
def Qeb:Tree Bool:=
.an (Q98 1 0 []) (.lv (Q1x 1 0 []) λ(x0:Q00×Bool)=> .an (Qfj x0.1) (.lv (Qww x0.1) λ(x1:Q02)=> .an (Qa2 x1 [] 3) (.lv (Qmu x1 [] 3) λ(x2:Q02×Bool)=> .an (Q4p x2.1 10) (.lv (Qbw x2.1 10) λ(x3:Q02×List Q04)=> .an (Qb x3.1) (.lv (Qmy x3.1) λ(x4:Q01×Bool)=> .an (Qb x2.1) (.lv (Qmy x2.1) λ(x5:Q01×Bool)=> .br x2.2 (.lv (Qw3 x2.1) λ(x6:Int)=> .br (x6==3) (.br (x3.1.A0.A1==3) (.br ((x3.2.length:Int)==(0:Int)) (.lv (Qw3 x3.1) λ(x7:Int)=> .br (x7==0) (.br x4.2 (.lf (!x5.2)) (.lf false)) (.lf false)) (.lf false)) (.lf false)) (.lf false)) (.lf false)))))))
def Q8f:Bool:=(Qeb).m
abbrev Q39:Prop:=(Qeb).p
def Z9u:Q0d:=mT 60 [] true [] [] (λa r=>Qeb) (λX=> .bool X) (λX=>[])
theorem Z6d:Q06 pG Z9u:=oT (.cons Z3w (.cons Qrk (.cons Qua (.cons Qlh (.cons Z03 (.cons Zan (.nil))))))) Tryz.func60 Tryz.call60 [] [] 2
end
noncomputable section
def Qcx(kind:Int)(l acts:List Int)(at0 steps:Int)(z:(Int)):Nat:=(1000000000000-z).toNat
def Q7f(kind:Int)(l acts:List Int)(at0 steps:Int):Tree Bool:=
.lv (Qty l acts) λ(x0:Bool)=> .br (!x0) (.an Q39 (.lv Q8f λ(x1:Bool)=> .lf x1)) (.br (decide (steps<0)) (.an Q39 (.lv Q8f λ(x2:Bool)=> .lf x2)) (.br (decide (steps>1000)) (.an Q39 (.lv Q8f λ(x3:Bool)=> .lf x3)) (.an (Qno kind l) (.lv (Qjx kind l) λ(x4:Q00)=> .an (Qtd x4 acts) (.lv (Z43 x4 acts) λ(x5:Q01×List Q04)=>let E2:=wrap u64 (x5.1.A0.A1-x4.A1)+1; .cn (decide (wrap u64 E2≠0)) (.lp inferInstance (Qcx kind l acts at0 steps 0+1) ((rE ((wrap u64 (x4.A1+dB at0 (wrap u64 (wrap u64 (x5.1.A0.A1-x4.A1)+1)))):Int)/\rE (steps:Int)/\rZ/\rZ/\True/\rE x5.1.A0.A1/\rE (0:Int)/\True)/\(mE x4 True True)/\rE x4.Mem/\(mE x5.1.A0 True (rE x5.1.A3/\True/\True/\True))/\rE x5.1.A0.Mem/\rE x5.1.B4/\rE x5.1.A6/\rE x5.2/\True) 0 λ(v0:Int)=>let T1:Tree ((Int)⊕(Bool)):= .an (Qfj x4) (.lv (Qww x4) λ(x6:Q02)=> .cn (bS 4 4&&bT 0 4&&decide ((0:Int)<=(0:Int)/\0<=v0/\v0<=(x5.1.B4.length:Int))) (let E4:=cY (dC v0-dC 0) (cZ (dC 0) x5.1.B4);let E5:=wrap u64 (x4.A1+dB at0 (wrap u64 E2)); .an (Qa2 x6 E4 E5) (.lv (Qmu x6 E4 E5) λ(x7:Q02×Bool)=> .an (Q4p x7.1 steps) (.lv (Qbw x7.1 steps) λ(x8:Q02×List Q04)=> .an (Q4p x8.1 1000) (.lv (Qbw x8.1 1000) λ(x9:Q02×List Q04)=> .cn (bS 4 4&&bT 0 4&&decide (0<=v0/\v0<=(x5.1.B4.length:Int)/\(x5.1.B4.length:Int)<=(x5.1.B4.length:Int))) (let E3:=cY (dC (x5.1.B4.length:Int)-dC v0) (cZ v0.toNat x5.1.B4); .an (Qa2 x9.1 E3 x5.1.A0.A1) (.lv (Qmu x9.1 E3 x5.1.A0.A1) λ(x10:Q02×Bool)=> .an (Q4p x10.1 1000) (.lv (Qbw x10.1 1000) λ(x11:Q02×List Q04)=> .br (!x7.2) (.lf (Sum.inr false)) (.br (!x10.2) (.lf (Sum.inr false)) (.br (decide (x8.1.A0.A1>wrap u64 (x4.A1+dB at0 (wrap u64 E2)))) (.lf (Sum.inr false)) (.br (x9.1.A0.A1 !=wrap u64 (x4.A1+dB at0 (wrap u64 E2))) (.lf (Sum.inr false)) (.br (x11.1.A0.A1 !=x5.1.A0.A1) (.lf (Sum.inr false)) (.cn (decide (40*(0+x8.2.length)<=140737488355328)) (.cn (decide (40*(x8.2.length+x9.2.length)<=140737488355328)) (.cn (decide (40*(dH (x8.2++x9.2)+x11.2.length)<=140737488355328)) (.an (Q7g (x8.2++x9.2++x11.2) x5.2) (.lv (Qc3 (x8.2++x9.2++x11.2) x5.2) λ(x12:Bool)=> .br x12 (.an Q39 (.lv Q8f λ(x13:Bool)=> .lf (Sum.inr x13))) (.lf (Sum.inr false))))))))))))))))))); .br (decide (v0<(x5.1.B4.length:Int))) (.cn (bS 4 4&&bT 0 4&&decide (0<=v0/\v0<(x5.1.B4.length:Int))) (.br (decide ((x5.1.B4.getD v0.toNat (RK.dflt RK.apiEntry)).At<wrap u64 (x4.A1+dB at0 (wrap u64 E2)))) (.nx ((rE ((wrap u64 (x4.A1+dB at0 (wrap u64 (wrap u64 (x5.1.A0.A1-x4.A1)+1)))):Int)/\rE (steps:Int)/\rZ/\rZ/\True/\rE x5.1.A0.A1/\rE ((wrap i64 (v0+1)):Int)/\True)/\(mE x4 True True)/\rE x4.Mem/\(mE x5.1.A0 True (rE x5.1.A3/\True/\True/\True))/\rE x5.1.A0.Mem/\rE x5.1.B4/\rE x5.1.A6/\rE x5.2/\True) (Sum.inl (wrap i64 (v0+1)))) T1)) T1))))))
def Qdj kind l acts at0 steps:=(Q7f kind l acts at0 steps).m
abbrev Qeh kind l acts at0 steps:=(Q7f kind l acts at0 steps).p
def Qod:LInv:={
 α:=(Int)
 F:=λst a=>([(3,(lk st 3)),(4,(lk st 4)),(11, .ptr 0 0 0),(12, .ptr 2 0 0),(13, .all 6),(14,(lk st 14)),(15, .int i64 a)],[⟨true,43,49, .gen [[(cT st 11 0),(cT st 11 1),(cT st 11 2),(cT st 11 3),(cT st 11 4),(cT st 11 5),(cT st 11 6),(cT st 11 7),(cT st 11 8),(cT st 11 9),(cT st 11 10),(cT st 11 11),(cT st 11 12),(cT st 11 13),(cT st 11 14),(cT st 11 15),(cT st 11 16),(cT st 11 17),(cT st 11 18),(cT st 11 19),(cT st 11 20),(cT st 11 21),(cT st 11 22),(cT st 11 23),(cT st 11 24), .all 1,(cT st 11 26),(cT st 11 27),(cT st 11 28),(cT st 11 29),(cT st 11 30),(cT st 11 31),(cT st 11 32),(cT st 11 33),(cT st 11 34),(cT st 11 35),(cT st 11 36),(cT st 11 37),(cT st 11 38),(cT st 11 39),(cT st 11 40),(cT st 11 41),(cT st 11 42),(cT st 11 43),(cT st 11 44),(cT st 11 45),(cT st 11 46),(cT st 11 47),(cT st 11 48)]]⟩,⟨false,25,1,esOf st.rows (Q0t (cT st 11 25) 1000000)⟩,⟨true,96,52, .gen [[(cT st 12 0),(cT st 12 1),(cT st 12 2),(cT st 12 3),(cT st 12 4),(cT st 12 5),(cT st 12 6),(cT st 12 7),(cT st 12 8),(cT st 12 9),(cT st 12 10),(cT st 12 11),(cT st 12 12),(cT st 12 13),(cT st 12 14),(cT st 12 15),(cT st 12 16),(cT st 12 17),(cT st 12 18),(cT st 12 19),(cT st 12 20),(cT st 12 21),(cT st 12 22),(cT st 12 23),(cT st 12 24), .all 3,(cT st 12 26),(cT st 12 27),(cT st 12 28),(cT st 12 29),(cT st 12 30),(cT st 12 31),(cT st 12 32),(cT st 12 33),(cT st 12 34),(cT st 12 35),(cT st 12 36),(cT st 12 37),(cT st 12 38),(cT st 12 39),(cT st 12 40),(cT st 12 41),(cT st 12 42),(cT st 12 43),(cT st 12 44),(cT st 12 45),(cT st 12 46),(cT st 12 47),(cT st 12 48),(cT st 12 49), .all 4, .all 5]]⟩,⟨false,25,1,esOf st.rows (Q0t (cT st 12 25) 1000000)⟩,⟨false,126,4,esOf st.rows (Q0t (cT st 12 50) 1000000)⟩,⟨false,66,3,esOf st.rows (Q0t (cT st 12 51) 1000000)⟩,⟨false,71,4,esOf st.rows (rN st 13)⟩])
 a0:=λst=>(lk st 15).toInt
 ex0:=λst=>[]++[(rX st 11 0),(Q0t (cT st 11 25) (st.rows.length+1)),(rX st 12 2),(Q0t (cT st 12 25) (st.rows.length+3)),(Q0t (cT st 12 50) (st.rows.length+4)),(Q0t (cT st 12 51) (st.rows.length+5)),(rX st 13 6)]}
def Qmz:List (Nat×LInv):=[(8,Qod)]
def Qqh:Q0d:=mT 11 [] true [.one (.int .i64), .one (.ints .i64), .one (.ints .i64), .one (.int .u64), .one (.int .i64)] [] (λa r=>Q7f (argI a 0) (argL .i64 a 1) (argL .i64 a 2) (argI a 3) (argI a 4)) (λX=> .bool X) (λX=>[])
theorem Qom:Q06 pG Qqh:=oT (.cons Zif (.cons Z6d (.cons Z3x (.cons Zf0 (.cons Qrk (.cons Qua (.cons Qlh (.cons Qro (.nil))))))))) Tryz.func11 Tryz.call11 [] Qmz 3

import Derived.Test.YtmalmklaonainaaGreatMachineEncodesZd
import Derived.Test.YtmalmklaonainaaGreatMachineEncodesZx
open Nat renaming beq->bS, blt->bT, lt_succ_self->cO
open List renaming getD->aK, length->dL, append->cS, take->dC, drop->dD, set->dH
open Int renaming toNat->dG
open UInt8 renaming toNat->eZ
set_option maxRecDepth 100000
set_option linter.all false
namespace Go.Proofs.YtmalmklaonainaaGreat
open Go Go.GD Go.IntKind
noncomputable section
instance sumInhZi {α β:Type} [Inhabited β]:Inhabited (α⊕β):=⟨.inr default⟩
def Qqk(src:List UInt8)(z:(Int)×(List Int)):Nat:=((Qzn src).2.1.length-z.1).toNat
def Qqa(src:List UInt8)(v0:Int×List Int)(z:(Int)×(List Int)):Nat:=(1024-z.1).toNat
def Q8x(src:List UInt8):Tree ((List Int)×Q13):=
.an (Qkm src) (.lv (Qzn src) λ(x0:List Q1w×List Q09×Q13)=> .br (x0.2.2.Err !=0) (.lf ([],x0.2.2)) (.lp inferInstance (Qqk src (0,[])+1) ((True/\rZ/\True/\True/\True/\rE (0:Int)/\True)/\(rE (0:Int)/\rE (0:Int)/\True)/\rE x0.1/\rE x0.2.1/\rE ([]:List Int)/\True) (0,[]) λ(v0:Int×List Int)=> .br (decide (v0.1<(x0.2.1.length:Int))) (.cn (bS 6 6&&bT 0 6&&decide (0<=v0.1/\v0.1<(x0.2.1.length:Int))) (let E4:=x0.2.1.getD v0.1.toNat (RK.dflt RK.vmfleetref1Statement);let T1:Tree ((Int×List Int)⊕(((List Int)×Q13))):= .lp inferInstance (Qqa src v0 (0,v0.2)+1) ((True/\rZ/\True/\True/\True/\rE v0.1/\rZ/\rE (0:Int)/\True)/\(rE (0:Int)/\rE (0:Int)/\True)/\rE x0.1/\rE x0.2.1/\(rE ((x0.2.1.getD v0.1.toNat (RK.dflt RK.vmfleetref1Statement)).what:List UInt8)/\rE ((x0.2.1.getD v0.1.toNat (RK.dflt RK.vmfleetref1Statement)).op:Int)/\((Els.Nil (D.toEs (aK (Els.get (Els.recs RK.vmfleetref1Statement x0.2.1) v0.1.toNat) ((0:Nat)+(1:Nat)+(1:Nat)) D.dead))\/rE (3:Nat))/\rE ((x0.2.1.getD v0.1.toNat (RK.dflt RK.vmfleetref1Statement)).l:List (RK.T RK.vmfleetref1Arg)))/\rE ((x0.2.1.getD v0.1.toNat (RK.dflt RK.vmfleetref1Statement)).D6:Int)/\rE ((x0.2.1.getD v0.1.toNat (RK.dflt RK.vmfleetref1Statement)).at_:Int)/\rE ((x0.2.1.getD v0.1.toNat (RK.dflt RK.vmfleetref1Statement)).size:Int)/\True)/\rE v0.2/\True) (0,v0.2) λ(v1:Int×List Int)=> .br (decide (v1.1<E4.size)) (.cn (decide (4*(v1.2.length+1)<=140737488355328)) (.nx ((True/\rZ/\True/\True/\True/\rE v0.1/\rZ/\rE ((wrap i64 (v1.1+1)):Int)/\True)/\(rE (0:Int)/\rE (0:Int)/\True)/\rE x0.1/\rE x0.2.1/\(rE ((x0.2.1.getD v0.1.toNat (RK.dflt RK.vmfleetref1Statement)).what:List UInt8)/\rE ((x0.2.1.getD v0.1.toNat (RK.dflt RK.vmfleetref1Statement)).op:Int)/\((Els.Nil (Els.recs RK.vmfleetref1Arg (x0.2.1.getD v0.1.toNat (RK.dflt RK.vmfleetref1Statement)).l)\/rE (3:Nat))/\rE ((x0.2.1.getD v0.1.toNat (RK.dflt RK.vmfleetref1Statement)).l:List (RK.T RK.vmfleetref1Arg)))/\rE ((x0.2.1.getD v0.1.toNat (RK.dflt RK.vmfleetref1Statement)).D6:Int)/\rE ((x0.2.1.getD v0.1.toNat (RK.dflt RK.vmfleetref1Statement)).at_:Int)/\rE ((x0.2.1.getD v0.1.toNat (RK.dflt RK.vmfleetref1Statement)).size:Int)/\True)/\rE ((v1.2++[0]):List Int)/\True) (Sum.inl (wrap i64 (v1.1+1),v1.2++[0])))) (.nx ((True/\rZ/\True/\True/\True/\rE ((wrap i64 (v0.1+1)):Int)/\True)/\(rE (0:Int)/\rE (0:Int)/\True)/\rE x0.1/\rE x0.2.1/\rE v1.2/\True) (Sum.inr (Sum.inl (wrap i64 (v0.1+1),v1.2))));let E5:=bS 3 3&&bT 0 3&&decide ((0:Int)<=(0:Int)/\0<(↑(dL E4.l):Int));let E7:=aK E4.l (dG 0) (RK.dflt RK.vmfleetref1Arg);let E8:=decide (4*(v0.2.length+1)<=140737488355328);let T2:Tree ((Int×List Int)⊕(((List Int)×Q13))):= .cn E5 (.cn (bS 3 3&&bT 0 3&&decide ((0:Int)<=(1:Int)/\1<(↑(dL E4.l):Int))) (.lv (Q18 {Op:=16,A:=E7.reg,B:=(aK E4.l (dG 1) (RK.dflt RK.vmfleetref1Arg)).reg,C:=0,Imm:=0}) λ(x4:Int×Bool)=> .cn E8 (.nx ((True/\rZ/\True/\True/\True/\rE ((wrap i64 (v0.1+1)):Int)/\True)/\(rE (0:Int)/\rE (0:Int)/\True)/\rE x0.1/\rE x0.2.1/\rE ((v0.2++[x4.1]):List Int)/\True) (Sum.inl (wrap i64 (v0.1+1),v0.2++[x4.1])))));let T3:Tree ((Int×List Int)⊕(((List Int)×Q13))):= .lv (Q18 {Op:=16,A:=0,B:=0,C:=0,Imm:=0}) λ(x5:Int×Bool)=> .cn E8 (.nx ((True/\rZ/\True/\True/\True/\rE ((wrap i64 (v0.1+1)):Int)/\True)/\(rE (0:Int)/\rE (0:Int)/\True)/\rE x0.1/\rE x0.2.1/\rE ((v0.2++[x5.1]):List Int)/\True) (Sum.inl (wrap i64 (v0.1+1),v0.2++[x5.1])));let E9:=decide (E4.what=[(46:UInt8),115,112,97,99,101]);let E10:=decide (E4.what=[(46:UInt8),119,111,114,100]);let E12:=decide (E4.what=[(110:UInt8),111,112]);let E13:=decide (4*(v0.2.length+2)<=140737488355328);let E14:=decide (E4.what=[(108:UInt8),105]);let E15:=decide (E4.what=[(109:UInt8),118]); .br (decide ((↑(dL E4.l):Int)>(0:Int))) (.cn (bS 3 3&&bT 0 3&&decide (0<=wrap i64 ((↑(dL E4.l):Int)-(1:Int))/\wrap i64 ((↑(dL E4.l):Int)-(1:Int))<(↑(dL E4.l):Int))) (let E6:=aK E4.l (dG (wrap i64 ((↑(dL E4.l):Int)-(1:Int)))) (RK.dflt RK.vmfleetref1Arg); .br (!decide (E6.label=[])) (.an (Q30 x0.1 E6.label) (.lv (Qn5 x0.1 E6.label) λ(x1:Int×Bool)=> .br (!x1.2) (.lf (Sum.inr ([],{Err:=302,Line:=E4.D6}))) (.br (decide (E4.op>0)) (let E11:=wrap i64 (wrap i64 (Int.tdiv (wrap i64 x1.1) 4)-E4.at_); .br E10 (.cn E8 (.nx ((True/\rZ/\True/\True/\True/\rE ((wrap i64 (v0.1+1)):Int)/\True)/\(rE (0:Int)/\rE (0:Int)/\True)/\rE x0.1/\rE x0.2.1/\rE ((v0.2++[wrap u32 (wrap i64 (wrap i64 (Int.tdiv (wrap i64 x1.1) 4)-(x0.2.1.getD v0.1.toNat (RK.dflt RK.vmfleetref1Statement)).at_))]):List Int)/\True) (Sum.inl (wrap i64 (v0.1+1),v0.2++[wrap u32 E11])))) (.br E9 T1 (.br E14 (.cn E5 (.lv (Q18 {Op:=24,A:=E7.reg,B:=0,C:=0,Imm:=wrap i32 (ishr u32 (wrap u32 E11) 16)}) λ(x2:Int×Bool)=> .cn E5 (.cn E5 (.lv (Q18 {Op:=18,A:=E7.reg,B:=E7.reg,C:=0,Imm:=wrap i32 (iand u32 (wrap u32 E11) 65535)}) λ(x3:Int×Bool)=> .cn E13 (.nx ((True/\rZ/\True/\True/\True/\rE ((wrap i64 (v0.1+1)):Int)/\True)/\(rE (0:Int)/\rE (0:Int)/\True)/\rE x0.1/\rE x0.2.1/\rE ((v0.2++[x2.1,x3.1]):List Int)/\True) (Sum.inl (wrap i64 (v0.1+1),v0.2++[x2.1,x3.1]))))))) (.br E15 T2 (.br E12 T3 (.an (Q9d E4 E11) (.lv (Qo6 E4 E11) λ(x6:Int×Bool)=> .br (!x6.2) (.lf (Sum.inr ([],{Err:=304,Line:=E4.D6}))) (.cn E8 (.nx ((True/\rZ/\True/\True/\True/\rE ((wrap i64 (v0.1+1)):Int)/\True)/\(rE (0:Int)/\rE (0:Int)/\True)/\rE x0.1/\rE x0.2.1/\rE ((v0.2++[x6.1]):List Int)/\True) (Sum.inl (wrap i64 (v0.1+1),v0.2++[x6.1]))))))))))) (.br E10 (.cn E8 (.nx ((True/\rZ/\True/\True/\True/\rE ((wrap i64 (v0.1+1)):Int)/\True)/\(rE (0:Int)/\rE (0:Int)/\True)/\rE x0.1/\rE x0.2.1/\rE ((v0.2++[wrap u32 (wrap i64 x1.1)]):List Int)/\True) (Sum.inl (wrap i64 (v0.1+1),v0.2++[wrap u32 (wrap i64 x1.1)])))) (.br E9 T1 (.br E14 (.cn E5 (.lv (Q18 {Op:=24,A:=E7.reg,B:=0,C:=0,Imm:=wrap i32 (ishr u32 (wrap u32 (wrap i64 x1.1)) 16)}) λ(x7:Int×Bool)=> .cn E5 (.cn E5 (.lv (Q18 {Op:=18,A:=E7.reg,B:=E7.reg,C:=0,Imm:=wrap i32 (iand u32 (wrap u32 (wrap i64 x1.1)) 65535)}) λ(x8:Int×Bool)=> .cn E13 (.nx ((True/\rZ/\True/\True/\True/\rE ((wrap i64 (v0.1+1)):Int)/\True)/\(rE (0:Int)/\rE (0:Int)/\True)/\rE x0.1/\rE x0.2.1/\rE ((v0.2++[x7.1,x8.1]):List Int)/\True) (Sum.inl (wrap i64 (v0.1+1),v0.2++[x7.1,x8.1]))))))) (.br E15 T2 (.br E12 T3 (.an (Q9d E4 (wrap i64 x1.1)) (.lv (Qo6 E4 (wrap i64 x1.1)) λ(x11:Int×Bool)=> .br (!x11.2) (.lf (Sum.inr ([],{Err:=304,Line:=E4.D6}))) (.cn E8 (.nx ((True/\rZ/\True/\True/\True/\rE ((wrap i64 (v0.1+1)):Int)/\True)/\(rE (0:Int)/\rE (0:Int)/\True)/\rE x0.1/\rE x0.2.1/\rE ((v0.2++[x11.1]):List Int)/\True) (Sum.inl (wrap i64 (v0.1+1),v0.2++[x11.1])))))))))))))) (.br E10 (.cn E8 (.nx ((True/\rZ/\True/\True/\True/\rE ((wrap i64 (v0.1+1)):Int)/\True)/\(rE (0:Int)/\rE (0:Int)/\True)/\rE x0.1/\rE x0.2.1/\rE ((v0.2++[wrap u32 (aK (x0.2.1.getD v0.1.toNat (RK.dflt RK.vmfleetref1Statement)).l (dG (wrap i64 ((↑(dL (x0.2.1.getD v0.1.toNat (RK.dflt RK.vmfleetref1Statement)).l):Int)-(1:Int)))) (RK.dflt RK.vmfleetref1Arg)).num]):List Int)/\True) (Sum.inl (wrap i64 (v0.1+1),v0.2++[wrap u32 E6.num])))) (.br E9 T1 (.br E14 (.cn E5 (.lv (Q18 {Op:=24,A:=E7.reg,B:=0,C:=0,Imm:=wrap i32 (ishr u32 (wrap u32 E6.num) 16)}) λ(x12:Int×Bool)=> .cn E5 (.cn E5 (.lv (Q18 {Op:=18,A:=E7.reg,B:=E7.reg,C:=0,Imm:=wrap i32 (iand u32 (wrap u32 E6.num) 65535)}) λ(x13:Int×Bool)=> .cn E13 (.nx ((True/\rZ/\True/\True/\True/\rE ((wrap i64 (v0.1+1)):Int)/\True)/\(rE (0:Int)/\rE (0:Int)/\True)/\rE x0.1/\rE x0.2.1/\rE ((v0.2++[x12.1,x13.1]):List Int)/\True) (Sum.inl (wrap i64 (v0.1+1),v0.2++[x12.1,x13.1]))))))) (.br E15 T2 (.br E12 T3 (.an (Q9d E4 E6.num) (.lv (Qo6 E4 E6.num) λ(x16:Int×Bool)=> .br (!x16.2) (.lf (Sum.inr ([],{Err:=304,Line:=E4.D6}))) (.cn E8 (.nx ((True/\rZ/\True/\True/\True/\rE ((wrap i64 (v0.1+1)):Int)/\True)/\(rE (0:Int)/\rE (0:Int)/\True)/\rE x0.1/\rE x0.2.1/\rE ((v0.2++[x16.1]):List Int)/\True) (Sum.inl (wrap i64 (v0.1+1),v0.2++[x16.1]))))))))))))) (.br E10 (.cn E8 (.nx ((True/\rZ/\True/\True/\True/\rE ((wrap i64 (v0.1+1)):Int)/\True)/\(rE (0:Int)/\rE (0:Int)/\True)/\rE x0.1/\rE x0.2.1/\rE ((v0.2++[wrap u32 0]):List Int)/\True) (Sum.inl (wrap i64 (v0.1+1),v0.2++[wrap u32 0])))) (.br E9 T1 (.br E14 (.cn E5 (.lv (Q18 {Op:=24,A:=E7.reg,B:=0,C:=0,Imm:=wrap i32 (ishr u32 (wrap u32 0) 16)}) λ(x17:Int×Bool)=> .cn E5 (.cn E5 (.lv (Q18 {Op:=18,A:=E7.reg,B:=E7.reg,C:=0,Imm:=wrap i32 (iand u32 (wrap u32 0) 65535)}) λ(x18:Int×Bool)=> .cn E13 (.nx ((True/\rZ/\True/\True/\True/\rE ((wrap i64 (v0.1+1)):Int)/\True)/\(rE (0:Int)/\rE (0:Int)/\True)/\rE x0.1/\rE x0.2.1/\rE ((v0.2++[x17.1,x18.1]):List Int)/\True) (Sum.inl (wrap i64 (v0.1+1),v0.2++[x17.1,x18.1]))))))) (.br E15 T2 (.br E12 T3 (.an (Q9d E4 0) (.lv (Qo6 E4 0) λ(x21:Int×Bool)=> .br (!x21.2) (.lf (Sum.inr ([],{Err:=304,Line:=E4.D6}))) (.cn E8 (.nx ((True/\rZ/\True/\True/\True/\rE ((wrap i64 (v0.1+1)):Int)/\True)/\(rE (0:Int)/\rE (0:Int)/\True)/\rE x0.1/\rE x0.2.1/\rE ((v0.2++[x21.1]):List Int)/\True) (Sum.inl (wrap i64 (v0.1+1),v0.2++[x21.1]))))))))))))) (.lf (Sum.inr (v0.2,{Err:=0,Line:=0})))))
def Q1z src:=(Q8x src).m
abbrev Q9n src:=(Q8x src).p
def Qyn:LInv:={
 α:=(Int)×(List Int)
 F:=λst a=>([(2,(lk st 2)),(3, .ptr 0 0 0),(4, .all 1),(5, .all 2),(7, .all 3),(8, .int i64 a.1)],[⟨true,59,2, .gen [[(cT st 3 0),(cT st 3 1)]]⟩,⟨false,257,2,esOf st.rows (rN st 4)⟩,⟨false,181,6,esOf st.rows (rN st 5)⟩,⟨false,25,1, .ints u32 a.2⟩])
 a0:=λst=>((lk st 8).toInt,(Q3h st.rows (rN st 7)))
 ex0:=λst=>[]++[(rX st 3 0),(rX st 4 1),(rX st 5 2),(rX st 7 3)]}
def Qyb:LInv:={
 α:=(Int)×(List Int)
 F:=λst a=>([(2,(lk st 2)),(3, .ptr 0 0 0),(4, .all 1),(5, .all 2),(7, .all 4),(8,(lk st 8)),(9, .ptr 3 0 0),(14, .int i64 a.1)],[⟨true,59,2, .gen [[(cT st 3 0),(cT st 3 1)]]⟩,⟨false,257,2,esOf st.rows (rN st 4)⟩,⟨false,181,6,esOf st.rows (rN st 5)⟩,⟨true,181,6, .gen [[(cT st 9 0),(cT st 9 1),(cT st 9 2),(cT st 9 3),(cT st 9 4),(cT st 9 5)]]⟩,⟨false,25,1, .ints u32 a.2⟩])
 a0:=λst=>((lk st 14).toInt,(Q3h st.rows (rN st 7)))
 ex0:=λst=>[]++[(rX st 3 0),(rX st 4 1),(rX st 5 2),(rX st 9 3),(rX st 7 4)]}
def Qs8:List (Nat×LInv):=[(6,Qyn),(29,Qyb)]
def Z0f:Q0b:=mT 36 [] true [.one (.str)] [] (λa r=>Q8x (argS a 0)) (λX=> .tup [.all 0, .agg (Q13.cells (X.2))]) (λX=>[⟨false,25,1, .ints .u32 (X.1)⟩])
theorem Qxs:Q04 pG Z0f:=oT (.cons Zfi (.cons Qn7 (.cons Qdk (.cons Zdy (.nil))))) Tryz.func36 Tryz.call36 [.row 25 1 (.ints .u32)] Qs8 3
end
noncomputable section
instance sumInhZh {α β:Type} [Inhabited β]:Inhabited (α⊕β):=⟨.inr default⟩
def Q3e(m:Q00):Tree Q01:=
.an (Qbk m) (.lv (Qiv m) λ(x0:Q00)=> .lf ({A0:=x0,B3:=0,C7:=[],B0:=[]}))
def Q35 m:=(Q3e m).m
abbrev Qer m:=(Q3e m).p
def Qqd:Q0b:=mT 148 [] true [.agg Q00.sig] [] (λa r=>Q3e (Q00.of (aC a 0))) (λX=> .agg (Q01.cellsW X (.all 0) (.all 1) (.all 2))) (λX=>[⟨false,25,1, .ints .u32 X.A0.Mem⟩,⟨false,126,4, .recs .apiEntry X.C7⟩,⟨false,66,3, .recs .apiEvent X.B0⟩])
theorem Qp6:Q04 pG Qqd:=oT (.cons Qkp (.nil)) Tryz.func148 Tryz.call148 [.row 25 1 (.ints .u32), .row 126 4 (.recs .apiEntry), .row 66 3 (.recs .apiEvent)] [] 2
def Q79(r:Q01)(n:Int):Tree (Q01×(List Q08)):=
.lv (Q99 n 3) λ(x0:Int)=> .br (Int.tmod x0 (3:Int)==(0:Int)) (.an (Qpw n) (.lv (Qg4 n) λ(x1:Q0e)=> .an (Qm7 r x1) (.lv (Q4p r x1) λ(x2:Q01×Bool)=> .lf (x2.1,[])))) (.an (Q1i (ishr i64 x0 4) 12) (.lv (Q1s (ishr i64 x0 4) 12) λ(x3:Int)=>let E1:=wrap u32 (iand i64 (ishr i64 x0 12) 255); .an (Qkh r x3 E1) (.lv (Qca r x3 E1) λ(x4:Q01×List Q08)=> .lf (x4.1,x4.2))))
def Q5t r n:=(Q79 r n).m
abbrev Qrf r n:=(Q79 r n).p
def Zhi:Q0b:=mT 55 [] true [.agg Q01.sig, .one (.int .i64)] [] (λa r=>Q79 (Q01.of (aC a 0)) (argI a 1)) (λX=> .tup [.agg (Q01.cellsW (X.1) (.all 0) (.all 1) (.all 2)), .all 3]) (λX=>[⟨false,25,1, .ints .u32 (X.1).A0.Mem⟩,⟨false,126,4, .recs .apiEntry (X.1).C7⟩,⟨false,66,3, .recs .apiEvent (X.1).B0⟩,⟨false,71,4, .recs .apiOutput (X.2)⟩])
theorem Zec:Q04 pG Zhi:=oT (.cons Ql (.cons Z1c (.cons Z8v (.cons Qyi (.cons Qfn (.nil)))))) Tryz.func55 Tryz.call55 [.row 25 1 (.ints .u32), .row 126 4 (.recs .apiEntry), .row 66 3 (.recs .apiEvent), .row 71 4 (.recs .apiOutput)] [] 2
def Qgn(m:Q00)(l:List Int)(z:(Int)×Q01×(List Q08)):Nat:=(l.length-z.1).toNat
def Qaw(m:Q00)(l:List Int):Tree (Q01×(List Q08)):=
.an (Qer m) (.lv (Q35 m) λ(x0:Q01)=> .lp inferInstance (Qgn m l (0,x0,[])+1) ((((Els.Nil (Els.ints i64 l)\/rE (1:Nat))/\rE (l:List Int))/\rZ/\rZ/\True/\rE (0:Int)/\True)/\(mE zM True (rE (0:Int)/\True/\True/\True))/\(mE x0.A0 True (rE x0.B3/\True/\True/\True))/\rE x0.A0.Mem/\rE x0.C7/\rE x0.B0/\rE ([]:List (RK.T RK.apiOutput))/\True) (0,x0,[]) λ(v0:Int×Q01×List Q08)=> .br (decide (v0.1<(l.length:Int))) (.cn (bS 1 1&&bT 0 1&&decide (0<=v0.1/\v0.1<(l.length:Int))) (.an (Qrf v0.2.1 (l.getD v0.1.toNat 0)) (.lv (Q5t v0.2.1 (l.getD v0.1.toNat 0)) λ(x1:Q01×List Q08)=> .cn (decide (40*(v0.2.2.length+x1.2.length)<=140737488355328)) (.nx ((((Els.Nil (Els.ints i64 l)\/rE (1:Nat))/\rE (l:List Int))/\rZ/\rZ/\True/\rE ((wrap i64 (v0.1+1)):Int)/\True)/\(mE zM True (rE (0:Int)/\True/\True/\True))/\(mE x1.1.A0 True (rE x1.1.B3/\True/\True/\True))/\rE x1.1.A0.Mem/\rE x1.1.C7/\rE x1.1.B0/\rE ((v0.2.2++x1.2):List (RK.T RK.apiOutput))/\True) (Sum.inl (wrap i64 (v0.1+1),x1.1,v0.2.2++x1.2)))))) (.lf (Sum.inr (v0.2.1,v0.2.2))))
def Z0r m l:=(Qaw m l).m
abbrev Qsa m l:=(Qaw m l).p
def Zbk:LInv:={
 α:=(Int)×Q01×(List Q08)
 F:=λst a=>([(1,(lk st 1)),(4, .ptr 0 0 0),(6, .ptr 1 0 0),(7, .all 5),(8, .int i64 a.1)],[⟨true,96,52, .gen [[(cT st 4 0),(cT st 4 1),(cT st 4 2),(cT st 4 3),(cT st 4 4),(cT st 4 5),(cT st 4 6),(cT st 4 7),(cT st 4 8),(cT st 4 9),(cT st 4 10),(cT st 4 11),(cT st 4 12),(cT st 4 13),(cT st 4 14),(cT st 4 15),(cT st 4 16),(cT st 4 17),(cT st 4 18),(cT st 4 19),(cT st 4 20),(cT st 4 21),(cT st 4 22),(cT st 4 23),(cT st 4 24),(cT st 4 25),(cT st 4 26),(cT st 4 27),(cT st 4 28),(cT st 4 29),(cT st 4 30),(cT st 4 31),(cT st 4 32),(cT st 4 33),(cT st 4 34),(cT st 4 35),(cT st 4 36),(cT st 4 37),(cT st 4 38),(cT st 4 39),(cT st 4 40),(cT st 4 41),(cT st 4 42),(cT st 4 43),(cT st 4 44),(cT st 4 45),(cT st 4 46),(cT st 4 47),(cT st 4 48),(cT st 4 49),(cT st 4 50),(cT st 4 51)]]⟩,⟨true,96,52, .gen [[.int u32 a.2.1.A0.B1.X.a0, .int u32 a.2.1.A0.B1.X.a1, .int u32 a.2.1.A0.B1.X.a2, .int u32 a.2.1.A0.B1.X.a3, .int u32 a.2.1.A0.B1.X.a4, .int u32 a.2.1.A0.B1.X.a5, .int u32 a.2.1.A0.B1.X.a6, .int u32 a.2.1.A0.B1.X.a7, .int u32 a.2.1.A0.B1.X.a8, .int u32 a.2.1.A0.B1.X.a9, .int u32 a.2.1.A0.B1.X.a10, .int u32 a.2.1.A0.B1.X.a11, .int u32 a.2.1.A0.B1.X.a12, .int u32 a.2.1.A0.B1.X.a13, .int u32 a.2.1.A0.B1.X.a14, .int u32 a.2.1.A0.B1.X.a15, .int u32 a.2.1.A0.B1.Pc, .int u32 a.2.1.A0.B1.B4.a0, .int u32 a.2.1.A0.B1.B4.a1, .int u32 a.2.1.A0.B1.B4.a2, .int u32 a.2.1.A0.B1.B4.a3, .int u32 a.2.1.A0.B1.B4.a4, .int u32 a.2.1.A0.B1.B4.a5, .int u32 a.2.1.A0.B1.B4.a6, .int u32 a.2.1.A0.B1.B4.a7, .all 2, .str a.2.1.A0.A2.D0, .bool a.2.1.A0.A7.D2, .int u32 a.2.1.A0.A7.C3, .bool a.2.1.A0.A7.D1, .int u32 a.2.1.A0.A9.Blocks, .int u32 a.2.1.A0.A9.C1, .int u32 a.2.1.A0.A9.Frame, .int i64 a.2.1.A0.A9.B7, .int i64 a.2.1.A0.A9.D4, .int u32 a.2.1.A0.A9.B5, .int u32 a.2.1.A0.A9.B2, .str a.2.1.A0.A9.B8, .int u32 a.2.1.A0.B9.Frame, .int u32 a.2.1.A0.B9.D8, .bool a.2.1.A0.B9.C5, .int u32 a.2.1.A0.B9.C0, .bool a.2.1.A0.B9.B6, .int u32 a.2.1.A0.B9.D9, .int u32 a.2.1.A0.A1.C6, .int u32 a.2.1.A0.A1.C2, .int u64 a.2.1.A0.A4, .bool a.2.1.A0.A3, .bool a.2.1.A0.A6, .int u32 a.2.1.B3, .all 3, .all 4]]⟩,⟨false,25,1, .ints u32 a.2.1.A0.Mem⟩,⟨false,126,4, .recs RK.apiEntry a.2.1.C7⟩,⟨false,66,3, .recs RK.apiEvent a.2.1.B0⟩,⟨false,71,4, .recs RK.apiOutput a.2.2⟩])
 a0:=λst=>((lk st 8).toInt,(⟨(mR (cT st 6) (Q3h st.rows (Q0n (cT st 6 25) 1000000))),(cT st 6 49).toInt,(Q68 RK.apiEntry st.rows (Q0n (cT st 6 50) 1000000)),(Q68 RK.apiEvent st.rows (Q0n (cT st 6 51) 1000000))⟩:Q01),(Q68 RK.apiOutput st.rows (rN st 7)))
 ex0:=λst=>[]++[(rX st 4 0),(rX st 6 1),(Q0n (cT st 6 25) (st.rows.length+2)),(Q0n (cT st 6 50) (st.rows.length+3)),(Q0n (cT st 6 51) (st.rows.length+4)),(rX st 7 5)]}
def Z4e:List (Nat×LInv):=[(4,Zbk)]
def Zg7:Q0b:=mT 57 [] true [.agg Q00.sig, .one (.ints .i64)] [] (λa r=>Qaw (Q00.of (aC a 0)) (argL .i64 a 1)) (λX=> .tup [.agg (Q01.cellsW (X.1) (.all 0) (.all 1) (.all 2)), .all 3]) (λX=>[⟨false,25,1, .ints .u32 (X.1).A0.Mem⟩,⟨false,126,4, .recs .apiEntry (X.1).C7⟩,⟨false,66,3, .recs .apiEvent (X.1).B0⟩,⟨false,71,4, .recs .apiOutput (X.2)⟩])
theorem Zcg:Q04 pG Zg7:=oT (.cons Qp6 (.cons Zec (.nil))) Tryz.func57 Tryz.call57 [.row 25 1 (.ints .u32), .row 126 4 (.recs .apiEntry), .row 66 3 (.recs .apiEvent), .row 71 4 (.recs .apiOutput)] Z4e 3
end
noncomputable section
def tblZe0:List UInt8:=[(105:UInt8),32,114,49,44,32,104,97,110,100,108,101,114,10,99,115,114,119,32,114,49,44,32,49,10,108,105,32,114,49,44,32,51,49,10,99,115,114,119,32,114]
def Z56:List UInt8:=[(49:UInt8),44,32,55,10,108,105,32,114,49,44,32,52,10,99,115,114,119,32,114,49,44,32,54,10,108,105,32,114,50,44,32,53,49,50,10,108,105,32,114,51,44]
def Z5y:List UInt8:=[(32:UInt8),48,10,108,105,32,114,52,44,32,56,10,109,97,112,58,32,115,104,108,105,32,114,53,44,32,114,51,44,32,56,10,111,114,105,32,114,53,44,32,114,53]
def Z6:List UInt8:=[(44:UInt8),32,55,10,115,104,108,105,32,114,54,44,32,114,51,44,32,50,10,97,100,100,32,114,54,44,32,114,54,44,32,114,50,10,115,119,32,114,53,44,32,48,40]
def Z5o:List UInt8:=[(114:UInt8),54,41,10,97,100,100,105,32,114,51,44,32,114,51,44,32,49,10,98,108,116,32,114,51,44,32,114,52,44,32,109,97,112,10,108,105,32,114,49,44,32]
def Z6e:List UInt8:=[(54:UInt8),10,111,117,116,32,114,49,44,32,55,10,108,105,32,114,49,44,32,50,10,111,117,116,32,114,49,44,32,57,10,108,105,32,114,49,44,32,49,48,48,10,111]
def Z55:List UInt8:=[(117:UInt8),116,32,114,49,44,32,51,10,108,105,32,114,49,44,32,54,52,48,10,99,115,114,119,32,114,49,44,32,50,10,108,105,32,114,49,44,32,50,49,10,99]
def Z79:List UInt8:=[(115:UInt8),114,119,32,114,49,44,32,48,10,101,114,101,116,10,104,97,110,100,108,101,114,58,32,99,115,114,119,32,114,49,44,32,53,10,99,115,114,114,32,114,49,44]
def Z5v:List UInt8:=[(32:UInt8),51,10,115,108,116,105,32,114,49,44,32,114,49,44,32,49,54,10,98,101,113,32,114,49,44,32,114,48,44,32,105,114,113,10,99,115,114,114,32,114,49]
def Z61:List UInt8:=[(44:UInt8),32,50,10,97,100,100,105,32,114,49,44,32,114,49,44,32,52,10,99,115,114,119,32,114,49,44,32,50,10,105,110,32,114,51,44,32,50,10,111,117,116]
def Quh:List UInt8:=[(32:UInt8),114,51,44,32,48,10,108,105,32,114,49,44,32,49,10,111,117,116,32,114,49,44,32,52,10,108,105,32,114,49,44,32,55,10,111,117,116,32,114,49,44]
def Qv0:List UInt8:=[(32:UInt8),53,10,97,110,100,105,32,114,49,44,32,114,50,44,32,49,10,97,100,100,105,32,114,49,44,32,114,49,44,32,49,10,111,117,116,32,114,49,44,32,54,10]
def Que:List UInt8:=[(99:UInt8),115,114,114,32,114,49,44,32,53,10,101,114,101,116,10,105,114,113,58,32,105,110,32,114,49,44,32,48,10,111,117,116,32,114,49,44,32,48,10,111,117]
def Qv5:List UInt8:=[(116:UInt8),32,114,48,44,32,54,10,111,117,116,32,114,48,44,32,57,10,108,105,32,114,49,44,32,54,10,111,117,116,32,114,49,44,32,55,10,108,105,32,114,49,44]
def Qum:List UInt8:=[(32:UInt8),50,10,111,117,116,32,114,49,44,32,57,10,105,110,32,114,49,44,32,50,10,97,100,100,105,32,114,49,44,32,114,49,44,32,50,48,10,111,117,116,32]
def Qtu:List UInt8:=[(114:UInt8),49,44,32,51,10,105,110,32,114,49,44,32,49,48,10,111,117,116,32,114,49,44,32,49,48,10,99,115,114,114,32,114,49,44,32,53,10,101,114,101,116,10]
def Z84:List UInt8:=[(108:UInt8),105,32,114,49,44,32,104,97,110,100,108,101,114,10,99,115,114,119,32,114,49,44,32,49,10,108,105,32,114,49,44,32,51,49,10,99,115,114,119,32,114]
instance sumInhZe {α β:Type} [Inhabited β]:Inhabited (α⊕β):=⟨.inr default⟩
def Qkb(l:List Q1t)(z:(Int)):Prop:=1<=z/\(z<=l.length\/z=1)
def Qbo(l:List Q1t)(z:(Int)):Nat:=(l.length-z).toNat
def Qdo(l:List Q1t):Tree Bool:=
.lp inferInstance (Qbo l 1+1) ((nR RK.apiEntry 4 l/\rE (1:Int)/\True)/\True) 1 λ(v0:Int)=> .br (decide (v0<(l.length:Int))) (let E4:=bS 4 4&&bT 0 4&&decide (0<=v0/\v0<(l.length:Int)); .cn E4 (let E2:=bS 4 4&&bT 0 4&&decide (0<=wrap i64 (v0-1)/\wrap i64 (v0-1)<(l.length:Int)); .cn E2 (let E3:=l.getD (dG (wrap i64 (v0-1))) (RK.dflt RK.apiEntry);let E5:=l.getD v0.toNat (RK.dflt RK.apiEntry); .br (decide (E5.At<E3.At)) (.lf (Sum.inr false)) (.cn E4 (.cn E2 (let T1:Tree ((Int)⊕(Bool)):= .nx ((nR RK.apiEntry 4 l/\rE ((wrap i64 (v0+1)):Int)/\True)/\True) (Sum.inl (wrap i64 (v0+1))); .br (E5.At==E3.At) (.cn E2 (.br (E3.Event.C4==1) (.lf (Sum.inr false)) T1)) T1)))))) (.lf (Sum.inr true))
def Qx7 l:=(Qdo l).m
def Q7c(l:List Q1t):Prop:=
l.length<=1000000000000
theorem Qxp(l:List Q1t)(hw:Q7c l):(Qdo l).p:=by
 simp only[Q7c]at hw
 unfold Tree.p Qdo
 repeat'(first|refine w_lp (inv:=Qkb l) (μ:=Qbo l) ?_ (cO _) (λ_ _=> ?_)|exact trivial|refine w_br (λ_=> ?_) (λ_=> ?_)|refine w_cn ?_ ?_|refine w_an ?_ ?_|refine w_lv (λ_ _=> ?_)|refine w_nx ?_|refine w_lf ?_|refine And.intro ?_ ?_)
 all_goals((try simp only[Qkb,Qbo]at*);exact fin0)
def Z0t:LInv:={
 α:=(Int)
 F:=λst a=>([(0,(lk st 0)),(3, .int i64 a)],[])
 a0:=λst=>(lk st 3).toInt
 ex0:=λst=>[]++[]}
def Quo:List (Nat×LInv):=[(2,Z0t)]
def Z44:Q0b:=mkP 155 [] true [.one (.recs .apiEntry)] [] (λa r=>Q7c (argR .apiEntry a 0)) (λa r=>Qx7 (argR .apiEntry a 0)) (λX=> .bool X) (λX=>[])
theorem Z1o:Q04 pG Z44:=Q0j drawn Q0g (.nil) Tryz.func155 Tryz.call155 (λa r=>Qdo (argR .apiEntry a 0)) [] Quo 3 (hp:=λa r h=>Qxp (argR .apiEntry a 0) h)
def Qaf(m:Q00)(script:List Q1t)(until0:Int)(z:Q00×(List Q08)):Nat:=(until0-z.1.A4).toNat
def Qaa(m:Q00)(script:List Q1t)(until0:Int)(v0:Q00×List Q08)(z:Unit):Nat:=0
def Q5p(m:Q00)(script:List Q1t)(until0:Int):Tree (Q00×(List Q08)×Int×Int):=
.lv (Q9a m) λ(x0:Bool)=>let E2:=({B1:={X:={a0:=0,a1:=0,a2:=0,a3:=0,a4:=0,a5:=0,a6:=0,a7:=0,a8:=0,a9:=0,a10:=0,a11:=0,a12:=0,a13:=0,a14:=0,a15:=0},Pc:=0,B4:={a0:=0,a1:=0,a2:=0,a3:=0,a4:=0,a5:=0,a6:=0,a7:=0}},Mem:=[],A2:={D0:=[]},A7:={D2:=false,C3:=0,D1:=false},A9:={Blocks:=0,C1:=0,Frame:=0,B7:=0,D4:=0,B5:=0,B2:=0,B8:=[]},B9:={Frame:=0,D8:=0,C5:=false,C0:=0,B6:=false,D9:=0},A1:={C6:=0,C2:=0},A4:=0,A3:=false,A6:=false}:Q00);let T1:Tree ((Q00×(List Q08)×Int×Int)):= .lf (E2,[],0,1300); .br (!x0) T1 (.br (decide (until0<m.A4)) T1 (.br (decide (wrap u64 (until0-m.A4)>4000)) T1 (.an (Q7c []) (.lv (Qx7 []) λ(x1:Bool)=> .br (!x1) (.lf (E2,[],0,1301)) (.an (Qbk m) (.lv (Qiv m) λ(x2:Q00)=> .lp inferInstance (Qaf m script until0 (x2,[])+1) ((((Els.Nil (Els.gen [])\/rE (0:Nat))/\rE ([]:List (List D)))/\rE (until0:Int)/\rZ/\rZ/\True/\rE (0:Int)/\True)/\(mE x2 True True)/\rE x2.Mem/\(mE zM True True)/\rE ([]:List (RK.T RK.apiOutput))/\True) (x2,[]) λ(v0:Q00×List Q08)=> .br (decide (v0.1.A4<until0)) (.br (decide (v0.1.A4<1152921504606846976)) (.lp inferInstance (Qaa m script until0 v0 ()+1) ((((Els.Nil (Els.gen [])\/rE (0:Nat))/\rE ([]:List (List D)))/\rE (until0:Int)/\rZ/\rZ/\True/\rE (0:Int)/\(rE (0:Nat)/\rE (46:Nat))/\rE v0.1.A4/\rE ((decide (v0.1.A4<1152921504606846976)):Bool)/\True)/\(mE v0.1 True True)/\rE v0.1.Mem/\(mE zM True True)/\rE v0.2/\True) () λ(v1:PUnit)=> .br v0.1.A6 (.lf (Sum.inr (Sum.inr (v0.1,v0.2,0,0)))) (.an (Qks v0.1) (.lv (Qe1 v0.1) λ(x3:Bool)=> .br x3 (.lf (Sum.inr (Sum.inr (v0.1,v0.2,0,0)))) (.an (Qj9 v0.1) (.lv (Quy v0.1) λ(x4:Bool)=> .br (!false==x4) (.lf (Sum.inr (Sum.inr (E2,[],0,1302)))) (.an (Qls v0.1 0) (.lv (Q0z v0.1 0) λ(x5:List Q08×Q00)=> .cn (decide (40*(v0.2.length+x5.1.length)<=140737488355328)) (.nx ((((Els.Nil (Els.gen [])\/rE (0:Nat))/\rE ([]:List (List D)))/\rE (until0:Int)/\rZ/\rZ/\True/\rE (0:Int)/\True)/\(mE x5.2 True True)/\rE x5.2.Mem/\(mE zM True True)/\rE ((v0.2++x5.1):List (RK.T RK.apiOutput))/\True) (Sum.inr (Sum.inl (x5.2,v0.2++x5.1))))))))))) (.lf (Sum.inr (v0.1,v0.2,0,0)))) (.lf (Sum.inr (v0.1,v0.2,0,0)))))))))
def Qb3 m script until0:=(Q5p m script until0).m
abbrev Qa1 m script until0:=(Q5p m script until0).p
def Z7r:LInv:={
 α:=Q00×(List Q08)
 F:=λst a=>([(1,(lk st 1)),(2,(lk st 2)),(3, .ptr 0 0 0),(6, .ptr 2 0 0),(10, .all 3),(11,(lk st 11))],[⟨true,43,49, .gen [mD a.1 (.all 1)]⟩,⟨false,25,1, .ints u32 a.1.Mem⟩,⟨true,43,49, .gen [mB (cT st 6)]⟩,⟨false,71,4, .recs RK.apiOutput a.2⟩])
 a0:=λst=>((mR (cT st 3) (Q3h st.rows (Q0n (cT st 3 25) 1000000))),(Q68 RK.apiOutput st.rows (rN st 10)))
 ex0:=λst=>[]++[(rX st 3 0),(Q0n (cT st 3 25) (st.rows.length+1)),(rX st 6 2),(rX st 10 3)]}
def Z9f:LInv:={
 α:=Unit
 F:=λst a=>([(1,(lk st 1)),(2,(lk st 2)),(3, .ptr 0 0 0),(6, .ptr 2 0 0),(10, .all 3),(11,(lk st 11)),(61, .ptr 0 0 46),(62,(lk st 62)),(63,(lk st 63))],[⟨true,43,49, .gen [[(cT st 3 0),(cT st 3 1),(cT st 3 2),(cT st 3 3),(cT st 3 4),(cT st 3 5),(cT st 3 6),(cT st 3 7),(cT st 3 8),(cT st 3 9),(cT st 3 10),(cT st 3 11),(cT st 3 12),(cT st 3 13),(cT st 3 14),(cT st 3 15),(cT st 3 16),(cT st 3 17),(cT st 3 18),(cT st 3 19),(cT st 3 20),(cT st 3 21),(cT st 3 22),(cT st 3 23),(cT st 3 24), .all 1,(cT st 3 26),(cT st 3 27),(cT st 3 28),(cT st 3 29),(cT st 3 30),(cT st 3 31),(cT st 3 32),(cT st 3 33),(cT st 3 34),(cT st 3 35),(cT st 3 36),(cT st 3 37),(cT st 3 38),(cT st 3 39),(cT st 3 40),(cT st 3 41),(cT st 3 42),(cT st 3 43),(cT st 3 44),(cT st 3 45),(cT st 3 46),(cT st 3 47),(cT st 3 48)]]⟩,⟨false,25,1,esOf st.rows (Q0n (cT st 3 25) 1000000)⟩,⟨true,43,49, .gen [mB (cT st 6)]⟩,⟨false,71,4,esOf st.rows (rN st 10)⟩])
 a0:=λst=>()
 ex0:=λst=>[]++[(rX st 3 0),(Q0n (cT st 3 25) (st.rows.length+1)),(rX st 6 2),(rX st 10 3)]}
def Z1t:List (Nat×LInv):=[(8,Z7r),(9,Z9f)]
def Zf4:Q0b:=mT 75 [] true [.agg Q00.sig, .one .nil, .one (.int .u64)] [] (λa r=>Q5p (Q00.of (aC a 0)) (argR .apiEntry a 1) (argI a 2)) (λX=> .tup [.agg (Q00.cellsW (X.1) (.all 0)), .all 1, .int .i64 (X.2.2.1), .int .i64 (X.2.2.2)]) (λX=>[⟨false,25,1, .ints .u32 (X.1).Mem⟩,⟨false,71,4, .recs .apiOutput (X.2.1)⟩])
theorem Z9c:Q04 pG Zf4:=oT (.cons Qqf (.cons Z1o (.cons Qkp (.cons Z83 (.cons Qws (.cons Qto (.cons Z2n (.nil)))))))) Tryz.func75 Tryz.call75 [.row 25 1 (.ints .u32), .row 71 4 (.recs .apiOutput)] Z1t 3
def Q7z(kind:Int)(l z:List Int):Nat:=160-z.length
def Q3j(kind:Int)(l:List Int):Tree Q00:=
.an (Q1i kind 3) (.lv (Q1s kind 3) λ(x0:Int)=> .br (decide (x0<2)) (.an (Q9n ((108:UInt8)::(tblZe0++Z56++(Z5y++Z6)++(Z5o++Z6e++(Z55++Z79))++(Z5v++Z61++(Quh++Qv0)++(Que++Qv5++(Qum++Qtu)))))) (.lv (Q1z (cS (cS (cS (cS Z84 Z56) (cS Z5y Z6)) (cS (cS Z5o Z6e) (cS Z55 Z79))) (cS (cS (cS Z5v Z61) (cS Quh Qv0)) (cS (cS Que Qv5) (cS Qum Qtu))))) λ(x1:List Int×Q13)=> .lp inferInstance (Q7z kind l x1.1+1) ((rE (x0:Int)/\((Els.Nil (Els.ints i64 l)\/rE (1:Nat))/\rE (l:List Int))/\rZ/\True/\True)/\(mE zM True True)/\rE x1.1/\True) x1.1 λ(v0:List Int)=> .br (decide ((v0.length:Int)<(160:Int))) (.cn (decide (4*(v0.length+1)<=140737488355328)) (.nx ((rE (x0:Int)/\((Els.Nil (Els.ints i64 l)\/rE (1:Nat))/\rE (l:List Int))/\rZ/\True/\True)/\(mE zM True True)/\rE ((v0++[0]):List Int)/\True) (Sum.inl (v0++[0])))) (.an (Qky l) (.lv (Qgh l) λ(x2:List Int)=> .cn (decide (4*(v0.length+x2.length)<=140737488355328)) (.br (decide ((↑(dL (v0++x2)):Int)>(256:Int))) (.cn (bS 1 1&&bT 0 1&&decide ((0:Int)<=(0:Int)/\(0:Int)<=(256:Int)/\256<=(↑(dL (v0++x2)):Int))) (let E1:=dC (dG 256-dG 0) (dD (dG 0) (v0++x2)); .an (Qeq 8 4 E1) (.lv (Q1l 8 4 E1) λ(x3:Q00×Bool)=> .br (x0==1) (.an (Qa1 x3.1 [] 87) (.lv (Qb3 x3.1 [] 87) λ(x4:Q00×List Q08×Int×Int)=> .lf (Sum.inr x4.1))) (.lf (Sum.inr x3.1))))) (.an (Qeq 8 4 (v0++x2)) (.lv (Q1l 8 4 (v0++x2)) λ(x5:Q00×Bool)=> .br (x0==1) (.an (Qa1 x5.1 [] 87) (.lv (Qb3 x5.1 [] 87) λ(x6:Q00×List Q08×Int×Int)=> .lf (Sum.inr x6.1))) (.lf (Sum.inr x5.1))))))))) (.an (Qky l) (.lv (Qgh l) λ(x7:List Int)=> .cn (decide (4*(0+x7.length)<=140737488355328)) (.br (decide ((x7.length:Int)>(256:Int))) (.cn (bS 1 1&&bT 0 1&&decide ((0:Int)<=(0:Int)/\(0:Int)<=(256:Int)/\256<=(x7.length:Int))) (let E2:=dC (dG 256-dG 0) (dD (dG 0) x7); .an (Qeq 8 4 E2) (.lv (Q1l 8 4 E2) λ(x8:Q00×Bool)=> .br (x0==1) (.an (Qa1 x8.1 [] 87) (.lv (Qb3 x8.1 [] 87) λ(x9:Q00×List Q08×Int×Int)=> .lf x9.1)) (.lf x8.1)))) (.an (Qeq 8 4 x7) (.lv (Q1l 8 4 x7) λ(x10:Q00×Bool)=> .br (x0==1) (.an (Qa1 x10.1 [] 87) (.lv (Qb3 x10.1 [] 87) λ(x11:Q00×List Q08×Int×Int)=> .lf x11.1)) (.lf x10.1)))))))
def Qel kind l:=(Q3j kind l).m
abbrev Qm kind l:=(Q3j kind l).p
def Z25:LInv:={
 α:=(List Int)
 F:=λst a=>([(0,(lk st 0)),(1,(lk st 1)),(4, .ptr 0 0 0),(5, .all 1)],[⟨true,43,49, .gen [mB (cT st 4)]⟩,⟨false,25,1, .ints u32 a⟩])
 a0:=λst=>(Q3h st.rows (rN st 5))
 ex0:=λst=>[]++[(rX st 4 0),(rX st 5 1)]}
def Qvt:List (Nat×LInv):=[(5,Z25)]
def Z3o:Q0b:=mT 41 [] true [.one (.int .i64), .one (.ints .i64)] [] (λa r=>Q3j (argI a 0) (argL .i64 a 1)) (λX=> .agg (Q00.cellsW X (.all 0))) (λX=>[⟨false,25,1, .ints .u32 X.Mem⟩])
theorem Z0s:Q04 pG Z3o:=oT (.cons Qfn (.cons Qxs (.cons Zbn (.cons Zhy (.cons Z9c (.nil)))))) Tryz.func41 Tryz.call41 [.row 25 1 (.ints .u32)] Qvt 3
end
noncomputable section
def Qu2(l acts:List Int):Tree Bool:=
.br (decide ((l.length:Int)<=(40:Int))) (.lf (decide ((acts.length:Int)<=(30:Int)))) (.lf false)
def Qyu l acts:=(Qu2 l acts).m
def Zm8:Q0b:=mS 15 [] true [.one (.ints .i64), .one (.ints .i64)] [] (λa r=>Qu2 (argL .i64 a 0) (argL .i64 a 1)) (λX=> .bool X) (λX=>[])
theorem Zg0:Q04 pG Zm8:=oS (.nil) Tryz.func15 Tryz.call15 [] [] 2
def Qwy(t:Q0h):Tree (Q0h×Bool):=
.br (!t.D2) (.lf (t,false)) (.lf ({D2:=false,C3:=t.C3,D1:=true},true))
def Qof t:=(Qwy t).m
def Qdr(c:Q0c)(b:Int):Tree (Q0c×Bool):=
.br (decide ((c.D0.length:Int)>=(16:Int))) (.lf (c,false)) (.cn (decide (c.D0.length+1<=maxLen)) (.lf ({D0:=c.D0++[(λ(n:Int)=>UInt8.ofNat n.toNat) b]},true)))
def Qw2 c b:=(Qdr c b).m
abbrev Qxh c b:=(Qdr c b).p
def Q89(d0:Q0d)(m:List Int)(e:Q0e):Tree (Q0d×(List Int)×Bool):=
let T2:Tree ((Q0d×(List Int)×Bool)):= .an (Q06 m) (.lv (Q03 m) λ(x0:List Int)=> .lf (d0,x0,false)); .br (d0.B7 !=1) T2 (.br (e.C4 !=4) T2 (.br (decide (e.N>1)) T2 (.an (Q06 m) (.lv (Q03 m) λ(x3:List Int)=>let E3:=({Blocks:=d0.Blocks,C1:=d0.C1,Frame:=d0.Frame,B7:=2,D4:=0,B5:=0,B2:=0,B8:=[]}:Q0d);let E4:=({Blocks:=d0.Blocks,C1:=d0.C1,Frame:=d0.Frame,B7:=3,D4:=0,B5:=0,B2:=0,B8:=[]}:Q0d);let T1:Tree ((Q0d×(List Int)×Bool)):= .br (!decide (e.C9=[])) (.lf (d0,x3,false)) (.br (e.N==1) (.lf (E3,x3,true)) (.lf (E4,x3,true))); .br (e.N==1) (.br (d0.D4==1) (.lv (Q8y m d0.B2) λ(x4:Bool)=> .br (!x4) (.lf (d0,x3,false)) (.an (Q81 m (wrap i64 d0.B2) e.C9) (.lv (Q2f m (wrap i64 d0.B2) e.C9) λ(x5:List Int×Bool)=> .br (!x5.2) (.lf (d0,x5.1,false)) (.br (e.N==1) (.lf (E3,x5.1,true)) (.lf (E4,x5.1,true)))))) T1) T1))))
def Ql9 d0 m e:=(Q89 d0 m e).m
abbrev Qtp d0 m e:=(Q89 d0 m e).p
def Qbs(n:Q0m)(m:List Int)(frame:List UInt8):Tree (Q0m×(List Int)×Bool):=
let T1:Tree ((Q0m×(List Int)×Bool)):= .an (Q06 m) (.lv (Q03 m) λ(x0:List Int)=> .lf (n,x0,false)); .br (!n.C5) T1 (.br (decide ((frame.length:Int)<(1:Int))) T1 (.br (decide ((frame.length:Int)>(128:Int))) T1 (.lv (Q93 m n.C0) λ(x3:Bool)=> .br (!x3) T1 (.an (Qcf m (wrap i64 n.C0)) (.lv (Q54 m (wrap i64 n.C0)) λ(x5:List UInt8×Bool)=> .cn (decide (0<=(frame.length:Int)/\(frame.length:Int)<=(x5.1.length:Int)/\(x5.1.length:Int)<=(x5.1.length:Int))) (let E2:=dG (x5.1.length:Int)-dG (frame.length:Int);let E3:=dD (dG (frame.length:Int)) x5.1; .cn (decide (frame.length+dL (dC E2 E3)<=maxLen)) (.an (Q81 m (wrap i64 n.C0) (frame++dC E2 E3)) (.lv (Q2f m (wrap i64 n.C0) (frame++dC E2 E3)) λ(x6:List Int×Bool)=> .lf ({Frame:=n.Frame,D8:=n.D8,C5:=false,C0:=0,B6:=true,D9:=wrap u32 (frame.length:Int)},x6.1,true)))))))))
def Qqt n m frame:=(Qbs n m frame).m
abbrev Z19 n m frame:=(Qbs n m frame).p
def Qbr(m:Q00)(e:Q0e):Tree (Q00×Bool):=
.an (Q06 m.Mem) (.lv (Q03 m.Mem) λ(x0:List Int)=>let E2:=({B1:=m.B1,Mem:=x0,A2:=m.A2,A7:=m.A7,A9:=m.A9,B9:=m.B9,A1:=m.A1,A4:=m.A4,A3:=m.A3,A6:=m.A6}:Q00); .an (Q55 E2) (.lv (Q17 E2) λ(x1:Bool)=>let T1:Tree ((Q00×Bool)):= .lf (E2,false); .br (!x1) T1 (.br m.A6 T1 (.br (e.C4==2) (.br (e.N==0) (.br (decide (e.C9=[])) (.lv (Qof m.A7) λ(x2:Q0h×Bool)=> .lf ({B1:=m.B1,Mem:=x0,A2:=m.A2,A7:=x2.1,A9:=m.A9,B9:=m.B9,A1:=m.A1,A4:=m.A4,A3:=m.A3,A6:=m.A6},x2.2)) T1) T1) (.br (e.C4==3) (.br (decide (e.N<=255)) (.br (decide (e.C9=[])) (.an (Qxh m.A2 (wrap u8 e.N)) (.lv (Qw2 m.A2 (wrap u8 e.N)) λ(x3:Q0c×Bool)=> .lf ({B1:=m.B1,Mem:=x0,A2:=x3.1,A7:=m.A7,A9:=m.A9,B9:=m.B9,A1:=m.A1,A4:=m.A4,A3:=m.A3,A6:=m.A6},x3.2))) T1) T1) (.br (e.C4==4) (.an (Qtp m.A9 x0 e) (.lv (Ql9 m.A9 x0 e) λ(x4:Q0d×List Int×Bool)=> .lf ({B1:=m.B1,Mem:=x4.2.1,A2:=m.A2,A7:=m.A7,A9:=x4.1,B9:=m.B9,A1:=m.A1,A4:=m.A4,A3:=m.A3,A6:=m.A6},x4.2.2))) (.br (e.C4==5) (.br (e.N==0) (.an (Z19 m.B9 x0 e.C9) (.lv (Qqt m.B9 x0 e.C9) λ(x5:Q0m×List Int×Bool)=> .lf ({B1:=m.B1,Mem:=x5.2.1,A2:=m.A2,A7:=m.A7,A9:=m.A9,B9:=x5.1,A1:=m.A1,A4:=m.A4,A3:=m.A3,A6:=m.A6},x5.2.2))) T1) (.br (e.C4==6) (.br (decide (e.C9=[])) (.lf ({B1:=m.B1,Mem:=x0,A2:=m.A2,A7:=m.A7,A9:=m.A9,B9:=m.B9,A1:={C6:=e.N,C2:=m.A1.C2},A4:=m.A4,A3:=m.A3,A6:=m.A6},true)) T1) T1))))))))
def Qfl m e:=(Qbr m e).m
end
noncomputable section
instance sumInhRa {α β:Type} [Inhabited β]:Inhabited (α⊕β):=⟨.inr default⟩
end
noncomputable section
instance sumInhRc {α β:Type} [Inhabited β]:Inhabited (α⊕β):=⟨.inr default⟩
def Qb0(m:Q00)(where0 what:Int):Tree Q00:=
.an (Qbk m) (.lv (Qiv m) λ(x0:Q00)=> .an (Q1i where0 24) (.lv (Q1s where0 24) λ(x1:Int)=> .br (x1==0) (.lf ({B1:={X:=x0.B1.X,Pc:=wrap u32 (iand i64 what 4294967295),B4:=x0.B1.B4},Mem:=x0.Mem,A2:=x0.A2,A7:=x0.A7,A9:=x0.A9,B9:=x0.B9,A1:=x0.A1,A4:=x0.A4,A3:=x0.A3,A6:=x0.A6})) (let E1:=wrap u32 (iand i64 what 4294967295); .br (x1==1) (.an (Q1i what 16) (.lv (Q1s what 16) λ(x2:Int)=> .cn (bT 0 1&&decide (0<=x2/\x2<(↑16:Int))) (.lf ({B1:={X:=A16.of 0 (dH (A16.l x0.B1.X) x2.toNat E1),Pc:=x0.B1.Pc,B4:=x0.B1.B4},Mem:=x0.Mem,A2:=x0.A2,A7:=x0.A7,A9:=x0.A9,B9:=x0.B9,A1:=x0.A1,A4:=x0.A4,A3:=x0.A3,A6:=x0.A6})))) (.br (x1==2) (.an (Q1i what 8) (.lv (Q1s what 8) λ(x3:Int)=> .cn (bT 0 1&&decide (0<=x3/\x3<(↑8:Int))) (.lf ({B1:={X:=x0.B1.X,Pc:=x0.B1.Pc,B4:=A8.of 0 (dH (A8.l x0.B1.B4) x3.toNat (ishr u32 E1 3))},Mem:=x0.Mem,A2:=x0.A2,A7:=x0.A7,A9:=x0.A9,B9:=x0.B9,A1:=x0.A1,A4:=x0.A4,A3:=x0.A3,A6:=x0.A6})))) (.br (x1==3) (.lf ({B1:={X:=x0.B1.X,Pc:=x0.B1.Pc,B4:={a0:=iand u32 E1 31,a1:=x0.B1.B4.a1,a2:=x0.B1.B4.a2,a3:=x0.B1.B4.a3,a4:=x0.B1.B4.a4,a5:=x0.B1.B4.a5,a6:=x0.B1.B4.a6,a7:=x0.B1.B4.a7}},Mem:=x0.Mem,A2:=x0.A2,A7:=x0.A7,A9:=x0.A9,B9:=x0.B9,A1:=x0.A1,A4:=x0.A4,A3:=x0.A3,A6:=x0.A6})) (.br (x1==4) (.lf ({B1:={X:=x0.B1.X,Pc:=x0.B1.Pc,B4:={a0:=x0.B1.B4.a0,a1:=x0.B1.B4.a1,a2:=x0.B1.B4.a2,a3:=x0.B1.B4.a3,a4:=x0.B1.B4.a4,a5:=x0.B1.B4.a5,a6:=x0.B1.B4.a6,a7:=iand u32 E1 31}},Mem:=x0.Mem,A2:=x0.A2,A7:=x0.A7,A9:=x0.A9,B9:=x0.B9,A1:=x0.A1,A4:=x0.A4,A3:=x0.A3,A6:=x0.A6})) (.br (x1==5) (.an (Q1i what (x0.Mem.length:Int)) (.lv (Q1s what (x0.Mem.length:Int)) λ(x4:Int)=> .cn (bS 1 1&&bT 0 1&&decide (0<=x4/\x4<(x0.Mem.length:Int))) (.lf ({B1:=x0.B1,Mem:=dH x0.Mem x4.toNat E1,A2:=x0.A2,A7:=x0.A7,A9:=x0.A9,B9:=x0.B9,A1:=x0.A1,A4:=x0.A4,A3:=x0.A3,A6:=x0.A6})))) (.br (x1==6) (.an (Q1i what (x0.Mem.length:Int)) (.lv (Q1s what (x0.Mem.length:Int)) λ(x5:Int)=> .an (Qc1 what) (.lv (Z1w what) λ(x6:Q0i)=> .lv (Q18 x6) λ(x7:Int×Bool)=> .cn (bS 1 1&&bT 0 1&&decide (0<=x5/\x5<(x0.Mem.length:Int))) (.lf ({B1:=x0.B1,Mem:=dH x0.Mem x5.toNat x7.1,A2:=x0.A2,A7:=x0.A7,A9:=x0.A9,B9:=x0.B9,A1:=x0.A1,A4:=x0.A4,A3:=x0.A3,A6:=x0.A6}))))) (.br (x1==7) (.an (Q1i what 18) (.lv (Q1s what 18) λ(x8:Int)=> .an (Q4f what x8) (.lv (Qk5 what x8) λ(x9:List UInt8)=> .lf ({B1:=x0.B1,Mem:=x0.Mem,A2:={D0:=x9},A7:=x0.A7,A9:=x0.A9,B9:=x0.B9,A1:=x0.A1,A4:=x0.A4,A3:=x0.A3,A6:=x0.A6})))) (.br (x1==8) (.lf ({B1:=x0.B1,Mem:=x0.Mem,A2:=x0.A2,A7:={D2:=iand i64 what (1:Int)==(1:Int),C3:=iand u32 E1 6,D1:=iand i64 what (8:Int)==(8:Int)},A9:=x0.A9,B9:=x0.B9,A1:=x0.A1,A4:=x0.A4,A3:=x0.A3,A6:=x0.A6})) (.br (x1==9) (.lf ({B1:=x0.B1,Mem:=x0.Mem,A2:=x0.A2,A7:=x0.A7,A9:={Blocks:=x0.A9.Blocks,C1:=x0.A9.C1,Frame:=x0.A9.Frame,B7:=iand i64 what 3,D4:=x0.A9.D4,B5:=x0.A9.B5,B2:=x0.A9.B2,B8:=x0.A9.B8},B9:=x0.B9,A1:=x0.A1,A4:=x0.A4,A3:=x0.A3,A6:=x0.A6})) (.br (x1==10) (.br (wrap i64 (1+iand i64 what 1)==2) (.an (Q4f what 128) (.lv (Qk5 what 128) λ(x10:List UInt8)=> .lf ({B1:=x0.B1,Mem:=x0.Mem,A2:=x0.A2,A7:=x0.A7,A9:={Blocks:=4,C1:=0,Frame:=0,B7:=1,D4:=wrap i64 (1+iand i64 what 1),B5:=iand u32 (ishr u32 E1 1) 3,B2:=iand u32 (ishr u32 E1 3) 7,B8:=x10},B9:=x0.B9,A1:=x0.A1,A4:=x0.A4,A3:=x0.A3,A6:=x0.A6}))) (.lf ({B1:=x0.B1,Mem:=x0.Mem,A2:=x0.A2,A7:=x0.A7,A9:={Blocks:=4,C1:=0,Frame:=0,B7:=1,D4:=wrap i64 (1+iand i64 what 1),B5:=iand u32 (ishr u32 E1 1) 3,B2:=iand u32 (ishr u32 E1 3) 7,B8:=[]},B9:=x0.B9,A1:=x0.A1,A4:=x0.A4,A3:=x0.A3,A6:=x0.A6}))) (.br (x1==11) (.lf ({B1:=x0.B1,Mem:=x0.Mem,A2:=x0.A2,A7:=x0.A7,A9:={Blocks:=x0.A9.Blocks,C1:=iand u32 E1 7,Frame:=iand u32 (ishr u32 E1 3) 15,B7:=x0.A9.B7,D4:=x0.A9.D4,B5:=x0.A9.B5,B2:=x0.A9.B2,B8:=x0.A9.B8},B9:=x0.B9,A1:=x0.A1,A4:=x0.A4,A3:=x0.A3,A6:=x0.A6})) (.br (x1==12) (.lf ({B1:=x0.B1,Mem:=x0.Mem,A2:=x0.A2,A7:=x0.A7,A9:=x0.A9,B9:={Frame:=iand u32 E1 7,D8:=iand u32 (ishr u32 E1 3) 255,C5:=iand i64 what (2048:Int) !=(0:Int),C0:=iand u32 (ishr u32 E1 12) 7,B6:=false,D9:=0},A1:=x0.A1,A4:=x0.A4,A3:=x0.A3,A6:=x0.A6})) (.br (x1==13) (.lf ({B1:=x0.B1,Mem:=x0.Mem,A2:=x0.A2,A7:=x0.A7,A9:=x0.A9,B9:={Frame:=0,D8:=0,C5:=false,C0:=0,B6:=true,D9:=iand u32 E1 255},A1:=x0.A1,A4:=x0.A4,A3:=x0.A3,A6:=x0.A6})) (.br (x1==14) (.lf ({B1:=x0.B1,Mem:=x0.Mem,A2:=x0.A2,A7:=x0.A7,A9:=x0.A9,B9:=x0.B9,A1:={C6:=iand u32 E1 7,C2:=iand u32 (ishr u32 E1 3) 511},A4:=x0.A4,A3:=x0.A3,A6:=x0.A6})) (.br (x1==15) (.lf ({B1:=x0.B1,Mem:=x0.Mem,A2:=x0.A2,A7:=x0.A7,A9:=x0.A9,B9:=x0.B9,A1:=x0.A1,A4:=x0.A4,A3:=!x0.A3,A6:=x0.A6})) (.br (x1==16) (.lf ({B1:=x0.B1,Mem:=x0.Mem,A2:=x0.A2,A7:=x0.A7,A9:=x0.A9,B9:=x0.B9,A1:=x0.A1,A4:=x0.A4,A3:=x0.A3,A6:=!x0.A6})) (.br (x1==17) (.lf ({B1:=x0.B1,Mem:=x0.Mem,A2:=x0.A2,A7:=x0.A7,A9:=x0.A9,B9:=x0.B9,A1:=x0.A1,A4:=wrap u64 what,A3:=x0.A3,A6:=x0.A6})) (.br (x1==18) (.an (Q1i what (x0.Mem.length:Int)) (.lv (Q1s what (x0.Mem.length:Int)) λ(x11:Int)=> .cn (bS 1 1&&bT 0 1&&decide ((0:Int)<=(0:Int)/\0<=x11/\x11<=(x0.Mem.length:Int))) (.lf ({B1:=x0.B1,Mem:=dC (dG x11-dG 0) (dD (dG 0) x0.Mem),A2:=x0.A2,A7:=x0.A7,A9:=x0.A9,B9:=x0.B9,A1:=x0.A1,A4:=x0.A4,A3:=x0.A3,A6:=x0.A6})))) (.br (x1==19) (.lf ({B1:=x0.B1,Mem:=x0.Mem,A2:=x0.A2,A7:=x0.A7,A9:=x0.A9,B9:=x0.B9,A1:=x0.A1,A4:=wrap u64 (1152921504606846976-wrap u64 (iand i64 what 3)),A3:=x0.A3,A6:=x0.A6})) (.br (x1==20) (.lf ({B1:={X:=x0.B1.X,Pc:=x0.B1.Pc,B4:={a0:=x0.B1.B4.a0,a1:=x0.B1.B4.a1,a2:=x0.B1.B4.a2,a3:=x0.B1.B4.a3,a4:=x0.B1.B4.a4,a5:=x0.B1.B4.a5,a6:=iand u32 E1 15,a7:=x0.B1.B4.a7}},Mem:=x0.Mem,A2:=x0.A2,A7:=x0.A7,A9:=x0.A9,B9:=x0.B9,A1:=x0.A1,A4:=x0.A4,A3:=x0.A3,A6:=x0.A6})) (.br (x1==21) (.lf ({B1:={X:=x0.B1.X,Pc:=wrap u32 (640+iand u32 E1 124),B4:=x0.B1.B4},Mem:=x0.Mem,A2:=x0.A2,A7:=x0.A7,A9:=x0.A9,B9:=x0.B9,A1:=x0.A1,A4:=x0.A4,A3:=x0.A3,A6:=x0.A6})) (.lf x0))))))))))))))))))))))))
def Qhs m where0 what:=(Qb0 m where0 what).m
abbrev Qfv m where0 what:=(Qb0 m where0 what).p
def Zhl:Q0b:=mT 18 [] true [.agg Q00.sig, .one (.int .i64), .one (.int .i64)] [] (λa r=>Qb0 (Q00.of (aC a 0)) (argI a 1) (argI a 2)) (λX=> .agg (Q00.cellsW X (.sl 1 (.ints .u32 X.Mem) true))) (λX=>[])
theorem Zet:Q04 pG Zhl:=oT (.cons Qkp (.cons Qfn (.cons Qdk (.cons Qx6 (.cons Qww (.nil)))))) Tryz.func18 Tryz.call18 [.sl (.ints .u32) true] [] 2
end
noncomputable section
instance sumInhQa {α β:Type} [Inhabited β]:Inhabited (α⊕β):=⟨.inr default⟩
end
noncomputable section
instance sumInhQb {α β:Type} [Inhabited β]:Inhabited (α⊕β):=⟨.inr default⟩
def Qeu(pages:Int):Tree (List Int):=
.br (decide (pages<1)) (.lf ([])) (.br (decide (pages>32)) (.lf ([])) (.cn (bT 0 1&&bS 1 1&&List.all [D.int u32 0] D.plain&&decide (0<=wrap i64 (pages*32)/\wrap i64 (pages*32)<=wrap i64 (pages*32)/\wrap i64 (pages*32)<=9223372036854775807/\(↑4:Int)*wrap i64 (pages*32)<=140737488355328)) (.lf (List.replicate (dG (wrap i64 (pages*32))) 0))))
def Z6j pages:=(Qeu pages).m
abbrev Qjb pages:=(Qeu pages).p
def Zb1:Q0b:=mT 44 [] true [.one (.int .i64)] [] (λa r=>Qeu (argI a 0)) (λX=> .all 0) (λX=>[⟨false,25,1, .ints .u32 X⟩])
theorem Zag:Q04 pG Zb1:=oT (.nil) Tryz.func44 Tryz.call44 [.row 25 1 (.ints .u32)] [] 2
def Q6k(s1 s2:List Int)(z:(Int)):Prop:=0<=z/\z<=s1.length/\s1.length=s2.length
def Q21(s1 s2:List Int)(z:(Int)):Nat:=(s1.length-z).toNat
def Q1o(s1 s2:List Int):Tree Bool:=
.br ((s1.length:Int) !=(s2.length:Int)) (.lf false) (.lp inferInstance (Q21 s1 s2 0+1) ((((Els.Nil (Els.ints u32 s1)\/rE (1:Nat))/\rE (s1:List Int))/\((Els.Nil (Els.ints u32 s2)\/rE (1:Nat))/\rE (s2:List Int))/\rE ((s1.length:Int):Int)/\rE (0:Int)/\True)/\True) 0 λ(v0:Int)=> .br (decide (v0<(s1.length:Int))) (.cn (bS 1 1&&bT 0 1&&decide (0<=v0/\v0<(s1.length:Int))) (.cn (bS 1 1&&bT 0 1&&decide (0<=v0/\v0<(s2.length:Int))) (.br (s1.getD v0.toNat 0 !=s2.getD v0.toNat 0) (.lf (Sum.inr false)) (.nx ((((Els.Nil (Els.ints u32 s1)\/rE (1:Nat))/\rE (s1:List Int))/\((Els.Nil (Els.ints u32 s2)\/rE (1:Nat))/\rE (s2:List Int))/\rE ((s1.length:Int):Int)/\rE ((wrap i64 (v0+1)):Int)/\True)/\True) (Sum.inl (wrap i64 (v0+1))))))) (.lf (Sum.inr true)))
def Q9o s1 s2:=(Q1o s1 s2).m
def Q12(s1 s2:List Int):Prop:=
s1.length<=1000000000000
theorem Qdx(s1 s2:List Int)(hw:Q12 s1 s2):(Q1o s1 s2).p:=by
 simp only[Q12]at hw
 unfold Tree.p Q1o
 repeat'(first|refine w_lp (inv:=Q6k s1 s2) (μ:=Q21 s1 s2) ?_ (cO _) (λ_ _=> ?_)|exact trivial|refine w_br (λ_=> ?_) (λ_=> ?_)|refine w_cn ?_ ?_|refine w_an ?_ ?_|refine w_lv (λ_ _=> ?_)|refine w_nx ?_|refine w_lf ?_|refine And.intro ?_ ?_)
 all_goals((try simp only[Q6k,Q21]at*);exact fin0)
def Qf5:LInv:={
 α:=(Int)
 F:=λst a=>([(0,(lk st 0)),(1,(lk st 1)),(12,(lk st 12)),(13, .int i64 a)],[])
 a0:=λst=>(lk st 13).toInt
 ex0:=λst=>[]++[]}
def Qdh:List (Nat×LInv):=[(4,Qf5)]
def Qfw:Q0b:=mkP 85 [] true [.one (.ints .u32), .one (.ints .u32)] [] (λa r=>Q12 (argL .u32 a 0) (argL .u32 a 1)) (λa r=>Q9o (argL .u32 a 0) (argL .u32 a 1)) (λX=> .bool X) (λX=>[])
theorem Qf0:Q04 pG Qfw:=Q0j drawn Q0g (.nil) Tryz.func85 Tryz.call85 (λa r=>Q1o (argL .u32 a 0) (argL .u32 a 1)) [] Qdh 3 (hp:=λa r h=>Qdx (argL .u32 a 0) (argL .u32 a 1) h)
end
noncomputable section
def Q64(a b:Q00):Tree Bool:=
.br (eqs [D.int u32 a.B1.X.a0,D.int u32 a.B1.X.a1,D.int u32 a.B1.X.a2,D.int u32 a.B1.X.a3,D.int u32 a.B1.X.a4,D.int u32 a.B1.X.a5,D.int u32 a.B1.X.a6,D.int u32 a.B1.X.a7,D.int u32 a.B1.X.a8,D.int u32 a.B1.X.a9,D.int u32 a.B1.X.a10,D.int u32 a.B1.X.a11,D.int u32 a.B1.X.a12,D.int u32 a.B1.X.a13,D.int u32 a.B1.X.a14,D.int u32 a.B1.X.a15,D.int u32 a.B1.Pc,D.int u32 a.B1.B4.a0,D.int u32 a.B1.B4.a1,D.int u32 a.B1.B4.a2,D.int u32 a.B1.B4.a3,D.int u32 a.B1.B4.a4,D.int u32 a.B1.B4.a5,D.int u32 a.B1.B4.a6,D.int u32 a.B1.B4.a7] [D.int u32 b.B1.X.a0,D.int u32 b.B1.X.a1,D.int u32 b.B1.X.a2,D.int u32 b.B1.X.a3,D.int u32 b.B1.X.a4,D.int u32 b.B1.X.a5,D.int u32 b.B1.X.a6,D.int u32 b.B1.X.a7,D.int u32 b.B1.X.a8,D.int u32 b.B1.X.a9,D.int u32 b.B1.X.a10,D.int u32 b.B1.X.a11,D.int u32 b.B1.X.a12,D.int u32 b.B1.X.a13,D.int u32 b.B1.X.a14,D.int u32 b.B1.X.a15,D.int u32 b.B1.Pc,D.int u32 b.B1.B4.a0,D.int u32 b.B1.B4.a1,D.int u32 b.B1.B4.a2,D.int u32 b.B1.B4.a3,D.int u32 b.B1.B4.a4,D.int u32 b.B1.B4.a5,D.int u32 b.B1.B4.a6,D.int u32 b.B1.B4.a7]) (.br (eqs [D.str a.A2.D0] [D.str b.A2.D0]) (.br (eqs [D.bool a.A7.D2,D.int u32 a.A7.C3,D.bool a.A7.D1] [D.bool b.A7.D2,D.int u32 b.A7.C3,D.bool b.A7.D1]) (.br (eqs [D.int u32 a.A9.Blocks,D.int u32 a.A9.C1,D.int u32 a.A9.Frame,D.int i64 a.A9.B7,D.int i64 a.A9.D4,D.int u32 a.A9.B5,D.int u32 a.A9.B2,D.str a.A9.B8] [D.int u32 b.A9.Blocks,D.int u32 b.A9.C1,D.int u32 b.A9.Frame,D.int i64 b.A9.B7,D.int i64 b.A9.D4,D.int u32 b.A9.B5,D.int u32 b.A9.B2,D.str b.A9.B8]) (.br (eqs [D.int u32 a.B9.Frame,D.int u32 a.B9.D8,D.bool a.B9.C5,D.int u32 a.B9.C0,D.bool a.B9.B6,D.int u32 a.B9.D9] [D.int u32 b.B9.Frame,D.int u32 b.B9.D8,D.bool b.B9.C5,D.int u32 b.B9.C0,D.bool b.B9.B6,D.int u32 b.B9.D9]) (.br (eqs [D.int u32 a.A1.C6,D.int u32 a.A1.C2] [D.int u32 b.A1.C6,D.int u32 b.A1.C2]) (.br (a.A4==b.A4) (.br (a.A3==b.A3) (.br (a.A6==b.A6) (.an (Q12 a.Mem b.Mem) (.lv (Q9o a.Mem b.Mem) λ(x0:Bool)=> .lf x0)) (.lf false)) (.lf false)) (.lf false)) (.lf false)) (.lf false)) (.lf false)) (.lf false)) (.lf false)) (.lf false)
def Qnl a b:=(Q64 a b).m
abbrev Qae a b:=(Q64 a b).p
def Z45:Q0b:=mT 20 [] true [.agg Q00.sig, .agg Q00.sig] [] (λa r=>Q64 (Q00.of (aC a 0)) (Q00.of (aC a 1))) (λX=> .bool X) (λX=>[])
theorem Qo7:Q04 pG Z45:=oT (.cons Qf0 (.nil)) Tryz.func20 Tryz.call20 [] [] 2
def Q71(b:List Int):(List Int):=
b
def Qbd(b:List Int):List D:=[.ptr 0 0 0]
def Qbe(b:List Int):List Row:=[⟨true,148,2, .gen [[.selfp 0, .all 1]]⟩,⟨false,5,1, .ints .u8 b⟩]
def Q73(X:List Int):D:= .tup []
def Q6x(X:List Int):List Row:=[⟨true,148,2, .gen [[.selfp 0, .all 1]]⟩,⟨false,5,1, .ints .u8 X⟩]
def Qch:List PT:=[.ptr 0]
def Qbb:List RT:=[.box 148 2 [.self 0, .row 1], .arr 5 1 (.ints .u8)]
def Qlo(args:List D)(rows:List Row):(List Int):=Q71 (rowL .u8 rows 1)
def Qns:Q0b:=mkR 226 [true] true Qch Qbb Qlo Q73 Q6x
theorem Qja(b:List Int):Q41 pG 226 (Qbd b) (Qbe b) (Q73 (Q71 b)) (Q6x (Q71 b)):=by
 exact zF (ρ:=Tryz.lays105_ren) {Tryz.lays105 with} Tryz.Builder_Extra_105.toX72 (by kernel_rfl) _
set_option maxRecDepth 100000 in
theorem Qk0(args:List D)(rows:List Row):Qeh Qch args 0=Qbd (rowL .u8 rows 1):=by kernel_rfl
set_option maxRecDepth 100000 in
theorem Qj8(args:List D)(rows:List Row):Q58 Qbb rows 0=Qbe (rowL .u8 rows 1):=by kernel_rfl
set_option maxRecDepth 100000 in
theorem Qmj(X:List Int):(ffB (Q73 X)&&ffBR (Q6x X))=true:=by kernel_rfl
theorem Qmc:Q04 pG Qns:=xZ Tryz.call226 (λa r=>by rw[Qk0 a r,Qj8 a r];exact Qja (rowL .u8 r 1)) (λ_ X=>Qmj X)
def Q2y(b:List Int)(s:List UInt8):Tree (Int×Unit×(List Int)):=
.lv (Q71 b) λ(x0:List Int)=> .cn (decide (1*(x0.length+dL (Q1p s))<=140737488355328)) (.lf ((s.length:Int),(),x0++Q1p s))
def Q8a b s:=(Q2y b s).m
abbrev Q63 b s:=(Q2y b s).p
def Ql4:Q0b:=mkKP 1 169 [true,false] [.ptr 0, .one (.str)] [.box 148 2 [.self 0, .row 1], .arr 5 1 (.ints .u8)] (λa r=>Q63 (rowL .u8 r 1) (argS a 1)) (λa r=>Q8a (rowL .u8 r 1) (argS a 1)) (λX=> .tup [.int .i64 (X.1), .nilif]) (λX=>[⟨true,148,2, .gen [[.selfp 0, .all 1]]⟩,⟨false,5,1, .ints .u8 (X.2.2)⟩])
theorem Qb7:Q04 pG Ql4:=Qtw drawn Q0g (.cons Qmc (.nil)) Tryz.func169 Tryz.call169 (λa r=>Q2y (rowL .u8 r 1) (argS a 1)) [.row 5 1 (.ints .u8)] [] 2 (λ_ _ _=>by kernel_rfl) (λ_ _=>rfl) (λ_ _ h=>h)
def Qea(x:Int)(z:(Int)×(List Int)):Nat:=z.1.toNat
def Q6p(x:Int):Tree (List UInt8):=
.lp inferInstance (Qea x (x,[])+1) ((rE (x:Int)/\True/\True)/\rE ([]:List Int)/\True) (x,[]) λ(v0:Int×List Int)=>let E1:=decide (1*(v0.2.length+1)<=140737488355328); .br (decide (v0.1>=128)) (.cn E1 (.nx ((rE ((ishr u64 v0.1 7):Int)/\True/\True)/\rE ((v0.2++[ior u8 (wrap u8 v0.1) 128]):List Int)/\True) (Sum.inl (ishr u64 v0.1 7,v0.2++[ior u8 (wrap u8 v0.1) 128])))) (.cn E1 (.lf (Sum.inr (bytesOf (v0.2++[wrap u8 v0.1])))))
def Qng x:=(Q6p x).m
abbrev Qgu x:=(Q6p x).p
def Qs9:LInv:={
 α:=(Int)×(List Int)
 F:=λst a=>([(0, .int u64 a.1),(3, .all 0)],[⟨false,5,1, .ints u8 a.2⟩])
 a0:=λst=>((lk st 0).toInt,(Q3h st.rows (rN st 3)))
 ex0:=λst=>[]++[(rX st 3 0)]}
def Qp8:List (Nat×LInv):=[(2,Qs9)]
def Qux:Q0b:=mT 170 [] true [.one (.int .u64)] [] (λa r=>Q6p (argI a 0)) (λX=> .str X) (λX=>[])
theorem Qt:Q04 pG Qux:=oT (.nil) Tryz.func170 Tryz.call170 [] Qp8 3
def Q8c(c list:List Int)(z:(Int)×(List Int)):Nat:=(list.length-z.1).toNat
def Q2u(c list:List Int):Tree (List Int):=
.lp inferInstance (Q8c c list (0,c)+1) ((rZ/\((Els.Nil (Els.ints u64 list)\/rE (1:Nat))/\rE (list:List Int))/\rE ((list.length:Int):Int)/\rE (0:Int)/\True)/\(True/\True/\True)/\rE (c:List Int)/\True) (0,c) λ(v0:Int×List Int)=> .br (decide (v0.1<(list.length:Int))) (.cn (bS 1 1&&bT 0 1&&decide (0<=v0.1/\v0.1<(list.length:Int))) (.an (Qgu (list.getD v0.1.toNat 0)) (.lv (Qng (list.getD v0.1.toNat 0)) λ(x0:List UInt8)=> .an (Q63 v0.2 x0) (.lv (Q8a v0.2 x0) λ(x1:Int×Unit×List Int)=> .nx ((rZ/\((Els.Nil (Els.ints u64 list)\/rE (1:Nat))/\rE (list:List Int))/\rE ((list.length:Int):Int)/\rE ((wrap i64 (v0.1+1)):Int)/\True)/\(True/\True/\True)/\rE x1.2.2/\True) (Sum.inl (wrap i64 (v0.1+1),x1.2.2)))))) (.lf (Sum.inr v0.2))
def Q1r c list:=(Q2u c list).m
abbrev Q1a c list:=(Q2u c list).p
def Qjf:LInv:={
 α:=(Int)×(List Int)
 F:=λst a=>([(0, .ptr 0 0 0),(6,(lk st 6)),(7,(lk st 7)),(8, .int i64 a.1)],[⟨true,148,2, .gen [[.selfp 0, .all 1]]⟩,⟨false,5,1, .ints u8 a.2⟩])
 a0:=λst=>((lk st 8).toInt,(Q3h st.rows (Q0n (Qrc st.rows 0 1) 1000000)))
 ex0:=λst=>[0]++[(Q0n (Qrc st.rows 0 1) (st.rows.length+1))]}
def Qie:List (Nat×LInv):=[(1,Qjf)]
def Qli:Q0b:=mkKP 1 87 [true,false] [.ptr 0, .one (.ints .u64)] [.box 148 2 [.self 0, .row 1], .arr 5 1 (.ints .u8)] (λa r=>Q1a (rowL .u8 r 1) (argL .u64 a 1)) (λa r=>Q1r (rowL .u8 r 1) (argL .u64 a 1)) (λX=> .tup []) (λX=>[⟨true,148,2, .gen [[.selfp 0, .all 1]]⟩,⟨false,5,1, .ints .u8 X⟩])
theorem Q44:Q04 pG Qli:=Qtw drawn Q0g (.cons Qb7 (.cons Qt (.nil))) Tryz.func87 Tryz.call87 (λa r=>Q2u (rowL .u8 r 1) (argL .u64 a 1)) [.row 5 1 (.ints .u8)] Qie 3 (λ_ _ _=>by kernel_rfl) (λ_ _=>rfl) (λ_ _ h=>h)
def Qa2(c list:List Int)(z:(Int)×(List Int)):Nat:=(list.length-z.1).toNat
def Q3p(c list:List Int):Tree (List Int):=
.lp inferInstance (Qa2 c list (0,c)+1) ((rZ/\((Els.Nil (Els.ints u32 list)\/rE (1:Nat))/\rE (list:List Int))/\rE ((list.length:Int):Int)/\rE (0:Int)/\True)/\(True/\True/\True)/\rE (c:List Int)/\True) (0,c) λ(v0:Int×List Int)=> .br (decide (v0.1<(list.length:Int))) (.cn (bS 1 1&&bT 0 1&&decide (0<=v0.1/\v0.1<(list.length:Int))) (.an (Q1a v0.2 [wrap u64 (list.getD v0.1.toNat 0)]) (.lv (Q1r v0.2 [wrap u64 (list.getD v0.1.toNat 0)]) λ(x0:List Int)=> .nx ((rZ/\((Els.Nil (Els.ints u32 list)\/rE (1:Nat))/\rE (list:List Int))/\rE ((list.length:Int):Int)/\rE ((wrap i64 (v0.1+1)):Int)/\True)/\(True/\True/\True)/\rE (x0:List Int)/\True) (Sum.inl (wrap i64 (v0.1+1),x0))))) (.lf (Sum.inr v0.2))
def Q14 c list:=(Q3p c list).m
abbrev Q0r c list:=(Q3p c list).p
def Qmb:LInv:={
 α:=(Int)×(List Int)
 F:=λst a=>([(0, .ptr 0 0 0),(6,(lk st 6)),(7,(lk st 7)),(8, .int i64 a.1)],[⟨true,148,2, .gen [[.selfp 0, .all 1]]⟩,⟨false,5,1, .ints u8 a.2⟩])
 a0:=λst=>((lk st 8).toInt,(Q3h st.rows (Q0n (Qrc st.rows 0 1) 1000000)))
 ex0:=λst=>[0]++[(Q0n (Qrc st.rows 0 1) (st.rows.length+1))]}
def Qkg:List (Nat×LInv):=[(1,Qmb)]
def Qmx:Q0b:=mkKP 1 86 [true,false] [.ptr 0, .one (.ints .u32)] [.box 148 2 [.self 0, .row 1], .arr 5 1 (.ints .u8)] (λa r=>Q0r (rowL .u8 r 1) (argL .u32 a 1)) (λa r=>Q14 (rowL .u8 r 1) (argL .u32 a 1)) (λX=> .tup []) (λX=>[⟨true,148,2, .gen [[.selfp 0, .all 1]]⟩,⟨false,5,1, .ints .u8 X⟩])
theorem Qmi:Q04 pG Qmx:=Qtw drawn Q0g (.cons Q44 (.nil)) Tryz.func86 Tryz.call86 (λa r=>Q3p (rowL .u8 r 1) (argL .u32 a 1)) [.row 5 1 (.ints .u8)] Qkg 3 (λ_ _ _=>by kernel_rfl) (λ_ _=>rfl) (λ_ _ h=>h)
def Q3n(c:List Int)(s:List UInt8):Tree (List Int):=
.an (Q1a c [wrap u64 (s.length:Int)]) (.lv (Q1r c [wrap u64 (s.length:Int)]) λ(x0:List Int)=> .an (Q63 x0 s) (.lv (Q8a x0 s) λ(x1:Int×Unit×List Int)=> .lf x1.2.2))
def Qak c s:=(Q3n c s).m
abbrev Q6z c s:=(Q3n c s).p
def Qnq:Q0b:=mkKP 1 88 [true,false] [.ptr 0, .one (.str)] [.box 148 2 [.self 0, .row 1], .arr 5 1 (.ints .u8)] (λa r=>Q6z (rowL .u8 r 1) (argS a 1)) (λa r=>Qak (rowL .u8 r 1) (argS a 1)) (λX=> .tup []) (λX=>[⟨true,148,2, .gen [[.selfp 0, .all 1]]⟩,⟨false,5,1, .ints .u8 X⟩])
theorem Qme:Q04 pG Qnq:=Qtw drawn Q0g (.cons Q44 (.cons Qb7 (.nil))) Tryz.func88 Tryz.call88 (λa r=>Q3n (rowL .u8 r 1) (argS a 1)) [.row 5 1 (.ints .u8)] [] 2 (λ_ _ _=>by kernel_rfl) (λ_ _=>rfl) (λ_ _ h=>h)
def Q4b(c:List Int)(set0:Bool):Tree (List Int):=
.br set0 (.an (Q1a c [1]) (.lv (Q1r c [1]) λ(x0:List Int)=> .lf x0)) (.an (Q1a c [0]) (.lv (Q1r c [0]) λ(x1:List Int)=> .lf x1))
def Q2r c set0:=(Q4b c set0).m
abbrev Q1y c set0:=(Q4b c set0).p
def Qp5:Q0b:=mkKP 1 89 [true,false] [.ptr 0, .one (.bool)] [.box 148 2 [.self 0, .row 1], .arr 5 1 (.ints .u8)] (λa r=>Q1y (rowL .u8 r 1) (argB a 1)) (λa r=>Q2r (rowL .u8 r 1) (argB a 1)) (λX=> .tup []) (λX=>[⟨true,148,2, .gen [[.selfp 0, .all 1]]⟩,⟨false,5,1, .ints .u8 X⟩])
theorem Qnc:Q04 pG Qp5:=Qtw drawn Q0g (.cons Q44 (.nil)) Tryz.func89 Tryz.call89 (λa r=>Q4b (rowL .u8 r 1) (argB a 1)) [.row 5 1 (.ints .u8)] [] 2 (λ_ _ _=>by kernel_rfl) (λ_ _=>rfl) (λ_ _ h=>h)
def Qad(b:List Int):((List UInt8)×(List Int)):=
(bytesOf b,b)
def Qe8(b:List Int):List D:=[.ptr 0 0 0]
def Qdw(b:List Int):List Row:=[⟨true,148,2, .gen [[.selfp 0, .all 1]]⟩,⟨false,5,1, .ints .u8 b⟩]
def Qfd(X:((List UInt8)×(List Int))):D:= .str (X.1)
def Qfh(X:((List UInt8)×(List Int))):List Row:=[⟨true,148,2, .gen [[.selfp 0, .sl 1 (.ints .u8 X.2) false]]⟩]
def Qff:List PT:=[.ptr 0]
def Qe7:List RT:=[.box 148 2 [.self 0, .row 1], .arr 5 1 (.ints .u8)]
def Qpb(args:List D)(rows:List Row):((List UInt8)×(List Int)):=Qad (rowL .u8 rows 1)
def Qrw:Q0b:=mkK 1 90 [true] Qff Qe7 Qpb Qfd Qfh
theorem Qm9(b:List Int):Q88 pG 90 1 (Qe8 b) (Qdw b) (Qfd (Qad b)) (Qfh (Qad b)):=by
 exact vd (ρ:=Tryz.lays105_ren) (by decide) {Tryz.lays105 with} Tryz.Builder_Extra_105 _
set_option maxRecDepth 100000 in
theorem Qmv(args:List D)(rows:List Row):Qeh Qff args 0=Qe8 (rowL .u8 rows 1):=by kernel_rfl
set_option maxRecDepth 100000 in
theorem Qma(args:List D)(rows:List Row):Q58 Qe7 rows 0=Qdw (rowL .u8 rows 1):=by kernel_rfl
theorem Qql:Q04 pG Qrw:=qaK (λ_=>Tryz.call90) (λa r=>by rw[Qmv a r,Qma a r];exact Qm9 (rowL .u8 r 1))
def Q7b(m:Q00):Tree (List UInt8):=
.an (Q0r [] [m.B1.X.a0,m.B1.X.a1,m.B1.X.a2,m.B1.X.a3,m.B1.X.a4,m.B1.X.a5,m.B1.X.a6,m.B1.X.a7,m.B1.X.a8,m.B1.X.a9,m.B1.X.a10,m.B1.X.a11,m.B1.X.a12,m.B1.X.a13,m.B1.X.a14,m.B1.X.a15]) (.lv (Q14 [] [m.B1.X.a0,m.B1.X.a1,m.B1.X.a2,m.B1.X.a3,m.B1.X.a4,m.B1.X.a5,m.B1.X.a6,m.B1.X.a7,m.B1.X.a8,m.B1.X.a9,m.B1.X.a10,m.B1.X.a11,m.B1.X.a12,m.B1.X.a13,m.B1.X.a14,m.B1.X.a15]) λ(x0:List Int)=> .an (Q0r x0 [m.B1.Pc]) (.lv (Q14 x0 [m.B1.Pc]) λ(x1:List Int)=> .an (Q0r x1 [m.B1.B4.a0,m.B1.B4.a1,m.B1.B4.a2,m.B1.B4.a3,m.B1.B4.a4,m.B1.B4.a5,m.B1.B4.a6,m.B1.B4.a7]) (.lv (Q14 x1 [m.B1.B4.a0,m.B1.B4.a1,m.B1.B4.a2,m.B1.B4.a3,m.B1.B4.a4,m.B1.B4.a5,m.B1.B4.a6,m.B1.B4.a7]) λ(x2:List Int)=> .an (Q1a x2 [wrap u64 (m.Mem.length:Int)]) (.lv (Q1r x2 [wrap u64 (m.Mem.length:Int)]) λ(x3:List Int)=> .an (Q0r x3 m.Mem) (.lv (Q14 x3 m.Mem) λ(x4:List Int)=> .an (Q6z x4 m.A2.D0) (.lv (Qak x4 m.A2.D0) λ(x5:List Int)=> .an (Q1y x5 m.A7.D2) (.lv (Q2r x5 m.A7.D2) λ(x6:List Int)=> .an (Q0r x6 [m.A7.C3]) (.lv (Q14 x6 [m.A7.C3]) λ(x7:List Int)=> .an (Q1y x7 m.A7.D1) (.lv (Q2r x7 m.A7.D1) λ(x8:List Int)=> .an (Q0r x8 [m.A9.Blocks,m.A9.C1,m.A9.Frame]) (.lv (Q14 x8 [m.A9.Blocks,m.A9.C1,m.A9.Frame]) λ(x9:List Int)=> .an (Q1a x9 [wrap u64 m.A9.B7,wrap u64 m.A9.D4]) (.lv (Q1r x9 [wrap u64 m.A9.B7,wrap u64 m.A9.D4]) λ(x10:List Int)=> .an (Q0r x10 [m.A9.B5,m.A9.B2]) (.lv (Q14 x10 [m.A9.B5,m.A9.B2]) λ(x11:List Int)=> .an (Q6z x11 m.A9.B8) (.lv (Qak x11 m.A9.B8) λ(x12:List Int)=> .an (Q0r x12 [m.B9.Frame,m.B9.D8]) (.lv (Q14 x12 [m.B9.Frame,m.B9.D8]) λ(x13:List Int)=> .an (Q1y x13 m.B9.C5) (.lv (Q2r x13 m.B9.C5) λ(x14:List Int)=> .an (Q0r x14 [m.B9.C0]) (.lv (Q14 x14 [m.B9.C0]) λ(x15:List Int)=> .an (Q1y x15 m.B9.B6) (.lv (Q2r x15 m.B9.B6) λ(x16:List Int)=> .an (Q0r x16 [m.B9.D9]) (.lv (Q14 x16 [m.B9.D9]) λ(x17:List Int)=> .an (Q0r x17 [m.A1.C6,m.A1.C2]) (.lv (Q14 x17 [m.A1.C6,m.A1.C2]) λ(x18:List Int)=> .an (Q1a x18 [m.A4]) (.lv (Q1r x18 [m.A4]) λ(x19:List Int)=> .an (Q1y x19 m.A3) (.lv (Q2r x19 m.A3) λ(x20:List Int)=> .an (Q1y x20 m.A6) (.lv (Q2r x20 m.A6) λ(x21:List Int)=> .lv (Qad x21) λ(x22:List UInt8×List Int)=> .lf x22.1))))))))))))))))))))))
def Qdn m:=(Q7b m).m
abbrev Q82 m:=(Q7b m).p
def Qyl:Q0b:=mT 21 [] true [.agg Q00.sig] [] (λa r=>Q7b (Q00.of (aC a 0))) (λX=> .str X) (λX=>[])
theorem Qjh:Q04 pG Qyl:=oT (.cons Qmi (.cons Q44 (.cons Qme (.cons Qnc (.cons Qql (.nil)))))) Tryz.func21 Tryz.call21 [] [] 2
def Qpj(h0:Int)(s:List UInt8)(z:(Int)×(Int)):Prop:=0<=z.2/\z.2<=s.length
def Qgj(h0:Int)(s:List UInt8)(z:(Int)×(Int)):Nat:=(s.length-z.2).toNat
def Ql3(h0:Int)(s:List UInt8):Tree Int:=
.lp inferInstance (Qgj h0 s (h0,0)+1) ((rE (h0:Int)/\rE (s:List UInt8)/\rE ((s.length:Int):Int)/\rE (0:Int)/\True)/\True) (h0,0) λ(v0:Int×Int)=> .br (decide (v0.2<(s.length:Int))) (.cn (decide (0<=v0.2/\v0.2<(s.length:Int))) (.nx ((rE ((wrap u64 (ixor u64 v0.1 (wrap u64 (↑(eZ (s.getD v0.2.toNat (0:UInt8))):Int))*1099511628211)):Int)/\rE (s:List UInt8)/\rE ((s.length:Int):Int)/\rE ((wrap i64 (v0.2+1)):Int)/\True)/\True) (Sum.inl (wrap u64 (ixor u64 v0.1 (wrap u64 (↑(eZ (s.getD v0.2.toNat (0:UInt8))):Int))*1099511628211),wrap i64 (v0.2+1))))) (.lf (Sum.inr v0.1))
def Ze6 h0 s:=(Ql3 h0 s).m
def Qfu(h0:Int)(s:List UInt8):Prop:=
s.length<=1000000000000
theorem Z81(h0:Int)(s:List UInt8)(hw:Qfu h0 s):(Ql3 h0 s).p:=by
 simp only[Qfu]at hw
 unfold Tree.p Ql3
 repeat'(first|refine w_lp (inv:=Qpj h0 s) (μ:=Qgj h0 s) ?_ (cO _) (λ_ _=> ?_)|exact trivial|refine w_br (λ_=> ?_) (λ_=> ?_)|refine w_cn ?_ ?_|refine w_an ?_ ?_|refine w_lv (λ_ _=> ?_)|refine w_nx ?_|refine w_lf ?_|refine And.intro ?_ ?_)
 all_goals((try simp only[Qpj,Qgj]at*);exact fin0)
def Zcm:LInv:={
 α:=(Int)×(Int)
 F:=λst a=>([(0, .int u64 a.1),(1,(lk st 1)),(7,(lk st 7)),(8, .int i64 a.2)],[])
 a0:=λst=>((lk st 0).toInt,(lk st 8).toInt)
 ex0:=λst=>[]++[]}
def Z4p:List (Nat×LInv):=[(2,Zcm)]
def Zgj:Q0b:=mkP 91 [] true [.one (.int .u64), .one (.str)] [] (λa r=>Qfu (argI a 0) (argS a 1)) (λa r=>Ze6 (argI a 0) (argS a 1)) (λX=> .int .u64 X) (λX=>[])
theorem Zda:Q04 pG Zgj:=Q0j drawn Q0g (.nil) Tryz.func91 Tryz.call91 (λa r=>Ql3 (argI a 0) (argS a 1)) [] Z4p 3 (hp:=λa r h=>Z81 (argI a 0) (argS a 1) h)
def Qa0(m:Q00):Tree Int:=
.an (Q82 m) (.lv (Qdn m) λ(x0:List UInt8)=> .an (Qfu 14695981039346656037 x0) (.lv (Ze6 14695981039346656037 x0) λ(x1:Int)=> .lf x1))
def Qmo m:=(Qa0 m).m
abbrev Qf4 m:=(Qa0 m).p
def Z49:Q0b:=mT 22 [] true [.agg Q00.sig] [] (λa r=>Qa0 (Q00.of (aC a 0))) (λX=> .int .u64 X) (λX=>[])
theorem Z21:Q04 pG Z49:=oT (.cons Zda (.cons Qjh (.nil))) Tryz.func22 Tryz.call22 [] [] 2
end
noncomputable section
def Z14(pc:Int):Tree Q02:=
.lf ({X:={a0:=0,a1:=0,a2:=0,a3:=0,a4:=0,a5:=0,a6:=0,a7:=0,a8:=0,a9:=0,a10:=0,a11:=0,a12:=0,a13:=0,a14:=0,a15:=0},Pc:=pc,B4:={a0:=1,a1:=0,a2:=0,a3:=0,a4:=0,a5:=0,a6:=0,a7:=0}})
def Zbb pc:=(Z14 pc).m
def Zhb:Q0b:=mS 166 [] true [.one (.int .u32)] [] (λa r=>Z14 (argI a 0)) (λX=> .agg (Q02.cells X)) (λX=>[])
theorem Zd8:Q04 pG Zhb:=oS (.nil) Tryz.func166 Tryz.call166 [] [] 2
def Qbz(pages blocks:Int)(image:List Int):Tree (Q00×Int):=
let T1:Tree ((Q00×Int)):= .lf ({B1:={X:={a0:=0,a1:=0,a2:=0,a3:=0,a4:=0,a5:=0,a6:=0,a7:=0,a8:=0,a9:=0,a10:=0,a11:=0,a12:=0,a13:=0,a14:=0,a15:=0},Pc:=0,B4:={a0:=0,a1:=0,a2:=0,a3:=0,a4:=0,a5:=0,a6:=0,a7:=0}},Mem:=[],A2:={D0:=[]},A7:={D2:=false,C3:=0,D1:=false},A9:={Blocks:=0,C1:=0,Frame:=0,B7:=0,D4:=0,B5:=0,B2:=0,B8:=[]},B9:={Frame:=0,D8:=0,C5:=false,C0:=0,B6:=false,D9:=0},A1:={C6:=0,C2:=0},A4:=0,A3:=false,A6:=false},1200); .br (decide (pages<1)) T1 (.br (decide (pages>32)) T1 (.br (decide (blocks<0)) T1 (.br (decide (blocks>64)) T1 (.br (decide ((image.length:Int)>wrap i64 (pages*32))) T1 (.lv (Zbb 0) λ(x0:Q02)=> .an (Qjb pages) (.lv (Z6j pages) λ(x1:List Int)=> .lf ({B1:=x0,Mem:=dC (Min.min (image.length) (x1.length)) image++dD (Min.min (image.length) (x1.length)) x1,A2:={D0:=[]},A7:={D2:=false,C3:=0,D1:=false},A9:={Blocks:=wrap u32 blocks,C1:=0,Frame:=0,B7:=0,D4:=0,B5:=0,B2:=0,B8:=[]},B9:={Frame:=0,D8:=0,C5:=false,C0:=0,B6:=false,D9:=0},A1:={C6:=0,C2:=0},A4:=0,A3:=false,A6:=false},0)))))))
def Qze pages blocks image:=(Qbz pages blocks image).m
abbrev Qh3 pages blocks image:=(Qbz pages blocks image).p
def Z7w:Q0b:=mT 81 [] true [.one (.int .i64), .one (.int .i64), .one (.ints .u32)] [] (λa r=>Qbz (argI a 0) (argI a 1) (argL .u32 a 2)) (λX=> .tup [.agg (Q00.cellsW (X.1) (.all 0)), .int .i64 (X.2)]) (λX=>[⟨false,25,1, .ints .u32 (X.1).Mem⟩])
theorem Z4c:Q04 pG Z7w:=oT (.cons Zd8 (.cons Zag (.nil))) Tryz.func81 Tryz.call81 [.row 25 1 (.ints .u32)] [] 2
def Q7e(m:Q00)(clock:Int):Tree (Q00×(List Q08)×(List Int)):=
.an (Q06 m.Mem) (.lv (Q03 m.Mem) λ(x0:List Int)=>let E1:=({B1:=m.B1,Mem:=x0,A2:=m.A2,A7:=m.A7,A9:=m.A9,B9:=m.B9,A1:=m.A1,A4:=m.A4,A3:=m.A3,A6:=m.A6}:Q00); .an (Qag E1) (.lv (Q3r E1) λ(x1:Bool)=> .br (!x1) (.lf (E1,[],m.Mem)) (.an (Q9l E1) (.lv (Q0y E1) λ(x2:Q00)=> .an (Qir x2.B1 x2.Mem) (.lv (Q9h x2.B1 x2.Mem) λ(x3:Q02×List Int×Q0v)=>let E2:=({B1:=x3.1,Mem:=x3.2.1,A2:=x2.A2,A7:=x2.A7,A9:=x2.A9,B9:=x2.B9,A1:=x2.A1,A4:=x2.A4,A3:=x2.A3,A6:=x2.A6}:Q00); .br (x3.2.2.C4==1) (.an (Q9q E2 x3.2.2.C8 clock) (.lv (Q10 E2 x3.2.2.C8 clock) λ(x4:Q00×Int)=> .br (x3.2.2.D7 !=0) (.cn (bT 0 1&&decide (0<=x3.2.2.D7/\x3.2.2.D7<(↑16:Int))) (.lf ({B1:={X:=A16.of 0 (dH (A16.l x4.1.B1.X) x3.2.2.D7.toNat x4.2),Pc:=x4.1.B1.Pc,B4:=x4.1.B1.B4},Mem:=x4.1.Mem,A2:=x4.1.A2,A7:=x4.1.A7,A9:=x4.1.A9,B9:=x4.1.B9,A1:=x4.1.A1,A4:=wrap u64 (x4.1.A4+1),A3:=x4.1.A3,A6:=x4.1.A6},[],m.Mem))) (.lf ({B1:=x4.1.B1,Mem:=x4.1.Mem,A2:=x4.1.A2,A7:=x4.1.A7,A9:=x4.1.A9,B9:=x4.1.B9,A1:=x4.1.A1,A4:=wrap u64 (x4.1.A4+1),A3:=x4.1.A3,A6:=x4.1.A6},[],m.Mem)))) (.br (x3.2.2.C4==2) (.an (Q8i E2 x3.2.2.C8 x3.2.2.Value m.A4) (.lv (Q1x E2 x3.2.2.C8 x3.2.2.Value m.A4) λ(x5:Q00×List Q08)=> .lf ({B1:=x5.1.B1,Mem:=x5.1.Mem,A2:=x5.1.A2,A7:=x5.1.A7,A9:=x5.1.A9,B9:=x5.1.B9,A1:=x5.1.A1,A4:=wrap u64 (x5.1.A4+1),A3:=x5.1.A3,A6:=x5.1.A6},x5.2,m.Mem))) (.br (x3.2.2.C4==3) (.lf ({B1:=x3.1,Mem:=x3.2.1,A2:=x2.A2,A7:=x2.A7,A9:=x2.A9,B9:=x2.B9,A1:=x2.A1,A4:=wrap u64 (x2.A4+1),A3:=true,A6:=x2.A6},[],m.Mem)) (.br (x3.2.2.C4==4) (.lf ({B1:=x3.1,Mem:=x3.2.1,A2:=x2.A2,A7:=x2.A7,A9:=x2.A9,B9:=x2.B9,A1:=x2.A1,A4:=wrap u64 (x2.A4+1),A3:=x2.A3,A6:=true},[],m.Mem)) (.lf ({B1:=x3.1,Mem:=x3.2.1,A2:=x2.A2,A7:=x2.A7,A9:=x2.A9,B9:=x2.B9,A1:=x2.A1,A4:=wrap u64 (x2.A4+1),A3:=x2.A3,A6:=x2.A6},[],m.Mem))))))))))
def Qq9 m clock:=(Q7e m clock).m
abbrev Qcp m clock:=(Q7e m clock).p
def Qxr:Q0b:=mT 39 [true,false] false [.agg (Q00.sigW (.row 0)), .one (.int .u32)] [.arr 25 1 (.ints .u32)] (λa r=>Q7e (Q00.ofW (aC a 0) (rowL .u32 r 0)) (argI a 1)) (λX=> .tup [.agg (Q00.cells (X.1)), .sl 4 (.recs .apiOutput (X.2.1)) false]) (λX=>[⟨false,25,1, .ints .u32 (X.2.2)⟩])
theorem Qv2:Q04 pG Qxr:=oT (.cons Q1j (.cons Z1f (.cons Qya (.cons Zh0 (.cons Qr6 (.cons Qp9 (.nil))))))) Tryz.func39 Tryz.call39 [.sl (.ints .u32) false, .sl (.recs .apiOutput) false] [] 2 (hff:=nofun)
def Qa5(kind:Int)(l acts:List Int):Tree Q00:=
.an (Qm kind l) (.lv (Qel kind l) λ(x0:Q00)=> .an (Qsa x0 acts) (.lv (Z0r x0 acts) λ(x1:Q01×List Q08)=> .lf x1.1.A0))
def Qx5 kind l acts:=(Qa5 kind l acts).m
abbrev Qm2 kind l acts:=(Qa5 kind l acts).p
def Z4f:Q0b:=mT 17 [] true [.one (.int .i64), .one (.ints .i64), .one (.ints .i64)] [] (λa r=>Qa5 (argI a 0) (argL .i64 a 1) (argL .i64 a 2)) (λX=> .agg (Q00.cellsW X (.all 0))) (λX=>[⟨false,25,1, .ints .u32 X.Mem⟩])
theorem Z0k:Q04 pG Z4f:=oT (.cons Zcg (.cons Z0s (.nil))) Tryz.func17 Tryz.call17 [.row 25 1 (.ints .u32)] [] 2
def Qc9:Tree Bool:=
.an (Qh3 1 0 []) (.lv (Qze 1 0 []) λ(x0:Q00×Int)=> .an (Qcp x0.1 0) (.lv (Qq9 x0.1 0) λ(x1:Q00×List Q08×List Int)=> .br (x0.2==0) (let E1:=({B1:=x0.1.B1,Mem:=x1.2.2,A2:=x0.1.A2,A7:=x0.1.A7,A9:=x0.1.A9,B9:=x0.1.B9,A1:=x0.1.A1,A4:=x0.1.A4,A3:=x0.1.A3,A6:=x0.1.A6}:Q00); .an (Q55 E1) (.lv (Q17 E1) λ(x2:Bool)=> .br x2 (.br (x1.1.A4==1) (.br (x1.1.B1.B4.a3==1) (.br ((x1.2.1.length:Int)==(0:Int)) (.an (Qae E1 x1.1) (.lv (Qnl E1 x1.1) λ(x3:Bool)=> .lf (!x3))) (.lf false)) (.lf false)) (.lf false)) (.lf false))) (.lf false)))
def Qai:Bool:=(Qc9).m
abbrev Q52:Prop:=(Qc9).p
def Z8w:Q0b:=mT 16 [] true [] [] (λa r=>Qc9) (λX=> .bool X) (λX=>[])
theorem Z54:Q04 pG Z8w:=oT (.cons Z4c (.cons Qv2 (.cons Qq7 (.cons Qo7 (.nil))))) Tryz.func16 Tryz.call16 [] [] 2
def Q56(kind:Int)(l acts:List Int)(where0 what there that:Int):Tree Bool:=
.lv (Qyu l acts) λ(x0:Bool)=> .br (!x0) (.an Q52 (.lv Qai λ(x1:Bool)=> .lf x1)) (.an (Qm2 kind l acts) (.lv (Qx5 kind l acts) λ(x2:Q00)=> .an (Qfv x2 where0 what) (.lv (Qhs x2 where0 what) λ(x3:Q00)=> .an (Qfv x2 there that) (.lv (Qhs x2 there that) λ(x4:Q00)=> .an (Qsm x3 x4) (.lv (Zb8 x3 x4) λ(x5:Bool)=> .an (Qae x3 x4) (.lv (Qnl x3 x4) λ(x6:Bool)=> .br (x6==x5) (.an (Q82 x3) (.lv (Qdn x3) λ(x7:List UInt8)=> .an (Q82 x4) (.lv (Qdn x4) λ(x8:List UInt8)=> .br (decide (x7=x8)==x5) (.br (!x5) (.an Q52 (.lv Qai λ(x9:Bool)=> .lf x9)) (.an (Qf4 x3) (.lv (Qmo x3) λ(x10:Int)=> .an (Qf4 x4) (.lv (Qmo x4) λ(x11:Int)=> .br (x10==x11) (.an Q52 (.lv Qai λ(x12:Bool)=> .lf x12)) (.lf false))))) (.lf false)))) (.lf false)))))))
def Q9p kind l acts where0 what there that:=(Q56 kind l acts where0 what there that).m
abbrev Qb6 kind l acts where0 what there that:=(Q56 kind l acts where0 what there that).p
def Qmg:Q0b:=mT 3 [] true [.one (.int .i64), .one (.ints .i64), .one (.ints .i64), .one (.int .i64), .one (.int .i64), .one (.int .i64), .one (.int .i64)] [] (λa r=>Q56 (argI a 0) (argL .i64 a 1) (argL .i64 a 2) (argI a 3) (argI a 4) (argI a 5) (argI a 6)) (λX=> .bool X) (λX=>[])
theorem Ql2:Q04 pG Qmg:=oT (.cons Zg0 (.cons Z54 (.cons Z0k (.cons Zet (.cons Zed (.cons Qo7 (.cons Qjh (.cons Z21 (.nil))))))))) Tryz.func3 Tryz.call3 [] [] 2

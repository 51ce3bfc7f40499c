import Derived.Test.YtmalmklaonainaaGreatMachineTellsZd
import Derived.Test.YtmalmklaonainaaGreatMachineTellsZx
open Nat renaming beq->bS, blt->bT, lt_succ_self->cO
open List renaming getD->aK, length->dL, append->cS, take->dC, drop->dD, set->dH
open Int renaming toNat->dG
open UInt8 renaming toNat->fB
set_option maxRecDepth 100000
set_option linter.all false
namespace Go.Proofs.YtmalmklaonainaaGreat
open Go Go.GD Go.IntKind
noncomputable section
instance sumInhZi {α β:Type} [Inhabited β]:Inhabited (α⊕β):=⟨.inr default⟩
def Qrv(src:List UInt8)(z:(Int)×(List Int)):Nat:=((Z16 src).2.1.length-z.1).toNat
def Qs3(src:List UInt8)(v0:Int×List Int)(z:(Int)×(List Int)):Nat:=(1024-z.1).toNat
def Q8w(src:List UInt8):Tree ((List Int)×Q16):=
.an (Qlt src) (.lv (Z16 src) λ(x0:List Q21×List Q0a×Q16)=> .br (x0.2.2.Err !=0) (.lf ([],x0.2.2)) (.lp inferInstance (Qrv src (0,[])+1) ((True/\rZ/\True/\True/\True/\rE (0:Int)/\True)/\(rE (0:Int)/\rE (0:Int)/\True)/\rE x0.1/\rE x0.2.1/\rE ([]:List Int)/\True) (0,[]) λ(v0:Int×List Int)=> .br (decide (v0.1<(x0.2.1.length:Int))) (.cn (bS 6 6&&bT 0 6&&decide (0<=v0.1/\v0.1<(x0.2.1.length:Int))) (let E4:=x0.2.1.getD v0.1.toNat (RK.dflt RK.vmfleetref1Statement);let T1:Tree ((Int×List Int)⊕(((List Int)×Q16))):= .lp inferInstance (Qs3 src v0 (0,v0.2)+1) ((True/\rZ/\True/\True/\True/\rE v0.1/\rZ/\rE (0:Int)/\True)/\(rE (0:Int)/\rE (0:Int)/\True)/\rE x0.1/\rE x0.2.1/\(rE ((x0.2.1.getD v0.1.toNat (RK.dflt RK.vmfleetref1Statement)).what:List UInt8)/\rE ((x0.2.1.getD v0.1.toNat (RK.dflt RK.vmfleetref1Statement)).op:Int)/\((Els.Nil (D.toEs (aK (Els.get (Els.recs RK.vmfleetref1Statement x0.2.1) v0.1.toNat) ((0:Nat)+(1:Nat)+(1:Nat)) D.dead))\/rE (3:Nat))/\rE ((x0.2.1.getD v0.1.toNat (RK.dflt RK.vmfleetref1Statement)).l:List (RK.T RK.vmfleetref1Arg)))/\rE ((x0.2.1.getD v0.1.toNat (RK.dflt RK.vmfleetref1Statement)).D6:Int)/\rE ((x0.2.1.getD v0.1.toNat (RK.dflt RK.vmfleetref1Statement)).at_:Int)/\rE ((x0.2.1.getD v0.1.toNat (RK.dflt RK.vmfleetref1Statement)).size:Int)/\True)/\rE v0.2/\True) (0,v0.2) λ(v1:Int×List Int)=> .br (decide (v1.1<E4.size)) (.cn (decide (4*(v1.2.length+1)<=140737488355328)) (.nx ((True/\rZ/\True/\True/\True/\rE v0.1/\rZ/\rE ((wrap i64 (v1.1+1)):Int)/\True)/\(rE (0:Int)/\rE (0:Int)/\True)/\rE x0.1/\rE x0.2.1/\(rE ((x0.2.1.getD v0.1.toNat (RK.dflt RK.vmfleetref1Statement)).what:List UInt8)/\rE ((x0.2.1.getD v0.1.toNat (RK.dflt RK.vmfleetref1Statement)).op:Int)/\((Els.Nil (Els.recs RK.vmfleetref1Arg (x0.2.1.getD v0.1.toNat (RK.dflt RK.vmfleetref1Statement)).l)\/rE (3:Nat))/\rE ((x0.2.1.getD v0.1.toNat (RK.dflt RK.vmfleetref1Statement)).l:List (RK.T RK.vmfleetref1Arg)))/\rE ((x0.2.1.getD v0.1.toNat (RK.dflt RK.vmfleetref1Statement)).D6:Int)/\rE ((x0.2.1.getD v0.1.toNat (RK.dflt RK.vmfleetref1Statement)).at_:Int)/\rE ((x0.2.1.getD v0.1.toNat (RK.dflt RK.vmfleetref1Statement)).size:Int)/\True)/\rE ((v1.2++[0]):List Int)/\True) (Sum.inl (wrap i64 (v1.1+1),v1.2++[0])))) (.nx ((True/\rZ/\True/\True/\True/\rE ((wrap i64 (v0.1+1)):Int)/\True)/\(rE (0:Int)/\rE (0:Int)/\True)/\rE x0.1/\rE x0.2.1/\rE v1.2/\True) (Sum.inr (Sum.inl (wrap i64 (v0.1+1),v1.2))));let E5:=bS 3 3&&bT 0 3&&decide ((0:Int)<=(0:Int)/\0<(↑(dL E4.l):Int));let E7:=aK E4.l (dG 0) (RK.dflt RK.vmfleetref1Arg);let E8:=decide (4*(v0.2.length+1)<=140737488355328);let T2:Tree ((Int×List Int)⊕(((List Int)×Q16))):= .cn E5 (.cn (bS 3 3&&bT 0 3&&decide ((0:Int)<=(1:Int)/\1<(↑(dL E4.l):Int))) (.lv (Q1a {Op:=16,A:=E7.reg,B:=(aK E4.l (dG 1) (RK.dflt RK.vmfleetref1Arg)).reg,C:=0,Imm:=0}) λ(x4:Int×Bool)=> .cn E8 (.nx ((True/\rZ/\True/\True/\True/\rE ((wrap i64 (v0.1+1)):Int)/\True)/\(rE (0:Int)/\rE (0:Int)/\True)/\rE x0.1/\rE x0.2.1/\rE ((v0.2++[x4.1]):List Int)/\True) (Sum.inl (wrap i64 (v0.1+1),v0.2++[x4.1])))));let T3:Tree ((Int×List Int)⊕(((List Int)×Q16))):= .lv (Q1a {Op:=16,A:=0,B:=0,C:=0,Imm:=0}) λ(x5:Int×Bool)=> .cn E8 (.nx ((True/\rZ/\True/\True/\True/\rE ((wrap i64 (v0.1+1)):Int)/\True)/\(rE (0:Int)/\rE (0:Int)/\True)/\rE x0.1/\rE x0.2.1/\rE ((v0.2++[x5.1]):List Int)/\True) (Sum.inl (wrap i64 (v0.1+1),v0.2++[x5.1])));let E9:=decide (E4.what=[(46:UInt8),115,112,97,99,101]);let E10:=decide (E4.what=[(46:UInt8),119,111,114,100]);let E12:=decide (E4.what=[(110:UInt8),111,112]);let E13:=decide (4*(v0.2.length+2)<=140737488355328);let E14:=decide (E4.what=[(108:UInt8),105]);let E15:=decide (E4.what=[(109:UInt8),118]); .br (decide ((↑(dL E4.l):Int)>(0:Int))) (.cn (bS 3 3&&bT 0 3&&decide (0<=wrap i64 ((↑(dL E4.l):Int)-(1:Int))/\wrap i64 ((↑(dL E4.l):Int)-(1:Int))<(↑(dL E4.l):Int))) (let E6:=aK E4.l (dG (wrap i64 ((↑(dL E4.l):Int)-(1:Int)))) (RK.dflt RK.vmfleetref1Arg); .br (!decide (E6.label=[])) (.an (Q39 x0.1 E6.label) (.lv (Qon x0.1 E6.label) λ(x1:Int×Bool)=> .br (!x1.2) (.lf (Sum.inr ([],{Err:=302,Line:=E4.D6}))) (.br (decide (E4.op>0)) (let E11:=wrap i64 (wrap i64 (Int.tdiv (wrap i64 x1.1) 4)-E4.at_); .br E10 (.cn E8 (.nx ((True/\rZ/\True/\True/\True/\rE ((wrap i64 (v0.1+1)):Int)/\True)/\(rE (0:Int)/\rE (0:Int)/\True)/\rE x0.1/\rE x0.2.1/\rE ((v0.2++[wrap u32 (wrap i64 (wrap i64 (Int.tdiv (wrap i64 x1.1) 4)-(x0.2.1.getD v0.1.toNat (RK.dflt RK.vmfleetref1Statement)).at_))]):List Int)/\True) (Sum.inl (wrap i64 (v0.1+1),v0.2++[wrap u32 E11])))) (.br E9 T1 (.br E14 (.cn E5 (.lv (Q1a {Op:=24,A:=E7.reg,B:=0,C:=0,Imm:=wrap i32 (ishr u32 (wrap u32 E11) 16)}) λ(x2:Int×Bool)=> .cn E5 (.cn E5 (.lv (Q1a {Op:=18,A:=E7.reg,B:=E7.reg,C:=0,Imm:=wrap i32 (iand u32 (wrap u32 E11) 65535)}) λ(x3:Int×Bool)=> .cn E13 (.nx ((True/\rZ/\True/\True/\True/\rE ((wrap i64 (v0.1+1)):Int)/\True)/\(rE (0:Int)/\rE (0:Int)/\True)/\rE x0.1/\rE x0.2.1/\rE ((v0.2++[x2.1,x3.1]):List Int)/\True) (Sum.inl (wrap i64 (v0.1+1),v0.2++[x2.1,x3.1]))))))) (.br E15 T2 (.br E12 T3 (.an (Q9i E4 E11) (.lv (Qox E4 E11) λ(x6:Int×Bool)=> .br (!x6.2) (.lf (Sum.inr ([],{Err:=304,Line:=E4.D6}))) (.cn E8 (.nx ((True/\rZ/\True/\True/\True/\rE ((wrap i64 (v0.1+1)):Int)/\True)/\(rE (0:Int)/\rE (0:Int)/\True)/\rE x0.1/\rE x0.2.1/\rE ((v0.2++[x6.1]):List Int)/\True) (Sum.inl (wrap i64 (v0.1+1),v0.2++[x6.1]))))))))))) (.br E10 (.cn E8 (.nx ((True/\rZ/\True/\True/\True/\rE ((wrap i64 (v0.1+1)):Int)/\True)/\(rE (0:Int)/\rE (0:Int)/\True)/\rE x0.1/\rE x0.2.1/\rE ((v0.2++[wrap u32 (wrap i64 x1.1)]):List Int)/\True) (Sum.inl (wrap i64 (v0.1+1),v0.2++[wrap u32 (wrap i64 x1.1)])))) (.br E9 T1 (.br E14 (.cn E5 (.lv (Q1a {Op:=24,A:=E7.reg,B:=0,C:=0,Imm:=wrap i32 (ishr u32 (wrap u32 (wrap i64 x1.1)) 16)}) λ(x7:Int×Bool)=> .cn E5 (.cn E5 (.lv (Q1a {Op:=18,A:=E7.reg,B:=E7.reg,C:=0,Imm:=wrap i32 (iand u32 (wrap u32 (wrap i64 x1.1)) 65535)}) λ(x8:Int×Bool)=> .cn E13 (.nx ((True/\rZ/\True/\True/\True/\rE ((wrap i64 (v0.1+1)):Int)/\True)/\(rE (0:Int)/\rE (0:Int)/\True)/\rE x0.1/\rE x0.2.1/\rE ((v0.2++[x7.1,x8.1]):List Int)/\True) (Sum.inl (wrap i64 (v0.1+1),v0.2++[x7.1,x8.1]))))))) (.br E15 T2 (.br E12 T3 (.an (Q9i E4 (wrap i64 x1.1)) (.lv (Qox E4 (wrap i64 x1.1)) λ(x11:Int×Bool)=> .br (!x11.2) (.lf (Sum.inr ([],{Err:=304,Line:=E4.D6}))) (.cn E8 (.nx ((True/\rZ/\True/\True/\True/\rE ((wrap i64 (v0.1+1)):Int)/\True)/\(rE (0:Int)/\rE (0:Int)/\True)/\rE x0.1/\rE x0.2.1/\rE ((v0.2++[x11.1]):List Int)/\True) (Sum.inl (wrap i64 (v0.1+1),v0.2++[x11.1])))))))))))))) (.br E10 (.cn E8 (.nx ((True/\rZ/\True/\True/\True/\rE ((wrap i64 (v0.1+1)):Int)/\True)/\(rE (0:Int)/\rE (0:Int)/\True)/\rE x0.1/\rE x0.2.1/\rE ((v0.2++[wrap u32 (aK (x0.2.1.getD v0.1.toNat (RK.dflt RK.vmfleetref1Statement)).l (dG (wrap i64 ((↑(dL (x0.2.1.getD v0.1.toNat (RK.dflt RK.vmfleetref1Statement)).l):Int)-(1:Int)))) (RK.dflt RK.vmfleetref1Arg)).num]):List Int)/\True) (Sum.inl (wrap i64 (v0.1+1),v0.2++[wrap u32 E6.num])))) (.br E9 T1 (.br E14 (.cn E5 (.lv (Q1a {Op:=24,A:=E7.reg,B:=0,C:=0,Imm:=wrap i32 (ishr u32 (wrap u32 E6.num) 16)}) λ(x12:Int×Bool)=> .cn E5 (.cn E5 (.lv (Q1a {Op:=18,A:=E7.reg,B:=E7.reg,C:=0,Imm:=wrap i32 (iand u32 (wrap u32 E6.num) 65535)}) λ(x13:Int×Bool)=> .cn E13 (.nx ((True/\rZ/\True/\True/\True/\rE ((wrap i64 (v0.1+1)):Int)/\True)/\(rE (0:Int)/\rE (0:Int)/\True)/\rE x0.1/\rE x0.2.1/\rE ((v0.2++[x12.1,x13.1]):List Int)/\True) (Sum.inl (wrap i64 (v0.1+1),v0.2++[x12.1,x13.1]))))))) (.br E15 T2 (.br E12 T3 (.an (Q9i E4 E6.num) (.lv (Qox E4 E6.num) λ(x16:Int×Bool)=> .br (!x16.2) (.lf (Sum.inr ([],{Err:=304,Line:=E4.D6}))) (.cn E8 (.nx ((True/\rZ/\True/\True/\True/\rE ((wrap i64 (v0.1+1)):Int)/\True)/\(rE (0:Int)/\rE (0:Int)/\True)/\rE x0.1/\rE x0.2.1/\rE ((v0.2++[x16.1]):List Int)/\True) (Sum.inl (wrap i64 (v0.1+1),v0.2++[x16.1]))))))))))))) (.br E10 (.cn E8 (.nx ((True/\rZ/\True/\True/\True/\rE ((wrap i64 (v0.1+1)):Int)/\True)/\(rE (0:Int)/\rE (0:Int)/\True)/\rE x0.1/\rE x0.2.1/\rE ((v0.2++[wrap u32 0]):List Int)/\True) (Sum.inl (wrap i64 (v0.1+1),v0.2++[wrap u32 0])))) (.br E9 T1 (.br E14 (.cn E5 (.lv (Q1a {Op:=24,A:=E7.reg,B:=0,C:=0,Imm:=wrap i32 (ishr u32 (wrap u32 0) 16)}) λ(x17:Int×Bool)=> .cn E5 (.cn E5 (.lv (Q1a {Op:=18,A:=E7.reg,B:=E7.reg,C:=0,Imm:=wrap i32 (iand u32 (wrap u32 0) 65535)}) λ(x18:Int×Bool)=> .cn E13 (.nx ((True/\rZ/\True/\True/\True/\rE ((wrap i64 (v0.1+1)):Int)/\True)/\(rE (0:Int)/\rE (0:Int)/\True)/\rE x0.1/\rE x0.2.1/\rE ((v0.2++[x17.1,x18.1]):List Int)/\True) (Sum.inl (wrap i64 (v0.1+1),v0.2++[x17.1,x18.1]))))))) (.br E15 T2 (.br E12 T3 (.an (Q9i E4 0) (.lv (Qox E4 0) λ(x21:Int×Bool)=> .br (!x21.2) (.lf (Sum.inr ([],{Err:=304,Line:=E4.D6}))) (.cn E8 (.nx ((True/\rZ/\True/\True/\True/\rE ((wrap i64 (v0.1+1)):Int)/\True)/\(rE (0:Int)/\rE (0:Int)/\True)/\rE x0.1/\rE x0.2.1/\rE ((v0.2++[x21.1]):List Int)/\True) (Sum.inl (wrap i64 (v0.1+1),v0.2++[x21.1]))))))))))))) (.lf (Sum.inr (v0.2,{Err:=0,Line:=0})))))
def Q1t src:=(Q8w src).m
abbrev Q9q src:=(Q8w src).p
def Qzb:LInv:={
 α:=(Int)×(List Int)
 F:=λst a=>([(2,(lk st 2)),(3, .ptr 0 0 0),(4, .all 1),(5, .all 2),(7, .all 3),(8, .int i64 a.1)],[⟨true,59,2, .gen [[(cT st 3 0),(cT st 3 1)]]⟩,⟨false,257,2,esOf st.rows (rN st 4)⟩,⟨false,181,6,esOf st.rows (rN st 5)⟩,⟨false,25,1, .ints u32 a.2⟩])
 a0:=λst=>((lk st 8).toInt,(Q2f st.rows (rN st 7)))
 ex0:=λst=>[]++[(rX st 3 0),(rX st 4 1),(rX st 5 2),(rX st 7 3)]}
def Qza:LInv:={
 α:=(Int)×(List Int)
 F:=λst a=>([(2,(lk st 2)),(3, .ptr 0 0 0),(4, .all 1),(5, .all 2),(7, .all 4),(8,(lk st 8)),(9, .ptr 3 0 0),(14, .int i64 a.1)],[⟨true,59,2, .gen [[(cT st 3 0),(cT st 3 1)]]⟩,⟨false,257,2,esOf st.rows (rN st 4)⟩,⟨false,181,6,esOf st.rows (rN st 5)⟩,⟨true,181,6, .gen [[(cT st 9 0),(cT st 9 1),(cT st 9 2),(cT st 9 3),(cT st 9 4),(cT st 9 5)]]⟩,⟨false,25,1, .ints u32 a.2⟩])
 a0:=λst=>((lk st 14).toInt,(Q2f st.rows (rN st 7)))
 ex0:=λst=>[]++[(rX st 3 0),(rX st 4 1),(rX st 5 2),(rX st 9 3),(rX st 7 4)]}
def Qte:List (Nat×LInv):=[(6,Qzb),(29,Qza)]
def Z2i:Q0b:=mT 36 [] true [.one (.str)] [] (λa r=>Q8w (argS a 0)) (λX=> .tup [.all 0, .agg (Q16.cells (X.2))]) (λX=>[⟨false,25,1, .ints .u32 (X.1)⟩])
theorem Qyk:Q04 pG Z2i:=oT (.cons Zf6 (.cons Qnc (.cons Qe3 (.cons Zft (.nil))))) Tryz.func36 Tryz.call36 [.row 25 1 (.ints .u32)] Qte 3
end
noncomputable section
instance sumInhZh {α β:Type} [Inhabited β]:Inhabited (α⊕β):=⟨.inr default⟩
def Q3k(m:Q00):Tree Q01:=
.an (Q8u m) (.lv (Qg9 m) λ(x0:Q00)=> .lf ({A0:=x0,B3:=0,C8:=[],B0:=[]}))
def Q3p m:=(Q3k m).m
abbrev Qey m:=(Q3k m).p
def Qrx:Q0b:=mT 148 [] true [.agg Q00.sig] [] (λa r=>Q3k (Q00.of (aC a 0))) (λX=> .agg (Q01.cellsW X (.all 0) (.all 1) (.all 2))) (λX=>[⟨false,25,1, .ints .u32 X.A0.Mem⟩,⟨false,126,4, .recs .apiEntry X.C8⟩,⟨false,66,3, .recs .apiEvent X.B0⟩])
theorem Qqg:Q04 pG Qrx:=oT (.cons Qhn (.nil)) Tryz.func148 Tryz.call148 [.row 25 1 (.ints .u32), .row 126 4 (.recs .apiEntry), .row 66 3 (.recs .apiEvent)] [] 2
def Q75(r:Q01)(n:Int):Tree (Q01×(List Q09)):=
.lv (Qa1 n 3) λ(x0:Int)=> .br (Int.tmod x0 (3:Int)==(0:Int)) (.an (Qqo n) (.lv (Qgo n) λ(x1:Q0e)=> .an (Qmn r x1) (.lv (Q4x r x1) λ(x2:Q01×Bool)=> .lf (x2.1,[])))) (.an (Q1l (ishr i64 x0 4) 12) (.lv (Q1y (ishr i64 x0 4) 12) λ(x3:Int)=>let E1:=wrap u32 (iand i64 (ishr i64 x0 12) 255); .an (Qka r x3 E1) (.lv (Qbz r x3 E1) λ(x4:Q01×List Q09)=> .lf (x4.1,x4.2))))
def Q5p r n:=(Q75 r n).m
abbrev Qsx r n:=(Q75 r n).p
def Zi6:Q0b:=mT 55 [] true [.agg Q01.sig, .one (.int .i64)] [] (λa r=>Q75 (Q01.of (aC a 0)) (argI a 1)) (λX=> .tup [.agg (Q01.cellsW (X.1) (.all 0) (.all 1) (.all 2)), .all 3]) (λX=>[⟨false,25,1, .ints .u32 (X.1).A0.Mem⟩,⟨false,126,4, .recs .apiEntry (X.1).C8⟩,⟨false,66,3, .recs .apiEvent (X.1).B0⟩,⟨false,71,4, .recs .apiOutput (X.2)⟩])
theorem Ze8:Q04 pG Zi6:=oT (.cons Qmb (.cons Z21 (.cons Z9w (.cons Qyo (.cons Qg5 (.nil)))))) Tryz.func55 Tryz.call55 [.row 25 1 (.ints .u32), .row 126 4 (.recs .apiEntry), .row 66 3 (.recs .apiEvent), .row 71 4 (.recs .apiOutput)] [] 2
def Qi8(m:Q00)(l:List Int)(z:(Int)×Q01×(List Q09)):Nat:=(l.length-z.1).toNat
def Qb0(m:Q00)(l:List Int):Tree (Q01×(List Q09)):=
.an (Qey m) (.lv (Q3p m) λ(x0:Q01)=> .lp inferInstance (Qi8 m l (0,x0,[])+1) ((((Els.Nil (Els.ints i64 l)\/rE (1:Nat))/\rE (l:List Int))/\rZ/\rZ/\True/\rE (0:Int)/\True)/\(mE zM True (rE (0:Int)/\True/\True/\True))/\(mE x0.A0 True (rE x0.B3/\True/\True/\True))/\rE x0.A0.Mem/\rE x0.C8/\rE x0.B0/\rE ([]:List (RK.T RK.apiOutput))/\True) (0,x0,[]) λ(v0:Int×Q01×List Q09)=> .br (decide (v0.1<(l.length:Int))) (.cn (bS 1 1&&bT 0 1&&decide (0<=v0.1/\v0.1<(l.length:Int))) (.an (Qsx v0.2.1 (l.getD v0.1.toNat 0)) (.lv (Q5p v0.2.1 (l.getD v0.1.toNat 0)) λ(x1:Q01×List Q09)=> .cn (decide (40*(v0.2.2.length+x1.2.length)<=140737488355328)) (.nx ((((Els.Nil (Els.ints i64 l)\/rE (1:Nat))/\rE (l:List Int))/\rZ/\rZ/\True/\rE ((wrap i64 (v0.1+1)):Int)/\True)/\(mE zM True (rE (0:Int)/\True/\True/\True))/\(mE x1.1.A0 True (rE x1.1.B3/\True/\True/\True))/\rE x1.1.A0.Mem/\rE x1.1.C8/\rE x1.1.B0/\rE ((v0.2.2++x1.2):List (RK.T RK.apiOutput))/\True) (Sum.inl (wrap i64 (v0.1+1),x1.1,v0.2.2++x1.2)))))) (.lf (Sum.inr (v0.2.1,v0.2.2))))
def Z0h m l:=(Qb0 m l).m
abbrev Qsn m l:=(Qb0 m l).p
def Zey:LInv:={
 α:=(Int)×Q01×(List Q09)
 F:=λst a=>([(1,(lk st 1)),(4, .ptr 0 0 0),(6, .ptr 1 0 0),(7, .all 5),(8, .int i64 a.1)],[⟨true,96,52, .gen [[(cT st 4 0),(cT st 4 1),(cT st 4 2),(cT st 4 3),(cT st 4 4),(cT st 4 5),(cT st 4 6),(cT st 4 7),(cT st 4 8),(cT st 4 9),(cT st 4 10),(cT st 4 11),(cT st 4 12),(cT st 4 13),(cT st 4 14),(cT st 4 15),(cT st 4 16),(cT st 4 17),(cT st 4 18),(cT st 4 19),(cT st 4 20),(cT st 4 21),(cT st 4 22),(cT st 4 23),(cT st 4 24),(cT st 4 25),(cT st 4 26),(cT st 4 27),(cT st 4 28),(cT st 4 29),(cT st 4 30),(cT st 4 31),(cT st 4 32),(cT st 4 33),(cT st 4 34),(cT st 4 35),(cT st 4 36),(cT st 4 37),(cT st 4 38),(cT st 4 39),(cT st 4 40),(cT st 4 41),(cT st 4 42),(cT st 4 43),(cT st 4 44),(cT st 4 45),(cT st 4 46),(cT st 4 47),(cT st 4 48),(cT st 4 49),(cT st 4 50),(cT st 4 51)]]⟩,⟨true,96,52, .gen [[.int u32 a.2.1.A0.B1.X.a0, .int u32 a.2.1.A0.B1.X.a1, .int u32 a.2.1.A0.B1.X.a2, .int u32 a.2.1.A0.B1.X.a3, .int u32 a.2.1.A0.B1.X.a4, .int u32 a.2.1.A0.B1.X.a5, .int u32 a.2.1.A0.B1.X.a6, .int u32 a.2.1.A0.B1.X.a7, .int u32 a.2.1.A0.B1.X.a8, .int u32 a.2.1.A0.B1.X.a9, .int u32 a.2.1.A0.B1.X.a10, .int u32 a.2.1.A0.B1.X.a11, .int u32 a.2.1.A0.B1.X.a12, .int u32 a.2.1.A0.B1.X.a13, .int u32 a.2.1.A0.B1.X.a14, .int u32 a.2.1.A0.B1.X.a15, .int u32 a.2.1.A0.B1.Pc, .int u32 a.2.1.A0.B1.B4.a0, .int u32 a.2.1.A0.B1.B4.a1, .int u32 a.2.1.A0.B1.B4.a2, .int u32 a.2.1.A0.B1.B4.a3, .int u32 a.2.1.A0.B1.B4.a4, .int u32 a.2.1.A0.B1.B4.a5, .int u32 a.2.1.A0.B1.B4.a6, .int u32 a.2.1.A0.B1.B4.a7, .all 2, .str a.2.1.A0.A2.D0, .bool a.2.1.A0.A7.D2, .int u32 a.2.1.A0.A7.C4, .bool a.2.1.A0.A7.D1, .int u32 a.2.1.A0.A9.Blocks, .int u32 a.2.1.A0.A9.C1, .int u32 a.2.1.A0.A9.Frame, .int i64 a.2.1.A0.A9.B8, .int i64 a.2.1.A0.A9.D4, .int u32 a.2.1.A0.A9.B5, .int u32 a.2.1.A0.A9.B2, .str a.2.1.A0.A9.B7, .int u32 a.2.1.A0.B9.Frame, .int u32 a.2.1.A0.B9.D8, .bool a.2.1.A0.B9.C5, .int u32 a.2.1.A0.B9.C0, .bool a.2.1.A0.B9.B6, .int u32 a.2.1.A0.B9.D9, .int u32 a.2.1.A0.A1.C6, .int u32 a.2.1.A0.A1.C2, .int u64 a.2.1.A0.A4, .bool a.2.1.A0.A3, .bool a.2.1.A0.A6, .int u32 a.2.1.B3, .all 3, .all 4]]⟩,⟨false,25,1, .ints u32 a.2.1.A0.Mem⟩,⟨false,126,4, .recs RK.apiEntry a.2.1.C8⟩,⟨false,66,3, .recs RK.apiEvent a.2.1.B0⟩,⟨false,71,4, .recs RK.apiOutput a.2.2⟩])
 a0:=λst=>((lk st 8).toInt,(⟨(mR (cT st 6) (Q2f st.rows (Q0l (cT st 6 25) 1000000))),(cT st 6 49).toInt,(Q6e RK.apiEntry st.rows (Q0l (cT st 6 50) 1000000)),(Q6e RK.apiEvent st.rows (Q0l (cT st 6 51) 1000000))⟩:Q01),(Q6e RK.apiOutput st.rows (rN st 7)))
 ex0:=λst=>[]++[(rX st 4 0),(rX st 6 1),(Q0l (cT st 6 25) (st.rows.length+2)),(Q0l (cT st 6 50) (st.rows.length+3)),(Q0l (cT st 6 51) (st.rows.length+4)),(rX st 7 5)]}
def Z5h:List (Nat×LInv):=[(4,Zey)]
def Zj9:Q0b:=mT 57 [] true [.agg Q00.sig, .one (.ints .i64)] [] (λa r=>Qb0 (Q00.of (aC a 0)) (argL .i64 a 1)) (λX=> .tup [.agg (Q01.cellsW (X.1) (.all 0) (.all 1) (.all 2)), .all 3]) (λX=>[⟨false,25,1, .ints .u32 (X.1).A0.Mem⟩,⟨false,126,4, .recs .apiEntry (X.1).C8⟩,⟨false,66,3, .recs .apiEvent (X.1).B0⟩,⟨false,71,4, .recs .apiOutput (X.2)⟩])
theorem Zfu:Q04 pG Zj9:=oT (.cons Qqg (.cons Ze8 (.nil))) Tryz.func57 Tryz.call57 [.row 25 1 (.ints .u32), .row 126 4 (.recs .apiEntry), .row 66 3 (.recs .apiEvent), .row 71 4 (.recs .apiOutput)] Z5h 3
end
noncomputable section
def tblZe0:List UInt8:=[(105:UInt8),32,114,49,44,32,104,97,110,100,108,101,114,10,99,115,114,119,32,114,49,44,32,49,10,108,105,32,114,49,44,32,51,49,10,99,115,114,119,32,114]
def Z6v:List UInt8:=[(49:UInt8),44,32,55,10,108,105,32,114,49,44,32,52,10,99,115,114,119,32,114,49,44,32,54,10,108,105,32,114,50,44,32,53,49,50,10,108,105,32,114,51,44]
def Z63:List UInt8:=[(32:UInt8),48,10,108,105,32,114,52,44,32,56,10,109,97,112,58,32,115,104,108,105,32,114,53,44,32,114,51,44,32,56,10,111,114,105,32,114,53,44,32,114,53]
def Z84:List UInt8:=[(44:UInt8),32,55,10,115,104,108,105,32,114,54,44,32,114,51,44,32,50,10,97,100,100,32,114,54,44,32,114,54,44,32,114,50,10,115,119,32,114,53,44,32,48,40]
def Z7d:List UInt8:=[(114:UInt8),54,41,10,97,100,100,105,32,114,51,44,32,114,51,44,32,49,10,98,108,116,32,114,51,44,32,114,52,44,32,109,97,112,10,108,105,32,114,49,44,32]
def Z70:List UInt8:=[(54:UInt8),10,111,117,116,32,114,49,44,32,55,10,108,105,32,114,49,44,32,50,10,111,117,116,32,114,49,44,32,57,10,108,105,32,114,49,44,32,49,48,48,10,111]
def Z6h:List UInt8:=[(117:UInt8),116,32,114,49,44,32,51,10,108,105,32,114,49,44,32,54,52,48,10,99,115,114,119,32,114,49,44,32,50,10,108,105,32,114,49,44,32,50,49,10,99]
def Z73:List UInt8:=[(115:UInt8),114,119,32,114,49,44,32,48,10,101,114,101,116,10,104,97,110,100,108,101,114,58,32,99,115,114,119,32,114,49,44,32,53,10,99,115,114,114,32,114,49,44]
def Z75:List UInt8:=[(32:UInt8),51,10,115,108,116,105,32,114,49,44,32,114,49,44,32,49,54,10,98,101,113,32,114,49,44,32,114,48,44,32,105,114,113,10,99,115,114,114,32,114,49]
def Z6g:List UInt8:=[(44:UInt8),32,50,10,97,100,100,105,32,114,49,44,32,114,49,44,32,52,10,99,115,114,119,32,114,49,44,32,50,10,105,110,32,114,51,44,32,50,10,111,117,116]
def Qws:List UInt8:=[(32:UInt8),114,51,44,32,48,10,108,105,32,114,49,44,32,49,10,111,117,116,32,114,49,44,32,52,10,108,105,32,114,49,44,32,55,10,111,117,116,32,114,49,44]
def Qv1:List UInt8:=[(32:UInt8),53,10,97,110,100,105,32,114,49,44,32,114,50,44,32,49,10,97,100,100,105,32,114,49,44,32,114,49,44,32,49,10,111,117,116,32,114,49,44,32,54,10]
def Qvi:List UInt8:=[(99:UInt8),115,114,114,32,114,49,44,32,53,10,101,114,101,116,10,105,114,113,58,32,105,110,32,114,49,44,32,48,10,111,117,116,32,114,49,44,32,48,10,111,117]
def Qwe:List UInt8:=[(116:UInt8),32,114,48,44,32,54,10,111,117,116,32,114,48,44,32,57,10,108,105,32,114,49,44,32,54,10,111,117,116,32,114,49,44,32,55,10,108,105,32,114,49,44]
def Qvx:List UInt8:=[(32:UInt8),50,10,111,117,116,32,114,49,44,32,57,10,105,110,32,114,49,44,32,50,10,97,100,100,105,32,114,49,44,32,114,49,44,32,50,48,10,111,117,116,32]
def Qvc:List UInt8:=[(114:UInt8),49,44,32,51,10,105,110,32,114,49,44,32,49,48,10,111,117,116,32,114,49,44,32,49,48,10,99,115,114,114,32,114,49,44,32,53,10,101,114,101,116,10]
def Z8o:List UInt8:=[(108:UInt8),105,32,114,49,44,32,104,97,110,100,108,101,114,10,99,115,114,119,32,114,49,44,32,49,10,108,105,32,114,49,44,32,51,49,10,99,115,114,119,32,114]
instance sumInhZe {α β:Type} [Inhabited β]:Inhabited (α⊕β):=⟨.inr default⟩
def Ql2(l:List Q20)(z:(Int)):Prop:=1<=z/\(z<=l.length\/z=1)
def Qcz(l:List Q20)(z:(Int)):Nat:=(l.length-z).toNat
def Qe4(l:List Q20):Tree Bool:=
.lp inferInstance (Qcz l 1+1) ((nR RK.apiEntry 4 l/\rE (1:Int)/\True)/\True) 1 λ(v0:Int)=> .br (decide (v0<(l.length:Int))) (let E4:=bS 4 4&&bT 0 4&&decide (0<=v0/\v0<(l.length:Int)); .cn E4 (let E2:=bS 4 4&&bT 0 4&&decide (0<=wrap i64 (v0-1)/\wrap i64 (v0-1)<(l.length:Int)); .cn E2 (let E3:=l.getD (dG (wrap i64 (v0-1))) (RK.dflt RK.apiEntry);let E5:=l.getD v0.toNat (RK.dflt RK.apiEntry); .br (decide (E5.At<E3.At)) (.lf (Sum.inr false)) (.cn E4 (.cn E2 (let T1:Tree ((Int)⊕(Bool)):= .nx ((nR RK.apiEntry 4 l/\rE ((wrap i64 (v0+1)):Int)/\True)/\True) (Sum.inl (wrap i64 (v0+1))); .br (E5.At==E3.At) (.cn E2 (.br (E3.Event.C3==1) (.lf (Sum.inr false)) T1)) T1)))))) (.lf (Sum.inr true))
def Qww l:=(Qe4 l).m
def Q7v(l:List Q20):Prop:=
l.length<=1000000000000
theorem Qz8(l:List Q20)(hw:Q7v l):(Qe4 l).p:=by
 simp only[Q7v]at hw
 unfold Tree.p Qe4
 repeat'(first|refine w_lp (inv:=Ql2 l) (μ:=Qcz l) ?_ (cO _) (λ_ _=> ?_)|exact trivial|refine w_br (λ_=> ?_) (λ_=> ?_)|refine w_cn ?_ ?_|refine w_an ?_ ?_|refine w_lv (λ_ _=> ?_)|refine w_nx ?_|refine w_lf ?_|refine And.intro ?_ ?_)
 all_goals((try simp only[Ql2,Qcz]at*);exact fin0)
def Z1o:LInv:={
 α:=(Int)
 F:=λst a=>([(0,(lk st 0)),(3, .int i64 a)],[])
 a0:=λst=>(lk st 3).toInt
 ex0:=λst=>[]++[]}
def Qw8:List (Nat×LInv):=[(2,Z1o)]
def Z4p:Q0b:=mkP 155 [] true [.one (.recs .apiEntry)] [] (λa r=>Q7v (argR .apiEntry a 0)) (λa r=>Qww (argR .apiEntry a 0)) (λX=> .bool X) (λX=>[])
theorem Z3r:Q04 pG Z4p:=Q0k drawn Q0g (.nil) Tryz.func155 Tryz.call155 (λa r=>Qe4 (argR .apiEntry a 0)) [] Qw8 3 (hp:=λa r h=>Qz8 (argR .apiEntry a 0) h)
def Qao(m:Q00)(script:List Q20)(until0:Int)(z:Q00×(List Q09)):Nat:=(until0-z.1.A4).toNat
def Qar(m:Q00)(script:List Q20)(until0:Int)(v0:Q00×List Q09)(z:Unit):Nat:=0
def Q63(m:Q00)(script:List Q20)(until0:Int):Tree (Q00×(List Q09)×Int×Int):=
.lv (Q8e m) λ(x0:Bool)=>let E2:=({B1:={X:={a0:=0,a1:=0,a2:=0,a3:=0,a4:=0,a5:=0,a6:=0,a7:=0,a8:=0,a9:=0,a10:=0,a11:=0,a12:=0,a13:=0,a14:=0,a15:=0},Pc:=0,B4:={a0:=0,a1:=0,a2:=0,a3:=0,a4:=0,a5:=0,a6:=0,a7:=0}},Mem:=[],A2:={D0:=[]},A7:={D2:=false,C4:=0,D1:=false},A9:={Blocks:=0,C1:=0,Frame:=0,B8:=0,D4:=0,B5:=0,B2:=0,B7:=[]},B9:={Frame:=0,D8:=0,C5:=false,C0:=0,B6:=false,D9:=0},A1:={C6:=0,C2:=0},A4:=0,A3:=false,A6:=false}:Q00);let T1:Tree ((Q00×(List Q09)×Int×Int)):= .lf (E2,[],0,1300); .br (!x0) T1 (.br (decide (until0<m.A4)) T1 (.br (decide (wrap u64 (until0-m.A4)>4000)) T1 (.an (Q7v []) (.lv (Qww []) λ(x1:Bool)=> .br (!x1) (.lf (E2,[],0,1301)) (.an (Q8u m) (.lv (Qg9 m) λ(x2:Q00)=> .lp inferInstance (Qao m script until0 (x2,[])+1) ((((Els.Nil (Els.gen [])\/rE (0:Nat))/\rE ([]:List (List D)))/\rE (until0:Int)/\rZ/\rZ/\True/\rE (0:Int)/\True)/\(mE x2 True True)/\rE x2.Mem/\(mE zM True True)/\rE ([]:List (RK.T RK.apiOutput))/\True) (x2,[]) λ(v0:Q00×List Q09)=> .br (decide (v0.1.A4<until0)) (.br (decide (v0.1.A4<1152921504606846976)) (.lp inferInstance (Qar m script until0 v0 ()+1) ((((Els.Nil (Els.gen [])\/rE (0:Nat))/\rE ([]:List (List D)))/\rE (until0:Int)/\rZ/\rZ/\True/\rE (0:Int)/\(rE (0:Nat)/\rE (46:Nat))/\rE v0.1.A4/\rE ((decide (v0.1.A4<1152921504606846976)):Bool)/\True)/\(mE v0.1 True True)/\rE v0.1.Mem/\(mE zM True True)/\rE v0.2/\True) () λ(v1:PUnit)=> .br v0.1.A6 (.lf (Sum.inr (Sum.inr (v0.1,v0.2,0,0)))) (.an (Qgi v0.1) (.lv (Qcw v0.1) λ(x3:Bool)=> .br x3 (.lf (Sum.inr (Sum.inr (v0.1,v0.2,0,0)))) (.an (Qjs v0.1) (.lv (Qkd v0.1) λ(x4:Bool)=> .br (!false==x4) (.lf (Sum.inr (Sum.inr (E2,[],0,1302)))) (.an (Qme v0.1 0) (.lv (Q10 v0.1 0) λ(x5:List Q09×Q00)=> .cn (decide (40*(v0.2.length+x5.1.length)<=140737488355328)) (.nx ((((Els.Nil (Els.gen [])\/rE (0:Nat))/\rE ([]:List (List D)))/\rE (until0:Int)/\rZ/\rZ/\True/\rE (0:Int)/\True)/\(mE x5.2 True True)/\rE x5.2.Mem/\(mE zM True True)/\rE ((v0.2++x5.1):List (RK.T RK.apiOutput))/\True) (Sum.inr (Sum.inl (x5.2,v0.2++x5.1))))))))))) (.lf (Sum.inr (v0.1,v0.2,0,0)))) (.lf (Sum.inr (v0.1,v0.2,0,0)))))))))
def Qbg m script until0:=(Q63 m script until0).m
abbrev Qaj m script until0:=(Q63 m script until0).p
def Zb9:LInv:={
 α:=Q00×(List Q09)
 F:=λst a=>([(1,(lk st 1)),(2,(lk st 2)),(3, .ptr 0 0 0),(6, .ptr 2 0 0),(10, .all 3),(11,(lk st 11))],[⟨true,43,49, .gen [mD a.1 (.all 1)]⟩,⟨false,25,1, .ints u32 a.1.Mem⟩,⟨true,43,49, .gen [mB (cT st 6)]⟩,⟨false,71,4, .recs RK.apiOutput a.2⟩])
 a0:=λst=>((mR (cT st 3) (Q2f st.rows (Q0l (cT st 3 25) 1000000))),(Q6e RK.apiOutput st.rows (rN st 10)))
 ex0:=λst=>[]++[(rX st 3 0),(Q0l (cT st 3 25) (st.rows.length+1)),(rX st 6 2),(rX st 10 3)]}
def Z8q:LInv:={
 α:=Unit
 F:=λst a=>([(1,(lk st 1)),(2,(lk st 2)),(3, .ptr 0 0 0),(6, .ptr 2 0 0),(10, .all 3),(11,(lk st 11)),(61, .ptr 0 0 46),(62,(lk st 62)),(63,(lk st 63))],[⟨true,43,49, .gen [[(cT st 3 0),(cT st 3 1),(cT st 3 2),(cT st 3 3),(cT st 3 4),(cT st 3 5),(cT st 3 6),(cT st 3 7),(cT st 3 8),(cT st 3 9),(cT st 3 10),(cT st 3 11),(cT st 3 12),(cT st 3 13),(cT st 3 14),(cT st 3 15),(cT st 3 16),(cT st 3 17),(cT st 3 18),(cT st 3 19),(cT st 3 20),(cT st 3 21),(cT st 3 22),(cT st 3 23),(cT st 3 24), .all 1,(cT st 3 26),(cT st 3 27),(cT st 3 28),(cT st 3 29),(cT st 3 30),(cT st 3 31),(cT st 3 32),(cT st 3 33),(cT st 3 34),(cT st 3 35),(cT st 3 36),(cT st 3 37),(cT st 3 38),(cT st 3 39),(cT st 3 40),(cT st 3 41),(cT st 3 42),(cT st 3 43),(cT st 3 44),(cT st 3 45),(cT st 3 46),(cT st 3 47),(cT st 3 48)]]⟩,⟨false,25,1,esOf st.rows (Q0l (cT st 3 25) 1000000)⟩,⟨true,43,49, .gen [mB (cT st 6)]⟩,⟨false,71,4,esOf st.rows (rN st 10)⟩])
 a0:=λst=>()
 ex0:=λst=>[]++[(rX st 3 0),(Q0l (cT st 3 25) (st.rows.length+1)),(rX st 6 2),(rX st 10 3)]}
def Z3f:List (Nat×LInv):=[(8,Zb9),(9,Z8q)]
def Zgc:Q0b:=mT 75 [] true [.agg Q00.sig, .one .nil, .one (.int .u64)] [] (λa r=>Q63 (Q00.of (aC a 0)) (argR .apiEntry a 1) (argI a 2)) (λX=> .tup [.agg (Q00.cellsW (X.1) (.all 0)), .all 1, .int .i64 (X.2.2.1), .int .i64 (X.2.2.2)]) (λX=>[⟨false,25,1, .ints .u32 (X.1).Mem⟩,⟨false,71,4, .recs .apiOutput (X.2.1)⟩])
theorem Z9h:Q04 pG Zgc:=oT (.cons Qm4 (.cons Z3r (.cons Qhn (.cons Zay (.cons Qo9 (.cons Qui (.cons Z2e (.nil)))))))) Tryz.func75 Tryz.call75 [.row 25 1 (.ints .u32), .row 71 4 (.recs .apiOutput)] Z3f 3
def Q8d(kind:Int)(l z:List Int):Nat:=160-z.length
def Q3t(kind:Int)(l:List Int):Tree Q00:=
.an (Q1l kind 3) (.lv (Q1y kind 3) λ(x0:Int)=> .br (decide (x0<2)) (.an (Q9q ((108:UInt8)::(tblZe0++Z6v++(Z63++Z84)++(Z7d++Z70++(Z6h++Z73))++(Z75++Z6g++(Qws++Qv1)++(Qvi++Qwe++(Qvx++Qvc)))))) (.lv (Q1t (cS (cS (cS (cS Z8o Z6v) (cS Z63 Z84)) (cS (cS Z7d Z70) (cS Z6h Z73))) (cS (cS (cS Z75 Z6g) (cS Qws Qv1)) (cS (cS Qvi Qwe) (cS Qvx Qvc))))) λ(x1:List Int×Q16)=> .lp inferInstance (Q8d kind l x1.1+1) ((rE (x0:Int)/\((Els.Nil (Els.ints i64 l)\/rE (1:Nat))/\rE (l:List Int))/\rZ/\True/\True)/\(mE zM True True)/\rE x1.1/\True) x1.1 λ(v0:List Int)=> .br (decide ((v0.length:Int)<(160:Int))) (.cn (decide (4*(v0.length+1)<=140737488355328)) (.nx ((rE (x0:Int)/\((Els.Nil (Els.ints i64 l)\/rE (1:Nat))/\rE (l:List Int))/\rZ/\True/\True)/\(mE zM True True)/\rE ((v0++[0]):List Int)/\True) (Sum.inl (v0++[0])))) (.an (Qlw l) (.lv (Qia l) λ(x2:List Int)=> .cn (decide (4*(v0.length+x2.length)<=140737488355328)) (.br (decide ((↑(dL (v0++x2)):Int)>(256:Int))) (.cn (bS 1 1&&bT 0 1&&decide ((0:Int)<=(0:Int)/\(0:Int)<=(256:Int)/\256<=(↑(dL (v0++x2)):Int))) (let E1:=dC (dG 256-dG 0) (dD (dG 0) (v0++x2)); .an (Qem 8 4 E1) (.lv (Q1o 8 4 E1) λ(x3:Q00×Bool)=> .br (x0==1) (.an (Qaj x3.1 [] 87) (.lv (Qbg x3.1 [] 87) λ(x4:Q00×List Q09×Int×Int)=> .lf (Sum.inr x4.1))) (.lf (Sum.inr x3.1))))) (.an (Qem 8 4 (v0++x2)) (.lv (Q1o 8 4 (v0++x2)) λ(x5:Q00×Bool)=> .br (x0==1) (.an (Qaj x5.1 [] 87) (.lv (Qbg x5.1 [] 87) λ(x6:Q00×List Q09×Int×Int)=> .lf (Sum.inr x6.1))) (.lf (Sum.inr x5.1))))))))) (.an (Qlw l) (.lv (Qia l) λ(x7:List Int)=> .cn (decide (4*(0+x7.length)<=140737488355328)) (.br (decide ((x7.length:Int)>(256:Int))) (.cn (bS 1 1&&bT 0 1&&decide ((0:Int)<=(0:Int)/\(0:Int)<=(256:Int)/\256<=(x7.length:Int))) (let E2:=dC (dG 256-dG 0) (dD (dG 0) x7); .an (Qem 8 4 E2) (.lv (Q1o 8 4 E2) λ(x8:Q00×Bool)=> .br (x0==1) (.an (Qaj x8.1 [] 87) (.lv (Qbg x8.1 [] 87) λ(x9:Q00×List Q09×Int×Int)=> .lf x9.1)) (.lf x8.1)))) (.an (Qem 8 4 x7) (.lv (Q1o 8 4 x7) λ(x10:Q00×Bool)=> .br (x0==1) (.an (Qaj x10.1 [] 87) (.lv (Qbg x10.1 [] 87) λ(x11:Q00×List Q09×Int×Int)=> .lf x11.1)) (.lf x10.1)))))))
def Qej kind l:=(Q3t kind l).m
abbrev Qml kind l:=(Q3t kind l).p
def Z0g:LInv:={
 α:=(List Int)
 F:=λst a=>([(0,(lk st 0)),(1,(lk st 1)),(4, .ptr 0 0 0),(5, .all 1)],[⟨true,43,49, .gen [mB (cT st 4)]⟩,⟨false,25,1, .ints u32 a⟩])
 a0:=λst=>(Q2f st.rows (rN st 5))
 ex0:=λst=>[]++[(rX st 4 0),(rX st 5 1)]}
def Qwo:List (Nat×LInv):=[(5,Z0g)]
def Z4i:Q0b:=mT 41 [] true [.one (.int .i64), .one (.ints .i64)] [] (λa r=>Q3t (argI a 0) (argL .i64 a 1)) (λX=> .agg (Q00.cellsW X (.all 0))) (λX=>[⟨false,25,1, .ints .u32 X.Mem⟩])
theorem Z2x:Q04 pG Z4i:=oT (.cons Qg5 (.cons Qyk (.cons Zeu (.cons Ziw (.cons Z9h (.nil)))))) Tryz.func41 Tryz.call41 [.row 25 1 (.ints .u32)] Qwo 3
end
noncomputable section
def Qvw(l acts:List Int):Tree Bool:=
.br (decide ((l.length:Int)<=(40:Int))) (.lf (decide ((acts.length:Int)<=(30:Int)))) (.lf false)
def Z00 l acts:=(Qvw l acts).m
def Zoe:Q0b:=mS 15 [] true [.one (.ints .i64), .one (.ints .i64)] [] (λa r=>Qvw (argL .i64 a 0) (argL .i64 a 1)) (λX=> .bool X) (λX=>[])
theorem Zj:Q04 pG Zoe:=oS (.nil) Tryz.func15 Tryz.call15 [] [] 2
def Qxa(t:Q0i):Tree (Q0i×Bool):=
.br (!t.D2) (.lf (t,false)) (.lf ({D2:=false,C4:=t.C4,D1:=true},true))
def Qq3 t:=(Qxa t).m
def Qe1(c:Q0c)(b:Int):Tree (Q0c×Bool):=
.br (decide ((c.D0.length:Int)>=(16:Int))) (.lf (c,false)) (.cn (decide (c.D0.length+1<=maxLen)) (.lf ({D0:=c.D0++[(λ(n:Int)=>UInt8.ofNat n.toNat) b]},true)))
def Qy4 c b:=(Qe1 c b).m
abbrev Qyi c b:=(Qe1 c b).p
def Q8t(d0:Q0d)(m:List Int)(e:Q0e):Tree (Q0d×(List Int)×Bool):=
let T2:Tree ((Q0d×(List Int)×Bool)):= .an (Q06 m) (.lv (Q03 m) λ(x0:List Int)=> .lf (d0,x0,false)); .br (d0.B8 !=1) T2 (.br (e.C3 !=4) T2 (.br (decide (e.N>1)) T2 (.an (Q06 m) (.lv (Q03 m) λ(x3:List Int)=>let E3:=({Blocks:=d0.Blocks,C1:=d0.C1,Frame:=d0.Frame,B8:=2,D4:=0,B5:=0,B2:=0,B7:=[]}:Q0d);let E4:=({Blocks:=d0.Blocks,C1:=d0.C1,Frame:=d0.Frame,B8:=3,D4:=0,B5:=0,B2:=0,B7:=[]}:Q0d);let T1:Tree ((Q0d×(List Int)×Bool)):= .br (!decide (e.C9=[])) (.lf (d0,x3,false)) (.br (e.N==1) (.lf (E3,x3,true)) (.lf (E4,x3,true))); .br (e.N==1) (.br (d0.D4==1) (.lv (Q8n m d0.B2) λ(x4:Bool)=> .br (!x4) (.lf (d0,x3,false)) (.an (Q8g m (wrap i64 d0.B2) e.C9) (.lv (Q2m m (wrap i64 d0.B2) e.C9) λ(x5:List Int×Bool)=> .br (!x5.2) (.lf (d0,x5.1,false)) (.br (e.N==1) (.lf (E3,x5.1,true)) (.lf (E4,x5.1,true)))))) T1) T1))))
def Qll d0 m e:=(Q8t d0 m e).m
abbrev Qwq d0 m e:=(Q8t d0 m e).p
def Qbx(n:Q0n)(m:List Int)(frame:List UInt8):Tree (Q0n×(List Int)×Bool):=
let T1:Tree ((Q0n×(List Int)×Bool)):= .an (Q06 m) (.lv (Q03 m) λ(x0:List Int)=> .lf (n,x0,false)); .br (!n.C5) T1 (.br (decide ((frame.length:Int)<(1:Int))) T1 (.br (decide ((frame.length:Int)>(128:Int))) T1 (.lv (Q9r m n.C0) λ(x3:Bool)=> .br (!x3) T1 (.an (Qc5 m (wrap i64 n.C0)) (.lv (Q56 m (wrap i64 n.C0)) λ(x5:List UInt8×Bool)=> .cn (decide (0<=(frame.length:Int)/\(frame.length:Int)<=(x5.1.length:Int)/\(x5.1.length:Int)<=(x5.1.length:Int))) (let E2:=dG (x5.1.length:Int)-dG (frame.length:Int);let E3:=dD (dG (frame.length:Int)) x5.1; .cn (decide (frame.length+dL (dC E2 E3)<=maxLen)) (.an (Q8g m (wrap i64 n.C0) (frame++dC E2 E3)) (.lv (Q2m m (wrap i64 n.C0) (frame++dC E2 E3)) λ(x6:List Int×Bool)=> .lf ({Frame:=n.Frame,D8:=n.D8,C5:=false,C0:=0,B6:=true,D9:=wrap u32 (frame.length:Int)},x6.1,true)))))))))
def Qs9 n m frame:=(Qbx n m frame).m
abbrev Z3a n m frame:=(Qbx n m frame).p
def Qc9(m:Q00)(e:Q0e):Tree (Q00×Bool):=
.an (Q06 m.Mem) (.lv (Q03 m.Mem) λ(x0:List Int)=>let E2:=({B1:=m.B1,Mem:=x0,A2:=m.A2,A7:=m.A7,A9:=m.A9,B9:=m.B9,A1:=m.A1,A4:=m.A4,A3:=m.A3,A6:=m.A6}:Q00); .an (Q40 E2) (.lv (Q14 E2) λ(x1:Bool)=>let T1:Tree ((Q00×Bool)):= .lf (E2,false); .br (!x1) T1 (.br m.A6 T1 (.br (e.C3==2) (.br (e.N==0) (.br (decide (e.C9=[])) (.lv (Qq3 m.A7) λ(x2:Q0i×Bool)=> .lf ({B1:=m.B1,Mem:=x0,A2:=m.A2,A7:=x2.1,A9:=m.A9,B9:=m.B9,A1:=m.A1,A4:=m.A4,A3:=m.A3,A6:=m.A6},x2.2)) T1) T1) (.br (e.C3==3) (.br (decide (e.N<=255)) (.br (decide (e.C9=[])) (.an (Qyi m.A2 (wrap u8 e.N)) (.lv (Qy4 m.A2 (wrap u8 e.N)) λ(x3:Q0c×Bool)=> .lf ({B1:=m.B1,Mem:=x0,A2:=x3.1,A7:=m.A7,A9:=m.A9,B9:=m.B9,A1:=m.A1,A4:=m.A4,A3:=m.A3,A6:=m.A6},x3.2))) T1) T1) (.br (e.C3==4) (.an (Qwq m.A9 x0 e) (.lv (Qll m.A9 x0 e) λ(x4:Q0d×List Int×Bool)=> .lf ({B1:=m.B1,Mem:=x4.2.1,A2:=m.A2,A7:=m.A7,A9:=x4.1,B9:=m.B9,A1:=m.A1,A4:=m.A4,A3:=m.A3,A6:=m.A6},x4.2.2))) (.br (e.C3==5) (.br (e.N==0) (.an (Z3a m.B9 x0 e.C9) (.lv (Qs9 m.B9 x0 e.C9) λ(x5:Q0n×List Int×Bool)=> .lf ({B1:=m.B1,Mem:=x5.2.1,A2:=m.A2,A7:=m.A7,A9:=m.A9,B9:=x5.1,A1:=m.A1,A4:=m.A4,A3:=m.A3,A6:=m.A6},x5.2.2))) T1) (.br (e.C3==6) (.br (decide (e.C9=[])) (.lf ({B1:=m.B1,Mem:=x0,A2:=m.A2,A7:=m.A7,A9:=m.A9,B9:=m.B9,A1:={C6:=e.N,C2:=m.A1.C2},A4:=m.A4,A3:=m.A3,A6:=m.A6},true)) T1) T1))))))))
def Qgd m e:=(Qc9 m e).m
end
noncomputable section
instance sumInhRa {α β:Type} [Inhabited β]:Inhabited (α⊕β):=⟨.inr default⟩
end
noncomputable section
instance sumInhRc {α β:Type} [Inhabited β]:Inhabited (α⊕β):=⟨.inr default⟩
def Qbc(m:Q00)(where0 what:Int):Tree Q00:=
.an (Q8u m) (.lv (Qg9 m) λ(x0:Q00)=> .an (Q1l where0 24) (.lv (Q1y where0 24) λ(x1:Int)=> .br (x1==0) (.lf ({B1:={X:=x0.B1.X,Pc:=wrap u32 (iand i64 what 4294967295),B4:=x0.B1.B4},Mem:=x0.Mem,A2:=x0.A2,A7:=x0.A7,A9:=x0.A9,B9:=x0.B9,A1:=x0.A1,A4:=x0.A4,A3:=x0.A3,A6:=x0.A6})) (let E1:=wrap u32 (iand i64 what 4294967295); .br (x1==1) (.an (Q1l what 16) (.lv (Q1y what 16) λ(x2:Int)=> .cn (bT 0 1&&decide (0<=x2/\x2<(↑16:Int))) (.lf ({B1:={X:=A16.of 0 (dH (A16.l x0.B1.X) x2.toNat E1),Pc:=x0.B1.Pc,B4:=x0.B1.B4},Mem:=x0.Mem,A2:=x0.A2,A7:=x0.A7,A9:=x0.A9,B9:=x0.B9,A1:=x0.A1,A4:=x0.A4,A3:=x0.A3,A6:=x0.A6})))) (.br (x1==2) (.an (Q1l what 8) (.lv (Q1y what 8) λ(x3:Int)=> .cn (bT 0 1&&decide (0<=x3/\x3<(↑8:Int))) (.lf ({B1:={X:=x0.B1.X,Pc:=x0.B1.Pc,B4:=A8.of 0 (dH (A8.l x0.B1.B4) x3.toNat (ishr u32 E1 3))},Mem:=x0.Mem,A2:=x0.A2,A7:=x0.A7,A9:=x0.A9,B9:=x0.B9,A1:=x0.A1,A4:=x0.A4,A3:=x0.A3,A6:=x0.A6})))) (.br (x1==3) (.lf ({B1:={X:=x0.B1.X,Pc:=x0.B1.Pc,B4:={a0:=iand u32 E1 31,a1:=x0.B1.B4.a1,a2:=x0.B1.B4.a2,a3:=x0.B1.B4.a3,a4:=x0.B1.B4.a4,a5:=x0.B1.B4.a5,a6:=x0.B1.B4.a6,a7:=x0.B1.B4.a7}},Mem:=x0.Mem,A2:=x0.A2,A7:=x0.A7,A9:=x0.A9,B9:=x0.B9,A1:=x0.A1,A4:=x0.A4,A3:=x0.A3,A6:=x0.A6})) (.br (x1==4) (.lf ({B1:={X:=x0.B1.X,Pc:=x0.B1.Pc,B4:={a0:=x0.B1.B4.a0,a1:=x0.B1.B4.a1,a2:=x0.B1.B4.a2,a3:=x0.B1.B4.a3,a4:=x0.B1.B4.a4,a5:=x0.B1.B4.a5,a6:=x0.B1.B4.a6,a7:=iand u32 E1 31}},Mem:=x0.Mem,A2:=x0.A2,A7:=x0.A7,A9:=x0.A9,B9:=x0.B9,A1:=x0.A1,A4:=x0.A4,A3:=x0.A3,A6:=x0.A6})) (.br (x1==5) (.an (Q1l what (x0.Mem.length:Int)) (.lv (Q1y what (x0.Mem.length:Int)) λ(x4:Int)=> .cn (bS 1 1&&bT 0 1&&decide (0<=x4/\x4<(x0.Mem.length:Int))) (.lf ({B1:=x0.B1,Mem:=dH x0.Mem x4.toNat E1,A2:=x0.A2,A7:=x0.A7,A9:=x0.A9,B9:=x0.B9,A1:=x0.A1,A4:=x0.A4,A3:=x0.A3,A6:=x0.A6})))) (.br (x1==6) (.an (Q1l what (x0.Mem.length:Int)) (.lv (Q1y what (x0.Mem.length:Int)) λ(x5:Int)=> .an (Qc4 what) (.lv (Z3 what) λ(x6:Q0h)=> .lv (Q1a x6) λ(x7:Int×Bool)=> .cn (bS 1 1&&bT 0 1&&decide (0<=x5/\x5<(x0.Mem.length:Int))) (.lf ({B1:=x0.B1,Mem:=dH x0.Mem x5.toNat x7.1,A2:=x0.A2,A7:=x0.A7,A9:=x0.A9,B9:=x0.B9,A1:=x0.A1,A4:=x0.A4,A3:=x0.A3,A6:=x0.A6}))))) (.br (x1==7) (.an (Q1l what 18) (.lv (Q1y what 18) λ(x8:Int)=> .an (Q4m what x8) (.lv (Ql5 what x8) λ(x9:List UInt8)=> .lf ({B1:=x0.B1,Mem:=x0.Mem,A2:={D0:=x9},A7:=x0.A7,A9:=x0.A9,B9:=x0.B9,A1:=x0.A1,A4:=x0.A4,A3:=x0.A3,A6:=x0.A6})))) (.br (x1==8) (.lf ({B1:=x0.B1,Mem:=x0.Mem,A2:=x0.A2,A7:={D2:=iand i64 what (1:Int)==(1:Int),C4:=iand u32 E1 6,D1:=iand i64 what (8:Int)==(8:Int)},A9:=x0.A9,B9:=x0.B9,A1:=x0.A1,A4:=x0.A4,A3:=x0.A3,A6:=x0.A6})) (.br (x1==9) (.lf ({B1:=x0.B1,Mem:=x0.Mem,A2:=x0.A2,A7:=x0.A7,A9:={Blocks:=x0.A9.Blocks,C1:=x0.A9.C1,Frame:=x0.A9.Frame,B8:=iand i64 what 3,D4:=x0.A9.D4,B5:=x0.A9.B5,B2:=x0.A9.B2,B7:=x0.A9.B7},B9:=x0.B9,A1:=x0.A1,A4:=x0.A4,A3:=x0.A3,A6:=x0.A6})) (.br (x1==10) (.br (wrap i64 (1+iand i64 what 1)==2) (.an (Q4m what 128) (.lv (Ql5 what 128) λ(x10:List UInt8)=> .lf ({B1:=x0.B1,Mem:=x0.Mem,A2:=x0.A2,A7:=x0.A7,A9:={Blocks:=4,C1:=0,Frame:=0,B8:=1,D4:=wrap i64 (1+iand i64 what 1),B5:=iand u32 (ishr u32 E1 1) 3,B2:=iand u32 (ishr u32 E1 3) 7,B7:=x10},B9:=x0.B9,A1:=x0.A1,A4:=x0.A4,A3:=x0.A3,A6:=x0.A6}))) (.lf ({B1:=x0.B1,Mem:=x0.Mem,A2:=x0.A2,A7:=x0.A7,A9:={Blocks:=4,C1:=0,Frame:=0,B8:=1,D4:=wrap i64 (1+iand i64 what 1),B5:=iand u32 (ishr u32 E1 1) 3,B2:=iand u32 (ishr u32 E1 3) 7,B7:=[]},B9:=x0.B9,A1:=x0.A1,A4:=x0.A4,A3:=x0.A3,A6:=x0.A6}))) (.br (x1==11) (.lf ({B1:=x0.B1,Mem:=x0.Mem,A2:=x0.A2,A7:=x0.A7,A9:={Blocks:=x0.A9.Blocks,C1:=iand u32 E1 7,Frame:=iand u32 (ishr u32 E1 3) 15,B8:=x0.A9.B8,D4:=x0.A9.D4,B5:=x0.A9.B5,B2:=x0.A9.B2,B7:=x0.A9.B7},B9:=x0.B9,A1:=x0.A1,A4:=x0.A4,A3:=x0.A3,A6:=x0.A6})) (.br (x1==12) (.lf ({B1:=x0.B1,Mem:=x0.Mem,A2:=x0.A2,A7:=x0.A7,A9:=x0.A9,B9:={Frame:=iand u32 E1 7,D8:=iand u32 (ishr u32 E1 3) 255,C5:=iand i64 what (2048:Int) !=(0:Int),C0:=iand u32 (ishr u32 E1 12) 7,B6:=false,D9:=0},A1:=x0.A1,A4:=x0.A4,A3:=x0.A3,A6:=x0.A6})) (.br (x1==13) (.lf ({B1:=x0.B1,Mem:=x0.Mem,A2:=x0.A2,A7:=x0.A7,A9:=x0.A9,B9:={Frame:=0,D8:=0,C5:=false,C0:=0,B6:=true,D9:=iand u32 E1 255},A1:=x0.A1,A4:=x0.A4,A3:=x0.A3,A6:=x0.A6})) (.br (x1==14) (.lf ({B1:=x0.B1,Mem:=x0.Mem,A2:=x0.A2,A7:=x0.A7,A9:=x0.A9,B9:=x0.B9,A1:={C6:=iand u32 E1 7,C2:=iand u32 (ishr u32 E1 3) 511},A4:=x0.A4,A3:=x0.A3,A6:=x0.A6})) (.br (x1==15) (.lf ({B1:=x0.B1,Mem:=x0.Mem,A2:=x0.A2,A7:=x0.A7,A9:=x0.A9,B9:=x0.B9,A1:=x0.A1,A4:=x0.A4,A3:=!x0.A3,A6:=x0.A6})) (.br (x1==16) (.lf ({B1:=x0.B1,Mem:=x0.Mem,A2:=x0.A2,A7:=x0.A7,A9:=x0.A9,B9:=x0.B9,A1:=x0.A1,A4:=x0.A4,A3:=x0.A3,A6:=!x0.A6})) (.br (x1==17) (.lf ({B1:=x0.B1,Mem:=x0.Mem,A2:=x0.A2,A7:=x0.A7,A9:=x0.A9,B9:=x0.B9,A1:=x0.A1,A4:=wrap u64 what,A3:=x0.A3,A6:=x0.A6})) (.br (x1==18) (.an (Q1l what (x0.Mem.length:Int)) (.lv (Q1y what (x0.Mem.length:Int)) λ(x11:Int)=> .cn (bS 1 1&&bT 0 1&&decide ((0:Int)<=(0:Int)/\0<=x11/\x11<=(x0.Mem.length:Int))) (.lf ({B1:=x0.B1,Mem:=dC (dG x11-dG 0) (dD (dG 0) x0.Mem),A2:=x0.A2,A7:=x0.A7,A9:=x0.A9,B9:=x0.B9,A1:=x0.A1,A4:=x0.A4,A3:=x0.A3,A6:=x0.A6})))) (.br (x1==19) (.lf ({B1:=x0.B1,Mem:=x0.Mem,A2:=x0.A2,A7:=x0.A7,A9:=x0.A9,B9:=x0.B9,A1:=x0.A1,A4:=wrap u64 (1152921504606846976-wrap u64 (iand i64 what 3)),A3:=x0.A3,A6:=x0.A6})) (.br (x1==20) (.lf ({B1:={X:=x0.B1.X,Pc:=x0.B1.Pc,B4:={a0:=x0.B1.B4.a0,a1:=x0.B1.B4.a1,a2:=x0.B1.B4.a2,a3:=x0.B1.B4.a3,a4:=x0.B1.B4.a4,a5:=x0.B1.B4.a5,a6:=iand u32 E1 15,a7:=x0.B1.B4.a7}},Mem:=x0.Mem,A2:=x0.A2,A7:=x0.A7,A9:=x0.A9,B9:=x0.B9,A1:=x0.A1,A4:=x0.A4,A3:=x0.A3,A6:=x0.A6})) (.br (x1==21) (.lf ({B1:={X:=x0.B1.X,Pc:=wrap u32 (640+iand u32 E1 124),B4:=x0.B1.B4},Mem:=x0.Mem,A2:=x0.A2,A7:=x0.A7,A9:=x0.A9,B9:=x0.B9,A1:=x0.A1,A4:=x0.A4,A3:=x0.A3,A6:=x0.A6})) (.lf x0))))))))))))))))))))))))
def Qtr m where0 what:=(Qbc m where0 what).m
abbrev Qlk m where0 what:=(Qbc m where0 what).p
def Ziz:Q0b:=mT 18 [] true [.agg Q00.sig, .one (.int .i64), .one (.int .i64)] [] (λa r=>Qbc (Q00.of (aC a 0)) (argI a 1) (argI a 2)) (λX=> .agg (Q00.cellsW X (.sl 1 (.ints .u32 X.Mem) true))) (λX=>[])
theorem Zdy:Q04 pG Ziz:=oT (.cons Qhn (.cons Qg5 (.cons Qe3 (.cons Qxu (.cons Qx0 (.nil)))))) Tryz.func18 Tryz.call18 [.sl (.ints .u32) true] [] 2
end
noncomputable section
instance sumInhQa {α β:Type} [Inhabited β]:Inhabited (α⊕β):=⟨.inr default⟩
end
noncomputable section
instance sumInhQb {α β:Type} [Inhabited β]:Inhabited (α⊕β):=⟨.inr default⟩
def Qf6(pages:Int):Tree (List Int):=
.br (decide (pages<1)) (.lf ([])) (.br (decide (pages>32)) (.lf ([])) (.cn (bT 0 1&&bS 1 1&&List.all [D.int u32 0] D.plain&&decide (0<=wrap i64 (pages*32)/\wrap i64 (pages*32)<=wrap i64 (pages*32)/\wrap i64 (pages*32)<=9223372036854775807/\(↑4:Int)*wrap i64 (pages*32)<=140737488355328)) (.lf (List.replicate (dG (wrap i64 (pages*32))) 0))))
def Z76 pages:=(Qf6 pages).m
abbrev Qjm pages:=(Qf6 pages).p
def Zea:Q0b:=mT 44 [] true [.one (.int .i64)] [] (λa r=>Qf6 (argI a 0)) (λX=> .all 0) (λX=>[⟨false,25,1, .ints .u32 X⟩])
theorem Zbo:Q04 pG Zea:=oT (.nil) Tryz.func44 Tryz.call44 [.row 25 1 (.ints .u32)] [] 2
def Q6s(s1 s2:List Int)(z:(Int)):Prop:=0<=z/\z<=s1.length/\s1.length=s2.length
def Q2a(s1 s2:List Int)(z:(Int)):Nat:=(s1.length-z).toNat
def Q1r(s1 s2:List Int):Tree Bool:=
.br ((s1.length:Int) !=(s2.length:Int)) (.lf false) (.lp inferInstance (Q2a s1 s2 0+1) ((((Els.Nil (Els.ints u32 s1)\/rE (1:Nat))/\rE (s1:List Int))/\((Els.Nil (Els.ints u32 s2)\/rE (1:Nat))/\rE (s2:List Int))/\rE ((s1.length:Int):Int)/\rE (0:Int)/\True)/\True) 0 λ(v0:Int)=> .br (decide (v0<(s1.length:Int))) (.cn (bS 1 1&&bT 0 1&&decide (0<=v0/\v0<(s1.length:Int))) (.cn (bS 1 1&&bT 0 1&&decide (0<=v0/\v0<(s2.length:Int))) (.br (s1.getD v0.toNat 0 !=s2.getD v0.toNat 0) (.lf (Sum.inr false)) (.nx ((((Els.Nil (Els.ints u32 s1)\/rE (1:Nat))/\rE (s1:List Int))/\((Els.Nil (Els.ints u32 s2)\/rE (1:Nat))/\rE (s2:List Int))/\rE ((s1.length:Int):Int)/\rE ((wrap i64 (v0+1)):Int)/\True)/\True) (Sum.inl (wrap i64 (v0+1))))))) (.lf (Sum.inr true)))
def Qa2 s1 s2:=(Q1r s1 s2).m
def Q15(s1 s2:List Int):Prop:=
s1.length<=1000000000000
theorem Qf5(s1 s2:List Int)(hw:Q15 s1 s2):(Q1r s1 s2).p:=by
 simp only[Q15]at hw
 unfold Tree.p Q1r
 repeat'(first|refine w_lp (inv:=Q6s s1 s2) (μ:=Q2a s1 s2) ?_ (cO _) (λ_ _=> ?_)|exact trivial|refine w_br (λ_=> ?_) (λ_=> ?_)|refine w_cn ?_ ?_|refine w_an ?_ ?_|refine w_lv (λ_ _=> ?_)|refine w_nx ?_|refine w_lf ?_|refine And.intro ?_ ?_)
 all_goals((try simp only[Q6s,Q2a]at*);exact fin0)
def Qfh:LInv:={
 α:=(Int)
 F:=λst a=>([(0,(lk st 0)),(1,(lk st 1)),(12,(lk st 12)),(13, .int i64 a)],[])
 a0:=λst=>(lk st 13).toInt
 ex0:=λst=>[]++[]}
def Qdg:List (Nat×LInv):=[(4,Qfh)]
def Qg1:Q0b:=mkP 85 [] true [.one (.ints .u32), .one (.ints .u32)] [] (λa r=>Q15 (argL .u32 a 0) (argL .u32 a 1)) (λa r=>Qa2 (argL .u32 a 0) (argL .u32 a 1)) (λX=> .bool X) (λX=>[])
theorem Qff:Q04 pG Qg1:=Q0k drawn Q0g (.nil) Tryz.func85 Tryz.call85 (λa r=>Q1r (argL .u32 a 0) (argL .u32 a 1)) [] Qdg 3 (hp:=λa r h=>Qf5 (argL .u32 a 0) (argL .u32 a 1) h)
end
noncomputable section
def Q6b(a b:Q00):Tree Bool:=
.br (eqs [D.int u32 a.B1.X.a0,D.int u32 a.B1.X.a1,D.int u32 a.B1.X.a2,D.int u32 a.B1.X.a3,D.int u32 a.B1.X.a4,D.int u32 a.B1.X.a5,D.int u32 a.B1.X.a6,D.int u32 a.B1.X.a7,D.int u32 a.B1.X.a8,D.int u32 a.B1.X.a9,D.int u32 a.B1.X.a10,D.int u32 a.B1.X.a11,D.int u32 a.B1.X.a12,D.int u32 a.B1.X.a13,D.int u32 a.B1.X.a14,D.int u32 a.B1.X.a15,D.int u32 a.B1.Pc,D.int u32 a.B1.B4.a0,D.int u32 a.B1.B4.a1,D.int u32 a.B1.B4.a2,D.int u32 a.B1.B4.a3,D.int u32 a.B1.B4.a4,D.int u32 a.B1.B4.a5,D.int u32 a.B1.B4.a6,D.int u32 a.B1.B4.a7] [D.int u32 b.B1.X.a0,D.int u32 b.B1.X.a1,D.int u32 b.B1.X.a2,D.int u32 b.B1.X.a3,D.int u32 b.B1.X.a4,D.int u32 b.B1.X.a5,D.int u32 b.B1.X.a6,D.int u32 b.B1.X.a7,D.int u32 b.B1.X.a8,D.int u32 b.B1.X.a9,D.int u32 b.B1.X.a10,D.int u32 b.B1.X.a11,D.int u32 b.B1.X.a12,D.int u32 b.B1.X.a13,D.int u32 b.B1.X.a14,D.int u32 b.B1.X.a15,D.int u32 b.B1.Pc,D.int u32 b.B1.B4.a0,D.int u32 b.B1.B4.a1,D.int u32 b.B1.B4.a2,D.int u32 b.B1.B4.a3,D.int u32 b.B1.B4.a4,D.int u32 b.B1.B4.a5,D.int u32 b.B1.B4.a6,D.int u32 b.B1.B4.a7]) (.br (eqs [D.str a.A2.D0] [D.str b.A2.D0]) (.br (eqs [D.bool a.A7.D2,D.int u32 a.A7.C4,D.bool a.A7.D1] [D.bool b.A7.D2,D.int u32 b.A7.C4,D.bool b.A7.D1]) (.br (eqs [D.int u32 a.A9.Blocks,D.int u32 a.A9.C1,D.int u32 a.A9.Frame,D.int i64 a.A9.B8,D.int i64 a.A9.D4,D.int u32 a.A9.B5,D.int u32 a.A9.B2,D.str a.A9.B7] [D.int u32 b.A9.Blocks,D.int u32 b.A9.C1,D.int u32 b.A9.Frame,D.int i64 b.A9.B8,D.int i64 b.A9.D4,D.int u32 b.A9.B5,D.int u32 b.A9.B2,D.str b.A9.B7]) (.br (eqs [D.int u32 a.B9.Frame,D.int u32 a.B9.D8,D.bool a.B9.C5,D.int u32 a.B9.C0,D.bool a.B9.B6,D.int u32 a.B9.D9] [D.int u32 b.B9.Frame,D.int u32 b.B9.D8,D.bool b.B9.C5,D.int u32 b.B9.C0,D.bool b.B9.B6,D.int u32 b.B9.D9]) (.br (eqs [D.int u32 a.A1.C6,D.int u32 a.A1.C2] [D.int u32 b.A1.C6,D.int u32 b.A1.C2]) (.br (a.A4==b.A4) (.br (a.A3==b.A3) (.br (a.A6==b.A6) (.an (Q15 a.Mem b.Mem) (.lv (Qa2 a.Mem b.Mem) λ(x0:Bool)=> .lf x0)) (.lf false)) (.lf false)) (.lf false)) (.lf false)) (.lf false)) (.lf false)) (.lf false)) (.lf false)) (.lf false)
def Qnt a b:=(Q6b a b).m
abbrev Qan a b:=(Q6b a b).p
def Z42:Q0b:=mT 20 [] true [.agg Q00.sig, .agg Q00.sig] [] (λa r=>Q6b (Q00.of (aC a 0)) (Q00.of (aC a 1))) (λX=> .bool X) (λX=>[])
theorem Qnl:Q04 pG Z42:=oT (.cons Qff (.nil)) Tryz.func20 Tryz.call20 [] [] 2
def Q79(b:List Int):(List Int):=
b
def Qbf(b:List Int):List D:=[.ptr 0 0 0]
def Qbn(b:List Int):List Row:=[⟨true,148,2, .gen [[.selfp 0, .all 1]]⟩,⟨false,5,1, .ints .u8 b⟩]
def Q7e(X:List Int):D:= .tup []
def Q7k(X:List Int):List Row:=[⟨true,148,2, .gen [[.selfp 0, .all 1]]⟩,⟨false,5,1, .ints .u8 X⟩]
def Qd1:List PT:=[.ptr 0]
def Qbl:List RT:=[.box 148 2 [.self 0, .row 1], .arr 5 1 (.ints .u8)]
def Qm9(args:List D)(rows:List Row):(List Int):=Q79 (rowL .u8 rows 1)
def Qnk:Q0b:=mkR 226 [true] true Qd1 Qbl Qm9 Q7e Q7k
theorem Qji(b:List Int):Q4c pG 226 (Qbf b) (Qbn b) (Q7e (Q79 b)) (Q7k (Q79 b)):=by
 exact zH (ρ:=Tryz.lays105_ren) {Tryz.lays105 with} Tryz.Builder_Extra_105.toX72 (by kernel_rfl) _
set_option maxRecDepth 100000 in
theorem Qku(args:List D)(rows:List Row):Qek Qd1 args 0=Qbf (rowL .u8 rows 1):=by kernel_rfl
set_option maxRecDepth 100000 in
theorem Qjp(args:List D)(rows:List Row):Q5f Qbl rows 0=Qbn (rowL .u8 rows 1):=by kernel_rfl
set_option maxRecDepth 100000 in
theorem Qn2(X:List Int):(ffB (Q7e X)&&ffBR (Q7k X))=true:=by kernel_rfl
theorem Qn5:Q04 pG Qnk:=qaa Tryz.call226 (λa r=>by rw[Qku a r,Qjp a r];exact Qji (rowL .u8 r 1)) (λ_ X=>Qn2 X)
def Q32(b:List Int)(s:List UInt8):Tree (Int×Unit×(List Int)):=
.lv (Q79 b) λ(x0:List Int)=> .cn (decide (1*(x0.length+dL (Q1f s))<=140737488355328)) (.lf ((s.length:Int),(),x0++Q1f s))
def Q9b b s:=(Q32 b s).m
abbrev Q65 b s:=(Q32 b s).p
def Ql8:Q0b:=mkKP 1 169 [true,false] [.ptr 0, .one (.str)] [.box 148 2 [.self 0, .row 1], .arr 5 1 (.ints .u8)] (λa r=>Q65 (rowL .u8 r 1) (argS a 1)) (λa r=>Q9b (rowL .u8 r 1) (argS a 1)) (λX=> .tup [.int .i64 (X.1), .nilif]) (λX=>[⟨true,148,2, .gen [[.selfp 0, .all 1]]⟩,⟨false,5,1, .ints .u8 (X.2.2)⟩])
theorem Qbm:Q04 pG Ql8:=Qwp drawn Q0g (.cons Qn5 (.nil)) Tryz.func169 Tryz.call169 (λa r=>Q32 (rowL .u8 r 1) (argS a 1)) [.row 5 1 (.ints .u8)] [] 2 (λ_ _ _=>by kernel_rfl) (λ_ _=>rfl) (λ_ _ h=>h)
def Qei(x:Int)(z:(Int)×(List Int)):Nat:=z.1.toNat
def Q6o(x:Int):Tree (List UInt8):=
.lp inferInstance (Qei x (x,[])+1) ((rE (x:Int)/\True/\True)/\rE ([]:List Int)/\True) (x,[]) λ(v0:Int×List Int)=>let E1:=decide (1*(v0.2.length+1)<=140737488355328); .br (decide (v0.1>=128)) (.cn E1 (.nx ((rE ((ishr u64 v0.1 7):Int)/\True/\True)/\rE ((v0.2++[ior u8 (wrap u8 v0.1) 128]):List Int)/\True) (Sum.inl (ishr u64 v0.1 7,v0.2++[ior u8 (wrap u8 v0.1) 128])))) (.cn E1 (.lf (Sum.inr (bytesOf (v0.2++[wrap u8 v0.1])))))
def Qo x:=(Q6o x).m
abbrev Qim x:=(Q6o x).p
def Qu6:LInv:={
 α:=(Int)×(List Int)
 F:=λst a=>([(0, .int u64 a.1),(3, .all 0)],[⟨false,5,1, .ints u8 a.2⟩])
 a0:=λst=>((lk st 0).toInt,(Q2f st.rows (rN st 3)))
 ex0:=λst=>[]++[(rX st 3 0)]}
def Qqh:List (Nat×LInv):=[(2,Qu6)]
def Qvo:Q0b:=mT 170 [] true [.one (.int .u64)] [] (λa r=>Q6o (argI a 0)) (λX=> .str X) (λX=>[])
theorem Qsd:Q04 pG Qvo:=oT (.nil) Tryz.func170 Tryz.call170 [] Qqh 3
def Q8l(c list:List Int)(z:(Int)×(List Int)):Nat:=(list.length-z.1).toNat
def Q3(c list:List Int):Tree (List Int):=
.lp inferInstance (Q8l c list (0,c)+1) ((rZ/\((Els.Nil (Els.ints u64 list)\/rE (1:Nat))/\rE (list:List Int))/\rE ((list.length:Int):Int)/\rE (0:Int)/\True)/\(True/\True/\True)/\rE (c:List Int)/\True) (0,c) λ(v0:Int×List Int)=> .br (decide (v0.1<(list.length:Int))) (.cn (bS 1 1&&bT 0 1&&decide (0<=v0.1/\v0.1<(list.length:Int))) (.an (Qim (list.getD v0.1.toNat 0)) (.lv (Qo (list.getD v0.1.toNat 0)) λ(x0:List UInt8)=> .an (Q65 v0.2 x0) (.lv (Q9b v0.2 x0) λ(x1:Int×Unit×List Int)=> .nx ((rZ/\((Els.Nil (Els.ints u64 list)\/rE (1:Nat))/\rE (list:List Int))/\rE ((list.length:Int):Int)/\rE ((wrap i64 (v0.1+1)):Int)/\True)/\(True/\True/\True)/\rE x1.2.2/\True) (Sum.inl (wrap i64 (v0.1+1),x1.2.2)))))) (.lf (Sum.inr v0.2))
def Q1x c list:=(Q3 c list).m
abbrev Q1c c list:=(Q3 c list).p
def Qkh:LInv:={
 α:=(Int)×(List Int)
 F:=λst a=>([(0, .ptr 0 0 0),(6,(lk st 6)),(7,(lk st 7)),(8, .int i64 a.1)],[⟨true,148,2, .gen [[.selfp 0, .all 1]]⟩,⟨false,5,1, .ints u8 a.2⟩])
 a0:=λst=>((lk st 8).toInt,(Q2f st.rows (Q0l (Qt9 st.rows 0 1) 1000000)))
 ex0:=λst=>[0]++[(Q0l (Qt9 st.rows 0 1) (st.rows.length+1))]}
def Qiy:List (Nat×LInv):=[(1,Qkh)]
def Qlc:Q0b:=mkKP 1 87 [true,false] [.ptr 0, .one (.ints .u64)] [.box 148 2 [.self 0, .row 1], .arr 5 1 (.ints .u8)] (λa r=>Q1c (rowL .u8 r 1) (argL .u64 a 1)) (λa r=>Q1x (rowL .u8 r 1) (argL .u64 a 1)) (λX=> .tup []) (λX=>[⟨true,148,2, .gen [[.selfp 0, .all 1]]⟩,⟨false,5,1, .ints .u8 X⟩])
theorem Q4a:Q04 pG Qlc:=Qwp drawn Q0g (.cons Qbm (.cons Qsd (.nil))) Tryz.func87 Tryz.call87 (λa r=>Q3 (rowL .u8 r 1) (argL .u64 a 1)) [.row 5 1 (.ints .u8)] Qiy 3 (λ_ _ _=>by kernel_rfl) (λ_ _=>rfl) (λ_ _ h=>h)
def Qa8(c list:List Int)(z:(Int)×(List Int)):Nat:=(list.length-z.1).toNat
def Q3x(c list:List Int):Tree (List Int):=
.lp inferInstance (Qa8 c list (0,c)+1) ((rZ/\((Els.Nil (Els.ints u32 list)\/rE (1:Nat))/\rE (list:List Int))/\rE ((list.length:Int):Int)/\rE (0:Int)/\True)/\(True/\True/\True)/\rE (c:List Int)/\True) (0,c) λ(v0:Int×List Int)=> .br (decide (v0.1<(list.length:Int))) (.cn (bS 1 1&&bT 0 1&&decide (0<=v0.1/\v0.1<(list.length:Int))) (.an (Q1c v0.2 [wrap u64 (list.getD v0.1.toNat 0)]) (.lv (Q1x v0.2 [wrap u64 (list.getD v0.1.toNat 0)]) λ(x0:List Int)=> .nx ((rZ/\((Els.Nil (Els.ints u32 list)\/rE (1:Nat))/\rE (list:List Int))/\rE ((list.length:Int):Int)/\rE ((wrap i64 (v0.1+1)):Int)/\True)/\(True/\True/\True)/\rE (x0:List Int)/\True) (Sum.inl (wrap i64 (v0.1+1),x0))))) (.lf (Sum.inr v0.2))
def Q17 c list:=(Q3x c list).m
abbrev Q0v c list:=(Q3x c list).p
def Qn6:LInv:={
 α:=(Int)×(List Int)
 F:=λst a=>([(0, .ptr 0 0 0),(6,(lk st 6)),(7,(lk st 7)),(8, .int i64 a.1)],[⟨true,148,2, .gen [[.selfp 0, .all 1]]⟩,⟨false,5,1, .ints u8 a.2⟩])
 a0:=λst=>((lk st 8).toInt,(Q2f st.rows (Q0l (Qt9 st.rows 0 1) 1000000)))
 ex0:=λst=>[0]++[(Q0l (Qt9 st.rows 0 1) (st.rows.length+1))]}
def Qk1:List (Nat×LInv):=[(1,Qn6)]
def Qoh:Q0b:=mkKP 1 86 [true,false] [.ptr 0, .one (.ints .u32)] [.box 148 2 [.self 0, .row 1], .arr 5 1 (.ints .u8)] (λa r=>Q0v (rowL .u8 r 1) (argL .u32 a 1)) (λa r=>Q17 (rowL .u8 r 1) (argL .u32 a 1)) (λX=> .tup []) (λX=>[⟨true,148,2, .gen [[.selfp 0, .all 1]]⟩,⟨false,5,1, .ints .u8 X⟩])
theorem Qn1:Q04 pG Qoh:=Qwp drawn Q0g (.cons Q4a (.nil)) Tryz.func86 Tryz.call86 (λa r=>Q3x (rowL .u8 r 1) (argL .u32 a 1)) [.row 5 1 (.ints .u8)] Qk1 3 (λ_ _ _=>by kernel_rfl) (λ_ _=>rfl) (λ_ _ h=>h)
def Q41(c:List Int)(s:List UInt8):Tree (List Int):=
.an (Q1c c [wrap u64 (s.length:Int)]) (.lv (Q1x c [wrap u64 (s.length:Int)]) λ(x0:List Int)=> .an (Q65 x0 s) (.lv (Q9b x0 s) λ(x1:Int×Unit×List Int)=> .lf x1.2.2))
def Qav c s:=(Q41 c s).m
abbrev Q7c c s:=(Q41 c s).p
def Qou:Q0b:=mkKP 1 88 [true,false] [.ptr 0, .one (.str)] [.box 148 2 [.self 0, .row 1], .arr 5 1 (.ints .u8)] (λa r=>Q7c (rowL .u8 r 1) (argS a 1)) (λa r=>Qav (rowL .u8 r 1) (argS a 1)) (λX=> .tup []) (λX=>[⟨true,148,2, .gen [[.selfp 0, .all 1]]⟩,⟨false,5,1, .ints .u8 X⟩])
theorem Qn4:Q04 pG Qou:=Qwp drawn Q0g (.cons Q4a (.cons Qbm (.nil))) Tryz.func88 Tryz.call88 (λa r=>Q41 (rowL .u8 r 1) (argS a 1)) [.row 5 1 (.ints .u8)] [] 2 (λ_ _ _=>by kernel_rfl) (λ_ _=>rfl) (λ_ _ h=>h)
def Q4j(c:List Int)(set0:Bool):Tree (List Int):=
.br set0 (.an (Q1c c [1]) (.lv (Q1x c [1]) λ(x0:List Int)=> .lf x0)) (.an (Q1c c [0]) (.lv (Q1x c [0]) λ(x1:List Int)=> .lf x1))
def Q2z c set0:=(Q4j c set0).m
abbrev Q26 c set0:=(Q4j c set0).p
def Qql:Q0b:=mkKP 1 89 [true,false] [.ptr 0, .one (.bool)] [.box 148 2 [.self 0, .row 1], .arr 5 1 (.ints .u8)] (λa r=>Q26 (rowL .u8 r 1) (argB a 1)) (λa r=>Q2z (rowL .u8 r 1) (argB a 1)) (λX=> .tup []) (λX=>[⟨true,148,2, .gen [[.selfp 0, .all 1]]⟩,⟨false,5,1, .ints .u8 X⟩])
theorem Qns:Q04 pG Qql:=Qwp drawn Q0g (.cons Q4a (.nil)) Tryz.func89 Tryz.call89 (λa r=>Q4j (rowL .u8 r 1) (argB a 1)) [.row 5 1 (.ints .u8)] [] 2 (λ_ _ _=>by kernel_rfl) (λ_ _=>rfl) (λ_ _ h=>h)
def Qap(b:List Int):((List UInt8)×(List Int)):=
(bytesOf b,b)
def Qev(b:List Int):List D:=[.ptr 0 0 0]
def Qf1(b:List Int):List Row:=[⟨true,148,2, .gen [[.selfp 0, .all 1]]⟩,⟨false,5,1, .ints .u8 b⟩]
def Qfw(X:((List UInt8)×(List Int))):D:= .str (X.1)
def Qfv(X:((List UInt8)×(List Int))):List Row:=[⟨true,148,2, .gen [[.selfp 0, .sl 1 (.ints .u8 X.2) false]]⟩]
def Qfy:List PT:=[.ptr 0]
def Qec:List RT:=[.box 148 2 [.self 0, .row 1], .arr 5 1 (.ints .u8)]
def Qqk(args:List D)(rows:List Row):((List UInt8)×(List Int)):=Qap (rowL .u8 rows 1)
def Qsk:Q0b:=mkK 1 90 [true] Qfy Qec Qqk Qfw Qfv
theorem Qn8(b:List Int):Q9 pG 90 1 (Qev b) (Qf1 b) (Qfw (Qap b)) (Qfv (Qap b)):=by
 exact qe (ρ:=Tryz.lays105_ren) (by decide) {Tryz.lays105 with} Tryz.Builder_Extra_105 _
set_option maxRecDepth 100000 in
theorem Qom(args:List D)(rows:List Row):Qek Qfy args 0=Qev (rowL .u8 rows 1):=by kernel_rfl
set_option maxRecDepth 100000 in
theorem Qn0(args:List D)(rows:List Row):Q5f Qec rows 0=Qf1 (rowL .u8 rows 1):=by kernel_rfl
theorem Qs5:Q04 pG Qsk:=zaN (λ_=>Tryz.call90) (λa r=>by rw[Qom a r,Qn0 a r];exact Qn8 (rowL .u8 r 1))
def Q7t(m:Q00):Tree (List UInt8):=
.an (Q0v [] [m.B1.X.a0,m.B1.X.a1,m.B1.X.a2,m.B1.X.a3,m.B1.X.a4,m.B1.X.a5,m.B1.X.a6,m.B1.X.a7,m.B1.X.a8,m.B1.X.a9,m.B1.X.a10,m.B1.X.a11,m.B1.X.a12,m.B1.X.a13,m.B1.X.a14,m.B1.X.a15]) (.lv (Q17 [] [m.B1.X.a0,m.B1.X.a1,m.B1.X.a2,m.B1.X.a3,m.B1.X.a4,m.B1.X.a5,m.B1.X.a6,m.B1.X.a7,m.B1.X.a8,m.B1.X.a9,m.B1.X.a10,m.B1.X.a11,m.B1.X.a12,m.B1.X.a13,m.B1.X.a14,m.B1.X.a15]) λ(x0:List Int)=> .an (Q0v x0 [m.B1.Pc]) (.lv (Q17 x0 [m.B1.Pc]) λ(x1:List Int)=> .an (Q0v x1 [m.B1.B4.a0,m.B1.B4.a1,m.B1.B4.a2,m.B1.B4.a3,m.B1.B4.a4,m.B1.B4.a5,m.B1.B4.a6,m.B1.B4.a7]) (.lv (Q17 x1 [m.B1.B4.a0,m.B1.B4.a1,m.B1.B4.a2,m.B1.B4.a3,m.B1.B4.a4,m.B1.B4.a5,m.B1.B4.a6,m.B1.B4.a7]) λ(x2:List Int)=> .an (Q1c x2 [wrap u64 (m.Mem.length:Int)]) (.lv (Q1x x2 [wrap u64 (m.Mem.length:Int)]) λ(x3:List Int)=> .an (Q0v x3 m.Mem) (.lv (Q17 x3 m.Mem) λ(x4:List Int)=> .an (Q7c x4 m.A2.D0) (.lv (Qav x4 m.A2.D0) λ(x5:List Int)=> .an (Q26 x5 m.A7.D2) (.lv (Q2z x5 m.A7.D2) λ(x6:List Int)=> .an (Q0v x6 [m.A7.C4]) (.lv (Q17 x6 [m.A7.C4]) λ(x7:List Int)=> .an (Q26 x7 m.A7.D1) (.lv (Q2z x7 m.A7.D1) λ(x8:List Int)=> .an (Q0v x8 [m.A9.Blocks,m.A9.C1,m.A9.Frame]) (.lv (Q17 x8 [m.A9.Blocks,m.A9.C1,m.A9.Frame]) λ(x9:List Int)=> .an (Q1c x9 [wrap u64 m.A9.B8,wrap u64 m.A9.D4]) (.lv (Q1x x9 [wrap u64 m.A9.B8,wrap u64 m.A9.D4]) λ(x10:List Int)=> .an (Q0v x10 [m.A9.B5,m.A9.B2]) (.lv (Q17 x10 [m.A9.B5,m.A9.B2]) λ(x11:List Int)=> .an (Q7c x11 m.A9.B7) (.lv (Qav x11 m.A9.B7) λ(x12:List Int)=> .an (Q0v x12 [m.B9.Frame,m.B9.D8]) (.lv (Q17 x12 [m.B9.Frame,m.B9.D8]) λ(x13:List Int)=> .an (Q26 x13 m.B9.C5) (.lv (Q2z x13 m.B9.C5) λ(x14:List Int)=> .an (Q0v x14 [m.B9.C0]) (.lv (Q17 x14 [m.B9.C0]) λ(x15:List Int)=> .an (Q26 x15 m.B9.B6) (.lv (Q2z x15 m.B9.B6) λ(x16:List Int)=> .an (Q0v x16 [m.B9.D9]) (.lv (Q17 x16 [m.B9.D9]) λ(x17:List Int)=> .an (Q0v x17 [m.A1.C6,m.A1.C2]) (.lv (Q17 x17 [m.A1.C6,m.A1.C2]) λ(x18:List Int)=> .an (Q1c x18 [m.A4]) (.lv (Q1x x18 [m.A4]) λ(x19:List Int)=> .an (Q26 x19 m.A3) (.lv (Q2z x19 m.A3) λ(x20:List Int)=> .an (Q26 x20 m.A6) (.lv (Q2z x20 m.A6) λ(x21:List Int)=> .lv (Qap x21) λ(x22:List UInt8×List Int)=> .lf x22.1))))))))))))))))))))))
def Qjj m:=(Q7t m).m
abbrev Qcg m:=(Q7t m).p
def Qyn:Q0b:=mT 21 [] true [.agg Q00.sig] [] (λa r=>Q7t (Q00.of (aC a 0))) (λX=> .str X) (λX=>[])
theorem Qkt:Q04 pG Qyn:=oT (.cons Qn1 (.cons Q4a (.cons Qn4 (.cons Qns (.cons Qs5 (.nil)))))) Tryz.func21 Tryz.call21 [] [] 2
def Qqs(h0:Int)(s:List UInt8)(z:(Int)×(Int)):Prop:=0<=z.2/\z.2<=s.length
def Qh4(h0:Int)(s:List UInt8)(z:(Int)×(Int)):Nat:=(s.length-z.2).toNat
def Qlh(h0:Int)(s:List UInt8):Tree Int:=
.lp inferInstance (Qh4 h0 s (h0,0)+1) ((rE (h0:Int)/\rE (s:List UInt8)/\rE ((s.length:Int):Int)/\rE (0:Int)/\True)/\True) (h0,0) λ(v0:Int×Int)=> .br (decide (v0.2<(s.length:Int))) (.cn (decide (0<=v0.2/\v0.2<(s.length:Int))) (.nx ((rE ((wrap u64 (ixor u64 v0.1 (wrap u64 (↑(fB (s.getD v0.2.toNat (0:UInt8))):Int))*1099511628211)):Int)/\rE (s:List UInt8)/\rE ((s.length:Int):Int)/\rE ((wrap i64 (v0.2+1)):Int)/\True)/\True) (Sum.inl (wrap u64 (ixor u64 v0.1 (wrap u64 (↑(fB (s.getD v0.2.toNat (0:UInt8))):Int))*1099511628211),wrap i64 (v0.2+1))))) (.lf (Sum.inr v0.1))
def Qo5 h0 s:=(Qlh h0 s).m
def Qg2(h0:Int)(s:List UInt8):Prop:=
s.length<=1000000000000
theorem Zbf(h0:Int)(s:List UInt8)(hw:Qg2 h0 s):(Qlh h0 s).p:=by
 simp only[Qg2]at hw
 unfold Tree.p Qlh
 repeat'(first|refine w_lp (inv:=Qqs h0 s) (μ:=Qh4 h0 s) ?_ (cO _) (λ_ _=> ?_)|exact trivial|refine w_br (λ_=> ?_) (λ_=> ?_)|refine w_cn ?_ ?_|refine w_an ?_ ?_|refine w_lv (λ_ _=> ?_)|refine w_nx ?_|refine w_lf ?_|refine And.intro ?_ ?_)
 all_goals((try simp only[Qqs,Qh4]at*);exact fin0)
def Zcb:LInv:={
 α:=(Int)×(Int)
 F:=λst a=>([(0, .int u64 a.1),(1,(lk st 1)),(7,(lk st 7)),(8, .int i64 a.2)],[])
 a0:=λst=>((lk st 0).toInt,(lk st 8).toInt)
 ex0:=λst=>[]++[]}
def Z4h:List (Nat×LInv):=[(2,Zcb)]
def Zip:Q0b:=mkP 91 [] true [.one (.int .u64), .one (.str)] [] (λa r=>Qg2 (argI a 0) (argS a 1)) (λa r=>Qo5 (argI a 0) (argS a 1)) (λX=> .int .u64 X) (λX=>[])
theorem Zfo:Q04 pG Zip:=Q0k drawn Q0g (.nil) Tryz.func91 Tryz.call91 (λa r=>Qlh (argI a 0) (argS a 1)) [] Z4h 3 (hp:=λa r h=>Zbf (argI a 0) (argS a 1) h)
def Qal(m:Q00):Tree Int:=
.an (Qcg m) (.lv (Qjj m) λ(x0:List UInt8)=> .an (Qg2 14695981039346656037 x0) (.lv (Qo5 14695981039346656037 x0) λ(x1:Int)=> .lf x1))
def Qn9 m:=(Qal m).m
abbrev Qfl m:=(Qal m).p
def Z51:Q0b:=mT 22 [] true [.agg Q00.sig] [] (λa r=>Qal (Q00.of (aC a 0))) (λX=> .int .u64 X) (λX=>[])
theorem Z0v:Q04 pG Z51:=oT (.cons Zfo (.cons Qkt (.nil))) Tryz.func22 Tryz.call22 [] [] 2
end
noncomputable section
instance sumInhTb {α β:Type} [Inhabited β]:Inhabited (α⊕β):=⟨.inr default⟩
def Qen(x:Int)(z:(Int)×(List Int)):Nat:=z.1.toNat
def Q6z(x:Int):Tree (List UInt8):=
.lp inferInstance (Qen x (x,[])+1) ((rE (x:Int)/\True/\True)/\rE ([]:List Int)/\True) (x,[]) λ(v0:Int×List Int)=>let E1:=decide (1*(v0.2.length+1)<=140737488355328); .br (decide (v0.1>=128)) (.cn E1 (.nx ((rE ((ishr u64 v0.1 7):Int)/\True/\True)/\rE ((v0.2++[ior u8 (wrap u8 (iand u64 v0.1 127)) 128]):List Int)/\True) (Sum.inl (ishr u64 v0.1 7,v0.2++[ior u8 (wrap u8 (iand u64 v0.1 127)) 128])))) (.cn E1 (.lf (Sum.inr (bytesOf (v0.2++[wrap u8 v0.1])))))
def Qcn x:=(Q6z x).m
abbrev Q76 x:=(Q6z x).p
def Qtd:LInv:={
 α:=(Int)×(List Int)
 F:=λst a=>([(0, .int u64 a.1),(3, .all 0)],[⟨false,5,1, .ints u8 a.2⟩])
 a0:=λst=>((lk st 0).toInt,(Q2f st.rows (rN st 3)))
 ex0:=λst=>[]++[(rX st 3 0)]}
def Qqj:List (Nat×LInv):=[(2,Qtd)]
def Qwv:Q0b:=mT 117 [] true [.one (.int .u64)] [] (λa r=>Q6z (argI a 0)) (λX=> .str X) (λX=>[])
theorem Qc:Q04 pG Qwv:=oT (.nil) Tryz.func117 Tryz.call117 [] Qqj 3
def Qi1(s:List UInt8):Tree (List UInt8):=
.an (Q76 (wrap u64 (s.length:Int))) (.lv (Qcn (wrap u64 (s.length:Int))) λ(x0:List UInt8)=> .cn (decide (x0.length+s.length<=maxLen)) (.lf (x0++s)))
def Z13 s:=(Qi1 s).m
abbrev Qlj s:=(Qi1 s).p
def Zi7:Q0b:=mT 118 [] true [.one (.str)] [] (λa r=>Qi1 (argS a 0)) (λX=> .str X) (λX=>[])
theorem Zde:Q04 pG Zi7:=oT (.cons Qc (.nil)) Tryz.func118 Tryz.call118 [] [] 2
def Z3o(b:Bool):Tree (List UInt8):=
.br b (.lf ([(1:UInt8)])) (.lf ([(0:UInt8)]))
def Qez b:=(Z3o b).m
def Zj0:Q0b:=mS 119 [] true [.one (.bool)] [] (λa r=>Z3o (argB a 0)) (λX=> .str X) (λX=>[])
theorem Zf7:Q04 pG Zj0:=oS (.nil) Tryz.func119 Tryz.call119 [] [] 2
def Qtn(x:Int):Tree (List UInt8):=
.an (Q76 x) (.lv (Qcn x) λ(x0:List UInt8)=> .lf x0)
def Qft x:=(Qtn x).m
abbrev Q37 x:=(Qtn x).p
def yU:Q0b:=mT 120 [] true [.one (.int .u64)] [] (λa r=>Qtn (argI a 0)) (λX=> .str X) (λX=>[])
theorem qC:Q04 pG yU:=oT (.cons Qc (.nil)) Tryz.func120 Tryz.call120 [] [] 2
def Qk(m:Q00)(z:(Int)×(List Int)):Nat:=(16-z.1).toNat
def Qki(m:Q00)(z:(Int)×(List Int)):Nat:=(8-z.1).toNat
def Qk9(m:Q00)(z:(Int)×(List Int)):Nat:=(m.Mem.length-z.1).toNat
def Qkb(m:Q00)(z:(Int)×(List Int)):Nat:=(1000000000000-z.1).toNat
def Qcx(m:Q00):Tree (List UInt8):=
.lp inferInstance (Qk m (0,[])+1) ((rZ/\True/\True/\rE (0:Int)/\True)/\(mE m (((Els.Nil (Els.ints u32 m.Mem)\/rE (1:Nat))/\rE m.Mem)) True)/\rE ([]:List Int)/\True) (0,[]) λ(v0:Int×List Int)=>let E1:=decide (8*(v0.2.length+1)<=140737488355328); .br (decide (v0.1<16)) (.cn (bT 0 1&&decide (0<=v0.1/\v0.1<(↑16:Int))) (.cn E1 (.nx ((rZ/\True/\True/\rE ((wrap i64 (v0.1+1)):Int)/\True)/\(mE m (((Els.Nil (Els.ints u32 m.Mem)\/rE (1:Nat))/\rE m.Mem)) True)/\rE ((v0.2++[wrap u64 (aK (A16.l m.B1.X) v0.1.toNat 0)]):List Int)/\True) (Sum.inl (wrap i64 (v0.1+1),v0.2++[wrap u64 (aK (A16.l m.B1.X) v0.1.toNat 0)]))))) (.cn E1 (.lp inferInstance (Qki m (0,v0.2++[wrap u64 m.B1.Pc])+1) ((rZ/\True/\True/\rE (0:Int)/\True)/\(mE m (((Els.Nil (Els.ints u32 m.Mem)\/rE (1:Nat))/\rE m.Mem)) True)/\rE ((v0.2++[wrap u64 m.B1.Pc]):List Int)/\True) (0,v0.2++[wrap u64 m.B1.Pc]) λ(v1:Int×List Int)=>let E2:=decide (8*(v1.2.length+1)<=140737488355328); .br (decide (v1.1<8)) (.cn (bT 0 1&&decide (0<=v1.1/\v1.1<(↑8:Int))) (.cn E2 (.nx ((rZ/\True/\True/\rE ((wrap i64 (v1.1+1)):Int)/\True)/\(mE m (((Els.Nil (Els.ints u32 m.Mem)\/rE (1:Nat))/\rE m.Mem)) True)/\rE ((v1.2++[wrap u64 (aK (A8.l m.B1.B4) v1.1.toNat 0)]):List Int)/\True) (Sum.inl (wrap i64 (v1.1+1),v1.2++[wrap u64 (aK (A8.l m.B1.B4) v1.1.toNat 0)]))))) (.cn E2 (.lp inferInstance (Qk9 m (0,v1.2++[wrap u64 (m.Mem.length:Int)])+1) ((rZ/\True/\True/\rE (0:Int)/\True)/\(mE m (((Els.Nil (Els.ints u32 m.Mem)\/rE (1:Nat))/\rE m.Mem)) True)/\rE ((v1.2++[wrap u64 (m.Mem.length:Int)]):List Int)/\True) (0,v1.2++[wrap u64 (m.Mem.length:Int)]) λ(v2:Int×List Int)=> .br (decide (v2.1<(m.Mem.length:Int))) (.cn (bS 1 1&&bT 0 1&&decide (0<=v2.1/\v2.1<(m.Mem.length:Int))) (.cn (decide (8*(v2.2.length+1)<=140737488355328)) (.nx ((rZ/\True/\True/\rE ((wrap i64 (v2.1+1)):Int)/\True)/\(mE m (((Els.Nil (Els.ints u32 m.Mem)\/rE (1:Nat))/\rE m.Mem)) True)/\rE ((v2.2++[wrap u64 (m.Mem.getD v2.1.toNat 0)]):List Int)/\True) (Sum.inl (wrap i64 (v2.1+1),v2.2++[wrap u64 (m.Mem.getD v2.1.toNat 0)]))))) (.lp inferInstance (Qkb m (0,[])+1) ((rZ/\True/\True/\rE (0:Int)/\True)/\(mE m (((Els.Nil (Els.ints u32 m.Mem)\/rE (1:Nat))/\rE m.Mem)) True)/\rE v2.2/\rE ([]:List Int)/\True) (0,[]) λ(v3:Int×List Int)=> .br (decide (v3.1<(v2.2.length:Int))) (.cn (bS 1 1&&bT 0 1&&decide (0<=v3.1/\v3.1<(v2.2.length:Int))) (let E3:=v2.2.getD v3.1.toNat 0; .an (Q76 E3) (.lv (Qcn E3) λ(x0:List UInt8)=> .cn (decide (1*(v3.2.length+dL (Q1f x0))<=140737488355328)) (.nx ((rZ/\True/\True/\rE ((wrap i64 (v3.1+1)):Int)/\True)/\(mE m (((Els.Nil (Els.ints u32 m.Mem)\/rE (1:Nat))/\rE m.Mem)) True)/\rE v2.2/\rE ((v3.2++Q1f x0):List Int)/\True) (Sum.inl (wrap i64 (v3.1+1),v3.2++Q1f x0)))))) (.an (Qlj m.A2.D0) (.lv (Z13 m.A2.D0) λ(x1:List UInt8)=> .lv (Qez m.A7.D2) λ(x2:List UInt8)=> .cn (decide (x1.length+x2.length<=maxLen)) (.an (Q37 (wrap u64 m.A7.C4)) (.lv (Qft (wrap u64 m.A7.C4)) λ(x3:List UInt8)=> .cn (decide (dL (x1++x2)+x3.length<=maxLen)) (.lv (Qez m.A7.D1) λ(x4:List UInt8)=> .cn (decide (dL (x1++x2++x3)+x4.length<=maxLen)) (.an (Q37 (wrap u64 m.A9.Blocks)) (.lv (Qft (wrap u64 m.A9.Blocks)) λ(x5:List UInt8)=> .cn (decide (dL (x1++x2++x3++x4)+x5.length<=maxLen)) (.an (Q37 (wrap u64 m.A9.C1)) (.lv (Qft (wrap u64 m.A9.C1)) λ(x6:List UInt8)=> .cn (decide (dL (x1++x2++x3++x4++x5)+x6.length<=maxLen)) (.an (Q37 (wrap u64 m.A9.Frame)) (.lv (Qft (wrap u64 m.A9.Frame)) λ(x7:List UInt8)=> .cn (decide (dL (x1++x2++x3++x4++x5++x6)+x7.length<=maxLen)) (.an (Q37 (wrap u64 m.A9.B8)) (.lv (Qft (wrap u64 m.A9.B8)) λ(x8:List UInt8)=> .cn (decide (dL (x1++x2++x3++x4++x5++x6++x7)+x8.length<=maxLen)) (.an (Q37 (wrap u64 m.A9.D4)) (.lv (Qft (wrap u64 m.A9.D4)) λ(x9:List UInt8)=> .cn (decide (dL (x1++x2++x3++x4++x5++x6++x7++x8)+x9.length<=maxLen)) (.an (Q37 (wrap u64 m.A9.B5)) (.lv (Qft (wrap u64 m.A9.B5)) λ(x10:List UInt8)=> .cn (decide (dL (x1++x2++x3++x4++x5++x6++x7++x8++x9)+x10.length<=maxLen)) (.an (Q37 (wrap u64 m.A9.B2)) (.lv (Qft (wrap u64 m.A9.B2)) λ(x11:List UInt8)=> .cn (decide (dL (x1++x2++x3++x4++x5++x6++x7++x8++x9++x10)+x11.length<=maxLen)) (.an (Qlj m.A9.B7) (.lv (Z13 m.A9.B7) λ(x12:List UInt8)=> .cn (decide (dL (x1++x2++x3++x4++x5++x6++x7++x8++x9++x10++x11)+x12.length<=maxLen)) (.an (Q37 (wrap u64 m.B9.Frame)) (.lv (Qft (wrap u64 m.B9.Frame)) λ(x13:List UInt8)=> .cn (decide (dL (x1++x2++x3++x4++x5++x6++x7++x8++x9++x10++x11++x12)+x13.length<=maxLen)) (.an (Q37 (wrap u64 m.B9.D8)) (.lv (Qft (wrap u64 m.B9.D8)) λ(x14:List UInt8)=> .cn (decide (dL (x1++x2++x3++x4++x5++x6++x7++x8++x9++x10++x11++x12++x13)+x14.length<=maxLen)) (.lv (Qez m.B9.C5) λ(x15:List UInt8)=> .cn (decide (dL (x1++x2++x3++x4++x5++x6++x7++x8++x9++x10++x11++x12++x13++x14)+x15.length<=maxLen)) (.an (Q37 (wrap u64 m.B9.C0)) (.lv (Qft (wrap u64 m.B9.C0)) λ(x16:List UInt8)=> .cn (decide (dL (x1++x2++x3++x4++x5++x6++x7++x8++x9++x10++x11++x12++x13++x14++x15)+x16.length<=maxLen)) (.lv (Qez m.B9.B6) λ(x17:List UInt8)=> .cn (decide (dL (x1++x2++x3++x4++x5++x6++x7++x8++x9++x10++x11++x12++x13++x14++x15++x16)+x17.length<=maxLen)) (.an (Q37 (wrap u64 m.B9.D9)) (.lv (Qft (wrap u64 m.B9.D9)) λ(x18:List UInt8)=> .cn (decide (dL (x1++x2++x3++x4++x5++x6++x7++x8++x9++x10++x11++x12++x13++x14++x15++x16++x17)+x18.length<=maxLen)) (.an (Q37 (wrap u64 m.A1.C6)) (.lv (Qft (wrap u64 m.A1.C6)) λ(x19:List UInt8)=> .cn (decide (dL (x1++x2++x3++x4++x5++x6++x7++x8++x9++x10++x11++x12++x13++x14++x15++x16++x17++x18)+x19.length<=maxLen)) (.an (Q37 (wrap u64 m.A1.C2)) (.lv (Qft (wrap u64 m.A1.C2)) λ(x20:List UInt8)=> .cn (decide (dL (x1++x2++x3++x4++x5++x6++x7++x8++x9++x10++x11++x12++x13++x14++x15++x16++x17++x18++x19)+x20.length<=maxLen)) (.an (Q37 m.A4) (.lv (Qft m.A4) λ(x21:List UInt8)=> .cn (decide (dL (x1++x2++x3++x4++x5++x6++x7++x8++x9++x10++x11++x12++x13++x14++x15++x16++x17++x18++x19++x20)+x21.length<=maxLen)) (.lv (Qez m.A3) λ(x22:List UInt8)=> .cn (decide (dL (x1++x2++x3++x4++x5++x6++x7++x8++x9++x10++x11++x12++x13++x14++x15++x16++x17++x18++x19++x20++x21)+x22.length<=maxLen)) (.lv (Qez m.A6) λ(x23:List UInt8)=> .cn (decide (dL (x1++x2++x3++x4++x5++x6++x7++x8++x9++x10++x11++x12++x13++x14++x15++x16++x17++x18++x19++x20++x21++x22)+x23.length<=maxLen)) (.cn (decide (dL (bytesOf v3.2)+dL (x1++x2++x3++x4++x5++x6++x7++x8++x9++x10++x11++x12++x13++x14++x15++x16++x17++x18++x19++x20++x21++x22++x23)<=maxLen)) (.lf (Sum.inr (Sum.inr (Sum.inr (Sum.inr (bytesOf v3.2++(x1++x2++x3++x4++x5++x6++x7++x8++x9++x10++x11++x12++x13++x14++x15++x16++x17++x18++x19++x20++x21++x22++x23))))))))))))))))))))))))))))))))))))))))))))))))))))
def Qs2 m:=(Qcx m).m
abbrev Qgx m:=(Qcx m).p
def Z56:LInv:={
 α:=(Int)×(List Int)
 F:=λst a=>([(1, .ptr 0 0 0),(3,(lk st 3)),(4, .all 1),(5, .int i64 a.1)],[⟨true,43,49, .gen [mB (cT st 1)]⟩,⟨false,41,1, .ints u64 a.2⟩])
 a0:=λst=>((lk st 5).toInt,(Q2f st.rows (rN st 4)))
 ex0:=λst=>[]++[(rX st 1 0),(rX st 4 1)]}
def Z5x:LInv:={
 α:=(Int)×(List Int)
 F:=λst a=>([(1, .ptr 0 0 0),(3,(lk st 3)),(4, .all 1),(6, .int i64 a.1)],[⟨true,43,49, .gen [mB (cT st 1)]⟩,⟨false,41,1, .ints u64 a.2⟩])
 a0:=λst=>((lk st 6).toInt,(Q2f st.rows (rN st 4)))
 ex0:=λst=>[]++[(rX st 1 0),(rX st 4 1)]}
def Z5a:LInv:={
 α:=(Int)×(List Int)
 F:=λst a=>([(1, .ptr 0 0 0),(3,(lk st 3)),(4, .all 1),(7, .int i64 a.1)],[⟨true,43,49, .gen [mB (cT st 1)]⟩,⟨false,41,1, .ints u64 a.2⟩])
 a0:=λst=>((lk st 7).toInt,(Q2f st.rows (rN st 4)))
 ex0:=λst=>[]++[(rX st 1 0),(rX st 4 1)]}
def Z49:LInv:={
 α:=(Int)×(List Int)
 F:=λst a=>([(1, .ptr 0 0 0),(3, .all 2),(4, .all 1),(8, .int i64 a.1)],[⟨true,43,49, .gen [mB (cT st 1)]⟩,⟨false,41,1,esOf st.rows (rN st 4)⟩,⟨false,5,1, .ints u8 a.2⟩])
 a0:=λst=>((lk st 8).toInt,(Q2f st.rows (rN st 3)))
 ex0:=λst=>[]++[(rX st 1 0),(rX st 4 1),(rX st 3 2)]}
def Qz7:List (Nat×LInv):=[(4,Z56),(9,Z5x),(14,Z5a),(18,Z49)]
def Z9k:Q0b:=mT 32 [] true [.agg Q00.sig] [] (λa r=>Qcx (Q00.of (aC a 0))) (λX=> .str X) (λX=>[])
theorem Qr3:Q04 pG Z9k:=oT (.cons Qc (.cons Zde (.cons Zf7 (.cons qC (.nil))))) Tryz.func32 Tryz.call32 [] Qz7 3
def Qqp(h0:Int)(s:List UInt8)(z:(Int)×(Int)):Prop:=0<=z.2/\z.2<=s.length
def Qhm(h0:Int)(s:List UInt8)(z:(Int)×(Int)):Nat:=(s.length-z.2).toNat
def Qlm(h0:Int)(s:List UInt8):Tree Int:=
.lp inferInstance (Qhm h0 s (h0,0)+1) ((rE (h0:Int)/\rE (s:List UInt8)/\rE (0:Int)/\True)/\True) (h0,0) λ(v0:Int×Int)=> .br (decide (v0.2<(s.length:Int))) (.cn (decide (0<=v0.2/\v0.2<(s.length:Int))) (.nx ((rE ((wrap u64 (ixor u64 v0.1 (wrap u64 (↑(fB (s.getD v0.2.toNat (0:UInt8))):Int))*1099511628211)):Int)/\rE (s:List UInt8)/\rE ((wrap i64 (v0.2+1)):Int)/\True)/\True) (Sum.inl (wrap u64 (ixor u64 v0.1 (wrap u64 (↑(fB (s.getD v0.2.toNat (0:UInt8))):Int))*1099511628211),wrap i64 (v0.2+1))))) (.lf (Sum.inr v0.1))
def Qo1 h0 s:=(Qlm h0 s).m
def Qge(h0:Int)(s:List UInt8):Prop:=
s.length<=1000000000000
theorem Zc1(h0:Int)(s:List UInt8)(hw:Qge h0 s):(Qlm h0 s).p:=by
 simp only[Qge]at hw
 unfold Tree.p Qlm
 repeat'(first|refine w_lp (inv:=Qqp h0 s) (μ:=Qhm h0 s) ?_ (cO _) (λ_ _=> ?_)|exact trivial|refine w_br (λ_=> ?_) (λ_=> ?_)|refine w_cn ?_ ?_|refine w_an ?_ ?_|refine w_lv (λ_ _=> ?_)|refine w_nx ?_|refine w_lf ?_|refine And.intro ?_ ?_)
 all_goals((try simp only[Qqp,Qhm]at*);exact fin0)
def Zf8:LInv:={
 α:=(Int)×(Int)
 F:=λst a=>([(0, .int u64 a.1),(1,(lk st 1)),(5, .int i64 a.2)],[])
 a0:=λst=>((lk st 0).toInt,(lk st 5).toInt)
 ex0:=λst=>[]++[]}
def Z57:List (Nat×LInv):=[(2,Zf8)]
def Zjl:Q0b:=mkP 121 [] true [.one (.int .u64), .one (.str)] [] (λa r=>Qge (argI a 0) (argS a 1)) (λa r=>Qo1 (argI a 0) (argS a 1)) (λX=> .int .u64 X) (λX=>[])
theorem Ze4:Q04 pG Zjl:=Q0k drawn Q0g (.nil) Tryz.func121 Tryz.call121 (λa r=>Qlm (argI a 0) (argS a 1)) [] Z57 3 (hp:=λa r h=>Zc1 (argI a 0) (argS a 1) h)
def Qhw(m:Q00):Tree Int:=
.an (Qgx m) (.lv (Qs2 m) λ(x0:List UInt8)=> .an (Qge 14695981039346656037 x0) (.lv (Qo1 14695981039346656037 x0) λ(x1:Int)=> .lf x1))
def Z1e m:=(Qhw m).m
abbrev Qlo m:=(Qhw m).p
def Zjg:Q0b:=mT 33 [] true [.agg Q00.sig] [] (λa r=>Qhw (Q00.of (aC a 0))) (λX=> .int .u64 X) (λX=>[])
theorem Zgo:Q04 pG Zjg:=oT (.cons Ze4 (.cons Qr3 (.nil))) Tryz.func33 Tryz.call33 [] [] 2
end
noncomputable section
def Z2j(pc:Int):Tree Q02:=
.lf ({X:={a0:=0,a1:=0,a2:=0,a3:=0,a4:=0,a5:=0,a6:=0,a7:=0,a8:=0,a9:=0,a10:=0,a11:=0,a12:=0,a13:=0,a14:=0,a15:=0},Pc:=pc,B4:={a0:=1,a1:=0,a2:=0,a3:=0,a4:=0,a5:=0,a6:=0,a7:=0}})
def Zdx pc:=(Z2j pc).m
def Zh5:Q0b:=mS 166 [] true [.one (.int .u32)] [] (λa r=>Z2j (argI a 0)) (λX=> .agg (Q02.cells X)) (λX=>[])
theorem Zf4:Q04 pG Zh5:=oS (.nil) Tryz.func166 Tryz.call166 [] [] 2
def Qd(pages blocks:Int)(image:List Int):Tree (Q00×Int):=
let T1:Tree ((Q00×Int)):= .lf ({B1:={X:={a0:=0,a1:=0,a2:=0,a3:=0,a4:=0,a5:=0,a6:=0,a7:=0,a8:=0,a9:=0,a10:=0,a11:=0,a12:=0,a13:=0,a14:=0,a15:=0},Pc:=0,B4:={a0:=0,a1:=0,a2:=0,a3:=0,a4:=0,a5:=0,a6:=0,a7:=0}},Mem:=[],A2:={D0:=[]},A7:={D2:=false,C4:=0,D1:=false},A9:={Blocks:=0,C1:=0,Frame:=0,B8:=0,D4:=0,B5:=0,B2:=0,B7:=[]},B9:={Frame:=0,D8:=0,C5:=false,C0:=0,B6:=false,D9:=0},A1:={C6:=0,C2:=0},A4:=0,A3:=false,A6:=false},1200); .br (decide (pages<1)) T1 (.br (decide (pages>32)) T1 (.br (decide (blocks<0)) T1 (.br (decide (blocks>64)) T1 (.br (decide ((image.length:Int)>wrap i64 (pages*32))) T1 (.lv (Zdx 0) λ(x0:Q02)=> .an (Qjm pages) (.lv (Z76 pages) λ(x1:List Int)=> .lf ({B1:=x0,Mem:=dC (Min.min (image.length) (x1.length)) image++dD (Min.min (image.length) (x1.length)) x1,A2:={D0:=[]},A7:={D2:=false,C4:=0,D1:=false},A9:={Blocks:=wrap u32 blocks,C1:=0,Frame:=0,B8:=0,D4:=0,B5:=0,B2:=0,B7:=[]},B9:={Frame:=0,D8:=0,C5:=false,C0:=0,B6:=false,D9:=0},A1:={C6:=0,C2:=0},A4:=0,A3:=false,A6:=false},0)))))))
def Z3u pages blocks image:=(Qd pages blocks image).m
abbrev Qh3 pages blocks image:=(Qd pages blocks image).p
def Z9t:Q0b:=mT 81 [] true [.one (.int .i64), .one (.int .i64), .one (.ints .u32)] [] (λa r=>Qd (argI a 0) (argI a 1) (argL .u32 a 2)) (λX=> .tup [.agg (Q00.cellsW (X.1) (.all 0)), .int .i64 (X.2)]) (λX=>[⟨false,25,1, .ints .u32 (X.1).Mem⟩])
theorem Z6:Q04 pG Z9t:=oT (.cons Zf4 (.cons Zbo (.nil))) Tryz.func81 Tryz.call81 [.row 25 1 (.ints .u32)] [] 2
def Q7n(m:Q00)(clock:Int):Tree (Q00×(List Q09)×(List Int)):=
.an (Q06 m.Mem) (.lv (Q03 m.Mem) λ(x0:List Int)=>let E1:=({B1:=m.B1,Mem:=x0,A2:=m.A2,A7:=m.A7,A9:=m.A9,B9:=m.B9,A1:=m.A1,A4:=m.A4,A3:=m.A3,A6:=m.A6}:Q00); .an (Q7s E1) (.lv (Q25 E1) λ(x1:Bool)=> .br (!x1) (.lf (E1,[],m.Mem)) (.an (Q7 E1) (.lv (Q0s E1) λ(x2:Q00)=> .an (Qeb x2.B1 x2.Mem) (.lv (Q6j x2.B1 x2.Mem) λ(x3:Q02×List Int×Q0w)=>let E2:=({B1:=x3.1,Mem:=x3.2.1,A2:=x2.A2,A7:=x2.A7,A9:=x2.A9,B9:=x2.B9,A1:=x2.A1,A4:=x2.A4,A3:=x2.A3,A6:=x2.A6}:Q00); .br (x3.2.2.C3==1) (.an (Qa4 E2 x3.2.2.C7 clock) (.lv (Q12 E2 x3.2.2.C7 clock) λ(x4:Q00×Int)=> .br (x3.2.2.D7 !=0) (.cn (bT 0 1&&decide (0<=x3.2.2.D7/\x3.2.2.D7<(↑16:Int))) (.lf ({B1:={X:=A16.of 0 (dH (A16.l x4.1.B1.X) x3.2.2.D7.toNat x4.2),Pc:=x4.1.B1.Pc,B4:=x4.1.B1.B4},Mem:=x4.1.Mem,A2:=x4.1.A2,A7:=x4.1.A7,A9:=x4.1.A9,B9:=x4.1.B9,A1:=x4.1.A1,A4:=wrap u64 (x4.1.A4+1),A3:=x4.1.A3,A6:=x4.1.A6},[],m.Mem))) (.lf ({B1:=x4.1.B1,Mem:=x4.1.Mem,A2:=x4.1.A2,A7:=x4.1.A7,A9:=x4.1.A9,B9:=x4.1.B9,A1:=x4.1.A1,A4:=wrap u64 (x4.1.A4+1),A3:=x4.1.A3,A6:=x4.1.A6},[],m.Mem)))) (.br (x3.2.2.C3==2) (.an (Q9a E2 x3.2.2.C7 x3.2.2.Value m.A4) (.lv (Q23 E2 x3.2.2.C7 x3.2.2.Value m.A4) λ(x5:Q00×List Q09)=> .lf ({B1:=x5.1.B1,Mem:=x5.1.Mem,A2:=x5.1.A2,A7:=x5.1.A7,A9:=x5.1.A9,B9:=x5.1.B9,A1:=x5.1.A1,A4:=wrap u64 (x5.1.A4+1),A3:=x5.1.A3,A6:=x5.1.A6},x5.2,m.Mem))) (.br (x3.2.2.C3==3) (.lf ({B1:=x3.1,Mem:=x3.2.1,A2:=x2.A2,A7:=x2.A7,A9:=x2.A9,B9:=x2.B9,A1:=x2.A1,A4:=wrap u64 (x2.A4+1),A3:=true,A6:=x2.A6},[],m.Mem)) (.br (x3.2.2.C3==4) (.lf ({B1:=x3.1,Mem:=x3.2.1,A2:=x2.A2,A7:=x2.A7,A9:=x2.A9,B9:=x2.B9,A1:=x2.A1,A4:=wrap u64 (x2.A4+1),A3:=x2.A3,A6:=true},[],m.Mem)) (.lf ({B1:=x3.1,Mem:=x3.2.1,A2:=x2.A2,A7:=x2.A7,A9:=x2.A9,B9:=x2.B9,A1:=x2.A1,A4:=wrap u64 (x2.A4+1),A3:=x2.A3,A6:=x2.A6},[],m.Mem))))))))))
def Qqt m clock:=(Q7n m clock).m
abbrev Qby m clock:=(Q7n m clock).p
def Qyp:Q0b:=mT 39 [true,false] false [.agg (Q00.sigW (.row 0)), .one (.int .u32)] [.arr 25 1 (.ints .u32)] (λa r=>Q7n (Q00.ofW (aC a 0) (rowL .u32 r 0)) (argI a 1)) (λX=> .tup [.agg (Q00.cells (X.1)), .sl 4 (.recs .apiOutput (X.2.1)) false]) (λX=>[⟨false,25,1, .ints .u32 (X.2.2)⟩])
theorem Qut:Q04 pG Qyp:=oT (.cons Q1m (.cons Qnq (.cons Qmv (.cons Z1r (.cons Qs6 (.cons Qqd (.nil))))))) Tryz.func39 Tryz.call39 [.sl (.ints .u32) false, .sl (.recs .apiOutput) false] [] 2 (hff:=nofun)
def Qac(kind:Int)(l acts:List Int):Tree Q00:=
.an (Qml kind l) (.lv (Qej kind l) λ(x0:Q00)=> .an (Qsn x0 acts) (.lv (Z0h x0 acts) λ(x1:Q01×List Q09)=> .lf x1.1.A0))
def Qnd kind l acts:=(Qac kind l acts).m
abbrev Qfm kind l acts:=(Qac kind l acts).p
def Z4r:Q0b:=mT 17 [] true [.one (.int .i64), .one (.ints .i64), .one (.ints .i64)] [] (λa r=>Qac (argI a 0) (argL .i64 a 1) (argL .i64 a 2)) (λX=> .agg (Q00.cellsW X (.all 0))) (λX=>[⟨false,25,1, .ints .u32 X.Mem⟩])
theorem Z2f:Q04 pG Z4r:=oT (.cons Zfu (.cons Z2x (.nil))) Tryz.func17 Tryz.call17 [.row 25 1 (.ints .u32)] [] 2
def Qcf:Tree Bool:=
.an (Qh3 1 0 []) (.lv (Z3u 1 0 []) λ(x0:Q00×Int)=> .an (Qby x0.1 0) (.lv (Qqt x0.1 0) λ(x1:Q00×List Q09×List Int)=> .br (x0.2==0) (let E1:=({B1:=x0.1.B1,Mem:=x1.2.2,A2:=x0.1.A2,A7:=x0.1.A7,A9:=x0.1.A9,B9:=x0.1.B9,A1:=x0.1.A1,A4:=x0.1.A4,A3:=x0.1.A3,A6:=x0.1.A6}:Q00); .an (Q40 E1) (.lv (Q14 E1) λ(x2:Bool)=> .br x2 (.br (x1.1.A4==1) (.br (x1.1.B1.B4.a3==1) (.br ((x1.2.1.length:Int)==(0:Int)) (.an (Qan E1 x1.1) (.lv (Qnt E1 x1.1) λ(x3:Bool)=> .lf (!x3))) (.lf false)) (.lf false)) (.lf false)) (.lf false))) (.lf false)))
def Qdm:Bool:=(Qcf).m
abbrev Q6n:Prop:=(Qcf).p
def Zap:Q0b:=mT 16 [] true [] [] (λa r=>Qcf) (λX=> .bool X) (λX=>[])
theorem Z5n:Q04 pG Zap:=oT (.cons Z6 (.cons Qut (.cons Qjq (.cons Qnl (.nil))))) Tryz.func16 Tryz.call16 [] [] 2
end
noncomputable section
instance sumInhTd {α β:Type} [Inhabited β]:Inhabited (α⊕β):=⟨.inr default⟩
def Qkn(w:Q00)(raw:Bool)(kind:Int)(l acts:List Int)(where0 what:Int):Tree Q00:=
let T1:Tree (Q00):= .an (Qfm kind l acts) (.lv (Qnd kind l acts) λ(x0:Q00)=> .an (Qlk x0 where0 what) (.lv (Qtr x0 where0 what) λ(x1:Q00)=> .lf x1)); .br raw (.br (decide ((w.Mem.length:Int)<=(300:Int))) (.br (decide ((w.A2.D0.length:Int)<=(40:Int))) (.br (decide ((w.A9.B7.length:Int)<=(300:Int))) (.lf w) T1) T1) T1) T1
def Zka w raw kind l acts where0 what:=(Qkn w raw kind l acts where0 what).m
abbrev Qxh w raw kind l acts where0 what:=(Qkn w raw kind l acts where0 what).p
def Zop:Q0b:=Q0b.fz<|mkP 23 [] false [.agg Q00.sig, .one (.bool), .one (.int .i64), .one (.ints .i64), .one (.ints .i64), .one (.int .i64), .one (.int .i64)] [] (λa r=>Qxh (Q00.of (aC a 0)) (argB a 1) (argI a 2) (argL .i64 a 3) (argL .i64 a 4) (argI a 5) (argI a 6)) (λa r=>Zka (Q00.of (aC a 0)) (argB a 1) (argI a 2) (argL .i64 a 3) (argL .i64 a 4) (argI a 5) (argI a 6)) (λX=> .agg (Q00.cells X)) (λX=>[])
theorem Zh9:Q04 pG Zop:=fz_ok<|Q0k drawn Q0g (.cons Zdy (.cons Z2f (.nil))) Tryz.func23 Tryz.call23 (λa r=>Qkn (Q00.of (aC a 0)) (argB a 1) (argI a 2) (argL .i64 a 3) (argL .i64 a 4) (argI a 5) (argI a 6)) [.sl (.ints .u32) false] [] 2 (λ_ _ _=>by kernel_rfl) (λ_ _=>rfl) (λ_ _ h=>h) (λh=>by cases h)
def Q6h(kind:Int)(l acts:List Int)(where0 what:Int)(w:Q00)(raw:Bool):Tree Bool:=
.lv (Z00 l acts) λ(x0:Bool)=> .br (!x0) (.an Q6n (.lv Qdm λ(x1:Bool)=> .lf x1)) (.an (Qxh w raw kind l acts where0 what) (.lv (Zka w raw kind l acts where0 what) λ(x2:Q00)=> .an (Q40 x2) (.lv (Q14 x2) λ(x3:Bool)=> .lv (Q8e x2) λ(x4:Bool)=> .br (x3==x4) (.an (Qdr x2) (.lv (Q9t x2) λ(x5:Int)=> .an (Qju x2) (.lv (Qdj x2) λ(x6:Int)=> .br (x5==x6) (.an (Q7x x2) (.lv (Qbi x2) λ(x7:Bool)=> .an (Qgi x2) (.lv (Qcw x2) λ(x8:Bool)=> .br (x7==x8) (.an (Q8a x2) (.lv (Q8f x2) λ(x9:Bool)=> .an (Q59 x2) (.lv (Q54 x2) λ(x10:Bool)=> .br (x9==x10) (.an (Qcg x2) (.lv (Qjj x2) λ(x11:List UInt8)=> .an (Qgx x2) (.lv (Qs2 x2) λ(x12:List UInt8)=> .br (decide (x11=x12)) (.an (Qfl x2) (.lv (Qn9 x2) λ(x13:Int)=> .an (Qlo x2) (.lv (Z1e x2) λ(x14:Int)=> .br (x13==x14) (.an (Q8u x2) (.lv (Qg9 x2) λ(x15:Q00)=> .an (Qan x2 x15) (.lv (Qnt x2 x15) λ(x16:Bool)=> .br x16 (.an Q6n (.lv Qdm λ(x17:Bool)=> .lf x17)) (.lf false)))) (.lf false)))) (.lf false)))) (.lf false)))) (.lf false)))) (.lf false)))) (.lf false))))
def Qci kind l acts where0 what w raw:=(Q6h kind l acts where0 what w raw).m
abbrev Qd7 kind l acts where0 what w raw:=(Q6h kind l acts where0 what w raw).p
def Qq7:Q0b:=mT 4 [] true [.one (.int .i64), .one (.ints .i64), .one (.ints .i64), .one (.int .i64), .one (.int .i64), .agg Q00.sig, .one (.bool)] [] (λa r=>Q6h (argI a 0) (argL .i64 a 1) (argL .i64 a 2) (argI a 3) (argI a 4) (Q00.of (aC a 5)) (argB a 6)) (λX=> .bool X) (λX=>[])
theorem Qo4:Q04 pG Qq7:=oT (.cons Zj (.cons Z5n (.cons Zh9 (.cons Qjq (.cons Qm4 (.cons Qmh (.cons Que (.cons Qnz (.cons Qo9 (.cons Qo7 (.cons Qj3 (.cons Qkt (.cons Qr3 (.cons Z0v (.cons Zgo (.cons Qnl (.cons Qhn (.nil)))))))))))))))))) Tryz.func4 Tryz.call4 [] [] 2

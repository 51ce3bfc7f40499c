import Derived.Test.YthjfindbamdacaaGreatDoorPostNeedsZd
import Derived.Test.YthjfindbamdacaaGreatDoorPostNeedsZx
open Nat renaming beq->bT,blt->bJ,lt_succ_self->cL
open List renaming getD->aK,length->dG,append->cN,take->cW,drop->cX,replicate->cM
open Int renaming toNat->dB,tdiv->eN,tmod->dA
set_option maxRecDepth 100000
set_option linter.all false
namespace Go.Proofs.YthjfindbamdacaaGreatDoor
open Go Go.GD Go.IntKind
noncomputable section
instance sumInhZi {α β:Type} [Inhabited β]:Inhabited (α⊕β):=⟨.inr default⟩
def Qqj(src:List UInt8)(z:(Int)×(List Int)):Nat:=((Z11 src).2.1.length-z.1).toNat
def Qqg(src:List UInt8)(v0:Int×List Int)(z:(Int)×(List Int)):Nat:=(1024-z.1).toNat
def Q9g(src:List UInt8):Tree ((List Int)×Q1g):=
.an (Ql4 src) (.lv (Z11 src) λ(x0:List Q29×List Q08×Q1g)=>.br (x0.2.2.Err !=0) (.lf ([],x0.2.2)) (.lp inferInstance (Qqj src (0,[])+1) ((True/\rZ/\True/\True/\True/\rE (0:Int)/\True)/\(rE (0:Int)/\rE (0:Int)/\True)/\rE x0.1/\rE x0.2.1/\rE ([]:List Int)/\True) (0,[]) λ(v0:Int×List Int)=>.br (decide (v0.1<(x0.2.1.length:Int))) (.cn (bT 6 6&&bJ 0 6&&decide (0<=v0.1/\v0.1<(x0.2.1.length:Int))) (let E4:=x0.2.1.getD v0.1.toNat (RK.dflt RK.vmfleetref1Statement);let T1:Tree ((Int×List Int)⊕(((List Int)×Q1g))):=.lp inferInstance (Qqg src v0 (0,v0.2)+1) ((True/\rZ/\True/\True/\True/\rE v0.1/\rZ/\rE (0:Int)/\True)/\(rE (0:Int)/\rE (0:Int)/\True)/\rE x0.1/\rE x0.2.1/\(rE ((x0.2.1.getD v0.1.toNat (RK.dflt RK.vmfleetref1Statement)).what:List UInt8)/\rE ((x0.2.1.getD v0.1.toNat (RK.dflt RK.vmfleetref1Statement)).op:Int)/\((Els.Nil (D.toEs (aK (Els.get (Els.recs RK.vmfleetref1Statement x0.2.1) v0.1.toNat) ((0:Nat)+(1:Nat)+(1:Nat)) D.dead))\/rE (3:Nat))/\rE ((x0.2.1.getD v0.1.toNat (RK.dflt RK.vmfleetref1Statement)).l:List (RK.T RK.vmfleetref1Arg)))/\rE ((x0.2.1.getD v0.1.toNat (RK.dflt RK.vmfleetref1Statement)).D3:Int)/\rE ((x0.2.1.getD v0.1.toNat (RK.dflt RK.vmfleetref1Statement)).at_:Int)/\rE ((x0.2.1.getD v0.1.toNat (RK.dflt RK.vmfleetref1Statement)).size:Int)/\True)/\rE v0.2/\True) (0,v0.2) λ(v1:Int×List Int)=>.br (decide (v1.1<E4.size)) (.cn (decide (4*(v1.2.length+1)<=140737488355328)) (.nx ((True/\rZ/\True/\True/\True/\rE v0.1/\rZ/\rE ((wrap i64 (v1.1+1)):Int)/\True)/\(rE (0:Int)/\rE (0:Int)/\True)/\rE x0.1/\rE x0.2.1/\(rE ((x0.2.1.getD v0.1.toNat (RK.dflt RK.vmfleetref1Statement)).what:List UInt8)/\rE ((x0.2.1.getD v0.1.toNat (RK.dflt RK.vmfleetref1Statement)).op:Int)/\((Els.Nil (Els.recs RK.vmfleetref1Arg (x0.2.1.getD v0.1.toNat (RK.dflt RK.vmfleetref1Statement)).l)\/rE (3:Nat))/\rE ((x0.2.1.getD v0.1.toNat (RK.dflt RK.vmfleetref1Statement)).l:List (RK.T RK.vmfleetref1Arg)))/\rE ((x0.2.1.getD v0.1.toNat (RK.dflt RK.vmfleetref1Statement)).D3:Int)/\rE ((x0.2.1.getD v0.1.toNat (RK.dflt RK.vmfleetref1Statement)).at_:Int)/\rE ((x0.2.1.getD v0.1.toNat (RK.dflt RK.vmfleetref1Statement)).size:Int)/\True)/\rE ((v1.2++[0]):List Int)/\True) (Sum.inl (wrap i64 (v1.1+1),v1.2++[0])))) (.nx ((True/\rZ/\True/\True/\True/\rE ((wrap i64 (v0.1+1)):Int)/\True)/\(rE (0:Int)/\rE (0:Int)/\True)/\rE x0.1/\rE x0.2.1/\rE v1.2/\True) (Sum.inr (Sum.inl (wrap i64 (v0.1+1),v1.2))));let E5:=bT 3 3&&bJ 0 3&&decide ((0:Int)<=(0:Int)/\0<(↑(dG E4.l):Int));let E7:=aK E4.l (dB 0) (RK.dflt RK.vmfleetref1Arg);let E8:=decide (4*(v0.2.length+1)<=140737488355328);let T2:Tree ((Int×List Int)⊕(((List Int)×Q1g))):=.cn E5 (.cn (bT 3 3&&bJ 0 3&&decide ((0:Int)<=(1:Int)/\1<(↑(dG E4.l):Int))) (.lv (Q1o {Op:=16,A:=E7.reg,B:=(aK E4.l (dB 1) (RK.dflt RK.vmfleetref1Arg)).reg,C:=0,Imm:=0}) λ(x4:Int×Bool)=>.cn E8 (.nx ((True/\rZ/\True/\True/\True/\rE ((wrap i64 (v0.1+1)):Int)/\True)/\(rE (0:Int)/\rE (0:Int)/\True)/\rE x0.1/\rE x0.2.1/\rE ((v0.2++[x4.1]):List Int)/\True) (Sum.inl (wrap i64 (v0.1+1),v0.2++[x4.1])))));let T3:Tree ((Int×List Int)⊕(((List Int)×Q1g))):=.lv (Q1o {Op:=16,A:=0,B:=0,C:=0,Imm:=0}) λ(x5:Int×Bool)=>.cn E8 (.nx ((True/\rZ/\True/\True/\True/\rE ((wrap i64 (v0.1+1)):Int)/\True)/\(rE (0:Int)/\rE (0:Int)/\True)/\rE x0.1/\rE x0.2.1/\rE ((v0.2++[x5.1]):List Int)/\True) (Sum.inl (wrap i64 (v0.1+1),v0.2++[x5.1])));let E9:=decide (E4.what=[(46:UInt8),115,112,97,99,101]);let E10:=decide (E4.what=[(46:UInt8),119,111,114,100]);let E12:=decide (E4.what=[(110:UInt8),111,112]);let E13:=decide (4*(v0.2.length+2)<=140737488355328);let E14:=decide (E4.what=[(108:UInt8),105]);let E15:=decide (E4.what=[(109:UInt8),118]);.br (decide ((↑(dG E4.l):Int)>(0:Int))) (.cn (bT 3 3&&bJ 0 3&&decide (0<=wrap i64 ((↑(dG E4.l):Int)-(1:Int))/\wrap i64 ((↑(dG E4.l):Int)-(1:Int))<(↑(dG E4.l):Int))) (let E6:=aK E4.l (dB (wrap i64 ((↑(dG E4.l):Int)-(1:Int)))) (RK.dflt RK.vmfleetref1Arg);.br (!decide (E6.label=[])) (.an (Q3t x0.1 E6.label) (.lv (Qn2 x0.1 E6.label) λ(x1:Int×Bool)=>.br (!x1.2) (.lf (Sum.inr ([],{Err:=302,Line:=E4.D3}))) (.br (decide (E4.op>0)) (let E11:=wrap i64 (wrap i64 (eN (wrap i64 x1.1) 4)-E4.at_);.br E10 (.cn E8 (.nx ((True/\rZ/\True/\True/\True/\rE ((wrap i64 (v0.1+1)):Int)/\True)/\(rE (0:Int)/\rE (0:Int)/\True)/\rE x0.1/\rE x0.2.1/\rE ((v0.2++[wrap u32 (wrap i64 (wrap i64 (eN (wrap i64 x1.1) 4)-(x0.2.1.getD v0.1.toNat (RK.dflt RK.vmfleetref1Statement)).at_))]):List Int)/\True) (Sum.inl (wrap i64 (v0.1+1),v0.2++[wrap u32 E11])))) (.br E9 T1 (.br E14 (.cn E5 (.lv (Q1o {Op:=24,A:=E7.reg,B:=0,C:=0,Imm:=wrap i32 (ishr u32 (wrap u32 E11) 16)}) λ(x2:Int×Bool)=>.cn E5 (.cn E5 (.lv (Q1o {Op:=18,A:=E7.reg,B:=E7.reg,C:=0,Imm:=wrap i32 (iand u32 (wrap u32 E11) 65535)}) λ(x3:Int×Bool)=>.cn E13 (.nx ((True/\rZ/\True/\True/\True/\rE ((wrap i64 (v0.1+1)):Int)/\True)/\(rE (0:Int)/\rE (0:Int)/\True)/\rE x0.1/\rE x0.2.1/\rE ((v0.2++[x2.1,x3.1]):List Int)/\True) (Sum.inl (wrap i64 (v0.1+1),v0.2++[x2.1,x3.1]))))))) (.br E15 T2 (.br E12 T3 (.an (Qa E4 E11) (.lv (Qnv E4 E11) λ(x6:Int×Bool)=>.br (!x6.2) (.lf (Sum.inr ([],{Err:=304,Line:=E4.D3}))) (.cn E8 (.nx ((True/\rZ/\True/\True/\True/\rE ((wrap i64 (v0.1+1)):Int)/\True)/\(rE (0:Int)/\rE (0:Int)/\True)/\rE x0.1/\rE x0.2.1/\rE ((v0.2++[x6.1]):List Int)/\True) (Sum.inl (wrap i64 (v0.1+1),v0.2++[x6.1]))))))))))) (.br E10 (.cn E8 (.nx ((True/\rZ/\True/\True/\True/\rE ((wrap i64 (v0.1+1)):Int)/\True)/\(rE (0:Int)/\rE (0:Int)/\True)/\rE x0.1/\rE x0.2.1/\rE ((v0.2++[wrap u32 (wrap i64 x1.1)]):List Int)/\True) (Sum.inl (wrap i64 (v0.1+1),v0.2++[wrap u32 (wrap i64 x1.1)])))) (.br E9 T1 (.br E14 (.cn E5 (.lv (Q1o {Op:=24,A:=E7.reg,B:=0,C:=0,Imm:=wrap i32 (ishr u32 (wrap u32 (wrap i64 x1.1)) 16)}) λ(x7:Int×Bool)=>.cn E5 (.cn E5 (.lv (Q1o {Op:=18,A:=E7.reg,B:=E7.reg,C:=0,Imm:=wrap i32 (iand u32 (wrap u32 (wrap i64 x1.1)) 65535)}) λ(x8:Int×Bool)=>.cn E13 (.nx ((True/\rZ/\True/\True/\True/\rE ((wrap i64 (v0.1+1)):Int)/\True)/\(rE (0:Int)/\rE (0:Int)/\True)/\rE x0.1/\rE x0.2.1/\rE ((v0.2++[x7.1,x8.1]):List Int)/\True) (Sum.inl (wrap i64 (v0.1+1),v0.2++[x7.1,x8.1]))))))) (.br E15 T2 (.br E12 T3 (.an (Qa E4 (wrap i64 x1.1)) (.lv (Qnv E4 (wrap i64 x1.1)) λ(x11:Int×Bool)=>.br (!x11.2) (.lf (Sum.inr ([],{Err:=304,Line:=E4.D3}))) (.cn E8 (.nx ((True/\rZ/\True/\True/\True/\rE ((wrap i64 (v0.1+1)):Int)/\True)/\(rE (0:Int)/\rE (0:Int)/\True)/\rE x0.1/\rE x0.2.1/\rE ((v0.2++[x11.1]):List Int)/\True) (Sum.inl (wrap i64 (v0.1+1),v0.2++[x11.1])))))))))))))) (.br E10 (.cn E8 (.nx ((True/\rZ/\True/\True/\True/\rE ((wrap i64 (v0.1+1)):Int)/\True)/\(rE (0:Int)/\rE (0:Int)/\True)/\rE x0.1/\rE x0.2.1/\rE ((v0.2++[wrap u32 (aK (x0.2.1.getD v0.1.toNat (RK.dflt RK.vmfleetref1Statement)).l (dB (wrap i64 ((↑(dG (x0.2.1.getD v0.1.toNat (RK.dflt RK.vmfleetref1Statement)).l):Int)-(1:Int)))) (RK.dflt RK.vmfleetref1Arg)).num]):List Int)/\True) (Sum.inl (wrap i64 (v0.1+1),v0.2++[wrap u32 E6.num])))) (.br E9 T1 (.br E14 (.cn E5 (.lv (Q1o {Op:=24,A:=E7.reg,B:=0,C:=0,Imm:=wrap i32 (ishr u32 (wrap u32 E6.num) 16)}) λ(x12:Int×Bool)=>.cn E5 (.cn E5 (.lv (Q1o {Op:=18,A:=E7.reg,B:=E7.reg,C:=0,Imm:=wrap i32 (iand u32 (wrap u32 E6.num) 65535)}) λ(x13:Int×Bool)=>.cn E13 (.nx ((True/\rZ/\True/\True/\True/\rE ((wrap i64 (v0.1+1)):Int)/\True)/\(rE (0:Int)/\rE (0:Int)/\True)/\rE x0.1/\rE x0.2.1/\rE ((v0.2++[x12.1,x13.1]):List Int)/\True) (Sum.inl (wrap i64 (v0.1+1),v0.2++[x12.1,x13.1]))))))) (.br E15 T2 (.br E12 T3 (.an (Qa E4 E6.num) (.lv (Qnv E4 E6.num) λ(x16:Int×Bool)=>.br (!x16.2) (.lf (Sum.inr ([],{Err:=304,Line:=E4.D3}))) (.cn E8 (.nx ((True/\rZ/\True/\True/\True/\rE ((wrap i64 (v0.1+1)):Int)/\True)/\(rE (0:Int)/\rE (0:Int)/\True)/\rE x0.1/\rE x0.2.1/\rE ((v0.2++[x16.1]):List Int)/\True) (Sum.inl (wrap i64 (v0.1+1),v0.2++[x16.1]))))))))))))) (.br E10 (.cn E8 (.nx ((True/\rZ/\True/\True/\True/\rE ((wrap i64 (v0.1+1)):Int)/\True)/\(rE (0:Int)/\rE (0:Int)/\True)/\rE x0.1/\rE x0.2.1/\rE ((v0.2++[wrap u32 0]):List Int)/\True) (Sum.inl (wrap i64 (v0.1+1),v0.2++[wrap u32 0])))) (.br E9 T1 (.br E14 (.cn E5 (.lv (Q1o {Op:=24,A:=E7.reg,B:=0,C:=0,Imm:=wrap i32 (ishr u32 (wrap u32 0) 16)}) λ(x17:Int×Bool)=>.cn E5 (.cn E5 (.lv (Q1o {Op:=18,A:=E7.reg,B:=E7.reg,C:=0,Imm:=wrap i32 (iand u32 (wrap u32 0) 65535)}) λ(x18:Int×Bool)=>.cn E13 (.nx ((True/\rZ/\True/\True/\True/\rE ((wrap i64 (v0.1+1)):Int)/\True)/\(rE (0:Int)/\rE (0:Int)/\True)/\rE x0.1/\rE x0.2.1/\rE ((v0.2++[x17.1,x18.1]):List Int)/\True) (Sum.inl (wrap i64 (v0.1+1),v0.2++[x17.1,x18.1]))))))) (.br E15 T2 (.br E12 T3 (.an (Qa E4 0) (.lv (Qnv E4 0) λ(x21:Int×Bool)=>.br (!x21.2) (.lf (Sum.inr ([],{Err:=304,Line:=E4.D3}))) (.cn E8 (.nx ((True/\rZ/\True/\True/\True/\rE ((wrap i64 (v0.1+1)):Int)/\True)/\(rE (0:Int)/\rE (0:Int)/\True)/\rE x0.1/\rE x0.2.1/\rE ((v0.2++[x21.1]):List Int)/\True) (Sum.inl (wrap i64 (v0.1+1),v0.2++[x21.1]))))))))))))) (.lf (Sum.inr (v0.2,{Err:=0,Line:=0})))))
def Q1e src:=(Q9g src).m
abbrev Q9y src:=(Q9g src).p
def Qxo:LInv:={
 α:=(Int)×(List Int)
 F:=λst a=>([(2,(lk st 2)),(3,.ptr 0 0 0),(4,.all 1),(5,.all 2),(7,.all 3),(8,.int i64 a.1)],[⟨true,112,2,.gen [[(cT st 3 0),(cT st 3 1)]]⟩,⟨false,238,2,esOf st.rows (rN st 4)⟩,⟨false,175,6,esOf st.rows (rN st 5)⟩,⟨false,23,1,.ints u32 a.2⟩])
 a0:=λst=>((lk st 8).toInt,(Q5t st.rows (rN st 7)))
 ex0:=λst=>[]++[(rX st 3 0),(rX st 4 1),(rX st 5 2),(rX st 7 3)]}
def Qxf:LInv:={
 α:=(Int)×(List Int)
 F:=λst a=>([(2,(lk st 2)),(3,.ptr 0 0 0),(4,.all 1),(5,.all 2),(7,.all 4),(8,(lk st 8)),(9,.ptr 3 0 0),(14,.int i64 a.1)],[⟨true,112,2,.gen [[(cT st 3 0),(cT st 3 1)]]⟩,⟨false,238,2,esOf st.rows (rN st 4)⟩,⟨false,175,6,esOf st.rows (rN st 5)⟩,⟨true,175,6,.gen [[(cT st 9 0),(cT st 9 1),(cT st 9 2),(cT st 9 3),(cT st 9 4),(cT st 9 5)]]⟩,⟨false,23,1,.ints u32 a.2⟩])
 a0:=λst=>((lk st 14).toInt,(Q5t st.rows (rN st 7)))
 ex0:=λst=>[]++[(rX st 3 0),(rX st 4 1),(rX st 5 2),(rX st 9 3),(rX st 7 4)]}
def Qs1:List (Nat×LInv):=[(6,Qxo),(29,Qxf)]
def Z1y:Q0a:=mT 49 [] true [.one (.str)] [] (λa r=>Q9g (argS a 0)) (λX=>.tup [.all 0,.agg (Q1g.cells (X.2))]) (λX=>[⟨false,23,1,.ints .u32 (X.1)⟩])
theorem Qxb:Q04 pG Z1y:=oT (.cons Zcd (.cons Qmt (.cons Qjd (.cons Zdg (.nil))))) Tryz.func49 Tryz.call49 [.row 23 1 (.ints .u32)] Qs1 3
end
noncomputable section
instance sumInhZh {α β:Type} [Inhabited β]:Inhabited (α⊕β):=⟨.inr default⟩
end
noncomputable section
def tblZe0:List UInt8:=[(105:UInt8),32,114,49,44,32,104,97,110,100,108,101,114,10,99,115,114,119,32,114,49,44,32,49,10,108,105,32,114,49,44,32,51,49,10,99,115,114,119,32,114]
def Z6e:List UInt8:=[(49:UInt8),44,32,55,10,108,105,32,114,49,44,32,52,10,99,115,114,119,32,114,49,44,32,54,10,108,105,32,114,50,44,32,53,49,50,10,108,105,32,114,51,44]
def Z6h:List UInt8:=[(32:UInt8),48,10,108,105,32,114,52,44,32,56,10,109,97,112,58,32,115,104,108,105,32,114,53,44,32,114,51,44,32,56,10,111,114,105,32,114,53,44,32,114,53]
def Z61:List UInt8:=[(44:UInt8),32,55,10,115,104,108,105,32,114,54,44,32,114,51,44,32,50,10,97,100,100,32,114,54,44,32,114,54,44,32,114,50,10,115,119,32,114,53,44,32,48,40]
def Z5e:List UInt8:=[(114:UInt8),54,41,10,97,100,100,105,32,114,51,44,32,114,51,44,32,49,10,98,108,116,32,114,51,44,32,114,52,44,32,109,97,112,10,108,105,32,114,49,44,32]
def Z64:List UInt8:=[(54:UInt8),10,111,117,116,32,114,49,44,32,55,10,108,105,32,114,49,44,32,50,10,111,117,116,32,114,49,44,32,57,10,108,105,32,114,49,44,32,49,48,48,10,111]
def Z4w:List UInt8:=[(117:UInt8),116,32,114,49,44,32,51,10,108,105,32,114,49,44,32,54,52,48,10,99,115,114,119,32,114,49,44,32,50,10,108,105,32,114,49,44,32,50,49,10,99]
def Z5p:List UInt8:=[(115:UInt8),114,119,32,114,49,44,32,48,10,101,114,101,116,10,104,97,110,100,108,101,114,58,32,99,115,114,119,32,114,49,44,32,53,10,99,115,114,114,32,114,49,44]
def Z5l:List UInt8:=[(32:UInt8),51,10,115,108,116,105,32,114,49,44,32,114,49,44,32,49,54,10,98,101,113,32,114,49,44,32,114,48,44,32,105,114,113,10,99,115,114,114,32,114,49]
def Z5f:List UInt8:=[(44:UInt8),32,50,10,97,100,100,105,32,114,49,44,32,114,49,44,32,52,10,99,115,114,119,32,114,49,44,32,50,10,105,110,32,114,51,44,32,50,10,111,117,116]
def Qvb:List UInt8:=[(32:UInt8),114,51,44,32,48,10,108,105,32,114,49,44,32,49,10,111,117,116,32,114,49,44,32,52,10,108,105,32,114,49,44,32,55,10,111,117,116,32,114,49,44]
def Qu9:List UInt8:=[(32:UInt8),53,10,97,110,100,105,32,114,49,44,32,114,50,44,32,49,10,97,100,100,105,32,114,49,44,32,114,49,44,32,49,10,111,117,116,32,114,49,44,32,54,10]
def Quk:List UInt8:=[(99:UInt8),115,114,114,32,114,49,44,32,53,10,101,114,101,116,10,105,114,113,58,32,105,110,32,114,49,44,32,48,10,111,117,116,32,114,49,44,32,48,10,111,117]
def Qvl:List UInt8:=[(116:UInt8),32,114,48,44,32,54,10,111,117,116,32,114,48,44,32,57,10,108,105,32,114,49,44,32,54,10,111,117,116,32,114,49,44,32,55,10,108,105,32,114,49,44]
def Qty:List UInt8:=[(32:UInt8),50,10,111,117,116,32,114,49,44,32,57,10,105,110,32,114,49,44,32,50,10,97,100,100,105,32,114,49,44,32,114,49,44,32,50,48,10,111,117,116,32]
def Qu2:List UInt8:=[(114:UInt8),49,44,32,51,10,105,110,32,114,49,44,32,49,48,10,111,117,116,32,114,49,44,32,49,48,10,99,115,114,114,32,114,49,44,32,53,10,101,114,101,116,10]
def Z8t:List UInt8:=[(108:UInt8),105,32,114,49,44,32,104,97,110,100,108,101,114,10,99,115,114,119,32,114,49,44,32,49,10,108,105,32,114,49,44,32,51,49,10,99,115,114,119,32,114]
instance sumInhZe {α β:Type} [Inhabited β]:Inhabited (α⊕β):=⟨.inr default⟩
def Qjv(l:List Q33)(z:(Int)):Prop:=1<=z/\(z<=l.length\/z=1)
def Qcf(l:List Q33)(z:(Int)):Nat:=(l.length-z).toNat
def Qdu(l:List Q33):Tree Bool:=
.lp inferInstance (Qcf l 1+1) ((nR RK.apiEntry 4 l/\rE (1:Int)/\True)/\True) 1 λ(v0:Int)=>.br (decide (v0<(l.length:Int))) (let E4:=bT 4 4&&bJ 0 4&&decide (0<=v0/\v0<(l.length:Int));.cn E4 (let E2:=bT 4 4&&bJ 0 4&&decide (0<=wrap i64 (v0-1)/\wrap i64 (v0-1)<(l.length:Int));.cn E2 (let E3:=l.getD (dB (wrap i64 (v0-1))) (RK.dflt RK.apiEntry);let E5:=l.getD v0.toNat (RK.dflt RK.apiEntry);.br (decide (E5.At<E3.At)) (.lf (Sum.inr false)) (.cn E4 (.cn E2 (let T1:Tree ((Int)⊕(Bool)):=.nx ((nR RK.apiEntry 4 l/\rE ((wrap i64 (v0+1)):Int)/\True)/\True) (Sum.inl (wrap i64 (v0+1)));.br (E5.At==E3.At) (.cn E2 (.br (E3.Event.C2==1) (.lf (Sum.inr false)) T1)) T1)))))) (.lf (Sum.inr true))
def Qwu l:=(Qdu l).m
def Q87(l:List Q33):Prop:=
l.length<=1000000000000
theorem Qxw(l:List Q33)(hw:Q87 l):(Qdu l).p:=by
 simp only[Q87]at hw
 unfold Tree.p Qdu
 repeat'(first|refine w_lp (inv:=Qjv l) (μ:=Qcf l) ?_ (cL _) (λ_ _=>?_)|exact trivial|refine w_br (λ_=>?_) (λ_=>?_)|refine w_cn ?_ ?_|refine w_an ?_ ?_|refine w_lv (λ_ _=>?_)|refine w_nx ?_|refine w_lf ?_|refine And.intro ?_ ?_)
 all_goals((try simp only[Qjv,Qcf]at*);exact fin0)
def Z2d:LInv:={
 α:=(Int)
 F:=λst a=>([(0,(lk st 0)),(3,.int i64 a)],[])
 a0:=λst=>(lk st 3).toInt
 ex0:=λst=>[]++[]}
def Qum:List (Nat×LInv):=[(2,Z2d)]
def Z3v:Q0a:=mkP 102 [] true [.one (.recs .apiEntry)] [] (λa r=>Q87 (argR .apiEntry a 0)) (λa r=>Qwu (argR .apiEntry a 0)) (λX=>.bool X) (λX=>[])
theorem Z1v:Q04 pG Z3v:=Q0i drawn Q0h (.nil) Tryz.func102 Tryz.call102 (λa r=>Qdu (argR .apiEntry a 0)) [] Qum 3 (hp:=λa r h=>Qxw (argR .apiEntry a 0) h)
def Qfc(m:Q00)(script:List Q33)(until0:Int)(z:Q00×(List Q0b)):Nat:=(until0-z.1.A3).toNat
def Qf3(m:Q00)(script:List Q33)(until0:Int)(v0:Q00×List Q0b)(z:Unit):Nat:=0
def Q8u(m:Q00)(script:List Q33)(until0:Int):Tree (Q00×(List Q0b)×Int×Int):=
.lv (Qbv m) λ(x0:Bool)=>let E2:=({B2:={X:={a0:=0,a1:=0,a2:=0,a3:=0,a4:=0,a5:=0,a6:=0,a7:=0,a8:=0,a9:=0,a10:=0,a11:=0,a12:=0,a13:=0,a14:=0,a15:=0},Pc:=0,B3:={a0:=0,a1:=0,a2:=0,a3:=0,a4:=0,a5:=0,a6:=0,a7:=0}},Mem:=[],A2:={C9:=[]},A9:={D4:=false,C6:=0,D2:=false},A7:={Blocks:=0,B8:=0,Frame:=0,B7:=0,D6:=0,B4:=0,B1:=0,C0:=[]},C1:={Frame:=0,D8:=0,C3:=false,B6:=0,B5:=false,E0:=0},A0:={C4:=0,B9:=0},A3:=0,A4:=false,A6:=false}:Q00);let T1:Tree ((Q00×(List Q0b)×Int×Int)):=.lf (E2,[],0,1300);.br (!x0) T1 (.br (decide (until0<m.A3)) T1 (.br (decide (wrap u64 (until0-m.A3)>4000)) T1 (.an (Q87 []) (.lv (Qwu []) λ(x1:Bool)=>.br (!x1) (.lf (E2,[],0,1301)) (.an (Qiq m) (.lv (Qof m) λ(x2:Q00)=>.lp inferInstance (Qfc m script until0 (x2,[])+1) ((((Els.Nil (Els.gen [])\/rE (0:Nat))/\rE ([]:List (List D)))/\rE (until0:Int)/\rZ/\rZ/\True/\rE (0:Int)/\True)/\(mE x2 True True)/\rE x2.Mem/\(mE zM True True)/\rE ([]:List (RK.T RK.apiOutput))/\True) (x2,[]) λ(v0:Q00×List Q0b)=>.br (decide (v0.1.A3<until0)) (.br (decide (v0.1.A3<1152921504606846976)) (.lp inferInstance (Qf3 m script until0 v0 ()+1) ((((Els.Nil (Els.gen [])\/rE (0:Nat))/\rE ([]:List (List D)))/\rE (until0:Int)/\rZ/\rZ/\True/\rE (0:Int)/\(rE (0:Nat)/\rE (46:Nat))/\rE v0.1.A3/\rE ((decide (v0.1.A3<1152921504606846976)):Bool)/\True)/\(mE v0.1 True True)/\rE v0.1.Mem/\(mE zM True True)/\rE v0.2/\True) () λ(v1:PUnit)=>.br v0.1.A6 (.lf (Sum.inr (Sum.inr (v0.1,v0.2,0,0)))) (.an (Qks v0.1) (.lv (Qep v0.1) λ(x3:Bool)=>.br x3 (.lf (Sum.inr (Sum.inr (v0.1,v0.2,0,0)))) (.an (Qpw v0.1) (.lv (Z5m v0.1) λ(x4:Bool)=>.br (!false==x4) (.lf (Sum.inr (Sum.inr (E2,[],0,1302)))) (.an (Qf4 v0.1 0) (.lv (Q22 v0.1 0) λ(x5:List Q0b×Q00)=>.cn (decide (40*(v0.2.length+x5.1.length)<=140737488355328)) (.nx ((((Els.Nil (Els.gen [])\/rE (0:Nat))/\rE ([]:List (List D)))/\rE (until0:Int)/\rZ/\rZ/\True/\rE (0:Int)/\True)/\(mE x5.2 True True)/\rE x5.2.Mem/\(mE zM True True)/\rE ((v0.2++x5.1):List (RK.T RK.apiOutput))/\True) (Sum.inr (Sum.inl (x5.2,v0.2++x5.1))))))))))) (.lf (Sum.inr (v0.1,v0.2,0,0)))) (.lf (Sum.inr (v0.1,v0.2,0,0)))))))))
def Qdt m script until0:=(Q8u m script until0).m
abbrev Qal m script until0:=(Q8u m script until0).p
def Z7c:LInv:={
 α:=Q00×(List Q0b)
 F:=λst a=>([(1,(lk st 1)),(2,(lk st 2)),(3,.ptr 0 0 0),(6,.ptr 2 0 0),(10,.all 3),(11,(lk st 11))],[⟨true,42,49,.gen [mD a.1 (.all 1)]⟩,⟨false,23,1,.ints u32 a.1.Mem⟩,⟨true,42,49,.gen [mB (cT st 6)]⟩,⟨false,137,4,.recs RK.apiOutput a.2⟩])
 a0:=λst=>((mR (cT st 3) (Q5t st.rows (Q1c (cT st 3 25) 1000000))),(Qlr RK.apiOutput st.rows (rN st 10)))
 ex0:=λst=>[]++[(rX st 3 0),(Q1c (cT st 3 25) (st.rows.length+1)),(rX st 6 2),(rX st 10 3)]}
def Z9u:LInv:={
 α:=Unit
 F:=λst a=>([(1,(lk st 1)),(2,(lk st 2)),(3,.ptr 0 0 0),(6,.ptr 2 0 0),(10,.all 3),(11,(lk st 11)),(61,.ptr 0 0 46),(62,(lk st 62)),(63,(lk st 63))],[⟨true,42,49,.gen [[(cT st 3 0),(cT st 3 1),(cT st 3 2),(cT st 3 3),(cT st 3 4),(cT st 3 5),(cT st 3 6),(cT st 3 7),(cT st 3 8),(cT st 3 9),(cT st 3 10),(cT st 3 11),(cT st 3 12),(cT st 3 13),(cT st 3 14),(cT st 3 15),(cT st 3 16),(cT st 3 17),(cT st 3 18),(cT st 3 19),(cT st 3 20),(cT st 3 21),(cT st 3 22),(cT st 3 23),(cT st 3 24),.all 1,(cT st 3 26),(cT st 3 27),(cT st 3 28),(cT st 3 29),(cT st 3 30),(cT st 3 31),(cT st 3 32),(cT st 3 33),(cT st 3 34),(cT st 3 35),(cT st 3 36),(cT st 3 37),(cT st 3 38),(cT st 3 39),(cT st 3 40),(cT st 3 41),(cT st 3 42),(cT st 3 43),(cT st 3 44),(cT st 3 45),(cT st 3 46),(cT st 3 47),(cT st 3 48)]]⟩,⟨false,23,1,esOf st.rows (Q1c (cT st 3 25) 1000000)⟩,⟨true,42,49,.gen [mB (cT st 6)]⟩,⟨false,137,4,esOf st.rows (rN st 10)⟩])
 a0:=λst=>()
 ex0:=λst=>[]++[(rX st 3 0),(Q1c (cT st 3 25) (st.rows.length+1)),(rX st 6 2),(rX st 10 3)]}
def Z0r:List (Nat×LInv):=[(8,Z7c),(9,Z9u)]
def Zdc:Q0a:=mT 52 [] true [.agg Q00.sig,.one .nil,.one (.int .u64)] [] (λa r=>Q8u (Q00.of (aC a 0)) (argR .apiEntry a 1) (argI a 2)) (λX=>.tup [.agg (Q00.cellsW (X.1) (.all 0)),.all 1,.int .i64 (X.2.2.1),.int .i64 (X.2.2.2)]) (λX=>[⟨false,23,1,.ints .u32 (X.1).Mem⟩,⟨false,137,4,.recs .apiOutput (X.2.1)⟩])
theorem Z85:Q04 pG Zdc:=oT (.cons Qqh (.cons Z1v (.cons Qqn (.cons Qs (.cons Qww (.cons Z8c (.cons Qmh (.nil)))))))) Tryz.func52 Tryz.call52 [.row 23 1 (.ints .u32),.row 137 4 (.recs .apiOutput)] Z0r 3
def Qbs(kind:Int)(l z:List Int):Nat:=160-z.length
def Q6n(kind:Int)(l:List Int):Tree Q00:=
.an (Q4d kind 3) (.lv (Q7i kind 3) λ(x0:Int)=>.br (decide (x0<2)) (.an (Q9y ((108:UInt8)::(tblZe0++Z6e++(Z6h++Z61)++(Z5e++Z64++(Z4w++Z5p))++(Z5l++Z5f++(Qvb++Qu9)++(Quk++Qvl++(Qty++Qu2)))))) (.lv (Q1e (cN (cN (cN (cN Z8t Z6e) (cN Z6h Z61)) (cN (cN Z5e Z64) (cN Z4w Z5p))) (cN (cN (cN Z5l Z5f) (cN Qvb Qu9)) (cN (cN Quk Qvl) (cN Qty Qu2))))) λ(x1:List Int×Q1g)=>.lp inferInstance (Qbs kind l x1.1+1) ((rE (x0:Int)/\((Els.Nil (Els.ints i64 l)\/rE (1:Nat))/\rE (l:List Int))/\rZ/\True/\True)/\(mE zM True True)/\rE x1.1/\True) x1.1 λ(v0:List Int)=>.br (decide ((v0.length:Int)<(160:Int))) (.cn (decide (4*(v0.length+1)<=140737488355328)) (.nx ((rE (x0:Int)/\((Els.Nil (Els.ints i64 l)\/rE (1:Nat))/\rE (l:List Int))/\rZ/\True/\True)/\(mE zM True True)/\rE ((v0++[0]):List Int)/\True) (Sum.inl (v0++[0])))) (.an (Qkw l) (.lv (Qmj l) λ(x2:List Int)=>.cn (decide (4*(v0.length+x2.length)<=140737488355328)) (.br (decide ((↑(dG (v0++x2)):Int)>(256:Int))) (.cn (bT 1 1&&bJ 0 1&&decide ((0:Int)<=(0:Int)/\(0:Int)<=(256:Int)/\256<=(↑(dG (v0++x2)):Int))) (let E1:=cW (dB 256-dB 0) (cX (dB 0) (v0++x2));.an (Qew 8 4 E1) (.lv (Q2 8 4 E1) λ(x3:Q00×Bool)=>.br (x0==1) (.an (Qal x3.1 [] 87) (.lv (Qdt x3.1 [] 87) λ(x4:Q00×List Q0b×Int×Int)=>.lf (Sum.inr x4.1))) (.lf (Sum.inr x3.1))))) (.an (Qew 8 4 (v0++x2)) (.lv (Q2 8 4 (v0++x2)) λ(x5:Q00×Bool)=>.br (x0==1) (.an (Qal x5.1 [] 87) (.lv (Qdt x5.1 [] 87) λ(x6:Q00×List Q0b×Int×Int)=>.lf (Sum.inr x6.1))) (.lf (Sum.inr x5.1))))))))) (.an (Qkw l) (.lv (Qmj l) λ(x7:List Int)=>.cn (decide (4*(0+x7.length)<=140737488355328)) (.br (decide ((x7.length:Int)>(256:Int))) (.cn (bT 1 1&&bJ 0 1&&decide ((0:Int)<=(0:Int)/\(0:Int)<=(256:Int)/\256<=(x7.length:Int))) (let E2:=cW (dB 256-dB 0) (cX (dB 0) x7);.an (Qew 8 4 E2) (.lv (Q2 8 4 E2) λ(x8:Q00×Bool)=>.br (x0==1) (.an (Qal x8.1 [] 87) (.lv (Qdt x8.1 [] 87) λ(x9:Q00×List Q0b×Int×Int)=>.lf x9.1)) (.lf x8.1)))) (.an (Qew 8 4 x7) (.lv (Q2 8 4 x7) λ(x10:Q00×Bool)=>.br (x0==1) (.an (Qal x10.1 [] 87) (.lv (Qdt x10.1 [] 87) λ(x11:Q00×List Q0b×Int×Int)=>.lf x11.1)) (.lf x10.1)))))))
def Qeq kind l:=(Q6n kind l).m
abbrev Qf1 kind l:=(Q6n kind l).p
def Qyx:LInv:={
 α:=(List Int)
 F:=λst a=>([(0,(lk st 0)),(1,(lk st 1)),(4,.ptr 0 0 0),(5,.all 1)],[⟨true,42,49,.gen [mB (cT st 4)]⟩,⟨false,23,1,.ints u32 a⟩])
 a0:=λst=>(Q5t st.rows (rN st 5))
 ex0:=λst=>[]++[(rX st 4 0),(rX st 5 1)]}
def Qtt:List (Nat×LInv):=[(5,Qyx)]
def Z2w:Q0a:=mT 13 [] true [.one (.int .i64),.one (.ints .i64)] [] (λa r=>Q6n (argI a 0) (argL .i64 a 1)) (λX=>.agg (Q00.cellsW X (.all 0))) (λX=>[⟨false,23,1,.ints .u32 X.Mem⟩])
theorem Qnl:Q04 pG Z2w:=oT (.cons Qkt (.cons Qxb (.cons Zau (.cons Zgj (.cons Z85 (.nil)))))) Tryz.func13 Tryz.call13 [.row 23 1 (.ints .u32)] Qtt 3
end
noncomputable section
def Qda(m:Q00)(clock:Int):Tree (Q00×(List Q0b)):=
.an (Qiq m) (.lv (Qof m) λ(x0:Q00)=>.an (Qpy x0) (.lv (Q74 x0) λ(x1:Bool)=>.br x1 (.lf (x0,[])) (.an (Qf4 x0 clock) (.lv (Q22 x0 clock) λ(x2:List Q0b×Q00)=>.lf (x2.2,x2.1)))))
def Qk4 m clock:=(Qda m clock).m
abbrev Ql8 m clock:=(Qda m clock).p
def Zeu:Q0a:=mT 42 [] true [.agg Q00.sig,.one (.int .u32)] [] (λa r=>Qda (Q00.of (aC a 0)) (argI a 1)) (λX=>.tup [.agg (Q00.cellsW (X.1) (.all 0)),.sl 4 (.recs .apiOutput (X.2)) true]) (λX=>[⟨false,23,1,.ints .u32 (X.1).Mem⟩])
theorem Zeh:Q04 pG Zeu:=oT (.cons Qqn (.cons Z99 (.cons Qmh (.nil)))) Tryz.func42 Tryz.call42 [.row 23 1 (.ints .u32),.sl (.recs .apiOutput) true] [] 2
def Qeh(a b:List Q0b)(z:(Int)):Prop:=0<=z/\z<=a.length/\a.length=b.length
def Q5s(a b:List Q0b)(z:(Int)):Nat:=(a.length-z).toNat
def Q4s(a b:List Q0b):Tree Bool:=
.br ((a.length:Int) !=(b.length:Int)) (.lf false) (.lp inferInstance (Q5s a b 0+1) ((nR RK.apiOutput 4 a/\nR RK.apiOutput 4 b/\rE (0:Int)/\True)/\True) 0 λ(v0:Int)=>.br (decide (v0<(a.length:Int))) (.cn (bT 4 4&&bJ 0 4&&decide (0<=v0/\v0<(a.length:Int))) (.cn (bT 4 4&&bJ 0 4&&decide (0<=v0/\v0<(b.length:Int))) (let E1:=a.getD v0.toNat (RK.dflt RK.apiOutput);let E2:=b.getD v0.toNat (RK.dflt RK.apiOutput);.br (!eqs [D.int i64 E1.C2,D.int u64 E1.At,D.int u32 E1.B8,D.str E1.C8] [D.int i64 E2.C2,D.int u64 E2.At,D.int u32 E2.B8,D.str E2.C8]) (.lf (Sum.inr false)) (.nx ((nR RK.apiOutput 4 a/\nR RK.apiOutput 4 b/\rE ((wrap i64 (v0+1)):Int)/\True)/\True) (Sum.inl (wrap i64 (v0+1))))))) (.lf (Sum.inr true)))
def Qln a b:=(Q4s a b).m
def Q6z(a b:List Q0b):Prop:=
a.length<=1000000000000
theorem Qp3(a b:List Q0b)(hw:Q6z a b):(Q4s a b).p:=by
 simp only[Q6z]at hw
 unfold Tree.p Q4s
 repeat'(first|refine w_lp (inv:=Qeh a b) (μ:=Q5s a b) ?_ (cL _) (λ_ _=>?_)|exact trivial|refine w_br (λ_=>?_) (λ_=>?_)|refine w_cn ?_ ?_|refine w_an ?_ ?_|refine w_lv (λ_ _=>?_)|refine w_nx ?_|refine w_lf ?_|refine And.intro ?_ ?_)
 all_goals((try simp only[Qeh,Q5s]at*);exact fin0)
def Qql:LInv:={
 α:=(Int)
 F:=λst a=>([(0,(lk st 0)),(1,(lk st 1)),(5,.int i64 a)],[])
 a0:=λst=>(lk st 5).toInt
 ex0:=λst=>[]++[]}
def Qny:List (Nat×LInv):=[(4,Qql)]
def Qtd:Q0a:=mkP 25 [] true [.one (.recs .apiOutput),.one (.recs .apiOutput)] [] (λa r=>Q6z (argR .apiOutput a 0) (argR .apiOutput a 1)) (λa r=>Qln (argR .apiOutput a 0) (argR .apiOutput a 1)) (λX=>.bool X) (λX=>[])
theorem Qqz:Q04 pG Qtd:=Q0i drawn Q0h (.nil) Tryz.func25 Tryz.call25 (λa r=>Q4s (argR .apiOutput a 0) (argR .apiOutput a 1)) [] Qny 3 (hp:=λa r h=>Qp3 (argR .apiOutput a 0) (argR .apiOutput a 1) h)
def Q6c(m:Q00)(e:Q0v):Tree (Q00×Bool):=
.an (Qiq m) (.lv (Qof m) λ(x0:Q00)=>.lv (Qbv x0) λ(x1:Bool)=>.br (!x1) (.lf (x0,false)) (.an (Qpb x0 e) (.lv (Q5b x0 e) λ(x2:Bool×Q00)=>.lf (x2.2,x2.1))))
def Qa8 m e:=(Q6c m e).m
abbrev Qj4 m e:=(Q6c m e).p
def Zag:Q0a:=mT 55 [] true [.agg Q00.sig,.agg Q0v.sig] [] (λa r=>Q6c (Q00.of (aC a 0)) (Q0v.of (aC a 1))) (λX=>.tup [.agg (Q00.cellsW (X.1) (.all 0)),.bool (X.2)]) (λX=>[⟨false,23,1,.ints .u32 (X.1).Mem⟩])
theorem Z91:Q04 pG Zag:=oT (.cons Qqn (.cons Qqh (.cons Qs (.nil)))) Tryz.func55 Tryz.call55 [.row 23 1 (.ints .u32)] [] 2
def Qwh(t:Q0l):Tree (Q0l×Bool):=
.br (!t.D4) (.lf (t,false)) (.lf ({D4:=false,C6:=t.C6,D2:=true},true))
def Qob t:=(Qwh t).m
def Qe4(c:Q0e)(b:Int):Tree (Q0e×Bool):=
.br (decide ((c.C9.length:Int)>=(16:Int))) (.lf (c,false)) (.cn (decide (c.C9.length+1<=maxLen)) (.lf ({C9:=c.C9++[(λ(n:Int)=>UInt8.ofNat n.toNat) b]},true)))
def Qwz c b:=(Qe4 c b).m
abbrev Qy7 c b:=(Qe4 c b).p
def Q92(d0:Q0d)(m:List Int)(e:Q0v):Tree (Q0d×(List Int)×Bool):=
let T2:Tree ((Q0d×(List Int)×Bool)):=.an (Q07 m) (.lv (Q02 m) λ(x0:List Int)=>.lf (d0,x0,false));.br (d0.B7 !=1) T2 (.br (e.C2 !=4) T2 (.br (decide (e.N>1)) T2 (.an (Q07 m) (.lv (Q02 m) λ(x3:List Int)=>let E3:=({Blocks:=d0.Blocks,B8:=d0.B8,Frame:=d0.Frame,B7:=2,D6:=0,B4:=0,B1:=0,C0:=[]}:Q0d);let E4:=({Blocks:=d0.Blocks,B8:=d0.B8,Frame:=d0.Frame,B7:=3,D6:=0,B4:=0,B1:=0,C0:=[]}:Q0d);let T1:Tree ((Q0d×(List Int)×Bool)):=.br (!decide (e.C8=[])) (.lf (d0,x3,false)) (.br (e.N==1) (.lf (E3,x3,true)) (.lf (E4,x3,true)));.br (e.N==1) (.br (d0.D6==1) (.lv (Q5j m d0.B1) λ(x4:Bool)=>.br (!x4) (.lf (d0,x3,false)) (.an (Q3n m (wrap i64 d0.B1) e.C8) (.lv (Q0k m (wrap i64 d0.B1) e.C8) λ(x5:List Int×Bool)=>.br (!x5.2) (.lf (d0,x5.1,false)) (.br (e.N==1) (.lf (E3,x5.1,true)) (.lf (E4,x5.1,true)))))) T1) T1))))
def Ql0 d0 m e:=(Q92 d0 m e).m
abbrev Qur d0 m e:=(Q92 d0 m e).p
def Qc0(n:Q0w)(m:List Int)(frame:List UInt8):Tree (Q0w×(List Int)×Bool):=
let T1:Tree ((Q0w×(List Int)×Bool)):=.an (Q07 m) (.lv (Q02 m) λ(x0:List Int)=>.lf (n,x0,false));.br (!n.C3) T1 (.br (decide ((frame.length:Int)<(1:Int))) T1 (.br (decide ((frame.length:Int)>(128:Int))) T1 (.lv (Q6 m n.B6) λ(x3:Bool)=>.br (!x3) T1 (.an (Q4g m (wrap i64 n.B6)) (.lv (Q12 m (wrap i64 n.B6)) λ(x5:List UInt8×Bool)=>.cn (decide (0<=(frame.length:Int)/\(frame.length:Int)<=(x5.1.length:Int)/\(x5.1.length:Int)<=(x5.1.length:Int))) (let E2:=dB (x5.1.length:Int)-dB (frame.length:Int);let E3:=cX (dB (frame.length:Int)) x5.1;.cn (decide (frame.length+dG (cW E2 E3)<=maxLen)) (.an (Q3n m (wrap i64 n.B6) (frame++cW E2 E3)) (.lv (Q0k m (wrap i64 n.B6) (frame++cW E2 E3)) λ(x6:List Int×Bool)=>.lf ({Frame:=n.Frame,D8:=n.D8,C3:=false,B6:=0,B5:=true,E0:=wrap u32 (frame.length:Int)},x6.1,true)))))))))
def Qqr n m frame:=(Qc0 n m frame).m
abbrev Z1h n m frame:=(Qc0 n m frame).p
def Q9i(m:Q00)(e:Q0v):Tree (Q00×Bool):=
.an (Q07 m.Mem) (.lv (Q02 m.Mem) λ(x0:List Int)=>let E2:=({B2:=m.B2,Mem:=x0,A2:=m.A2,A9:=m.A9,A7:=m.A7,C1:=m.C1,A0:=m.A0,A3:=m.A3,A4:=m.A4,A6:=m.A6}:Q00);.an (Q4l E2) (.lv (Q10 E2) λ(x1:Bool)=>let T1:Tree ((Q00×Bool)):=.lf (E2,false);.br (!x1) T1 (.br m.A6 T1 (.br (e.C2==2) (.br (e.N==0) (.br (decide (e.C8=[])) (.lv (Qob m.A9) λ(x2:Q0l×Bool)=>.lf ({B2:=m.B2,Mem:=x0,A2:=m.A2,A9:=x2.1,A7:=m.A7,C1:=m.C1,A0:=m.A0,A3:=m.A3,A4:=m.A4,A6:=m.A6},x2.2)) T1) T1) (.br (e.C2==3) (.br (decide (e.N<=255)) (.br (decide (e.C8=[])) (.an (Qy7 m.A2 (wrap u8 e.N)) (.lv (Qwz m.A2 (wrap u8 e.N)) λ(x3:Q0e×Bool)=>.lf ({B2:=m.B2,Mem:=x0,A2:=x3.1,A9:=m.A9,A7:=m.A7,C1:=m.C1,A0:=m.A0,A3:=m.A3,A4:=m.A4,A6:=m.A6},x3.2))) T1) T1) (.br (e.C2==4) (.an (Qur m.A7 x0 e) (.lv (Ql0 m.A7 x0 e) λ(x4:Q0d×List Int×Bool)=>.lf ({B2:=m.B2,Mem:=x4.2.1,A2:=m.A2,A9:=m.A9,A7:=x4.1,C1:=m.C1,A0:=m.A0,A3:=m.A3,A4:=m.A4,A6:=m.A6},x4.2.2))) (.br (e.C2==5) (.br (e.N==0) (.an (Z1h m.C1 x0 e.C8) (.lv (Qqr m.C1 x0 e.C8) λ(x5:Q0w×List Int×Bool)=>.lf ({B2:=m.B2,Mem:=x5.2.1,A2:=m.A2,A9:=m.A9,A7:=m.A7,C1:=x5.1,A0:=m.A0,A3:=m.A3,A4:=m.A4,A6:=m.A6},x5.2.2))) T1) (.br (e.C2==6) (.br (decide (e.C8=[])) (.lf ({B2:=m.B2,Mem:=x0,A2:=m.A2,A9:=m.A9,A7:=m.A7,C1:=m.C1,A0:={C4:=e.N,B9:=m.A0.B9},A3:=m.A3,A4:=m.A4,A6:=m.A6},true)) T1) T1))))))))
def Q1y m e:=(Q9i m e).m
abbrev Qka m e:=(Q9i m e).p
end
noncomputable section
def Q2h(s:List Bool):(List Bool):=
s
def Q3v(s:List Bool):Prop:=
s.length<=140737488355328
def Q5p(s:List Bool):List D:=[.sl 1 (.bools s) false]
def Q3h(s:List Bool):List Row:=[]
def Q25(X:List Bool):D:=.all 0
def Q24(X:List Bool):List Row:=[⟨false,4,1,.bools X⟩]
def Qgt:List Dir:=[.row 4 1 (.bools)]
def Qad:List PT:=[.one (.bools)]
def Q9f:List RT:=[]
def Qi9(args:List D)(rows:List Row):(List Bool):=Q2h (argM args 0)
def Qi7(args:List D)(rows:List Row):Prop:=Q3v (argM args 0)
def Qjz:Q0a:=mkP 132 [] true Qad Q9f Qi7 Qi9 Q25 Q24
def Q7a(s:List Bool)(Leaf:(List Bool)->Prop):Prop:=
(s=[]->Leaf [])/\cand (decide ((1:Nat)*((0:Nat)+s.length)<=(140737488355328:Nat))) (Leaf s)
set_option maxRecDepth 100000 in
theorem Qjg(s:List Bool)(Q:D->List Row->Prop):(fnVC tab [] (LL tab [] Tryz.f132.ntmps 0 [] 2) Tryz.f132 (Q5p s) (Q3h s) λd R=>Qcs (Q3h s).length Qgt d R Q)=Q7a s (λX=>Q (Q25 X) (Q24 X)):=by kernel_rfl
theorem Qh3(s:List Bool)(Leaf:(List Bool)->Prop)(hw:Q3v s)(h:Leaf (Q2h s)):
Q7a s Leaf:=by
 delta Q7a
 refine⟨λe=>by rw[e]at h;exact h,?_⟩
 rw[Q05]
 refine⟨dY ?_,h⟩
 have:s.length<=140737488355328:=hw
 omega
set_option maxRecDepth 100000 in
theorem Qfy(s:List Bool)(hw:Q3v s):Q4 pG 132 (Q5p s) (Q3h s) (Q25 (Q2h s)) (Q24 (Q2h s)):=
 have hG:Q8c pG []:=.nil
 FnOK.calls drawn Q0h hG Tryz.func132 (rf:=none) (λ_ _=>trivial) (LL_ok drawn Q0h hG (.inl rfl) 2 (invs:=[])) (FnOK.of (Qjg s _) (Qh3 s (λX=>Q25 X=Q25 (Q2h s)/\Q24 X=Q24 (Q2h s)) hw ⟨rfl,rfl⟩))
set_option maxRecDepth 100000 in
theorem Qhs(args:List D)(rows:List Row):Qms Qad args 0=Q5p (argM args 0):=by kernel_rfl
set_option maxRecDepth 100000 in
theorem Qfp(args:List D)(rows:List Row):Qaw Q9f rows 0=Q3h (argM args 0):=by kernel_rfl
set_option maxRecDepth 100000 in
theorem Qj9(X:List Bool):(ffB (Q25 X)&&ffBR (Q24 X))=true:=by kernel_rfl
theorem Qja:Q04 pG Qjz:=Z1r Tryz.call132 (λargs rows hp=>by rw[Qhs args rows,Qfp args rows];exact Qfy (argM args 0) hp) (λ_ X=>Qj9 X)
def Q0j(x:Int):Int:=
(Lib.ctz 32 x.toNat:Int)
def Q1t(x:Int):Prop:=
0<=x/\x<4294967296
def Q7l(x:Int):List D:=[.int .u32 x]
def Q7n(x:Int):List Row:=[]
def Q4y(X:Int):D:=.int .i64 X
def Q4w(X:Int):List Row:=[]
def Q82:List PT:=[.one (.int .u32)]
def Q7o:List RT:=[]
def Qf0(args:List D)(rows:List Row):Int:=Q0j (argI args 0)
def Qf9(args:List D)(rows:List Row):Prop:=Q1t (argI args 0)
def Qgp:Q0a:=mkP 78 [] true Q82 Q7o Qf9 Qf0 Q4y Q4w
theorem Qcu(x:Int)(hw:Q1t x):Q4 pG 78 (Q7l x) (Q7n x) (Q4y (Q0j x)) (Q4w (Q0j x)):=by
 exact yU (Proofs.Any7.bits_TrailingZeros32 Tryz.lays7) yv hw.1 hw.2
set_option maxRecDepth 100000 in
theorem Qe7(args:List D)(rows:List Row):Qms Q82 args 0=Q7l (argI args 0):=by kernel_rfl
set_option maxRecDepth 100000 in
theorem Qd1(args:List D)(rows:List Row):Qaw Q7o rows 0=Q7n (argI args 0):=by kernel_rfl
set_option maxRecDepth 100000 in
theorem Qfl(X:Int):(ffB (Q4y X)&&ffBR (Q4w X))=true:=by kernel_rfl
theorem Q3b:Q04 pG Qgp:=Z1r Tryz.call78 (λargs rows hp=>by rw[Qe7 args rows,Qd1 args rows];exact Qcu (argI args 0) hp) (λ_ X=>Qfl X)
def Qac(f:Int)(z:(Int)×(List Int)):Nat:=z.1.toNat
def Q41(f:Int):Tree (List Int):=
.lp inferInstance (Qac f (f,[])+1) ((True/\rE (f:Int)/\True)/\rE ([]:List Int)/\True) (f,[]) λ(v0:Int×List Int)=>.br (v0.1 !=0) (.an (Q1t v0.1) (.lv (Q0j v0.1) λ(x0:Int)=>.cn (decide (8*(v0.2.length+1)<=140737488355328)) (.nx ((True/\rE ((iand u32 v0.1 (wrap u32 (v0.1-1))):Int)/\True)/\rE ((v0.2++[x0]):List Int)/\True) (Sum.inl (iand u32 v0.1 (wrap u32 (v0.1-1)),v0.2++[x0]))))) (.lf (Sum.inr v0.2))
def Qfe f:=(Q41 f).m
abbrev Qbo f:=(Q41 f).p
def Ql7:LInv:={
 α:=(Int)×(List Int)
 F:=λst a=>([(3,.all 0),(4,.int u32 a.1)],[⟨false,3,1,.ints i64 a.2⟩])
 a0:=λst=>((lk st 4).toInt,(Q5t st.rows (rN st 3)))
 ex0:=λst=>[]++[(rX st 3 0)]}
def Qj5:List (Nat×LInv):=[(3,Ql7)]
def Qm6:Q0a:=mT 57 [] true [.one (.int .u32)] [] (λa r=>Q41 (argI a 0)) (λX=>.all 0) (λX=>[⟨false,3,1,.ints .i64 X⟩])
theorem Ql9:Q04 pG Qm6:=oT (.cons Q3b (.nil)) Tryz.func57 Tryz.call57 [.row 3 1 (.ints .i64)] Qj5 3
def Q48(m:List Int)(frame:Int):Tree Int:=
.lv (Q0u m) λ(x0:Int)=>.br (decide (frame>=wrap u32 x0)) (.lf 0) (.cn (decide (0<=frame)) (.lf (ishl u32 1 frame)))
def Q0n m frame:=(Q48 m frame).m
abbrev Q1p m frame:=(Q48 m frame).p
def Qtm:Q0a:=mT 133 [] true [.one (.ints .u32),.one (.int .u32)] [] (λa r=>Q48 (argL .u32 a 0) (argI a 1)) (λX=>.int .u32 X) (λX=>[])
theorem Qiz:Q04 pG Qtm:=oT (.cons Q2a (.nil)) Tryz.func133 Tryz.call133 [] [] 2
def Qnr(c:Q01):Tree Bool:=
.lf (iand u32 c.B3.a0 (1:Int)==(0:Int))
def Q34 c:=(Qnr c).m
def Z19:Q0a:=mS 113 [] true [.agg Q01.sig] [] (λa r=>Qnr (Q01.of (aC a 0))) (λX=>.bool X) (λX=>[])
theorem Qlt:Q04 pG Z19:=oS (.nil) Tryz.func113 Tryz.call113 [] [] 2
def Q79(c:Q01)(m:List Int)(va size kind:Int):Tree Int:=
.cn (decide (size≠0)) (.br (dA va size !=0) (.lf 0) (.lv (Q34 c) λ(x0:Bool)=>let T1:Tree (Int):=.an (Q1p m (wrap u32 (eN va 128))) (.lv (Q0n m (wrap u32 (eN va 128))) λ(x1:Int)=>.lf x1);.br (!x0) T1 (.br (iand u32 c.B3.a0 (4:Int)==(0:Int)) T1 (.br (decide (va>=4096)) (.lf 0) (.an (Q1p m c.B3.a6) (.lv (Q0n m c.B3.a6) λ(x3:Int)=>.an (Qcc m c.B3.a6 va kind) (.lv (Q0z m c.B3.a6 va kind) λ(x4:Q13)=>.br (x4.D0==0) (.an (Q1p m (wrap u32 (eN x4.Addr 128))) (.lv (Q0n m (wrap u32 (eN x4.Addr 128))) λ(x5:Int)=>.lf (ior u32 x3 x5))) (.lf x3))))))))
def Q0m c m va size kind:=(Q79 c m va size kind).m
abbrev Q28 c m va size kind:=(Q79 c m va size kind).p
def Qvj:Q0a:=mT 110 [] true [.agg Q01.sig,.one (.ints .u32),.one (.int .u32),.one (.int .u32),.one (.int .i64)] [] (λa r=>Q79 (Q01.of (aC a 0)) (argL .u32 a 1) (argI a 2) (argI a 3) (argI a 4)) (λX=>.int .u32 X) (λX=>[])
theorem Qif:Q04 pG Qvj:=oT (.cons Qlt (.cons Qiz (.cons Qpd (.nil)))) Tryz.func110 Tryz.call110 [] [] 2
def Q2r(m:Q00)(port v:Int):Tree Int:=
.br (port==6) (.br (v==2) (.br (m.A7.B7==0) (.br (decide (m.A7.B8<m.A7.Blocks)) (.an (Q1p m.Mem m.A7.Frame) (.lv (Q0n m.Mem m.A7.Frame) λ(x0:Int)=>.lf x0)) (.lf 0)) (.lf 0)) (.lf 0)) (.br (port==9) (.br (v==1) (.br (decide (m.C1.D8>=1)) (.br (decide (m.C1.D8<=128)) (.an (Q1p m.Mem m.C1.Frame) (.lv (Q0n m.Mem m.C1.Frame) λ(x1:Int)=>.lf x1)) (.lf 0)) (.lf 0)) (.lf 0)) (.br (port==10) (.an (Q1p m.Mem v) (.lv (Q0n m.Mem v) λ(x2:Int)=>.lf (Q7k u32 x2 m.A0.B9))) (.lf 0)))
def Q23 m port v:=(Q2r m port v).m
abbrev Qlx m port v:=(Q2r m port v).p
def Z41:Q0a:=mT 183 [] true [.agg Q00.sig,.one (.int .i64),.one (.int .u32)] [] (λa r=>Q2r (Q00.of (aC a 0)) (argI a 1) (argI a 2)) (λX=>.int .u32 X) (λX=>[])
theorem Z0t:Q04 pG Z41:=oT (.cons Qiz (.nil)) Tryz.func183 Tryz.call183 [] [] 2
def Q5e(m:Q00)(c:Q01)(mem:List Int)(i:Q0f):Tree Int:=
.cn (bJ 0 1&&decide (0<=iand i64 i.B 15/\iand i64 i.B 15<(↑16:Int))) (let E2:=wrap u32 (aK (A16.l c.X) (dB (iand i64 i.B 15)) 0+wrap u32 i.Imm);.br (i.Op==32) (.an (Q28 c mem E2 4 2) (.lv (Q0m c mem E2 4 2) λ(x0:Int)=>.lf x0)) (let T1:Tree (Int):=.an (Q28 c mem E2 1 2) (.lv (Q0m c mem E2 1 2) λ(x1:Int)=>.lf x1);.br (i.Op==33) T1 (.br (i.Op==34) T1 (.br (i.Op==35) (.an (Q28 c mem E2 4 3) (.lv (Q0m c mem E2 4 3) λ(x3:Int)=>.lf x3)) (.br (i.Op==36) (.an (Q28 c mem E2 1 3) (.lv (Q0m c mem E2 1 3) λ(x4:Int)=>.lf x4)) (.br (i.Op==61) (.cn (bJ 0 1&&decide (0<=iand i64 i.A 15/\iand i64 i.A 15<(↑16:Int))) (let E3:=aK (A16.l c.X) (dB (iand i64 i.A 15)) 0;.an (Qlx m (wrap i64 i.Imm) E3) (.lv (Q23 m (wrap i64 i.Imm) E3) λ(x5:Int)=>.lf x5))) (.lf 0)))))))
def Q1f m c mem i:=(Q5e m c mem i).m
abbrev Q4f m c mem i:=(Q5e m c mem i).p
def Qqw:Q0a:=mT 115 [] true [.agg Q00.sig,.agg Q01.sig,.one (.ints .u32),.agg Q0f.sig] [] (λa r=>Q5e (Q00.of (aC a 0)) (Q01.of (aC a 1)) (argL .u32 a 2) (Q0f.of (aC a 3))) (λX=>.int .u32 X) (λX=>[])
theorem Qp0:Q04 pG Qqw:=oT (.cons Qif (.cons Z0t (.nil))) Tryz.func115 Tryz.call115 [] [] 2
def Q5z(m:Q00):Tree Int:=
.an (Q4l m) (.lv (Q10 m) λ(x0:Bool)=>.br (!x0) (.lf 0) (.br m.A6 (.lf 0) (.an (Qb2 m) (.lv (Q4k m) λ(x1:Bool)=>.br x1 (.lf 0) (.br (decide (m.A3>=1152921504606846976)) (.lf 0) (.an (Qd9 m) (.lv (Q31 m) λ(x2:Int)=>let T1:Tree (Int):=.an (Q28 m.B2 m.Mem m.B2.Pc 4 1) (.lv (Q0m m.B2 m.Mem m.B2.Pc 4 1) λ(x12:Int)=>.an (Qch m.B2 m.Mem) (.lv (Q0o m.B2 m.Mem) λ(x13:Int×List Int×Int)=>.br (x13.2.2 !=0) (.lf x12) (.an (Qaj x13.1) (.lv (Q19 x13.1) λ(x14:Q0f×Bool)=>.br (!x14.2) (.lf x12) (.lv (Q34 m.B2) λ(x15:Bool)=>let T2:Tree (Int):=.an (Q4f m m.B2 x13.2.1 x14.1) (.lv (Q1f m m.B2 x13.2.1 x14.1) λ(x17:Int)=>.lf (ior u32 x12 x17));.br x15 (.lv (Q2c x14.1.Op) λ(x16:Bool)=>.br x16 (.lf x12) T2) T2)))));.br (iand u32 x2 m.B2.B3.a7 !=0) (.br (iand u32 m.B2.B3.a0 (2:Int) !=(0:Int)) (.an (Q1t (iand u32 x2 m.B2.B3.a7)) (.lv (Q0j (iand u32 x2 m.B2.B3.a7)) λ(x3:Int)=>.lv (Q2z m.B2 (wrap i64 (16+x3)) 0) λ(x4:Q01)=>.an (Q28 x4 m.Mem x4.Pc 4 1) (.lv (Q0m x4 m.Mem x4.Pc 4 1) λ(x5:Int)=>.an (Qch x4 m.Mem) (.lv (Q0o x4 m.Mem) λ(x6:Int×List Int×Int)=>.br (x6.2.2 !=0) (.lf x5) (.an (Qaj x6.1) (.lv (Q19 x6.1) λ(x7:Q0f×Bool)=>.br (!x7.2) (.lf x5) (.lv (Q34 x4) λ(x8:Bool)=>let T3:Tree (Int):=.an (Q4f m x4 x6.2.1 x7.1) (.lv (Q1f m x4 x6.2.1 x7.1) λ(x10:Int)=>.lf (ior u32 x5 x10));.br x8 (.lv (Q2c x7.1.Op) λ(x9:Bool)=>.br x9 (.lf x5) T3) T3))))))) T1) T1)))))))
def Q16 m:=(Q5z m).m
abbrev Q6i m:=(Q5z m).p
def Qx7:Q0a:=mT 56 [] true [.agg Q00.sig] [] (λa r=>Q5z (Q00.of (aC a 0))) (λX=>.int .u32 X) (λX=>[])
theorem Qdk:Q04 pG Qx7:=oT (.cons Qe2 (.cons Qn5 (.cons Qlk (.cons Qdl (.cons Q3b (.cons Qif (.cons Qwx (.cons Qrb (.cons Qlt (.cons Qk5 (.cons Qp0 (.nil)))))))))))) Tryz.func56 Tryz.call56 [] [] 2
def Qr(m:Q00)(e:Q0v):Tree Int:=
.br (e.C2==4) (.an (Qka m e) (.lv (Q1y m e) λ(x0:Q00×Bool)=>.br x0.2 (.br (e.N==1) (.br (m.A7.D6==1) (.an (Q1p m.Mem m.A7.B1) (.lv (Q0n m.Mem m.A7.B1) λ(x1:Int)=>.lf x1)) (.lf 0)) (.lf 0)) (.lf 0))) (.br (e.C2==5) (.an (Qka m e) (.lv (Q1y m e) λ(x2:Q00×Bool)=>.br x2.2 (.an (Q1p m.Mem m.C1.B6) (.lv (Q0n m.Mem m.C1.B6) λ(x3:Int)=>.lf x3)) (.lf 0))) (.lf 0))
def Q78 m e:=(Qr m e).m
def Q8b(p:Q03):Tree Q03:=
.an (Q07 p.A1.Mem) (.lv (Q02 p.A1.Mem) λ(x0:List Int)=>.an (Q3v p.B0) (.lv (Q2h p.B0) λ(x1:List Bool)=>.lf ({A1:={B2:=p.A1.B2,Mem:=x0,A2:=p.A1.A2,A9:=p.A1.A9,A7:=p.A1.A7,C1:=p.A1.C1,A0:=p.A1.A0,A3:=p.A1.A3,A4:=p.A1.A4,A6:=p.A1.A6},B0:=x1,D5:=p.D5,C7:=p.C7})))
def Q8m p:=(Q8b p).m
abbrev Q4u p:=(Q8b p).p
def Qx8:Q0a:=mT 70 [] true [.agg Q03.sig] [] (λa r=>Q8b (Q03.of (aC a 0))) (λX=>.agg (Q03.cellsW X (.all 0) (.all 1))) (λX=>[⟨false,23,1,.ints .u32 X.A1.Mem⟩,⟨false,4,1,.bools X.B0⟩])
theorem Qd3:Q04 pG Qx8:=oT (.cons Q1h (.cons Qja (.nil))) Tryz.func70 Tryz.call70 [.row 23 1 (.ints .u32),.row 4 1 (.bools)] [] 2
end
noncomputable section
def Qe6(pages:Int):Tree (List Int):=
.br (decide (pages<1)) (.lf ([])) (.br (decide (pages>32)) (.lf ([])) (.cn (bJ 0 1&&bT 1 1&&List.all [D.int u32 0] D.plain&&decide (0<=wrap i64 (pages*32)/\wrap i64 (pages*32)<=wrap i64 (pages*32)/\wrap i64 (pages*32)<=9223372036854775807/\(↑4:Int)*wrap i64 (pages*32)<=140737488355328)) (.lf (cM (dB (wrap i64 (pages*32))) 0))))
def Z6r pages:=(Qe6 pages).m
abbrev Qpm pages:=(Qe6 pages).p
def Zd0:Q0a:=mT 69 [] true [.one (.int .i64)] [] (λa r=>Qe6 (argI a 0)) (λX=>.all 0) (λX=>[⟨false,23,1,.ints .u32 X⟩])
theorem Z7e:Q04 pG Zd0:=oT (.nil) Tryz.func69 Tryz.call69 [.row 23 1 (.ints .u32)] [] 2
def Q89(m:Q00):Tree (List Int):=
.an (Q6i m) (.lv (Q16 m) λ(x0:Int)=>.an (Qbo x0) (.lv (Qfe x0) λ(x1:List Int)=>.lf x1))
def Qpg m:=(Q89 m).m
abbrev Qim m:=(Q89 m).p
def Qy2:Q0a:=mT 19 [] true [.agg Q00.sig] [] (λa r=>Q89 (Q00.of (aC a 0))) (λX=>.all 0) (λX=>[⟨false,3,1,.ints .i64 X⟩])
theorem Qvf:Q04 pG Qy2:=oT (.cons Qdk (.cons Ql9 (.nil))) Tryz.func19 Tryz.call19 [.row 3 1 (.ints .i64)] [] 2
def Q42(p:Q03)(z:(Int)×(Int)):Nat:=(p.B0.length-z.2).toNat
def Q6k(p:Q03):Tree Int:=
.lp inferInstance (Q42 p (0,0)+1) ((rE (0:Int)/\((Els.Nil (Els.bools p.B0)\/rE (1:Nat))/\rE p.B0)/\rE ((p.B0.length:Int):Int)/\rE (0:Int)/\True)/\True) (0,0) λ(v0:Int×Int)=>.br (decide (v0.2<(p.B0.length:Int))) (.cn (bT 1 1&&bJ 0 1&&decide (0<=v0.2/\v0.2<(p.B0.length:Int))) (.br (p.B0.getD v0.2.toNat false) (.cn (decide (0<=v0.2)) (.nx ((rE ((ior u32 v0.1 (ishl u32 1 v0.2)):Int)/\((Els.Nil (Els.bools p.B0)\/rE (1:Nat))/\rE p.B0)/\rE ((p.B0.length:Int):Int)/\rE ((wrap i64 (v0.2+1)):Int)/\True)/\True) (Sum.inl (ior u32 v0.1 (ishl u32 1 v0.2),wrap i64 (v0.2+1))))) (.nx ((rE v0.1/\((Els.Nil (Els.bools p.B0)\/rE (1:Nat))/\rE p.B0)/\rE ((p.B0.length:Int):Int)/\rE ((wrap i64 (v0.2+1)):Int)/\True)/\True) (Sum.inl (v0.1,wrap i64 (v0.2+1)))))) (.lf (Sum.inr v0.1))
def Q4x p:=(Q6k p).m
abbrev Q7 p:=(Q6k p).p
def Qqv:LInv:={
 α:=(Int)×(Int)
 F:=λst a=>([(3,.int u32 a.1),(7,(lk st 7)),(8,(lk st 8)),(9,.int i64 a.2)],[])
 a0:=λst=>((lk st 3).toInt,(lk st 9).toInt)
 ex0:=λst=>[]++[]}
def Qmk:List (Nat×LInv):=[(3,Qqv)]
def Qs6:Q0a:=mT 72 [] true [.agg Q03.sig] [] (λa r=>Q6k (Q03.of (aC a 0))) (λX=>.int .u32 X) (λX=>[])
theorem Qhl:Q04 pG Qs6:=oT (.nil) Tryz.func72 Tryz.call72 [] Qmk 3
def Q81(p:Q03)(missing:Int):Tree Q03:=
.an (Q4u p) (.lv (Q8m p) λ(x0:Q03)=>.an (Q1t missing) (.lv (Q0j missing) λ(x1:Int)=>.lf ({A1:=x0.A1,B0:=x0.B0,D5:=x1,C7:=wrap i64 (x0.C7+1)})))
def Qpj p missing:=(Q81 p missing).m
abbrev Qiu p missing:=(Q81 p missing).p
def Qxv:Q0a:=mT 73 [] true [.agg Q03.sig,.one (.int .u32)] [] (λa r=>Q81 (Q03.of (aC a 0)) (argI a 1)) (λX=>.agg (Q03.cellsW X (.all 0) (.all 1))) (λX=>[⟨false,23,1,.ints .u32 X.A1.Mem⟩,⟨false,4,1,.bools X.B0⟩])
theorem Quy:Q04 pG Qxv:=oT (.cons Qd3 (.cons Q3b (.nil))) Tryz.func73 Tryz.call73 [.row 23 1 (.ints .u32),.row 4 1 (.bools)] [] 2
def Q5y(p:Q03):Tree Bool:=
.lv (Q0u p.A1.Mem) λ(x0:Int)=>.an (Q4l p.A1) (.lv (Q10 p.A1) λ(x1:Bool)=>.br x1 (.br ((p.B0.length:Int)==x0) (.br (decide (p.D5>=0)) (.br (decide (p.D5<x0)) (.lf (decide (p.C7>=0))) (.lf false)) (.lf false)) (.lf false)) (.lf false))
def Q54 p:=(Q5y p).m
abbrev Q3l p:=(Q5y p).p
def Qxl:Q0a:=mT 53 [] true [.agg Q03.sig] [] (λa r=>Q5y (Q03.of (aC a 0))) (λX=>.bool X) (λX=>[])
theorem Q73:Q04 pG Qxl:=oT (.cons Q2a (.cons Qe2 (.nil))) Tryz.func53 Tryz.call53 [] [] 2
def Q85(m:Q00):Tree (Q03×Bool):=
.an (Q4l m) (.lv (Q10 m) λ(x0:Bool)=>.br (!x0) (.lf ({A1:={B2:={X:={a0:=0,a1:=0,a2:=0,a3:=0,a4:=0,a5:=0,a6:=0,a7:=0,a8:=0,a9:=0,a10:=0,a11:=0,a12:=0,a13:=0,a14:=0,a15:=0},Pc:=0,B3:={a0:=0,a1:=0,a2:=0,a3:=0,a4:=0,a5:=0,a6:=0,a7:=0}},Mem:=[],A2:={C9:=[]},A9:={D4:=false,C6:=0,D2:=false},A7:={Blocks:=0,B8:=0,Frame:=0,B7:=0,D6:=0,B4:=0,B1:=0,C0:=[]},C1:={Frame:=0,D8:=0,C3:=false,B6:=0,B5:=false,E0:=0},A0:={C4:=0,B9:=0},A3:=0,A4:=false,A6:=false},B0:=[],D5:=0,C7:=0},false)) (.lv (Q0u m.Mem) λ(x1:Int)=>.an (Qpm x1) (.lv (Z6r x1) λ(x2:List Int)=>.cn (bJ 0 1&&bT 1 1&&List.all [D.bool false] D.plain&&decide (0<=x1/\x1<=x1/\x1<=9223372036854775807/\(↑1:Int)*x1<=140737488355328)) (.lf ({A1:={B2:=m.B2,Mem:=x2,A2:=m.A2,A9:=m.A9,A7:=m.A7,C1:=m.C1,A0:=m.A0,A3:=m.A3,A4:=m.A4,A6:=m.A6},B0:=cM x1.toNat false,D5:=0,C7:=0},true)))))
def Qpo m:=(Q85 m).m
abbrev Qiw m:=(Q85 m).p
def Qy3:Q0a:=mT 26 [] true [.agg Q00.sig] [] (λa r=>Q85 (Q00.of (aC a 0))) (λX=>.tup [.agg (Q03.cellsW (X.1) (.all 0) (.all 1)),.bool (X.2)]) (λX=>[⟨false,23,1,.ints .u32 (X.1).A1.Mem⟩,⟨false,4,1,.bools (X.1).B0⟩])
theorem Qve:Q04 pG Qy3:=oT (.cons Qe2 (.cons Q2a (.cons Z7e (.nil)))) Tryz.func26 Tryz.call26 [.row 23 1 (.ints .u32),.row 4 1 (.bools)] [] 2
def Q66(p:Q03):Tree (Int×Bool):=
.an (Q3l p) (.lv (Q54 p) λ(x0:Bool)=>.br (!x0) (.lf (0,false)) (.an (Q6i p.A1) (.lv (Q16 p.A1) λ(x1:Int)=>.an (Q7 p) (.lv (Q4x p) λ(x2:Int)=>.br (Q7k u32 x1 x2==0) (.lf (0,false)) (.an (Q1t (Q7k u32 x1 x2)) (.lv (Q0j (Q7k u32 x1 x2)) λ(x3:Int)=>.lf (x3,true)))))))
def Qm1 p:=(Q66 p).m
abbrev Qfh p:=(Q66 p).p
def Qsa:Q0a:=mT 33 [] true [.agg Q03.sig] [] (λa r=>Q66 (Q03.of (aC a 0))) (λX=>.tup [.int .i64 (X.1),.bool (X.2)]) (λX=>[])
theorem Qqt:Q04 pG Qsa:=oT (.cons Q73 (.cons Qdk (.cons Qhl (.cons Q3b (.nil))))) Tryz.func33 Tryz.call33 [] [] 2
def Q98(p:Q03)(clock:Int):Tree (Q03×(List Q0b)×Bool):=
.an (Q3l p) (.lv (Q54 p) λ(x0:Bool)=>.br (!x0) (.an (Q4u p) (.lv (Q8m p) λ(x1:Q03)=>.lf (x1,[],false))) (.an (Q6i p.A1) (.lv (Q16 p.A1) λ(x2:Int)=>.an (Q7 p) (.lv (Q4x p) λ(x3:Int)=>.br (Q7k u32 x2 x3 !=0) (.an (Qiu p (Q7k u32 x2 x3)) (.lv (Qpj p (Q7k u32 x2 x3)) λ(x4:Q03)=>.lf (x4,[],false))) (.an (Q4u p) (.lv (Q8m p) λ(x5:Q03)=>.an (Q88 p.A1 clock) (.lv (Q11 p.A1 clock) λ(x6:Q00×List Q0b)=>.lf ({A1:=x6.1,B0:=x5.B0,D5:=x5.D5,C7:=x5.C7},x6.2,true))))))))
def Qkr p clock:=(Q98 p clock).m
abbrev Qct p clock:=(Q98 p clock).p
def Qz4:Q0a:=mT 34 [] false [.agg Q03.sig,.one (.int .u32)] [] (λa r=>Q98 (Q03.of (aC a 0)) (argI a 1)) (λX=>.tup [.agg (Q03.cellsW (X.1) (.sl 1 (.ints .u32 X.1.A1.Mem) false) (.all 0)),.sl 4 (.recs .apiOutput (X.2.1)) false,.bool (X.2.2)]) (λX=>[⟨false,4,1,.bools (X.1).B0⟩])
theorem Qy6:Q04 pG Qz4:=oT (.cons Q73 (.cons Qd3 (.cons Qdk (.cons Qhl (.cons Quy (.cons Qmx (.nil))))))) Tryz.func34 Tryz.call34 [.sl (.ints .u32) false,.row 4 1 (.bools),.sl (.recs .apiOutput) false] [] 2 (hff:=nofun)
def Q76(p:Q03)(c:Q3i):Tree (Q03×Bool):=
.an (Q4u p) (.lv (Q8m p) λ(x0:Q03)=>.an (Q3l p) (.lv (Q54 p) λ(x1:Bool)=>.br (!x1) (.lf (x0,false)) (.br (decide (c.Frame<0)) (.lf (x0,false)) (.br (decide (c.Frame>=(p.B0.length:Int))) (.lf (x0,false)) (.cn (bT 1 1&&bJ 0 1&&decide (0<=c.Frame/\c.Frame<(p.B0.length:Int))) (.br (p.B0.getD c.Frame.toNat false) (.lf (x0,false)) (.an (Q3n p.A1.Mem c.Frame c.C8) (.lv (Q0k p.A1.Mem c.Frame c.C8) λ(x2:List Int×Bool)=>.br (!x2.2) (.lf (x0,false)) (.cn (bT 1 1&&bJ 0 1&&decide (0<=c.Frame/\c.Frame<(x0.B0.length:Int))) (.lf ({A1:={B2:=x0.A1.B2,Mem:=x2.1,A2:=x0.A1.A2,A9:=x0.A1.A9,A7:=x0.A1.A7,C1:=x0.A1.C1,A0:=x0.A1.A0,A3:=x0.A1.A3,A4:=x0.A1.A4,A6:=x0.A1.A6},B0:=List.set x0.B0 c.Frame.toNat true,D5:=x0.D5,C7:=x0.C7},true)))))))))))
def Qnp p c:=(Q76 p c).m
abbrev Qg9 p c:=(Q76 p c).p
def Qva:Q0a:=mT 27 [] true [.agg Q03.sig,.agg Q3i.sig] [] (λa r=>Q76 (Q03.of (aC a 0)) (Q3i.of (aC a 1))) (λX=>.tup [.agg (Q03.cellsW (X.1) (.all 0) (.all 1)),.bool (X.2)]) (λX=>[⟨false,23,1,.ints .u32 (X.1).A1.Mem⟩,⟨false,4,1,.bools (X.1).B0⟩])
theorem Qrs:Q04 pG Qva:=oT (.cons Qd3 (.cons Q73 (.cons Qdo (.nil)))) Tryz.func27 Tryz.call27 [.row 23 1 (.ints .u32),.row 4 1 (.bools)] [] 2
def Q5r(p:Q03)(most:Int)(z:(Int)×(List Int)):Nat:=(p.B0.length-z.1).toNat
def Q9j(p:Q03)(most:Int):Tree (List Int):=
.an (Q3l p) (.lv (Q54 p) λ(x0:Bool)=>.br (!x0) (.lf ([])) (.lp inferInstance (Q5r p most (0,[])+1) ((rE (most:Int)/\rZ/\True/\rE ((p.B0.length:Int):Int)/\rE ((p.B0.length:Int):Int)/\rE (0:Int)/\True)/\(mE p.A1 (((Els.Nil (Els.ints u32 p.A1.Mem)\/rE (1:Nat))/\rE p.A1.Mem)) (((Els.Nil (Els.bools p.B0)\/rE (1:Nat))/\rE p.B0)/\rE p.D5/\rE p.C7/\True))/\rE ([]:List Int)/\True) (0,[]) λ(v0:Int×List Int)=>.br (decide (v0.1<(p.B0.length:Int))) (.cn (decide ((p.B0.length:Int)≠(0:Int))) (let T1:Tree ((Int×List Int)⊕((List Int))):=.nx ((rE (most:Int)/\rZ/\True/\rE ((p.B0.length:Int):Int)/\rE ((p.B0.length:Int):Int)/\rE ((wrap i64 (v0.1+1)):Int)/\True)/\(mE p.A1 (((Els.Nil (Els.ints u32 p.A1.Mem)\/rE (1:Nat))/\rE p.A1.Mem)) (((Els.Nil (Els.bools p.B0)\/rE (1:Nat))/\rE p.B0)/\rE p.D5/\rE p.C7/\True))/\rE v0.2/\True) (Sum.inl (wrap i64 (v0.1+1),v0.2));.br (decide ((v0.2.length:Int)<most)) (.cn (bT 1 1&&bJ 0 1&&decide (0<=dA (wrap i64 (p.D5+v0.1)) (p.B0.length:Int)/\dA (wrap i64 (p.D5+v0.1)) (p.B0.length:Int)<(p.B0.length:Int))) (.br (!p.B0.getD (dB (dA (wrap i64 (p.D5+v0.1)) (p.B0.length:Int))) false) (.cn (decide (8*(v0.2.length+1)<=140737488355328)) (.nx ((rE (most:Int)/\rZ/\True/\rE ((p.B0.length:Int):Int)/\rE ((p.B0.length:Int):Int)/\rE ((wrap i64 (v0.1+1)):Int)/\True)/\(mE p.A1 (((Els.Nil (Els.ints u32 p.A1.Mem)\/rE (1:Nat))/\rE p.A1.Mem)) (((Els.Nil (Els.bools p.B0)\/rE (1:Nat))/\rE p.B0)/\rE p.D5/\rE p.C7/\True))/\rE ((v0.2++[dA (wrap i64 (p.D5+v0.1)) (p.B0.length:Int)]):List Int)/\True) (Sum.inl (wrap i64 (v0.1+1),v0.2++[dA (wrap i64 (p.D5+v0.1)) (p.B0.length:Int)])))) T1)) T1)) (.lf (Sum.inr v0.2))))
def Qrg p most:=(Q9j p most).m
abbrev Qkh p most:=(Q9j p most).p
def Qxh:LInv:={
 α:=(Int)×(List Int)
 F:=λst a=>([(1,(lk st 1)),(2,.ptr 0 0 0),(5,.all 1),(6,(lk st 6)),(15,(lk st 15)),(16,.int i64 a.1)],[⟨true,48,52,.gen [[(cT st 2 0),(cT st 2 1),(cT st 2 2),(cT st 2 3),(cT st 2 4),(cT st 2 5),(cT st 2 6),(cT st 2 7),(cT st 2 8),(cT st 2 9),(cT st 2 10),(cT st 2 11),(cT st 2 12),(cT st 2 13),(cT st 2 14),(cT st 2 15),(cT st 2 16),(cT st 2 17),(cT st 2 18),(cT st 2 19),(cT st 2 20),(cT st 2 21),(cT st 2 22),(cT st 2 23),(cT st 2 24),(cT st 2 25),(cT st 2 26),(cT st 2 27),(cT st 2 28),(cT st 2 29),(cT st 2 30),(cT st 2 31),(cT st 2 32),(cT st 2 33),(cT st 2 34),(cT st 2 35),(cT st 2 36),(cT st 2 37),(cT st 2 38),(cT st 2 39),(cT st 2 40),(cT st 2 41),(cT st 2 42),(cT st 2 43),(cT st 2 44),(cT st 2 45),(cT st 2 46),(cT st 2 47),(cT st 2 48),(cT st 2 49),(cT st 2 50),(cT st 2 51)]]⟩,⟨false,3,1,.ints i64 a.2⟩])
 a0:=λst=>((lk st 16).toInt,(Q5t st.rows (rN st 5)))
 ex0:=λst=>[]++[(rX st 2 0),(rX st 5 1)]}
def Qtk:List (Nat×LInv):=[(6,Qxh)]
def Z2i:Q0a:=mT 16 [] true [.agg Q03.sig,.one (.int .i64)] [] (λa r=>Q9j (Q03.of (aC a 0)) (argI a 1)) (λX=>.all 0) (λX=>[⟨false,3,1,.ints .i64 X⟩])
theorem Qx4:Q04 pG Z2i:=oT (.cons Q73 (.nil)) Tryz.func16 Tryz.call16 [.row 3 1 (.ints .i64)] Qtk 3
def Q8r(s:List Bool)(v:Bool)(z:(Int)):Nat:=(s.length-z).toNat
def Q39(s:List Bool)(v:Bool):Tree Int:=
.lp inferInstance (Q8r s v 0+1) ((((Els.Nil (Els.bools s)\/rE (1:Nat))/\rE (s:List Bool))/\rE (v:Bool)/\rE ((s.length:Int):Int)/\rE (0:Int)/\True)/\True) 0 λ(v0:Int)=>.br (decide (v0<(s.length:Int))) (.cn (bT 1 1&&bJ 0 1&&decide (0<=v0/\v0<(s.length:Int))) (.br (v==s.getD v0.toNat false) (.lf (Sum.inr v0)) (.nx ((((Els.Nil (Els.bools s)\/rE (1:Nat))/\rE (s:List Bool))/\rE (v:Bool)/\rE ((s.length:Int):Int)/\rE ((wrap i64 (v0+1)):Int)/\True)/\True) (Sum.inl (wrap i64 (v0+1)))))) (.lf (Sum.inr (-1)))
def Qcr s v:=(Q39 s v).m
abbrev Qaa s v:=(Q39 s v).p
def Qj2:LInv:={
 α:=(Int)
 F:=λst a=>([(0,(lk st 0)),(1,(lk st 1)),(7,(lk st 7)),(8,.int i64 a)],[])
 a0:=λst=>(lk st 8).toInt
 ex0:=λst=>[]++[]}
def Qge:List (Nat×LInv):=[(2,Qj2)]
def Qju:Q0a:=mT 106 [] true [.one (.bools),.one (.bool)] [] (λa r=>Q39 (argM a 0) (argB a 1)) (λX=>.int .i64 X) (λX=>[])
theorem Qj6:Q04 pG Qju:=oT (.nil) Tryz.func106 Tryz.call106 [] Qge 3
def Q2n(s:List Bool)(v:Bool):Tree Bool:=
.an (Qaa s v) (.lv (Qcr s v) λ(x0:Int)=>.lf (decide (x0>=0)))
def Qap s v:=(Q2n s v).m
abbrev Q86 s v:=(Q2n s v).p
def Qh7:Q0a:=mT 54 [] true [.one (.bools),.one (.bool)] [] (λa r=>Q2n (argM a 0) (argB a 1)) (λX=>.bool X) (λX=>[])
theorem Qfx:Q04 pG Qh7:=oT (.cons Qj6 (.nil)) Tryz.func54 Tryz.call54 [] [] 2
def Q9d(p:Q03):Tree Bool:=
.an (Q3l p) (.lv (Q54 p) λ(x0:Bool)=>.br x0 (.an (Q86 p.B0 false) (.lv (Qap p.B0 false) λ(x1:Bool)=>.lf (!x1))) (.lf false))
def Qs0 p:=(Q9d p).m
abbrev Qjn p:=(Q9d p).p
def Qzg:Q0a:=mT 17 [] true [.agg Q03.sig] [] (λa r=>Q9d (Q03.of (aC a 0))) (λX=>.bool X) (λX=>[])
theorem Qxu:Q04 pG Qzg:=oT (.cons Q73 (.cons Qfx (.nil))) Tryz.func17 Tryz.call17 [] [] 2
end
noncomputable section
def Qc3:Tree Bool:=
.an (Qf1 2 [0]) (.lv (Qeq 2 [0]) λ(x0:Q00)=>.an (Qiw x0) (.lv (Qpo x0) λ(x1:Q03×Bool)=>.an (Qfh x1.1) (.lv (Qm1 x1.1) λ(x2:Int×Bool)=>.an (Qct x1.1 0) (.lv (Qkr x1.1 0) λ(x3:Q03×List Q0b×Bool)=>.an (Q4g x0.Mem 0) (.lv (Q12 x0.Mem 0) λ(x4:List UInt8×Bool)=>.an (Qg9 x3.1 {Frame:=0,C8:=x4.1}) (.lv (Qnp x3.1 {Frame:=0,C8:=x4.1}) λ(x5:Q03×Bool)=>.an (Qct x5.1 0) (.lv (Qkr x5.1 0) λ(x6:Q03×List Q0b×Bool)=>.an (Qkh x5.1 2) (.lv (Qrg x5.1 2) λ(x7:List Int)=>.br x1.2 (.br x2.2 (.br (x2.1==0) (.br (!x3.2.2) (.br (x3.1.C7==1) (.br x5.2 (.br x6.2.2 (.br (x6.1.A1.A3==1) (.br ((x7.length:Int)==(2:Int)) (.cn (bT 1 1&&bJ 0 1&&decide ((0:Int)<=(0:Int)/\0<(x7.length:Int))) (.br (x7.getD (dB 0) (0:Int)==(1:Int)) (.an (Qjn x6.1) (.lv (Qs0 x6.1) λ(x8:Bool)=>.lf (!x8))) (.lf false))) (.lf false)) (.lf false)) (.lf false)) (.lf false)) (.lf false)) (.lf false)) (.lf false)) (.lf false)) (.lf false)))))))))
def Q7r:Bool:=(Qc3).m
abbrev Q3j:Prop:=(Qc3).p
def Z9t:Q0a:=mT 12 [] true [] [] (λa r=>Qc3) (λX=>.bool X) (λX=>[])
theorem Z32:Q04 pG Z9t:=oT (.cons Qnl (.cons Qve (.cons Qqt (.cons Qy6 (.cons Qdv (.cons Qrs (.cons Qx4 (.cons Qxu (.nil))))))))) Tryz.func12 Tryz.call12 [] [] 2
def Qpa(kind:Int)(prog:List Int)(steps:Int)(z:(Int)×Q00):Nat:=(steps-z.1).toNat
def Qjp(kind:Int)(prog:List Int)(steps:Int):Tree Q00:=
.an (Qf1 kind prog) (.lv (Qeq kind prog) λ(x0:Q00)=>.lp inferInstance (Qpa kind prog steps (0,x0)+1) ((rE (steps:Int)/\rZ/\rZ/\rE (0:Int)/\True)/\(mE zM True True)/\(mE x0 True True)/\rE x0.Mem/\True) (0,x0) λ(v0:Int×Q00)=>.br (decide (v0.1<steps)) (.an (Ql8 v0.2 (wrap u32 v0.1)) (.lv (Qk4 v0.2 (wrap u32 v0.1)) λ(x1:Q00×List Q0b)=>.br (dA v0.1 (9:Int)==(3:Int)) (.an (Qpl (wrap i64 (v0.1+steps))) (.lv (Quc (wrap i64 (v0.1+steps))) λ(x2:Q0v)=>.an (Qj4 x1.1 x2) (.lv (Qa8 x1.1 x2) λ(x3:Q00×Bool)=>.nx ((rE (steps:Int)/\rZ/\rZ/\rE ((wrap i64 (v0.1+1)):Int)/\True)/\(mE zM True True)/\(mE x3.1 True True)/\rE x3.1.Mem/\True) (Sum.inl (wrap i64 (v0.1+1),x3.1))))) (.nx ((rE (steps:Int)/\rZ/\rZ/\rE ((wrap i64 (v0.1+1)):Int)/\True)/\(mE zM True True)/\(mE x1.1 True True)/\rE x1.1.Mem/\True) (Sum.inl (wrap i64 (v0.1+1),x1.1))))) (.lf (Sum.inr v0.2)))
def Zih kind prog steps:=(Qjp kind prog steps).m
abbrev Qwr kind prog steps:=(Qjp kind prog steps).p
def Zge:LInv:={
 α:=(Int)×Q00
 F:=λst a=>([(2,(lk st 2)),(6,.ptr 0 0 0),(7,.ptr 1 0 0),(8,.int i64 a.1)],[⟨true,42,49,.gen [mB (cT st 6)]⟩,⟨true,42,49,.gen [mD a.2 (.all 2)]⟩,⟨false,23,1,.ints u32 a.2.Mem⟩])
 a0:=λst=>((lk st 8).toInt,(mR (cT st 7) (Q5t st.rows (Q1c (cT st 7 25) 1000000))))
 ex0:=λst=>[]++[(rX st 6 0),(rX st 7 1),(Q1c (cT st 7 25) (st.rows.length+2))]}
def Z8k:List (Nat×LInv):=[(3,Zge)]
def Zl7:Q0a:=mT 18 [] true [.one (.int .i64),.one (.ints .i64),.one (.int .i64)] [] (λa r=>Qjp (argI a 0) (argL .i64 a 1) (argI a 2)) (λX=>.agg (Q00.cellsW X (.all 0))) (λX=>[⟨false,23,1,.ints .u32 X.Mem⟩])
theorem Zh1:Q04 pG Zl7:=oT (.cons Qnl (.cons Zeh (.cons Z91 (.cons Z6u (.nil))))) Tryz.func18 Tryz.call18 [.row 23 1 (.ints .u32)] Z8k 3
end
noncomputable section
def Q6f(kind:Int)(prog:List Int)(steps frame data clock:Int)(z:(Int)):Nat:=(40-z).toNat
def Q7e(kind:Int)(prog:List Int)(steps frame data clock:Int):Tree Bool:=
.br (decide ((prog.length:Int)>(60:Int))) (.an Q3j (.lv Q7r λ(x0:Bool)=>.lf x0)) (.br (decide (steps<0)) (.an Q3j (.lv Q7r λ(x1:Bool)=>.lf x1)) (.br (decide (steps>100)) (.an Q3j (.lv Q7r λ(x2:Bool)=>.lf x2)) (.an (Qwr kind prog steps) (.lv (Zih kind prog steps) λ(x3:Q00)=>.lv (Q0u x3.Mem) λ(x4:Int)=>.br (decide (x4<1)) (.lf false) (.an (Q4d frame x4) (.lv (Q7i frame x4) λ(x5:Int)=>.an (Qim x3) (.lv (Qpg x3) λ(x6:List Int)=>.lp inferInstance (Q6f kind prog steps frame data clock 0+1) ((rE (data:Int)/\rE (clock:Int)/\rZ/\rE (x4:Int)/\rE (x5:Int)/\True/\rE (0:Int)/\True)/\(mE x3 True True)/\rE x3.Mem/\rE (x6:List Int)/\True) 0 λ(v0:Int)=>.br (decide (v0<(x6.length:Int))) (let E2:=bT 1 1&&bJ 0 1&&decide (0<=v0/\v0<(x6.length:Int));.cn E2 (.br (decide (x6.getD v0.toNat (0:Int)<(0:Int))) (.lf (Sum.inr false)) (.cn E2 (.br (decide (x6.getD v0.toNat 0>=x4)) (.lf (Sum.inr false)) (let T1:Tree ((Int)⊕(Bool)):=.cn E2 (.br (x6.getD v0.toNat 0==x5) (.an Q3j (.lv Q7r λ(x7:Bool)=>.lf (Sum.inr x7))) (.nx ((rE (data:Int)/\rE (clock:Int)/\rZ/\rE (x4:Int)/\rE (x5:Int)/\True/\rE ((wrap i64 (v0+1)):Int)/\True)/\(mE x3 True True)/\rE x3.Mem/\rE (x6:List Int)/\True) (Sum.inl (wrap i64 (v0+1)))));.br (decide (v0>0)) (.cn E2 (.cn (bT 1 1&&bJ 0 1&&decide (0<=wrap i64 (v0-1)/\wrap i64 (v0-1)<(x6.length:Int))) (.br (decide (x6.getD v0.toNat 0<=x6.getD (dB (wrap i64 (v0-1))) 0)) (.lf (Sum.inr false)) T1))) T1))))) (.an (Q6d data 128) (.lv (Qmb data 128) λ(x9:List UInt8)=>.an (Q3n x3.Mem x5 x9) (.lv (Q0k x3.Mem x5 x9) λ(x10:List Int×Bool)=>.an (Q88 x3 clock) (.lv (Q11 x3 clock) λ(x11:Q00×List Q0b)=>let E4:=({B2:=x3.B2,Mem:=x10.1,A2:=x3.A2,A9:=x3.A9,A7:=x3.A7,C1:=x3.C1,A0:=x3.A0,A3:=x3.A3,A4:=x3.A4,A6:=x3.A6}:Q00);.an (Q88 E4 clock) (.lv (Q11 E4 clock) λ(x12:Q00×List Q0b)=>.an (Q4g x3.Mem x5) (.lv (Q12 x3.Mem x5) λ(x13:List UInt8×Bool)=>.an (Q4g x12.1.Mem x5) (.lv (Q12 x12.1.Mem x5) λ(x14:List UInt8×Bool)=>.an (Q4g x11.1.Mem x5) (.lv (Q12 x11.1.Mem x5) λ(x15:List UInt8×Bool)=>.an (Q3n x12.1.Mem x5 x13.1) (.lv (Q0k x12.1.Mem x5 x13.1) λ(x16:List Int×Bool)=>.br (decide (x14.1=x9)) (.br (decide (x15.1=x13.1)) (let E3:=({B2:=x12.1.B2,Mem:=x16.1,A2:=x12.1.A2,A9:=x12.1.A9,A7:=x12.1.A7,C1:=x12.1.C1,A0:=x12.1.A0,A3:=x12.1.A3,A4:=x12.1.A4,A6:=x12.1.A6}:Q00);.an (Qre x11.1 E3) (.lv (Zdj x11.1 E3) λ(x17:Bool)=>.br x17 (.an (Q6z x11.2 x12.2) (.lv (Qln x11.2 x12.2) λ(x18:Bool)=>.br x18 (.an Q3j (.lv Q7r λ(x19:Bool)=>.lf (Sum.inr x19))) (.lf (Sum.inr false)))) (.lf (Sum.inr false)))) (.lf (Sum.inr false))) (.lf (Sum.inr false))))))))))))))))))
def Qhw kind prog steps frame data clock:=(Q7e kind prog steps frame data clock).m
abbrev Qi4 kind prog steps frame data clock:=(Q7e kind prog steps frame data clock).p
def Qta:LInv:={
 α:=(Int)
 F:=λst a=>([(4,(lk st 4)),(5,(lk st 5)),(13,.ptr 0 0 0),(14,(lk st 14)),(15,(lk st 15)),(16,.all 2),(17,.int i64 a)],[⟨true,42,49,.gen [[(cT st 13 0),(cT st 13 1),(cT st 13 2),(cT st 13 3),(cT st 13 4),(cT st 13 5),(cT st 13 6),(cT st 13 7),(cT st 13 8),(cT st 13 9),(cT st 13 10),(cT st 13 11),(cT st 13 12),(cT st 13 13),(cT st 13 14),(cT st 13 15),(cT st 13 16),(cT st 13 17),(cT st 13 18),(cT st 13 19),(cT st 13 20),(cT st 13 21),(cT st 13 22),(cT st 13 23),(cT st 13 24),.all 1,(cT st 13 26),(cT st 13 27),(cT st 13 28),(cT st 13 29),(cT st 13 30),(cT st 13 31),(cT st 13 32),(cT st 13 33),(cT st 13 34),(cT st 13 35),(cT st 13 36),(cT st 13 37),(cT st 13 38),(cT st 13 39),(cT st 13 40),(cT st 13 41),(cT st 13 42),(cT st 13 43),(cT st 13 44),(cT st 13 45),(cT st 13 46),(cT st 13 47),(cT st 13 48)]]⟩,⟨false,23,1,esOf st.rows (Q1c (cT st 13 25) 1000000)⟩,⟨false,3,1,esOf st.rows (rN st 16)⟩])
 a0:=λst=>(lk st 17).toInt
 ex0:=λst=>[]++[(rX st 13 0),(Q1c (cT st 13 25) (st.rows.length+1)),(rX st 16 2)]}
def Qp4:List (Nat×LInv):=[(10,Qta)]
def Qup:Q0a:=mT 4 [] true [.one (.int .i64),.one (.ints .i64),.one (.int .i64),.one (.int .i64),.one (.int .i64),.one (.int .u32)] [] (λa r=>Q7e (argI a 0) (argL .i64 a 1) (argI a 2) (argI a 3) (argI a 4) (argI a 5)) (λX=>.bool X) (λX=>[])
theorem Qtf:Q04 pG Qup:=oT (.cons Z32 (.cons Zh1 (.cons Q2a (.cons Qkt (.cons Qvf (.cons Qwa (.cons Qdo (.cons Qmx (.cons Qdv (.cons Ze (.cons Qqz (.nil)))))))))))) Tryz.func4 Tryz.call4 [] Qp4 3

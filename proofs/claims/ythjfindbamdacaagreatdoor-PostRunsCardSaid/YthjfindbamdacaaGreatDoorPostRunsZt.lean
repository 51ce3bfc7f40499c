import Derived.Test.YthjfindbamdacaaGreatDoorPostRunsZd
import Derived.Test.YthjfindbamdacaaGreatDoorPostRunsZx
open Nat renaming beq->bT,blt->bJ,lt_succ_self->cL
open List renaming getD->aK,length->dG,append->cN,take->cW,drop->cX,replicate->cM
open Int renaming toNat->dB,tdiv->eN,tmod->dA
set_option maxRecDepth 100000
set_option linter.all false
namespace Go.Proofs.YthjfindbamdacaaGreatDoor
open Go Go.GD Go.IntKind
noncomputable section
instance sumInhZi {α β:Type} [Inhabited β]:Inhabited (α⊕β):=⟨.inr default⟩
def Qrk(src:List UInt8)(z:(Int)×(List Int)):Nat:=((Z13 src).2.1.length-z.1).toNat
def Qr5(src:List UInt8)(v0:Int×List Int)(z:(Int)×(List Int)):Nat:=(1024-z.1).toNat
def Q9p(src:List UInt8):Tree ((List Int)×Q1k):=
.an (Qlx src) (.lv (Z13 src) λ(x0:List Q2f×List Q09×Q1k)=>.br (x0.2.2.Err !=0) (.lf ([],x0.2.2)) (.lp inferInstance (Qrk src (0,[])+1) ((True/\rZ/\True/\True/\True/\rE (0:Int)/\True)/\(rE (0:Int)/\rE (0:Int)/\True)/\rE x0.1/\rE x0.2.1/\rE ([]:List Int)/\True) (0,[]) λ(v0:Int×List Int)=>.br (decide (v0.1<(x0.2.1.length:Int))) (.cn (bT 6 6&&bJ 0 6&&decide (0<=v0.1/\v0.1<(x0.2.1.length:Int))) (let E4:=x0.2.1.getD v0.1.toNat (RK.dflt RK.vmfleetref1Statement);let T1:Tree ((Int×List Int)⊕(((List Int)×Q1k))):=.lp inferInstance (Qr5 src v0 (0,v0.2)+1) ((True/\rZ/\True/\True/\True/\rE v0.1/\rZ/\rE (0:Int)/\True)/\(rE (0:Int)/\rE (0:Int)/\True)/\rE x0.1/\rE x0.2.1/\(rE ((x0.2.1.getD v0.1.toNat (RK.dflt RK.vmfleetref1Statement)).what:List UInt8)/\rE ((x0.2.1.getD v0.1.toNat (RK.dflt RK.vmfleetref1Statement)).op:Int)/\((Els.Nil (D.toEs (aK (Els.get (Els.recs RK.vmfleetref1Statement x0.2.1) v0.1.toNat) ((0:Nat)+(1:Nat)+(1:Nat)) D.dead))\/rE (3:Nat))/\rE ((x0.2.1.getD v0.1.toNat (RK.dflt RK.vmfleetref1Statement)).l:List (RK.T RK.vmfleetref1Arg)))/\rE ((x0.2.1.getD v0.1.toNat (RK.dflt RK.vmfleetref1Statement)).D6:Int)/\rE ((x0.2.1.getD v0.1.toNat (RK.dflt RK.vmfleetref1Statement)).at_:Int)/\rE ((x0.2.1.getD v0.1.toNat (RK.dflt RK.vmfleetref1Statement)).size:Int)/\True)/\rE v0.2/\True) (0,v0.2) λ(v1:Int×List Int)=>.br (decide (v1.1<E4.size)) (.cn (decide (4*(v1.2.length+1)<=140737488355328)) (.nx ((True/\rZ/\True/\True/\True/\rE v0.1/\rZ/\rE ((wrap i64 (v1.1+1)):Int)/\True)/\(rE (0:Int)/\rE (0:Int)/\True)/\rE x0.1/\rE x0.2.1/\(rE ((x0.2.1.getD v0.1.toNat (RK.dflt RK.vmfleetref1Statement)).what:List UInt8)/\rE ((x0.2.1.getD v0.1.toNat (RK.dflt RK.vmfleetref1Statement)).op:Int)/\((Els.Nil (Els.recs RK.vmfleetref1Arg (x0.2.1.getD v0.1.toNat (RK.dflt RK.vmfleetref1Statement)).l)\/rE (3:Nat))/\rE ((x0.2.1.getD v0.1.toNat (RK.dflt RK.vmfleetref1Statement)).l:List (RK.T RK.vmfleetref1Arg)))/\rE ((x0.2.1.getD v0.1.toNat (RK.dflt RK.vmfleetref1Statement)).D6:Int)/\rE ((x0.2.1.getD v0.1.toNat (RK.dflt RK.vmfleetref1Statement)).at_:Int)/\rE ((x0.2.1.getD v0.1.toNat (RK.dflt RK.vmfleetref1Statement)).size:Int)/\True)/\rE ((v1.2++[0]):List Int)/\True) (Sum.inl (wrap i64 (v1.1+1),v1.2++[0])))) (.nx ((True/\rZ/\True/\True/\True/\rE ((wrap i64 (v0.1+1)):Int)/\True)/\(rE (0:Int)/\rE (0:Int)/\True)/\rE x0.1/\rE x0.2.1/\rE v1.2/\True) (Sum.inr (Sum.inl (wrap i64 (v0.1+1),v1.2))));let E5:=bT 3 3&&bJ 0 3&&decide ((0:Int)<=(0:Int)/\0<(↑(dG E4.l):Int));let E7:=aK E4.l (dB 0) (RK.dflt RK.vmfleetref1Arg);let E8:=decide (4*(v0.2.length+1)<=140737488355328);let T2:Tree ((Int×List Int)⊕(((List Int)×Q1k))):=.cn E5 (.cn (bT 3 3&&bJ 0 3&&decide ((0:Int)<=(1:Int)/\1<(↑(dG E4.l):Int))) (.lv (Q1q {Op:=16,A:=E7.reg,B:=(aK E4.l (dB 1) (RK.dflt RK.vmfleetref1Arg)).reg,C:=0,Imm:=0}) λ(x4:Int×Bool)=>.cn E8 (.nx ((True/\rZ/\True/\True/\True/\rE ((wrap i64 (v0.1+1)):Int)/\True)/\(rE (0:Int)/\rE (0:Int)/\True)/\rE x0.1/\rE x0.2.1/\rE ((v0.2++[x4.1]):List Int)/\True) (Sum.inl (wrap i64 (v0.1+1),v0.2++[x4.1])))));let T3:Tree ((Int×List Int)⊕(((List Int)×Q1k))):=.lv (Q1q {Op:=16,A:=0,B:=0,C:=0,Imm:=0}) λ(x5:Int×Bool)=>.cn E8 (.nx ((True/\rZ/\True/\True/\True/\rE ((wrap i64 (v0.1+1)):Int)/\True)/\(rE (0:Int)/\rE (0:Int)/\True)/\rE x0.1/\rE x0.2.1/\rE ((v0.2++[x5.1]):List Int)/\True) (Sum.inl (wrap i64 (v0.1+1),v0.2++[x5.1])));let E9:=decide (E4.what=[(46:UInt8),115,112,97,99,101]);let E10:=decide (E4.what=[(46:UInt8),119,111,114,100]);let E12:=decide (E4.what=[(110:UInt8),111,112]);let E13:=decide (4*(v0.2.length+2)<=140737488355328);let E14:=decide (E4.what=[(108:UInt8),105]);let E15:=decide (E4.what=[(109:UInt8),118]);.br (decide ((↑(dG E4.l):Int)>(0:Int))) (.cn (bT 3 3&&bJ 0 3&&decide (0<=wrap i64 ((↑(dG E4.l):Int)-(1:Int))/\wrap i64 ((↑(dG E4.l):Int)-(1:Int))<(↑(dG E4.l):Int))) (let E6:=aK E4.l (dB (wrap i64 ((↑(dG E4.l):Int)-(1:Int)))) (RK.dflt RK.vmfleetref1Arg);.br (!decide (E6.label=[])) (.an (Q45 x0.1 E6.label) (.lv (Qok x0.1 E6.label) λ(x1:Int×Bool)=>.br (!x1.2) (.lf (Sum.inr ([],{Err:=302,Line:=E4.D6}))) (.br (decide (E4.op>0)) (let E11:=wrap i64 (wrap i64 (eN (wrap i64 x1.1) 4)-E4.at_);.br E10 (.cn E8 (.nx ((True/\rZ/\True/\True/\True/\rE ((wrap i64 (v0.1+1)):Int)/\True)/\(rE (0:Int)/\rE (0:Int)/\True)/\rE x0.1/\rE x0.2.1/\rE ((v0.2++[wrap u32 (wrap i64 (wrap i64 (eN (wrap i64 x1.1) 4)-(x0.2.1.getD v0.1.toNat (RK.dflt RK.vmfleetref1Statement)).at_))]):List Int)/\True) (Sum.inl (wrap i64 (v0.1+1),v0.2++[wrap u32 E11])))) (.br E9 T1 (.br E14 (.cn E5 (.lv (Q1q {Op:=24,A:=E7.reg,B:=0,C:=0,Imm:=wrap i32 (ishr u32 (wrap u32 E11) 16)}) λ(x2:Int×Bool)=>.cn E5 (.cn E5 (.lv (Q1q {Op:=18,A:=E7.reg,B:=E7.reg,C:=0,Imm:=wrap i32 (iand u32 (wrap u32 E11) 65535)}) λ(x3:Int×Bool)=>.cn E13 (.nx ((True/\rZ/\True/\True/\True/\rE ((wrap i64 (v0.1+1)):Int)/\True)/\(rE (0:Int)/\rE (0:Int)/\True)/\rE x0.1/\rE x0.2.1/\rE ((v0.2++[x2.1,x3.1]):List Int)/\True) (Sum.inl (wrap i64 (v0.1+1),v0.2++[x2.1,x3.1]))))))) (.br E15 T2 (.br E12 T3 (.an (Qan E4 E11) (.lv (Qo5 E4 E11) λ(x6:Int×Bool)=>.br (!x6.2) (.lf (Sum.inr ([],{Err:=304,Line:=E4.D6}))) (.cn E8 (.nx ((True/\rZ/\True/\True/\True/\rE ((wrap i64 (v0.1+1)):Int)/\True)/\(rE (0:Int)/\rE (0:Int)/\True)/\rE x0.1/\rE x0.2.1/\rE ((v0.2++[x6.1]):List Int)/\True) (Sum.inl (wrap i64 (v0.1+1),v0.2++[x6.1]))))))))))) (.br E10 (.cn E8 (.nx ((True/\rZ/\True/\True/\True/\rE ((wrap i64 (v0.1+1)):Int)/\True)/\(rE (0:Int)/\rE (0:Int)/\True)/\rE x0.1/\rE x0.2.1/\rE ((v0.2++[wrap u32 (wrap i64 x1.1)]):List Int)/\True) (Sum.inl (wrap i64 (v0.1+1),v0.2++[wrap u32 (wrap i64 x1.1)])))) (.br E9 T1 (.br E14 (.cn E5 (.lv (Q1q {Op:=24,A:=E7.reg,B:=0,C:=0,Imm:=wrap i32 (ishr u32 (wrap u32 (wrap i64 x1.1)) 16)}) λ(x7:Int×Bool)=>.cn E5 (.cn E5 (.lv (Q1q {Op:=18,A:=E7.reg,B:=E7.reg,C:=0,Imm:=wrap i32 (iand u32 (wrap u32 (wrap i64 x1.1)) 65535)}) λ(x8:Int×Bool)=>.cn E13 (.nx ((True/\rZ/\True/\True/\True/\rE ((wrap i64 (v0.1+1)):Int)/\True)/\(rE (0:Int)/\rE (0:Int)/\True)/\rE x0.1/\rE x0.2.1/\rE ((v0.2++[x7.1,x8.1]):List Int)/\True) (Sum.inl (wrap i64 (v0.1+1),v0.2++[x7.1,x8.1]))))))) (.br E15 T2 (.br E12 T3 (.an (Qan E4 (wrap i64 x1.1)) (.lv (Qo5 E4 (wrap i64 x1.1)) λ(x11:Int×Bool)=>.br (!x11.2) (.lf (Sum.inr ([],{Err:=304,Line:=E4.D6}))) (.cn E8 (.nx ((True/\rZ/\True/\True/\True/\rE ((wrap i64 (v0.1+1)):Int)/\True)/\(rE (0:Int)/\rE (0:Int)/\True)/\rE x0.1/\rE x0.2.1/\rE ((v0.2++[x11.1]):List Int)/\True) (Sum.inl (wrap i64 (v0.1+1),v0.2++[x11.1])))))))))))))) (.br E10 (.cn E8 (.nx ((True/\rZ/\True/\True/\True/\rE ((wrap i64 (v0.1+1)):Int)/\True)/\(rE (0:Int)/\rE (0:Int)/\True)/\rE x0.1/\rE x0.2.1/\rE ((v0.2++[wrap u32 (aK (x0.2.1.getD v0.1.toNat (RK.dflt RK.vmfleetref1Statement)).l (dB (wrap i64 ((↑(dG (x0.2.1.getD v0.1.toNat (RK.dflt RK.vmfleetref1Statement)).l):Int)-(1:Int)))) (RK.dflt RK.vmfleetref1Arg)).num]):List Int)/\True) (Sum.inl (wrap i64 (v0.1+1),v0.2++[wrap u32 E6.num])))) (.br E9 T1 (.br E14 (.cn E5 (.lv (Q1q {Op:=24,A:=E7.reg,B:=0,C:=0,Imm:=wrap i32 (ishr u32 (wrap u32 E6.num) 16)}) λ(x12:Int×Bool)=>.cn E5 (.cn E5 (.lv (Q1q {Op:=18,A:=E7.reg,B:=E7.reg,C:=0,Imm:=wrap i32 (iand u32 (wrap u32 E6.num) 65535)}) λ(x13:Int×Bool)=>.cn E13 (.nx ((True/\rZ/\True/\True/\True/\rE ((wrap i64 (v0.1+1)):Int)/\True)/\(rE (0:Int)/\rE (0:Int)/\True)/\rE x0.1/\rE x0.2.1/\rE ((v0.2++[x12.1,x13.1]):List Int)/\True) (Sum.inl (wrap i64 (v0.1+1),v0.2++[x12.1,x13.1]))))))) (.br E15 T2 (.br E12 T3 (.an (Qan E4 E6.num) (.lv (Qo5 E4 E6.num) λ(x16:Int×Bool)=>.br (!x16.2) (.lf (Sum.inr ([],{Err:=304,Line:=E4.D6}))) (.cn E8 (.nx ((True/\rZ/\True/\True/\True/\rE ((wrap i64 (v0.1+1)):Int)/\True)/\(rE (0:Int)/\rE (0:Int)/\True)/\rE x0.1/\rE x0.2.1/\rE ((v0.2++[x16.1]):List Int)/\True) (Sum.inl (wrap i64 (v0.1+1),v0.2++[x16.1]))))))))))))) (.br E10 (.cn E8 (.nx ((True/\rZ/\True/\True/\True/\rE ((wrap i64 (v0.1+1)):Int)/\True)/\(rE (0:Int)/\rE (0:Int)/\True)/\rE x0.1/\rE x0.2.1/\rE ((v0.2++[wrap u32 0]):List Int)/\True) (Sum.inl (wrap i64 (v0.1+1),v0.2++[wrap u32 0])))) (.br E9 T1 (.br E14 (.cn E5 (.lv (Q1q {Op:=24,A:=E7.reg,B:=0,C:=0,Imm:=wrap i32 (ishr u32 (wrap u32 0) 16)}) λ(x17:Int×Bool)=>.cn E5 (.cn E5 (.lv (Q1q {Op:=18,A:=E7.reg,B:=E7.reg,C:=0,Imm:=wrap i32 (iand u32 (wrap u32 0) 65535)}) λ(x18:Int×Bool)=>.cn E13 (.nx ((True/\rZ/\True/\True/\True/\rE ((wrap i64 (v0.1+1)):Int)/\True)/\(rE (0:Int)/\rE (0:Int)/\True)/\rE x0.1/\rE x0.2.1/\rE ((v0.2++[x17.1,x18.1]):List Int)/\True) (Sum.inl (wrap i64 (v0.1+1),v0.2++[x17.1,x18.1]))))))) (.br E15 T2 (.br E12 T3 (.an (Qan E4 0) (.lv (Qo5 E4 0) λ(x21:Int×Bool)=>.br (!x21.2) (.lf (Sum.inr ([],{Err:=304,Line:=E4.D6}))) (.cn E8 (.nx ((True/\rZ/\True/\True/\True/\rE ((wrap i64 (v0.1+1)):Int)/\True)/\(rE (0:Int)/\rE (0:Int)/\True)/\rE x0.1/\rE x0.2.1/\rE ((v0.2++[x21.1]):List Int)/\True) (Sum.inl (wrap i64 (v0.1+1),v0.2++[x21.1]))))))))))))) (.lf (Sum.inr (v0.2,{Err:=0,Line:=0})))))
def Q1i src:=(Q9p src).m
abbrev Qax src:=(Q9p src).p
def Qz3:LInv:={
 α:=(Int)×(List Int)
 F:=λst a=>([(2,(lk st 2)),(3,.ptr 0 0 0),(4,.all 1),(5,.all 2),(7,.all 3),(8,.int i64 a.1)],[⟨true,112,2,.gen [[(cT st 3 0),(cT st 3 1)]]⟩,⟨false,238,2,esOf st.rows (rN st 4)⟩,⟨false,175,6,esOf st.rows (rN st 5)⟩,⟨false,23,1,.ints u32 a.2⟩])
 a0:=λst=>((lk st 8).toInt,(Q5u st.rows (rN st 7)))
 ex0:=λst=>[]++[(rX st 3 0),(rX st 4 1),(rX st 5 2),(rX st 7 3)]}
def Qz6:LInv:={
 α:=(Int)×(List Int)
 F:=λst a=>([(2,(lk st 2)),(3,.ptr 0 0 0),(4,.all 1),(5,.all 2),(7,.all 4),(8,(lk st 8)),(9,.ptr 3 0 0),(14,.int i64 a.1)],[⟨true,112,2,.gen [[(cT st 3 0),(cT st 3 1)]]⟩,⟨false,238,2,esOf st.rows (rN st 4)⟩,⟨false,175,6,esOf st.rows (rN st 5)⟩,⟨true,175,6,.gen [[(cT st 9 0),(cT st 9 1),(cT st 9 2),(cT st 9 3),(cT st 9 4),(cT st 9 5)]]⟩,⟨false,23,1,.ints u32 a.2⟩])
 a0:=λst=>((lk st 14).toInt,(Q5u st.rows (rN st 7)))
 ex0:=λst=>[]++[(rX st 3 0),(rX st 4 1),(rX st 5 2),(rX st 9 3),(rX st 7 4)]}
def Qsf:List (Nat×LInv):=[(6,Qz3),(29,Qz6)]
def Z1g:Q0b:=mT 49 [] true [.one (.str)] [] (λa r=>Q9p (argS a 0)) (λX=>.tup [.all 0,.agg (Q1k.cells (X.2))]) (λX=>[⟨false,23,1,.ints .u32 (X.1)⟩])
theorem Qyw:Q04 pG Z1g:=oT (.cons Zdq (.cons Qoz (.cons Qkg (.cons Zcb (.nil))))) Tryz.func49 Tryz.call49 [.row 23 1 (.ints .u32)] Qsf 3
end
noncomputable section
instance sumInhZh {α β:Type} [Inhabited β]:Inhabited (α⊕β):=⟨.inr default⟩
end
noncomputable section
def tblZe0:List UInt8:=[(105:UInt8),32,114,49,44,32,104,97,110,100,108,101,114,10,99,115,114,119,32,114,49,44,32,49,10,108,105,32,114,49,44,32,51,49,10,99,115,114,119,32,114]
def Z77:List UInt8:=[(49:UInt8),44,32,55,10,108,105,32,114,49,44,32,52,10,99,115,114,119,32,114,49,44,32,54,10,108,105,32,114,50,44,32,53,49,50,10,108,105,32,114,51,44]
def Z60:List UInt8:=[(32:UInt8),48,10,108,105,32,114,52,44,32,56,10,109,97,112,58,32,115,104,108,105,32,114,53,44,32,114,51,44,32,56,10,111,114,105,32,114,53,44,32,114,53]
def Z69:List UInt8:=[(44:UInt8),32,55,10,115,104,108,105,32,114,54,44,32,114,51,44,32,50,10,97,100,100,32,114,54,44,32,114,54,44,32,114,50,10,115,119,32,114,53,44,32,48,40]
def Z7y:List UInt8:=[(114:UInt8),54,41,10,97,100,100,105,32,114,51,44,32,114,51,44,32,49,10,98,108,116,32,114,51,44,32,114,52,44,32,109,97,112,10,108,105,32,114,49,44,32]
def Z7d:List UInt8:=[(54:UInt8),10,111,117,116,32,114,49,44,32,55,10,108,105,32,114,49,44,32,50,10,111,117,116,32,114,49,44,32,57,10,108,105,32,114,49,44,32,49,48,48,10,111]
def Z7r:List UInt8:=[(117:UInt8),116,32,114,49,44,32,51,10,108,105,32,114,49,44,32,54,52,48,10,99,115,114,119,32,114,49,44,32,50,10,108,105,32,114,49,44,32,50,49,10,99]
def Z72:List UInt8:=[(115:UInt8),114,119,32,114,49,44,32,48,10,101,114,101,116,10,104,97,110,100,108,101,114,58,32,99,115,114,119,32,114,49,44,32,53,10,99,115,114,114,32,114,49,44]
def Z6b:List UInt8:=[(32:UInt8),51,10,115,108,116,105,32,114,49,44,32,114,49,44,32,49,54,10,98,101,113,32,114,49,44,32,114,48,44,32,105,114,113,10,99,115,114,114,32,114,49]
def Z7i:List UInt8:=[(44:UInt8),32,50,10,97,100,100,105,32,114,49,44,32,114,49,44,32,52,10,99,115,114,119,32,114,49,44,32,50,10,105,110,32,114,51,44,32,50,10,111,117,116]
def Qws:List UInt8:=[(32:UInt8),114,51,44,32,48,10,108,105,32,114,49,44,32,49,10,111,117,116,32,114,49,44,32,52,10,108,105,32,114,49,44,32,55,10,111,117,116,32,114,49,44]
def Qv5:List UInt8:=[(32:UInt8),53,10,97,110,100,105,32,114,49,44,32,114,50,44,32,49,10,97,100,100,105,32,114,49,44,32,114,49,44,32,49,10,111,117,116,32,114,49,44,32,54,10]
def Qwj:List UInt8:=[(99:UInt8),115,114,114,32,114,49,44,32,53,10,101,114,101,116,10,105,114,113,58,32,105,110,32,114,49,44,32,48,10,111,117,116,32,114,49,44,32,48,10,111,117]
def Qwi:List UInt8:=[(116:UInt8),32,114,48,44,32,54,10,111,117,116,32,114,48,44,32,57,10,108,105,32,114,49,44,32,54,10,111,117,116,32,114,49,44,32,55,10,108,105,32,114,49,44]
def Quu:List UInt8:=[(32:UInt8),50,10,111,117,116,32,114,49,44,32,57,10,105,110,32,114,49,44,32,50,10,97,100,100,105,32,114,49,44,32,114,49,44,32,50,48,10,111,117,116,32]
def Qwq:List UInt8:=[(114:UInt8),49,44,32,51,10,105,110,32,114,49,44,32,49,48,10,111,117,116,32,114,49,44,32,49,48,10,99,115,114,114,32,114,49,44,32,53,10,101,114,101,116,10]
def Zas:List UInt8:=[(108:UInt8),105,32,114,49,44,32,104,97,110,100,108,101,114,10,99,115,114,119,32,114,49,44,32,49,10,108,105,32,114,49,44,32,51,49,10,99,115,114,119,32,114]
instance sumInhZe {α β:Type} [Inhabited β]:Inhabited (α⊕β):=⟨.inr default⟩
def Qlg(l:List Q3f)(z:(Int)):Prop:=1<=z/\(z<=l.length\/z=1)
def Qdk(l:List Q3f)(z:(Int)):Nat:=(l.length-z).toNat
def Qey(l:List Q3f):Tree Bool:=
.lp inferInstance (Qdk l 1+1) ((nR RK.apiEntry 4 l/\rE (1:Int)/\True)/\True) 1 λ(v0:Int)=>.br (decide (v0<(l.length:Int))) (let E4:=bT 4 4&&bJ 0 4&&decide (0<=v0/\v0<(l.length:Int));.cn E4 (let E2:=bT 4 4&&bJ 0 4&&decide (0<=wrap i64 (v0-1)/\wrap i64 (v0-1)<(l.length:Int));.cn E2 (let E3:=l.getD (dB (wrap i64 (v0-1))) (RK.dflt RK.apiEntry);let E5:=l.getD v0.toNat (RK.dflt RK.apiEntry);.br (decide (E5.At<E3.At)) (.lf (Sum.inr false)) (.cn E4 (.cn E2 (let T1:Tree ((Int)⊕(Bool)):=.nx ((nR RK.apiEntry 4 l/\rE ((wrap i64 (v0+1)):Int)/\True)/\True) (Sum.inl (wrap i64 (v0+1)));.br (E5.At==E3.At) (.cn E2 (.br (E3.Event.C3==1) (.lf (Sum.inr false)) T1)) T1)))))) (.lf (Sum.inr true))
def Qy1 l:=(Qey l).m
def Q8w(l:List Q3f):Prop:=
l.length<=1000000000000
theorem Qz(l:List Q3f)(hw:Q8w l):(Qey l).p:=by
 simp only[Q8w]at hw
 unfold Tree.p Qey
 repeat'(first|refine w_lp (inv:=Qlg l) (μ:=Qdk l) ?_ (cL _) (λ_ _=>?_)|exact trivial|refine w_br (λ_=>?_) (λ_=>?_)|refine w_cn ?_ ?_|refine w_an ?_ ?_|refine w_lv (λ_ _=>?_)|refine w_nx ?_|refine w_lf ?_|refine And.intro ?_ ?_)
 all_goals((try simp only[Qlg,Qdk]at*);exact fin0)
def Z32:LInv:={
 α:=(Int)
 F:=λst a=>([(0,(lk st 0)),(3,.int i64 a)],[])
 a0:=λst=>(lk st 3).toInt
 ex0:=λst=>[]++[]}
def Qve:List (Nat×LInv):=[(2,Z32)]
def Z57:Q0b:=mkP 102 [] true [.one (.recs .apiEntry)] [] (λa r=>Q8w (argR .apiEntry a 0)) (λa r=>Qy1 (argR .apiEntry a 0)) (λX=>.bool X) (λX=>[])
theorem Z1c:Q04 pG Z57:=Q0o drawn Q0m (.nil) Tryz.func102 Tryz.call102 (λa r=>Qey (argR .apiEntry a 0)) [] Qve 3 (hp:=λa r h=>Qz (argR .apiEntry a 0) h)
def Qg5(m:Q00)(script:List Q3f)(until0:Int)(z:Q00×(List Q0a)):Nat:=(until0-z.1.A2).toNat
def Qg2(m:Q00)(script:List Q3f)(until0:Int)(v0:Q00×List Q0a)(z:Unit):Nat:=0
def Q9y(m:Q00)(script:List Q3f)(until0:Int):Tree (Q00×(List Q0a)×Int×Int):=
.lv (Qdl m) λ(x0:Bool)=>let E2:=({A4:={X:={a0:=0,a1:=0,a2:=0,a3:=0,a4:=0,a5:=0,a6:=0,a7:=0,a8:=0,a9:=0,a10:=0,a11:=0,a12:=0,a13:=0,a14:=0,a15:=0},Pc:=0,B3:={a0:=0,a1:=0,a2:=0,a3:=0,a4:=0,a5:=0,a6:=0,a7:=0}},Mem:=[],A3:={D0:=[]},B2:={D4:=false,C7:=0,D2:=false},B0:={Blocks:=0,B8:=0,Frame:=0,B9:=0,D5:=0,B5:=0,B1:=0,C1:=[]},C2:={Frame:=0,D7:=0,C4:=false,B6:=0,B7:=false,E0:=0},A1:={C6:=0,C0:=0},A2:=0,A6:=false,A9:=false}:Q00);let T1:Tree ((Q00×(List Q0a)×Int×Int)):=.lf (E2,[],0,1300);.br (!x0) T1 (.br (decide (until0<m.A2)) T1 (.br (decide (wrap u64 (until0-m.A2)>4000)) T1 (.an (Q8w []) (.lv (Qy1 []) λ(x1:Bool)=>.br (!x1) (.lf (E2,[],0,1301)) (.an (Qjw m) (.lv (Qpy m) λ(x2:Q00)=>.lp inferInstance (Qg5 m script until0 (x2,[])+1) ((((Els.Nil (Els.gen [])\/rE (0:Nat))/\rE ([]:List (List D)))/\rE (until0:Int)/\rZ/\rZ/\True/\rE (0:Int)/\True)/\(mE x2 True True)/\rE x2.Mem/\(mE zM True True)/\rE ([]:List (RK.T RK.apiOutput))/\True) (x2,[]) λ(v0:Q00×List Q0a)=>.br (decide (v0.1.A2<until0)) (.br (decide (v0.1.A2<1152921504606846976)) (.lp inferInstance (Qg2 m script until0 v0 ()+1) ((((Els.Nil (Els.gen [])\/rE (0:Nat))/\rE ([]:List (List D)))/\rE (until0:Int)/\rZ/\rZ/\True/\rE (0:Int)/\(rE (0:Nat)/\rE (46:Nat))/\rE v0.1.A2/\rE ((decide (v0.1.A2<1152921504606846976)):Bool)/\True)/\(mE v0.1 True True)/\rE v0.1.Mem/\(mE zM True True)/\rE v0.2/\True) () λ(v1:PUnit)=>.br v0.1.A9 (.lf (Sum.inr (Sum.inr (v0.1,v0.2,0,0)))) (.an (Qmd v0.1) (.lv (Qfa v0.1) λ(x3:Bool)=>.br x3 (.lf (Sum.inr (Sum.inr (v0.1,v0.2,0,0)))) (.an (Qqo v0.1) (.lv (Z6q v0.1) λ(x4:Bool)=>.br (!false==x4) (.lf (Sum.inr (Sum.inr (E2,[],0,1302)))) (.an (Qg8 v0.1 0) (.lv (Q2a v0.1 0) λ(x5:List Q0a×Q00)=>.cn (decide (40*(v0.2.length+x5.1.length)<=140737488355328)) (.nx ((((Els.Nil (Els.gen [])\/rE (0:Nat))/\rE ([]:List (List D)))/\rE (until0:Int)/\rZ/\rZ/\True/\rE (0:Int)/\True)/\(mE x5.2 True True)/\rE x5.2.Mem/\(mE zM True True)/\rE ((v0.2++x5.1):List (RK.T RK.apiOutput))/\True) (Sum.inr (Sum.inl (x5.2,v0.2++x5.1))))))))))) (.lf (Sum.inr (v0.1,v0.2,0,0)))) (.lf (Sum.inr (v0.1,v0.2,0,0)))))))))
def Qef m script until0:=(Q9y m script until0).m
abbrev Qbs m script until0:=(Q9y m script until0).p
def Za:LInv:={
 α:=Q00×(List Q0a)
 F:=λst a=>([(1,(lk st 1)),(2,(lk st 2)),(3,.ptr 0 0 0),(6,.ptr 2 0 0),(10,.all 3),(11,(lk st 11))],[⟨true,42,49,.gen [mD a.1 (.all 1)]⟩,⟨false,23,1,.ints u32 a.1.Mem⟩,⟨true,42,49,.gen [mB (cT st 6)]⟩,⟨false,137,4,.recs RK.apiOutput a.2⟩])
 a0:=λst=>((mR (cT st 3) (Q5u st.rows (Q1c (cT st 3 25) 1000000))),(Qn5 RK.apiOutput st.rows (rN st 10)))
 ex0:=λst=>[]++[(rX st 3 0),(Q1c (cT st 3 25) (st.rows.length+1)),(rX st 6 2),(rX st 10 3)]}
def Z8y:LInv:={
 α:=Unit
 F:=λst a=>([(1,(lk st 1)),(2,(lk st 2)),(3,.ptr 0 0 0),(6,.ptr 2 0 0),(10,.all 3),(11,(lk st 11)),(61,.ptr 0 0 46),(62,(lk st 62)),(63,(lk st 63))],[⟨true,42,49,.gen [[(cT st 3 0),(cT st 3 1),(cT st 3 2),(cT st 3 3),(cT st 3 4),(cT st 3 5),(cT st 3 6),(cT st 3 7),(cT st 3 8),(cT st 3 9),(cT st 3 10),(cT st 3 11),(cT st 3 12),(cT st 3 13),(cT st 3 14),(cT st 3 15),(cT st 3 16),(cT st 3 17),(cT st 3 18),(cT st 3 19),(cT st 3 20),(cT st 3 21),(cT st 3 22),(cT st 3 23),(cT st 3 24),.all 1,(cT st 3 26),(cT st 3 27),(cT st 3 28),(cT st 3 29),(cT st 3 30),(cT st 3 31),(cT st 3 32),(cT st 3 33),(cT st 3 34),(cT st 3 35),(cT st 3 36),(cT st 3 37),(cT st 3 38),(cT st 3 39),(cT st 3 40),(cT st 3 41),(cT st 3 42),(cT st 3 43),(cT st 3 44),(cT st 3 45),(cT st 3 46),(cT st 3 47),(cT st 3 48)]]⟩,⟨false,23,1,esOf st.rows (Q1c (cT st 3 25) 1000000)⟩,⟨true,42,49,.gen [mB (cT st 6)]⟩,⟨false,137,4,esOf st.rows (rN st 10)⟩])
 a0:=λst=>()
 ex0:=λst=>[]++[(rX st 3 0),(Q1c (cT st 3 25) (st.rows.length+1)),(rX st 6 2),(rX st 10 3)]}
def Z3a:List (Nat×LInv):=[(8,Za),(9,Z8y)]
def Zeq:Q0b:=mT 52 [] true [.agg Q00.sig,.one .nil,.one (.int .u64)] [] (λa r=>Q9y (Q00.of (aC a 0)) (argR .apiEntry a 1) (argI a 2)) (λX=>.tup [.agg (Q00.cellsW (X.1) (.all 0)),.all 1,.int .i64 (X.2.2.1),.int .i64 (X.2.2.2)]) (λX=>[⟨false,23,1,.ints .u32 (X.1).Mem⟩,⟨false,137,4,.recs .apiOutput (X.2.1)⟩])
theorem Za6:Q04 pG Zeq:=oT (.cons Qrr (.cons Z1c (.cons Qrn (.cons Qt7 (.cons Qy3 (.cons Za9 (.cons Qoc (.nil)))))))) Tryz.func52 Tryz.call52 [.row 23 1 (.ints .u32),.row 137 4 (.recs .apiOutput)] Z3a 3
def Qda(kind:Int)(l z:List Int):Nat:=160-z.length
def Q7g(kind:Int)(l:List Int):Tree Q00:=
.an (Q4v kind 3) (.lv (Q81 kind 3) λ(x0:Int)=>.br (decide (x0<2)) (.an (Qax ((108:UInt8)::(tblZe0++Z77++(Z60++Z69)++(Z7y++Z7d++(Z7r++Z72))++(Z6b++Z7i++(Qws++Qv5)++(Qwj++Qwi++(Quu++Qwq)))))) (.lv (Q1i (cN (cN (cN (cN Zas Z77) (cN Z60 Z69)) (cN (cN Z7y Z7d) (cN Z7r Z72))) (cN (cN (cN Z6b Z7i) (cN Qws Qv5)) (cN (cN Qwj Qwi) (cN Quu Qwq))))) λ(x1:List Int×Q1k)=>.lp inferInstance (Qda kind l x1.1+1) ((rE (x0:Int)/\((Els.Nil (Els.ints i64 l)\/rE (1:Nat))/\rE (l:List Int))/\rZ/\True/\True)/\(mE zM True True)/\rE x1.1/\True) x1.1 λ(v0:List Int)=>.br (decide ((v0.length:Int)<(160:Int))) (.cn (decide (4*(v0.length+1)<=140737488355328)) (.nx ((rE (x0:Int)/\((Els.Nil (Els.ints i64 l)\/rE (1:Nat))/\rE (l:List Int))/\rZ/\True/\True)/\(mE zM True True)/\rE ((v0++[0]):List Int)/\True) (Sum.inl (v0++[0])))) (.an (Qmf l) (.lv (Qnp l) λ(x2:List Int)=>.cn (decide (4*(v0.length+x2.length)<=140737488355328)) (.br (decide ((↑(dG (v0++x2)):Int)>(256:Int))) (.cn (bT 1 1&&bJ 0 1&&decide ((0:Int)<=(0:Int)/\(0:Int)<=(256:Int)/\256<=(↑(dG (v0++x2)):Int))) (let E1:=cW (dB 256-dB 0) (cX (dB 0) (v0++x2));.an (Qff 8 4 E1) (.lv (Q25 8 4 E1) λ(x3:Q00×Bool)=>.br (x0==1) (.an (Qbs x3.1 [] 87) (.lv (Qef x3.1 [] 87) λ(x4:Q00×List Q0a×Int×Int)=>.lf (Sum.inr x4.1))) (.lf (Sum.inr x3.1))))) (.an (Qff 8 4 (v0++x2)) (.lv (Q25 8 4 (v0++x2)) λ(x5:Q00×Bool)=>.br (x0==1) (.an (Qbs x5.1 [] 87) (.lv (Qef x5.1 [] 87) λ(x6:Q00×List Q0a×Int×Int)=>.lf (Sum.inr x6.1))) (.lf (Sum.inr x5.1))))))))) (.an (Qmf l) (.lv (Qnp l) λ(x7:List Int)=>.cn (decide (4*(0+x7.length)<=140737488355328)) (.br (decide ((x7.length:Int)>(256:Int))) (.cn (bT 1 1&&bJ 0 1&&decide ((0:Int)<=(0:Int)/\(0:Int)<=(256:Int)/\256<=(x7.length:Int))) (let E2:=cW (dB 256-dB 0) (cX (dB 0) x7);.an (Qff 8 4 E2) (.lv (Q25 8 4 E2) λ(x8:Q00×Bool)=>.br (x0==1) (.an (Qbs x8.1 [] 87) (.lv (Qef x8.1 [] 87) λ(x9:Q00×List Q0a×Int×Int)=>.lf x9.1)) (.lf x8.1)))) (.an (Qff 8 4 x7) (.lv (Q25 8 4 x7) λ(x10:Q00×Bool)=>.br (x0==1) (.an (Qbs x10.1 [] 87) (.lv (Qef x10.1 [] 87) λ(x11:Q00×List Q0a×Int×Int)=>.lf x11.1)) (.lf x10.1)))))))
def Qfq kind l:=(Q7g kind l).m
abbrev Qg kind l:=(Q7g kind l).p
def Z1e:LInv:={
 α:=(List Int)
 F:=λst a=>([(0,(lk st 0)),(1,(lk st 1)),(4,.ptr 0 0 0),(5,.all 1)],[⟨true,42,49,.gen [mB (cT st 4)]⟩,⟨false,23,1,.ints u32 a⟩])
 a0:=λst=>(Q5u st.rows (rN st 5))
 ex0:=λst=>[]++[(rX st 4 0),(rX st 5 1)]}
def Qv4:List (Nat×LInv):=[(5,Z1e)]
def Z54:Q0b:=mT 13 [] true [.one (.int .i64),.one (.ints .i64)] [] (λa r=>Q7g (argI a 0) (argL .i64 a 1)) (λX=>.agg (Q00.cellsW X (.all 0))) (λX=>[⟨false,23,1,.ints .u32 X.Mem⟩])
theorem Qos:Q04 pG Z54:=oT (.cons Qm3 (.cons Qyw (.cons Zeg (.cons Zis (.cons Za6 (.nil)))))) Tryz.func13 Tryz.call13 [.row 23 1 (.ints .u32)] Qv4 3
end
noncomputable section
def Qei(m:Q00)(clock:Int):Tree (Q00×(List Q0a)):=
.an (Qjw m) (.lv (Qpy m) λ(x0:Q00)=>.an (Qr1 x0) (.lv (Q7u x0) λ(x1:Bool)=>.br x1 (.lf (x0,[])) (.an (Qg8 x0 clock) (.lv (Q2a x0 clock) λ(x2:List Q0a×Q00)=>.lf (x2.2,x2.1)))))
def Qli m clock:=(Qei m clock).m
abbrev Qm m clock:=(Qei m clock).p
def Zg9:Q0b:=mT 42 [] true [.agg Q00.sig,.one (.int .u32)] [] (λa r=>Qei (Q00.of (aC a 0)) (argI a 1)) (λX=>.tup [.agg (Q00.cellsW (X.1) (.all 0)),.sl 4 (.recs .apiOutput (X.2)) true]) (λX=>[⟨false,23,1,.ints .u32 (X.1).Mem⟩])
theorem Zd9:Q04 pG Zg9:=oT (.cons Qrn (.cons Zaq (.cons Qoc (.nil)))) Tryz.func42 Tryz.call42 [.row 23 1 (.ints .u32),.sl (.recs .apiOutput) true] [] 2
def Qfo(a b:List Q0a)(z:(Int)):Prop:=0<=z/\z<=a.length/\a.length=b.length
def Q6g(a b:List Q0a)(z:(Int)):Nat:=(a.length-z).toNat
def Q5a(a b:List Q0a):Tree Bool:=
.br ((a.length:Int) !=(b.length:Int)) (.lf false) (.lp inferInstance (Q6g a b 0+1) ((nR RK.apiOutput 4 a/\nR RK.apiOutput 4 b/\rE (0:Int)/\True)/\True) 0 λ(v0:Int)=>.br (decide (v0<(a.length:Int))) (.cn (bT 4 4&&bJ 0 4&&decide (0<=v0/\v0<(a.length:Int))) (.cn (bT 4 4&&bJ 0 4&&decide (0<=v0/\v0<(b.length:Int))) (let E1:=a.getD v0.toNat (RK.dflt RK.apiOutput);let E2:=b.getD v0.toNat (RK.dflt RK.apiOutput);.br (!eqs [D.int i64 E1.C3,D.int u64 E1.At,D.int u32 E1.B8,D.str E1.C5] [D.int i64 E2.C3,D.int u64 E2.At,D.int u32 E2.B8,D.str E2.C5]) (.lf (Sum.inr false)) (.nx ((nR RK.apiOutput 4 a/\nR RK.apiOutput 4 b/\rE ((wrap i64 (v0+1)):Int)/\True)/\True) (Sum.inl (wrap i64 (v0+1))))))) (.lf (Sum.inr true)))
def Q6q a b:=(Q5a a b).m
def Q2l(a b:List Q0a):Prop:=
a.length<=1000000000000
theorem Qq8(a b:List Q0a)(hw:Q2l a b):(Q5a a b).p:=by
 simp only[Q2l]at hw
 unfold Tree.p Q5a
 repeat'(first|refine w_lp (inv:=Qfo a b) (μ:=Q6g a b) ?_ (cL _) (λ_ _=>?_)|exact trivial|refine w_br (λ_=>?_) (λ_=>?_)|refine w_cn ?_ ?_|refine w_an ?_ ?_|refine w_lv (λ_ _=>?_)|refine w_nx ?_|refine w_lf ?_|refine And.intro ?_ ?_)
 all_goals((try simp only[Qfo,Q6g]at*);exact fin0)
def Qr9:LInv:={
 α:=(Int)
 F:=λst a=>([(0,(lk st 0)),(1,(lk st 1)),(5,.int i64 a)],[])
 a0:=λst=>(lk st 5).toInt
 ex0:=λst=>[]++[]}
def Qp3:List (Nat×LInv):=[(4,Qr9)]
def Qu1:Q0b:=mkP 25 [] true [.one (.recs .apiOutput),.one (.recs .apiOutput)] [] (λa r=>Q2l (argR .apiOutput a 0) (argR .apiOutput a 1)) (λa r=>Q6q (argR .apiOutput a 0) (argR .apiOutput a 1)) (λX=>.bool X) (λX=>[])
theorem Qs3:Q04 pG Qu1:=Q0o drawn Q0m (.nil) Tryz.func25 Tryz.call25 (λa r=>Q5a (argR .apiOutput a 0) (argR .apiOutput a 1)) [] Qp3 3 (hp:=λa r h=>Qq8 (argR .apiOutput a 0) (argR .apiOutput a 1) h)
def Q70(m:Q00)(e:Q0f):Tree (Q00×Bool):=
.an (Qjw m) (.lv (Qpy m) λ(x0:Q00)=>.lv (Qdl x0) λ(x1:Bool)=>.br (!x1) (.lf (x0,false)) (.an (Qqj x0 e) (.lv (Q5w x0 e) λ(x2:Bool×Q00)=>.lf (x2.2,x2.1))))
def Qap m e:=(Q70 m e).m
abbrev Qk5 m e:=(Q70 m e).p
def Zfi:Q0b:=mT 55 [] true [.agg Q00.sig,.agg Q0f.sig] [] (λa r=>Q70 (Q00.of (aC a 0)) (Q0f.of (aC a 1))) (λX=>.tup [.agg (Q00.cellsW (X.1) (.all 0)),.bool (X.2)]) (λX=>[⟨false,23,1,.ints .u32 (X.1).Mem⟩])
theorem Zaj:Q04 pG Zfi:=oT (.cons Qrn (.cons Qrr (.cons Qt7 (.nil)))) Tryz.func55 Tryz.call55 [.row 23 1 (.ints .u32)] [] 2
def Qog(t:Q0n):Tree (Q0n×Bool):=
.br (!t.D4) (.lf (t,false)) (.lf ({D4:=false,C7:=t.C7,D2:=true},true))
def Qal t:=(Qog t).m
def Zes:Q0b:=mS 74 [] true [.agg Q0n.sig] [] (λa r=>Qog (Q0n.of (aC a 0))) (λX=>.tup [.agg (Q0n.cells (X.1)),.bool (X.2)]) (λX=>[])
theorem Z9j:Q04 pG Zes:=oS (.nil) Tryz.func74 Tryz.call74 [] [] 2
def Qbw(c:Q0c)(b:Int):Tree (Q0c×Bool):=
.br (decide ((c.D0.length:Int)>=(16:Int))) (.lf (c,false)) (.cn (decide (c.D0.length+1<=maxLen)) (.lf ({D0:=c.D0++[(λ(n:Int)=>UInt8.ofNat n.toNat) b]},true)))
def Qa9 c b:=(Qbw c b).m
abbrev Qmw c b:=(Qbw c b).p
def Z4c:Q0b:=mT 75 [] true [.agg Q0c.sig,.one (.int .u8)] [] (λa r=>Qbw (Q0c.of (aC a 0)) (argI a 1)) (λX=>.tup [.agg (Q0c.cells (X.1)),.bool (X.2)]) (λX=>[])
theorem Z1k:Q04 pG Z4c:=oT (.nil) Tryz.func75 Tryz.call75 [] [] 2
def Q66(d0:Q0d)(m:List Int)(e:Q0f):Tree (Q0d×(List Int)×Bool):=
let T2:Tree ((Q0d×(List Int)×Bool)):=.an (Q08 m) (.lv (Q03 m) λ(x0:List Int)=>.lf (d0,x0,false));.br (d0.B9 !=1) T2 (.br (e.C3 !=4) T2 (.br (decide (e.N>1)) T2 (.an (Q08 m) (.lv (Q03 m) λ(x3:List Int)=>let E3:=({Blocks:=d0.Blocks,B8:=d0.B8,Frame:=d0.Frame,B9:=2,D5:=0,B5:=0,B1:=0,C1:=[]}:Q0d);let E4:=({Blocks:=d0.Blocks,B8:=d0.B8,Frame:=d0.Frame,B9:=3,D5:=0,B5:=0,B1:=0,C1:=[]}:Q0d);let T1:Tree ((Q0d×(List Int)×Bool)):=.br (!decide (e.C5=[])) (.lf (d0,x3,false)) (.br (e.N==1) (.lf (E3,x3,true)) (.lf (E4,x3,true)));.br (e.N==1) (.br (d0.D5==1) (.lv (Q3w m d0.B1) λ(x4:Bool)=>.br (!x4) (.lf (d0,x3,false)) (.an (Q6x m (wrap i64 d0.B1) e.C5) (.lv (Q0r m (wrap i64 d0.B1) e.C5) λ(x5:List Int×Bool)=>.br (!x5.2) (.lf (d0,x5.1,false)) (.br (e.N==1) (.lf (E3,x5.1,true)) (.lf (E4,x5.1,true)))))) T1) T1))))
def Q2p d0 m e:=(Q66 d0 m e).m
abbrev Qki d0 m e:=(Q66 d0 m e).p
def Z14:Q0b:=mT 76 [] true [.agg Q0d.sig,.one (.ints .u32),.agg Q0f.sig] [] (λa r=>Q66 (Q0d.of (aC a 0)) (argL .u32 a 1) (Q0f.of (aC a 2))) (λX=>.tup [.agg (Q0d.cells (X.1)),.all 0,.bool (X.2.2)]) (λX=>[⟨false,23,1,.ints .u32 (X.2.1)⟩])
theorem Qyp:Q04 pG Z14:=oT (.cons Q15 (.cons Qqx (.cons Qar (.nil)))) Tryz.func76 Tryz.call76 [.row 23 1 (.ints .u32)] [] 2
def Qb3(n:Q0u)(m:List Int)(frame:List UInt8):Tree (Q0u×(List Int)×Bool):=
let T1:Tree ((Q0u×(List Int)×Bool)):=.an (Q08 m) (.lv (Q03 m) λ(x0:List Int)=>.lf (n,x0,false));.br (!n.C4) T1 (.br (decide ((frame.length:Int)<(1:Int))) T1 (.br (decide ((frame.length:Int)>(128:Int))) T1 (.lv (Q4m m n.B6) λ(x3:Bool)=>.br (!x3) T1 (.an (Q4y m (wrap i64 n.B6)) (.lv (Q12 m (wrap i64 n.B6)) λ(x5:List UInt8×Bool)=>.cn (decide (0<=(frame.length:Int)/\(frame.length:Int)<=(x5.1.length:Int)/\(x5.1.length:Int)<=(x5.1.length:Int))) (let E2:=dB (x5.1.length:Int)-dB (frame.length:Int);let E3:=cX (dB (frame.length:Int)) x5.1;.cn (decide (frame.length+dG (cW E2 E3)<=maxLen)) (.an (Q6x m (wrap i64 n.B6) (frame++cW E2 E3)) (.lv (Q0r m (wrap i64 n.B6) (frame++cW E2 E3)) λ(x6:List Int×Bool)=>.lf ({Frame:=n.Frame,D7:=n.D7,C4:=false,B6:=0,B7:=true,E0:=wrap u32 (frame.length:Int)},x6.1,true)))))))))
def Q4o n m frame:=(Qb3 n m frame).m
abbrev Qp5 n m frame:=(Qb3 n m frame).p
def Z9u:Q0b:=mT 77 [] true [.agg Q0u.sig,.one (.ints .u32),.one (.str)] [] (λa r=>Qb3 (Q0u.of (aC a 0)) (argL .u32 a 1) (argS a 2)) (λX=>.tup [.agg (Q0u.cells (X.1)),.all 0,.bool (X.2.2)]) (λX=>[⟨false,23,1,.ints .u32 (X.2.1)⟩])
theorem Z5j:Q04 pG Z9u:=oT (.cons Qlp (.cons Q15 (.cons Q95 (.cons Qar (.nil))))) Tryz.func77 Tryz.call77 [.row 23 1 (.ints .u32)] [] 2
def Q50(m:Q00)(e:Q0f):Tree (Q00×Bool):=
.an (Q08 m.Mem) (.lv (Q03 m.Mem) λ(x0:List Int)=>let E2:=({A4:=m.A4,Mem:=x0,A3:=m.A3,B2:=m.B2,B0:=m.B0,C2:=m.C2,A1:=m.A1,A2:=m.A2,A6:=m.A6,A9:=m.A9}:Q00);.an (Q51 E2) (.lv (Q10 E2) λ(x1:Bool)=>let T1:Tree ((Q00×Bool)):=.lf (E2,false);.br (!x1) T1 (.br m.A9 T1 (.br (e.C3==2) (.br (e.N==0) (.br (decide (e.C5=[])) (.lv (Qal m.B2) λ(x2:Q0n×Bool)=>.lf ({A4:=m.A4,Mem:=x0,A3:=m.A3,B2:=x2.1,B0:=m.B0,C2:=m.C2,A1:=m.A1,A2:=m.A2,A6:=m.A6,A9:=m.A9},x2.2)) T1) T1) (.br (e.C3==3) (.br (decide (e.N<=255)) (.br (decide (e.C5=[])) (.an (Qmw m.A3 (wrap u8 e.N)) (.lv (Qa9 m.A3 (wrap u8 e.N)) λ(x3:Q0c×Bool)=>.lf ({A4:=m.A4,Mem:=x0,A3:=x3.1,B2:=m.B2,B0:=m.B0,C2:=m.C2,A1:=m.A1,A2:=m.A2,A6:=m.A6,A9:=m.A9},x3.2))) T1) T1) (.br (e.C3==4) (.an (Qki m.B0 x0 e) (.lv (Q2p m.B0 x0 e) λ(x4:Q0d×List Int×Bool)=>.lf ({A4:=m.A4,Mem:=x4.2.1,A3:=m.A3,B2:=m.B2,B0:=x4.1,C2:=m.C2,A1:=m.A1,A2:=m.A2,A6:=m.A6,A9:=m.A9},x4.2.2))) (.br (e.C3==5) (.br (e.N==0) (.an (Qp5 m.C2 x0 e.C5) (.lv (Q4o m.C2 x0 e.C5) λ(x5:Q0u×List Int×Bool)=>.lf ({A4:=m.A4,Mem:=x5.2.1,A3:=m.A3,B2:=m.B2,B0:=m.B0,C2:=x5.1,A1:=m.A1,A2:=m.A2,A6:=m.A6,A9:=m.A9},x5.2.2))) T1) (.br (e.C3==6) (.br (decide (e.C5=[])) (.lf ({A4:=m.A4,Mem:=x0,A3:=m.A3,B2:=m.B2,B0:=m.B0,C2:=m.C2,A1:={C6:=e.N,C0:=m.A1.C0},A2:=m.A2,A6:=m.A6,A9:=m.A9},true)) T1) T1))))))))
def Q0p m e:=(Q50 m e).m
abbrev Q33 m e:=(Q50 m e).p
def Z0r:Q0b:=mT 32 [] true [.agg Q00.sig,.agg Q0f.sig] [] (λa r=>Q50 (Q00.of (aC a 0)) (Q0f.of (aC a 1))) (λX=>.tup [.agg (Q00.cellsW (X.1) (.all 0)),.bool (X.2)]) (λX=>[⟨false,23,1,.ints .u32 (X.1).Mem⟩])
theorem Qg4:Q04 pG Z0r:=oT (.cons Q15 (.cons Qbn (.cons Z9j (.cons Z1k (.cons Qyp (.cons Z5j (.nil))))))) Tryz.func32 Tryz.call32 [.row 23 1 (.ints .u32)] [] 2
end
noncomputable section
def Q2o(s:List Bool):(List Bool):=
s
def Q49(s:List Bool):Prop:=
s.length<=140737488355328
def Q64(s:List Bool):List D:=[.sl 1 (.bools s) false]
def Q3v(s:List Bool):List Row:=[]
def Q2b(X:List Bool):D:=.all 0
def Q2c(X:List Bool):List Row:=[⟨false,4,1,.bools X⟩]
def Qh9:List Dir:=[.row 4 1 (.bools)]
def Qb4:List PT:=[.one (.bools)]
def Q9u:List RT:=[]
def Qj6(args:List D)(rows:List Row):(List Bool):=Q2o (argM args 0)
def Qj7(args:List D)(rows:List Row):Prop:=Q49 (argM args 0)
def Qko:Q0b:=mkP 132 [] true Qb4 Q9u Qj7 Qj6 Q2b Q2c
def Q7r(s:List Bool)(Leaf:(List Bool)->Prop):Prop:=
(s=[]->Leaf [])/\cand (decide ((1:Nat)*((0:Nat)+s.length)<=(140737488355328:Nat))) (Leaf s)
set_option maxRecDepth 100000 in
theorem Qkc(s:List Bool)(Q:D->List Row->Prop):(fnVC tab [] (LL tab [] Tryz.f132.ntmps 0 [] 2) Tryz.f132 (Q64 s) (Q3v s) λd R=>Qds (Q3v s).length Qh9 d R Q)=Q7r s (λX=>Q (Q2b X) (Q2c X)):=by kernel_rfl
theorem Qj3(s:List Bool)(Leaf:(List Bool)->Prop)(hw:Q49 s)(h:Leaf (Q2o s)):
Q7r s Leaf:=by
 delta Q7r
 refine⟨λe=>by rw[e]at h;exact h,?_⟩
 rw[Q05]
 refine⟨dY ?_,h⟩
 have:s.length<=140737488355328:=hw
 omega
set_option maxRecDepth 100000 in
theorem Qgo(s:List Bool)(hw:Q49 s):Q4g pG 132 (Q64 s) (Q3v s) (Q2b (Q2o s)) (Q2c (Q2o s)):=
 have hG:Q8r pG []:=.nil
 FnOK.calls drawn Q0m hG Tryz.func132 (rf:=none) (λ_ _=>trivial) (LL_ok drawn Q0m hG (.inl rfl) 2 (invs:=[])) (FnOK.of (Qkc s _) (Qj3 s (λX=>Q2b X=Q2b (Q2o s)/\Q2c X=Q2c (Q2o s)) hw ⟨rfl,rfl⟩))
set_option maxRecDepth 100000 in
theorem Qhx(args:List D)(rows:List Row):Qp4 Qb4 args 0=Q64 (argM args 0):=by kernel_rfl
set_option maxRecDepth 100000 in
theorem Qgi(args:List D)(rows:List Row):Qbi Q9u rows 0=Q3v (argM args 0):=by kernel_rfl
set_option maxRecDepth 100000 in
theorem Qk6(X:List Bool):(ffB (Q2b X)&&ffBR (Q2c X))=true:=by kernel_rfl
theorem Qkh:Q04 pG Qko:=Z20 Tryz.call132 (λargs rows hp=>by rw[Qhx args rows,Qgi args rows];exact Qgo (argM args 0) hp) (λ_ X=>Qk6 X)
def Q0i(x:Int):Int:=
(Lib.ctz 32 x.toNat:Int)
def Q2(x:Int):Prop:=
0<=x/\x<4294967296
def Q88(x:Int):List D:=[.int .u32 x]
def Q86(x:Int):List Row:=[]
def Q5g(X:Int):D:=.int .i64 X
def Q5e(X:Int):List Row:=[]
def Q8p:List PT:=[.one (.int .u32)]
def Q87:List RT:=[]
def Qg3(args:List D)(rows:List Row):Int:=Q0i (argI args 0)
def Qg0(args:List D)(rows:List Row):Prop:=Q2 (argI args 0)
def Qi1:Q0b:=mkP 78 [] true Q8p Q87 Qg0 Qg3 Q5g Q5e
theorem Qe4(x:Int)(hw:Q2 x):Q4g pG 78 (Q88 x) (Q86 x) (Q5g (Q0i x)) (Q5e (Q0i x)):=by
 exact qY (Proofs.Any7.bits_TrailingZeros32 Tryz.lays7) zx hw.1 hw.2
set_option maxRecDepth 100000 in
theorem Qfj(args:List D)(rows:List Row):Qp4 Q8p args 0=Q88 (argI args 0):=by kernel_rfl
set_option maxRecDepth 100000 in
theorem Qeg(args:List D)(rows:List Row):Qbi Q87 rows 0=Q86 (argI args 0):=by kernel_rfl
set_option maxRecDepth 100000 in
theorem Qgm(X:Int):(ffB (Q5g X)&&ffBR (Q5e X))=true:=by kernel_rfl
theorem Q3q:Q04 pG Qi1:=Z20 Tryz.call78 (λargs rows hp=>by rw[Qfj args rows,Qeg args rows];exact Qe4 (argI args 0) hp) (λ_ X=>Qgm X)
def Qb7(f:Int)(z:(Int)×(List Int)):Nat:=z.1.toNat
def Q4d(f:Int):Tree (List Int):=
.lp inferInstance (Qb7 f (f,[])+1) ((True/\rE (f:Int)/\True)/\rE ([]:List Int)/\True) (f,[]) λ(v0:Int×List Int)=>.br (v0.1 !=0) (.an (Q2 v0.1) (.lv (Q0i v0.1) λ(x0:Int)=>.cn (decide (8*(v0.2.length+1)<=140737488355328)) (.nx ((True/\rE ((iand u32 v0.1 (wrap u32 (v0.1-1))):Int)/\True)/\rE ((v0.2++[x0]):List Int)/\True) (Sum.inl (iand u32 v0.1 (wrap u32 (v0.1-1)),v0.2++[x0]))))) (.lf (Sum.inr v0.2))
def Qgf f:=(Q4d f).m
abbrev Qce f:=(Q4d f).p
def Qlv:LInv:={
 α:=(Int)×(List Int)
 F:=λst a=>([(3,.all 0),(4,.int u32 a.1)],[⟨false,3,1,.ints i64 a.2⟩])
 a0:=λst=>((lk st 4).toInt,(Q5u st.rows (rN st 3)))
 ex0:=λst=>[]++[(rX st 3 0)]}
def Qk1:List (Nat×LInv):=[(3,Qlv)]
def Qna:Q0b:=mT 57 [] true [.one (.int .u32)] [] (λa r=>Q4d (argI a 0)) (λX=>.all 0) (λX=>[⟨false,3,1,.ints .i64 X⟩])
theorem Qm6:Q04 pG Qna:=oT (.cons Q3q (.nil)) Tryz.func57 Tryz.call57 [.row 3 1 (.ints .i64)] Qk1 3
def Q4r(m:List Int)(frame:Int):Tree Int:=
.lv (Q1 m) λ(x0:Int)=>.br (decide (frame>=wrap u32 x0)) (.lf 0) (.cn (decide (0<=frame)) (.lf (ishl u32 1 frame)))
def Q0k m frame:=(Q4r m frame).m
abbrev Q1u m frame:=(Q4r m frame).p
def Qv3:Q0b:=mT 133 [] true [.one (.ints .u32),.one (.int .u32)] [] (λa r=>Q4r (argL .u32 a 0) (argI a 1)) (λX=>.int .u32 X) (λX=>[])
theorem Qcv:Q04 pG Qv3:=oT (.cons Q3 (.nil)) Tryz.func133 Tryz.call133 [] [] 2
def Qnn(c:Q02):Tree Bool:=
.lf (iand u32 c.B3.a0 (1:Int)==(0:Int))
def Q2r c:=(Qnn c).m
def Z1i:Q0b:=mS 113 [] true [.agg Q02.sig] [] (λa r=>Qnn (Q02.of (aC a 0))) (λX=>.bool X) (λX=>[])
theorem Qn0:Q04 pG Z1i:=oS (.nil) Tryz.func113 Tryz.call113 [] [] 2
def Q82(c:Q02)(m:List Int)(va size kind:Int):Tree Int:=
.cn (decide (size≠0)) (.br (dA va size !=0) (.lf 0) (.lv (Q2r c) λ(x0:Bool)=>let T1:Tree (Int):=.an (Q1u m (wrap u32 (eN va 128))) (.lv (Q0k m (wrap u32 (eN va 128))) λ(x1:Int)=>.lf x1);.br (!x0) T1 (.br (iand u32 c.B3.a0 (4:Int)==(0:Int)) T1 (.br (decide (va>=4096)) (.lf 0) (.an (Q1u m c.B3.a6) (.lv (Q0k m c.B3.a6) λ(x3:Int)=>.an (Qd4 m c.B3.a6 va kind) (.lv (Q0t m c.B3.a6 va kind) λ(x4:Q18)=>.br (x4.D1==0) (.an (Q1u m (wrap u32 (eN x4.Addr 128))) (.lv (Q0k m (wrap u32 (eN x4.Addr 128))) λ(x5:Int)=>.lf (ior u32 x3 x5))) (.lf x3))))))))
def Q0l c m va size kind:=(Q82 c m va size kind).m
abbrev Q2e c m va size kind:=(Q82 c m va size kind).p
def Qus:Q0b:=mT 110 [] true [.agg Q02.sig,.one (.ints .u32),.one (.int .u32),.one (.int .u32),.one (.int .i64)] [] (λa r=>Q82 (Q02.of (aC a 0)) (argL .u32 a 1) (argI a 2) (argI a 3) (argI a 4)) (λX=>.int .u32 X) (λX=>[])
theorem Qjl:Q04 pG Qus:=oT (.cons Qn0 (.cons Qcv (.cons Qqi (.nil)))) Tryz.func110 Tryz.call110 [] [] 2
def Q22(m:Q00)(port v:Int):Tree Int:=
.br (port==6) (.br (v==2) (.br (m.B0.B9==0) (.br (decide (m.B0.B8<m.B0.Blocks)) (.an (Q1u m.Mem m.B0.Frame) (.lv (Q0k m.Mem m.B0.Frame) λ(x0:Int)=>.lf x0)) (.lf 0)) (.lf 0)) (.lf 0)) (.br (port==9) (.br (v==1) (.br (decide (m.C2.D7>=1)) (.br (decide (m.C2.D7<=128)) (.an (Q1u m.Mem m.C2.Frame) (.lv (Q0k m.Mem m.C2.Frame) λ(x1:Int)=>.lf x1)) (.lf 0)) (.lf 0)) (.lf 0)) (.br (port==10) (.an (Q1u m.Mem v) (.lv (Q0k m.Mem v) λ(x2:Int)=>.lf (Q7 u32 x2 m.A1.C0))) (.lf 0)))
def Q1n m port v:=(Q22 m port v).m
abbrev Qmq m port v:=(Q22 m port v).p
def Z5c:Q0b:=mT 183 [] true [.agg Q00.sig,.one (.int .i64),.one (.int .u32)] [] (λa r=>Q22 (Q00.of (aC a 0)) (argI a 1) (argI a 2)) (λX=>.int .u32 X) (λX=>[])
theorem Z3d:Q04 pG Z5c:=oT (.cons Qcv (.nil)) Tryz.func183 Tryz.call183 [] [] 2
def Q6c(m:Q00)(c:Q02)(mem:List Int)(i:Q0g):Tree Int:=
.cn (bJ 0 1&&decide (0<=iand i64 i.B 15/\iand i64 i.B 15<(↑16:Int))) (let E2:=wrap u32 (aK (A16.l c.X) (dB (iand i64 i.B 15)) 0+wrap u32 i.Imm);.br (i.Op==32) (.an (Q2e c mem E2 4 2) (.lv (Q0l c mem E2 4 2) λ(x0:Int)=>.lf x0)) (let T1:Tree (Int):=.an (Q2e c mem E2 1 2) (.lv (Q0l c mem E2 1 2) λ(x1:Int)=>.lf x1);.br (i.Op==33) T1 (.br (i.Op==34) T1 (.br (i.Op==35) (.an (Q2e c mem E2 4 3) (.lv (Q0l c mem E2 4 3) λ(x3:Int)=>.lf x3)) (.br (i.Op==36) (.an (Q2e c mem E2 1 3) (.lv (Q0l c mem E2 1 3) λ(x4:Int)=>.lf x4)) (.br (i.Op==61) (.cn (bJ 0 1&&decide (0<=iand i64 i.A 15/\iand i64 i.A 15<(↑16:Int))) (let E3:=aK (A16.l c.X) (dB (iand i64 i.A 15)) 0;.an (Qmq m (wrap i64 i.Imm) E3) (.lv (Q1n m (wrap i64 i.Imm) E3) λ(x5:Int)=>.lf x5))) (.lf 0)))))))
def Q1g m c mem i:=(Q6c m c mem i).m
abbrev Q4z m c mem i:=(Q6c m c mem i).p
def Qrp:Q0b:=mT 115 [] true [.agg Q00.sig,.agg Q02.sig,.one (.ints .u32),.agg Q0g.sig] [] (λa r=>Q6c (Q00.of (aC a 0)) (Q02.of (aC a 1)) (argL .u32 a 2) (Q0g.of (aC a 3))) (λX=>.int .u32 X) (λX=>[])
theorem Qqd:Q04 pG Qrp:=oT (.cons Qjl (.cons Z3d (.nil))) Tryz.func115 Tryz.call115 [] [] 2
def Q6p(m:Q00):Tree Int:=
.an (Q51 m) (.lv (Q10 m) λ(x0:Bool)=>.br (!x0) (.lf 0) (.br m.A9 (.lf 0) (.an (Qc1 m) (.lv (Q5 m) λ(x1:Bool)=>.br x1 (.lf 0) (.br (decide (m.A2>=1152921504606846976)) (.lf 0) (.an (Qe6 m) (.lv (Q3g m) λ(x2:Int)=>let T1:Tree (Int):=.an (Q2e m.A4 m.Mem m.A4.Pc 4 1) (.lv (Q0l m.A4 m.Mem m.A4.Pc 4 1) λ(x12:Int)=>.an (Qdi m.A4 m.Mem) (.lv (Q0h m.A4 m.Mem) λ(x13:Int×List Int×Int)=>.br (x13.2.2 !=0) (.lf x12) (.an (Qbd x13.1) (.lv (Q11 x13.1) λ(x14:Q0g×Bool)=>.br (!x14.2) (.lf x12) (.lv (Q2r m.A4) λ(x15:Bool)=>let T2:Tree (Int):=.an (Q4z m m.A4 x13.2.1 x14.1) (.lv (Q1g m m.A4 x13.2.1 x14.1) λ(x17:Int)=>.lf (ior u32 x12 x17));.br x15 (.lv (Q2j x14.1.Op) λ(x16:Bool)=>.br x16 (.lf x12) T2) T2)))));.br (iand u32 x2 m.A4.B3.a7 !=0) (.br (iand u32 m.A4.B3.a0 (2:Int) !=(0:Int)) (.an (Q2 (iand u32 x2 m.A4.B3.a7)) (.lv (Q0i (iand u32 x2 m.A4.B3.a7)) λ(x3:Int)=>.lv (Q3a m.A4 (wrap i64 (16+x3)) 0) λ(x4:Q02)=>.an (Q2e x4 m.Mem x4.Pc 4 1) (.lv (Q0l x4 m.Mem x4.Pc 4 1) λ(x5:Int)=>.an (Qdi x4 m.Mem) (.lv (Q0h x4 m.Mem) λ(x6:Int×List Int×Int)=>.br (x6.2.2 !=0) (.lf x5) (.an (Qbd x6.1) (.lv (Q11 x6.1) λ(x7:Q0g×Bool)=>.br (!x7.2) (.lf x5) (.lv (Q2r x4) λ(x8:Bool)=>let T3:Tree (Int):=.an (Q4z m x4 x6.2.1 x7.1) (.lv (Q1g m x4 x6.2.1 x7.1) λ(x10:Int)=>.lf (ior u32 x5 x10));.br x8 (.lv (Q2j x7.1.Op) λ(x9:Bool)=>.br x9 (.lf x5) T3) T3))))))) T1) T1)))))))
def Q19 m:=(Q6p m).m
abbrev Q9a m:=(Q6p m).p
def Qyq:Q0b:=mT 56 [] true [.agg Q00.sig] [] (λa r=>Q6p (Q00.of (aC a 0))) (λX=>.int .u32 X) (λX=>[])
theorem Qkp:Q04 pG Qyq:=oT (.cons Qbn (.cons Qoi (.cons Qmy (.cons Qe (.cons Q3q (.cons Qjl (.cons Qxo (.cons Qsv (.cons Qn0 (.cons Ql1 (.cons Qqd (.nil)))))))))))) Tryz.func56 Tryz.call56 [] [] 2
def Q63(m:Q00)(e:Q0f):Tree Int:=
.br (e.C3==4) (.an (Q33 m e) (.lv (Q0p m e) λ(x0:Q00×Bool)=>.br x0.2 (.br (e.N==1) (.br (m.B0.D5==1) (.an (Q1u m.Mem m.B0.B1) (.lv (Q0k m.Mem m.B0.B1) λ(x1:Int)=>.lf x1)) (.lf 0)) (.lf 0)) (.lf 0))) (.br (e.C3==5) (.an (Q33 m e) (.lv (Q0p m e) λ(x2:Q00×Bool)=>.br x2.2 (.an (Q1u m.Mem m.C2.B6) (.lv (Q0k m.Mem m.C2.B6) λ(x3:Int)=>.lf x3)) (.lf 0))) (.lf 0))
def Q1a m e:=(Q63 m e).m
abbrev Q74 m e:=(Q63 m e).p
def Qrc:Q0b:=mT 71 [] true [.agg Q00.sig,.agg Q0f.sig] [] (λa r=>Q63 (Q00.of (aC a 0)) (Q0f.of (aC a 1))) (λX=>.int .u32 X) (λX=>[])
theorem Qge:Q04 pG Qrc:=oT (.cons Qg4 (.cons Qcv (.nil))) Tryz.func71 Tryz.call71 [] [] 2
def Q8t(p:Q01):Tree Q01:=
.an (Q08 p.A0.Mem) (.lv (Q03 p.A0.Mem) λ(x0:List Int)=>.an (Q49 p.A7) (.lv (Q2o p.A7) λ(x1:List Bool)=>.lf ({A0:={A4:=p.A0.A4,Mem:=x0,A3:=p.A0.A3,B2:=p.A0.B2,B0:=p.A0.B0,C2:=p.A0.C2,A1:=p.A0.A1,A2:=p.A0.A2,A6:=p.A0.A6,A9:=p.A0.A9},A7:=x1,C9:=p.C9,B4:=p.B4})))
def Q5s p:=(Q8t p).m
abbrev Q3b p:=(Q8t p).p
def Qza:Q0b:=mT 70 [] true [.agg Q01.sig] [] (λa r=>Q8t (Q01.of (aC a 0))) (λX=>.agg (Q01.cellsW X (.all 0) (.all 1))) (λX=>[⟨false,23,1,.ints .u32 X.A0.Mem⟩,⟨false,4,1,.bools X.A7⟩])
theorem Qam:Q04 pG Qza:=oT (.cons Q15 (.cons Qkh (.nil))) Tryz.func70 Tryz.call70 [.row 23 1 (.ints .u32),.row 4 1 (.bools)] [] 2
end
noncomputable section
def Qft(pages:Int):Tree (List Int):=
.br (decide (pages<1)) (.lf ([])) (.br (decide (pages>32)) (.lf ([])) (.cn (bJ 0 1&&bT 1 1&&List.all [D.int u32 0] D.plain&&decide (0<=wrap i64 (pages*32)/\wrap i64 (pages*32)<=wrap i64 (pages*32)/\wrap i64 (pages*32)<=9223372036854775807/\(↑4:Int)*wrap i64 (pages*32)<=140737488355328)) (.lf (cM (dB (wrap i64 (pages*32))) 0))))
def Z6g pages:=(Qft pages).m
abbrev Qr3 pages:=(Qft pages).p
def Zcj:Q0b:=mT 69 [] true [.one (.int .i64)] [] (λa r=>Qft (argI a 0)) (λX=>.all 0) (λX=>[⟨false,23,1,.ints .u32 X⟩])
theorem Z96:Q04 pG Zcj:=oT (.nil) Tryz.func69 Tryz.call69 [.row 23 1 (.ints .u32)] [] 2
def Q62(m:Q00)(e:Q0f):Tree (List Int):=
.an (Q74 m e) (.lv (Q1a m e) λ(x0:Int)=>.an (Qce x0) (.lv (Qgf x0) λ(x1:List Int)=>.lf x1))
def Qah m e:=(Q62 m e).m
abbrev Q6y m e:=(Q62 m e).p
def Qry:Q0b:=mT 30 [] false [.agg Q00.sig,.agg Q0f.sig] [] (λa r=>Q62 (Q00.of (aC a 0)) (Q0f.of (aC a 1))) (λX=>.sl 1 (.ints .i64 X) false) (λX=>[])
theorem Qqc:Q04 pG Qry:=oT (.cons Qge (.cons Qm6 (.nil))) Tryz.func30 Tryz.call30 [.sl (.ints .i64) false] [] 2 (hff:=nofun)
def Q4c(p:Q01)(z:(Int)×(Int)):Nat:=(p.A7.length-z.2).toNat
def Q79(p:Q01):Tree Int:=
.lp inferInstance (Q4c p (0,0)+1) ((rE (0:Int)/\((Els.Nil (Els.bools p.A7)\/rE (1:Nat))/\rE p.A7)/\rE ((p.A7.length:Int):Int)/\rE (0:Int)/\True)/\True) (0,0) λ(v0:Int×Int)=>.br (decide (v0.2<(p.A7.length:Int))) (.cn (bT 1 1&&bJ 0 1&&decide (0<=v0.2/\v0.2<(p.A7.length:Int))) (.br (p.A7.getD v0.2.toNat false) (.cn (decide (0<=v0.2)) (.nx ((rE ((ior u32 v0.1 (ishl u32 1 v0.2)):Int)/\((Els.Nil (Els.bools p.A7)\/rE (1:Nat))/\rE p.A7)/\rE ((p.A7.length:Int):Int)/\rE ((wrap i64 (v0.2+1)):Int)/\True)/\True) (Sum.inl (ior u32 v0.1 (ishl u32 1 v0.2),wrap i64 (v0.2+1))))) (.nx ((rE v0.1/\((Els.Nil (Els.bools p.A7)\/rE (1:Nat))/\rE p.A7)/\rE ((p.A7.length:Int):Int)/\rE ((wrap i64 (v0.2+1)):Int)/\True)/\True) (Sum.inl (v0.1,wrap i64 (v0.2+1)))))) (.lf (Sum.inr v0.1))
def Q44 p:=(Q79 p).m
abbrev Q5i p:=(Q79 p).p
def Qs4:LInv:={
 α:=(Int)×(Int)
 F:=λst a=>([(3,.int u32 a.1),(7,(lk st 7)),(8,(lk st 8)),(9,.int i64 a.2)],[])
 a0:=λst=>((lk st 3).toInt,(lk st 9).toInt)
 ex0:=λst=>[]++[]}
def Qo4:List (Nat×LInv):=[(3,Qs4)]
def Qt0:Q0b:=mT 72 [] true [.agg Q01.sig] [] (λa r=>Q79 (Q01.of (aC a 0))) (λX=>.int .u32 X) (λX=>[])
theorem Qc4:Q04 pG Qt0:=oT (.nil) Tryz.func72 Tryz.call72 [] Qo4 3
def Q8m(p:Q01)(missing:Int):Tree Q01:=
.an (Q3b p) (.lv (Q5s p) λ(x0:Q01)=>.an (Q2 missing) (.lv (Q0i missing) λ(x1:Int)=>.lf ({A0:=x0.A0,A7:=x0.A7,C9:=x1,B4:=wrap i64 (x0.B4+1)})))
def Qke p missing:=(Q8m p missing).m
abbrev Qco p missing:=(Q8m p missing).p
def Qzb:Q0b:=mT 73 [] true [.agg Q01.sig,.one (.int .u32)] [] (λa r=>Q8m (Q01.of (aC a 0)) (argI a 1)) (λX=>.agg (Q01.cellsW X (.all 0) (.all 1))) (λX=>[⟨false,23,1,.ints .u32 X.A0.Mem⟩,⟨false,4,1,.bools X.A7⟩])
theorem Qkt:Q04 pG Qzb:=oT (.cons Qam (.cons Q3q (.nil))) Tryz.func73 Tryz.call73 [.row 23 1 (.ints .u32),.row 4 1 (.bools)] [] 2
def Q6n(p:Q01):Tree Bool:=
.lv (Q1 p.A0.Mem) λ(x0:Int)=>.an (Q51 p.A0) (.lv (Q10 p.A0) λ(x1:Bool)=>.br x1 (.br ((p.A7.length:Int)==x0) (.br (decide (p.C9>=0)) (.br (decide (p.C9<x0)) (.lf (decide (p.B4>=0))) (.lf false)) (.lf false)) (.lf false)) (.lf false))
def Q4w p:=(Q6n p).m
abbrev Q39 p:=(Q6n p).p
def Qz7:Q0b:=mT 53 [] true [.agg Q01.sig] [] (λa r=>Q6n (Q01.of (aC a 0))) (λX=>.bool X) (λX=>[])
theorem Q5y:Q04 pG Qz7:=oT (.cons Q3 (.cons Qbn (.nil))) Tryz.func53 Tryz.call53 [] [] 2
def Q8l(m:Q00):Tree (Q01×Bool):=
.an (Q51 m) (.lv (Q10 m) λ(x0:Bool)=>.br (!x0) (.lf ({A0:={A4:={X:={a0:=0,a1:=0,a2:=0,a3:=0,a4:=0,a5:=0,a6:=0,a7:=0,a8:=0,a9:=0,a10:=0,a11:=0,a12:=0,a13:=0,a14:=0,a15:=0},Pc:=0,B3:={a0:=0,a1:=0,a2:=0,a3:=0,a4:=0,a5:=0,a6:=0,a7:=0}},Mem:=[],A3:={D0:=[]},B2:={D4:=false,C7:=0,D2:=false},B0:={Blocks:=0,B8:=0,Frame:=0,B9:=0,D5:=0,B5:=0,B1:=0,C1:=[]},C2:={Frame:=0,D7:=0,C4:=false,B6:=0,B7:=false,E0:=0},A1:={C6:=0,C0:=0},A2:=0,A6:=false,A9:=false},A7:=[],C9:=0,B4:=0},false)) (.lv (Q1 m.Mem) λ(x1:Int)=>.an (Qr3 x1) (.lv (Z6g x1) λ(x2:List Int)=>.cn (bJ 0 1&&bT 1 1&&List.all [D.bool false] D.plain&&decide (0<=x1/\x1<=x1/\x1<=9223372036854775807/\(↑1:Int)*x1<=140737488355328)) (.lf ({A0:={A4:=m.A4,Mem:=x2,A3:=m.A3,B2:=m.B2,B0:=m.B0,C2:=m.C2,A1:=m.A1,A2:=m.A2,A6:=m.A6,A9:=m.A9},A7:=cM x1.toNat false,C9:=0,B4:=0},true)))))
def Qk7 m:=(Q8l m).m
abbrev Qd2 m:=(Q8l m).p
def Qyg:Q0b:=mT 26 [] true [.agg Q00.sig] [] (λa r=>Q8l (Q00.of (aC a 0))) (λX=>.tup [.agg (Q01.cellsW (X.1) (.all 0) (.all 1)),.bool (X.2)]) (λX=>[⟨false,23,1,.ints .u32 (X.1).A0.Mem⟩,⟨false,4,1,.bools (X.1).A7⟩])
theorem Ql:Q04 pG Qyg:=oT (.cons Qbn (.cons Q3 (.cons Z96 (.nil)))) Tryz.func26 Tryz.call26 [.row 23 1 (.ints .u32),.row 4 1 (.bools)] [] 2
def Q73(p:Q01):Tree (Int×Bool):=
.an (Q39 p) (.lv (Q4w p) λ(x0:Bool)=>.br (!x0) (.lf (0,false)) (.an (Q9a p.A0) (.lv (Q19 p.A0) λ(x1:Int)=>.an (Q5i p) (.lv (Q44 p) λ(x2:Int)=>.br (Q7 u32 x1 x2==0) (.lf (0,false)) (.an (Q2 (Q7 u32 x1 x2)) (.lv (Q0i (Q7 u32 x1 x2)) λ(x3:Int)=>.lf (x3,true)))))))
def Q2g p:=(Q73 p).m
abbrev Q1l p:=(Q73 p).p
def Qtc:Q0b:=mT 33 [] true [.agg Q01.sig] [] (λa r=>Q73 (Q01.of (aC a 0))) (λX=>.tup [.int .i64 (X.1),.bool (X.2)]) (λX=>[])
theorem Qj4:Q04 pG Qtc:=oT (.cons Q5y (.cons Qkp (.cons Qc4 (.cons Q3q (.nil))))) Tryz.func33 Tryz.call33 [] [] 2
def Qa5(p:Q01)(clock:Int):Tree (Q01×(List Q0a)×Bool):=
.an (Q39 p) (.lv (Q4w p) λ(x0:Bool)=>.br (!x0) (.an (Q3b p) (.lv (Q5s p) λ(x1:Q01)=>.lf (x1,[],false))) (.an (Q9a p.A0) (.lv (Q19 p.A0) λ(x2:Int)=>.an (Q5i p) (.lv (Q44 p) λ(x3:Int)=>.br (Q7 u32 x2 x3 !=0) (.an (Qco p (Q7 u32 x2 x3)) (.lv (Qke p (Q7 u32 x2 x3)) λ(x4:Q01)=>.lf (x4,[],false))) (.an (Q3b p) (.lv (Q5s p) λ(x5:Q01)=>.an (Q46 p.A0 clock) (.lv (Q0z p.A0 clock) λ(x6:Q00×List Q0a)=>.lf ({A0:=x6.1,A7:=x5.A7,C9:=x5.C9,B4:=x5.B4},x6.2,true))))))))
def Q34 p clock:=(Qa5 p clock).m
abbrev Q1o p clock:=(Qa5 p clock).p
def Z2l:Q0b:=mT 34 [] false [.agg Q01.sig,.one (.int .u32)] [] (λa r=>Qa5 (Q01.of (aC a 0)) (argI a 1)) (λX=>.tup [.agg (Q01.cellsW (X.1) (.sl 1 (.ints .u32 X.1.A0.Mem) false) (.all 0)),.sl 4 (.recs .apiOutput (X.2.1)) false,.bool (X.2.2)]) (λX=>[⟨false,4,1,.bools (X.1).A7⟩])
theorem Qn2:Q04 pG Z2l:=oT (.cons Q5y (.cons Qam (.cons Qkp (.cons Qc4 (.cons Qkt (.cons Qom (.nil))))))) Tryz.func34 Tryz.call34 [.sl (.ints .u32) false,.row 4 1 (.bools),.sl (.recs .apiOutput) false] [] 2 (hff:=nofun)
def Q8u(p:Q01)(e:Q0f):Tree (Q01×Bool):=
.an (Q39 p) (.lv (Q4w p) λ(x0:Bool)=>.br (!x0) (.an (Q3b p) (.lv (Q5s p) λ(x1:Q01)=>.lf (x1,false))) (.an (Q74 p.A0 e) (.lv (Q1a p.A0 e) λ(x2:Int)=>.an (Q5i p) (.lv (Q44 p) λ(x3:Int)=>.br (Q7 u32 x2 x3 !=0) (.an (Qco p (Q7 u32 x2 x3)) (.lv (Qke p (Q7 u32 x2 x3)) λ(x4:Q01)=>.lf (x4,false))) (.an (Q3b p) (.lv (Q5s p) λ(x5:Q01)=>.an (Q33 p.A0 e) (.lv (Q0p p.A0 e) λ(x6:Q00×Bool)=>.lf ({A0:=x6.1,A7:=x5.A7,C9:=x5.C9,B4:=x5.B4},x6.2))))))))
def Qev p e:=(Q8u p e).m
abbrev Q9d p e:=(Q8u p e).p
def Qyf:Q0b:=mT 31 [] true [.agg Q01.sig,.agg Q0f.sig] [] (λa r=>Q8u (Q01.of (aC a 0)) (Q0f.of (aC a 1))) (λX=>.tup [.agg (Q01.cellsW (X.1) (.all 0) (.all 1)),.bool (X.2)]) (λX=>[⟨false,23,1,.ints .u32 (X.1).A0.Mem⟩,⟨false,4,1,.bools (X.1).A7⟩])
theorem Qvr:Q04 pG Qyf:=oT (.cons Q5y (.cons Qam (.cons Qge (.cons Qc4 (.cons Qkt (.cons Qg4 (.nil))))))) Tryz.func31 Tryz.call31 [.row 23 1 (.ints .u32),.row 4 1 (.bools)] [] 2
def Q7y(p:Q01)(c:Q3l):Tree (Q01×Bool):=
.an (Q3b p) (.lv (Q5s p) λ(x0:Q01)=>.an (Q39 p) (.lv (Q4w p) λ(x1:Bool)=>.br (!x1) (.lf (x0,false)) (.br (decide (c.Frame<0)) (.lf (x0,false)) (.br (decide (c.Frame>=(p.A7.length:Int))) (.lf (x0,false)) (.cn (bT 1 1&&bJ 0 1&&decide (0<=c.Frame/\c.Frame<(p.A7.length:Int))) (.br (p.A7.getD c.Frame.toNat false) (.lf (x0,false)) (.an (Q6x p.A0.Mem c.Frame c.C5) (.lv (Q0r p.A0.Mem c.Frame c.C5) λ(x2:List Int×Bool)=>.br (!x2.2) (.lf (x0,false)) (.cn (bT 1 1&&bJ 0 1&&decide (0<=c.Frame/\c.Frame<(x0.A7.length:Int))) (.lf ({A0:={A4:=x0.A0.A4,Mem:=x2.1,A3:=x0.A0.A3,B2:=x0.A0.B2,B0:=x0.A0.B0,C2:=x0.A0.C2,A1:=x0.A0.A1,A2:=x0.A0.A2,A6:=x0.A0.A6,A9:=x0.A0.A9},A7:=List.set x0.A7 c.Frame.toNat true,C9:=x0.C9,B4:=x0.B4},true)))))))))))
def Qdg p c:=(Q7y p c).m
abbrev Q89 p c:=(Q7y p c).p
def Qwf:Q0b:=mT 27 [] true [.agg Q01.sig,.agg Q3l.sig] [] (λa r=>Q7y (Q01.of (aC a 0)) (Q3l.of (aC a 1))) (λX=>.tup [.agg (Q01.cellsW (X.1) (.all 0) (.all 1)),.bool (X.2)]) (λX=>[⟨false,23,1,.ints .u32 (X.1).A0.Mem⟩,⟨false,4,1,.bools (X.1).A7⟩])
theorem Qd7:Q04 pG Qwf:=oT (.cons Qam (.cons Q5y (.cons Qar (.nil)))) Tryz.func27 Tryz.call27 [.row 23 1 (.ints .u32),.row 4 1 (.bools)] [] 2
def Q60(p:Q01)(most:Int)(z:(Int)×(List Int)):Nat:=(p.A7.length-z.1).toNat
def Qa4(p:Q01)(most:Int):Tree (List Int):=
.an (Q39 p) (.lv (Q4w p) λ(x0:Bool)=>.br (!x0) (.lf ([])) (.lp inferInstance (Q60 p most (0,[])+1) ((rE (most:Int)/\rZ/\True/\rE ((p.A7.length:Int):Int)/\rE ((p.A7.length:Int):Int)/\rE (0:Int)/\True)/\(mE p.A0 (((Els.Nil (Els.ints u32 p.A0.Mem)\/rE (1:Nat))/\rE p.A0.Mem)) (((Els.Nil (Els.bools p.A7)\/rE (1:Nat))/\rE p.A7)/\rE p.C9/\rE p.B4/\True))/\rE ([]:List Int)/\True) (0,[]) λ(v0:Int×List Int)=>.br (decide (v0.1<(p.A7.length:Int))) (.cn (decide ((p.A7.length:Int)≠(0:Int))) (let T1:Tree ((Int×List Int)⊕((List Int))):=.nx ((rE (most:Int)/\rZ/\True/\rE ((p.A7.length:Int):Int)/\rE ((p.A7.length:Int):Int)/\rE ((wrap i64 (v0.1+1)):Int)/\True)/\(mE p.A0 (((Els.Nil (Els.ints u32 p.A0.Mem)\/rE (1:Nat))/\rE p.A0.Mem)) (((Els.Nil (Els.bools p.A7)\/rE (1:Nat))/\rE p.A7)/\rE p.C9/\rE p.B4/\True))/\rE v0.2/\True) (Sum.inl (wrap i64 (v0.1+1),v0.2));.br (decide ((v0.2.length:Int)<most)) (.cn (bT 1 1&&bJ 0 1&&decide (0<=dA (wrap i64 (p.C9+v0.1)) (p.A7.length:Int)/\dA (wrap i64 (p.C9+v0.1)) (p.A7.length:Int)<(p.A7.length:Int))) (.br (!p.A7.getD (dB (dA (wrap i64 (p.C9+v0.1)) (p.A7.length:Int))) false) (.cn (decide (8*(v0.2.length+1)<=140737488355328)) (.nx ((rE (most:Int)/\rZ/\True/\rE ((p.A7.length:Int):Int)/\rE ((p.A7.length:Int):Int)/\rE ((wrap i64 (v0.1+1)):Int)/\True)/\(mE p.A0 (((Els.Nil (Els.ints u32 p.A0.Mem)\/rE (1:Nat))/\rE p.A0.Mem)) (((Els.Nil (Els.bools p.A7)\/rE (1:Nat))/\rE p.A7)/\rE p.C9/\rE p.B4/\True))/\rE ((v0.2++[dA (wrap i64 (p.C9+v0.1)) (p.A7.length:Int)]):List Int)/\True) (Sum.inl (wrap i64 (v0.1+1),v0.2++[dA (wrap i64 (p.C9+v0.1)) (p.A7.length:Int)])))) T1)) T1)) (.lf (Sum.inr v0.2))))
def Qmb p most:=(Qa4 p most).m
abbrev Qe9 p most:=(Qa4 p most).p
def Qyj:LInv:={
 α:=(Int)×(List Int)
 F:=λst a=>([(1,(lk st 1)),(2,.ptr 0 0 0),(5,.all 1),(6,(lk st 6)),(15,(lk st 15)),(16,.int i64 a.1)],[⟨true,48,52,.gen [[(cT st 2 0),(cT st 2 1),(cT st 2 2),(cT st 2 3),(cT st 2 4),(cT st 2 5),(cT st 2 6),(cT st 2 7),(cT st 2 8),(cT st 2 9),(cT st 2 10),(cT st 2 11),(cT st 2 12),(cT st 2 13),(cT st 2 14),(cT st 2 15),(cT st 2 16),(cT st 2 17),(cT st 2 18),(cT st 2 19),(cT st 2 20),(cT st 2 21),(cT st 2 22),(cT st 2 23),(cT st 2 24),(cT st 2 25),(cT st 2 26),(cT st 2 27),(cT st 2 28),(cT st 2 29),(cT st 2 30),(cT st 2 31),(cT st 2 32),(cT st 2 33),(cT st 2 34),(cT st 2 35),(cT st 2 36),(cT st 2 37),(cT st 2 38),(cT st 2 39),(cT st 2 40),(cT st 2 41),(cT st 2 42),(cT st 2 43),(cT st 2 44),(cT st 2 45),(cT st 2 46),(cT st 2 47),(cT st 2 48),(cT st 2 49),(cT st 2 50),(cT st 2 51)]]⟩,⟨false,3,1,.ints i64 a.2⟩])
 a0:=λst=>((lk st 16).toInt,(Q5u st.rows (rN st 5)))
 ex0:=λst=>[]++[(rX st 2 0),(rX st 5 1)]}
def Quh:List (Nat×LInv):=[(6,Qyj)]
def Z3r:Q0b:=mT 16 [] true [.agg Q01.sig,.one (.int .i64)] [] (λa r=>Qa4 (Q01.of (aC a 0)) (argI a 1)) (λX=>.all 0) (λX=>[⟨false,3,1,.ints .i64 X⟩])
theorem Qn3:Q04 pG Z3r:=oT (.cons Q5y (.nil)) Tryz.func16 Tryz.call16 [.row 3 1 (.ints .i64)] Quh 3
def Q9c(s:List Bool)(v:Bool)(z:(Int)):Nat:=(s.length-z).toNat
def Q3o(s:List Bool)(v:Bool):Tree Int:=
.lp inferInstance (Q9c s v 0+1) ((((Els.Nil (Els.bools s)\/rE (1:Nat))/\rE (s:List Bool))/\rE (v:Bool)/\rE ((s.length:Int):Int)/\rE (0:Int)/\True)/\True) 0 λ(v0:Int)=>.br (decide (v0<(s.length:Int))) (.cn (bT 1 1&&bJ 0 1&&decide (0<=v0/\v0<(s.length:Int))) (.br (v==s.getD v0.toNat false) (.lf (Sum.inr v0)) (.nx ((((Els.Nil (Els.bools s)\/rE (1:Nat))/\rE (s:List Bool))/\rE (v:Bool)/\rE ((s.length:Int):Int)/\rE ((wrap i64 (v0+1)):Int)/\True)/\True) (Sum.inl (wrap i64 (v0+1)))))) (.lf (Sum.inr (-1)))
def Qdr s v:=(Q3o s v).m
abbrev Qb5 s v:=(Q3o s v).p
def Qk:LInv:={
 α:=(Int)
 F:=λst a=>([(0,(lk st 0)),(1,(lk st 1)),(7,(lk st 7)),(8,.int i64 a)],[])
 a0:=λst=>(lk st 8).toInt
 ex0:=λst=>[]++[]}
def Qhq:List (Nat×LInv):=[(2,Qk)]
def Qkr:Q0b:=mT 106 [] true [.one (.bools),.one (.bool)] [] (λa r=>Q3o (argM a 0) (argB a 1)) (λX=>.int .i64 X) (λX=>[])
theorem Qkd:Q04 pG Qkr:=oT (.nil) Tryz.func106 Tryz.call106 [] Qhq 3
def Q2z(s:List Bool)(v:Bool):Tree Bool:=
.an (Qb5 s v) (.lv (Qdr s v) λ(x0:Int)=>.lf (decide (x0>=0)))
def Qbo s v:=(Q2z s v).m
abbrev Q8x s v:=(Q2z s v).p
def Qi2:Q0b:=mT 54 [] true [.one (.bools),.one (.bool)] [] (λa r=>Q2z (argM a 0) (argB a 1)) (λX=>.bool X) (λX=>[])
theorem Qgl:Q04 pG Qi2:=oT (.cons Qkd (.nil)) Tryz.func54 Tryz.call54 [] [] 2
def Q9t(p:Q01):Tree Bool:=
.an (Q39 p) (.lv (Q4w p) λ(x0:Bool)=>.br x0 (.an (Q8x p.A7 false) (.lv (Qbo p.A7 false) λ(x1:Bool)=>.lf (!x1))) (.lf false))
def Qm4 p:=(Q9t p).m
abbrev Qdt p:=(Q9t p).p
def Z0j:Q0b:=mT 17 [] true [.agg Q01.sig] [] (λa r=>Q9t (Q01.of (aC a 0))) (λX=>.bool X) (λX=>[])
theorem Qmn:Q04 pG Z0j:=oT (.cons Q5y (.cons Qgl (.nil))) Tryz.func17 Tryz.call17 [] [] 2
end
noncomputable section
def Qd1:Tree Bool:=
.an (Qg 2 [0]) (.lv (Qfq 2 [0]) λ(x0:Q00)=>.an (Qd2 x0) (.lv (Qk7 x0) λ(x1:Q01×Bool)=>.an (Q1l x1.1) (.lv (Q2g x1.1) λ(x2:Int×Bool)=>.an (Q1o x1.1 0) (.lv (Q34 x1.1 0) λ(x3:Q01×List Q0a×Bool)=>.an (Q4y x0.Mem 0) (.lv (Q12 x0.Mem 0) λ(x4:List UInt8×Bool)=>.an (Q89 x3.1 {Frame:=0,C5:=x4.1}) (.lv (Qdg x3.1 {Frame:=0,C5:=x4.1}) λ(x5:Q01×Bool)=>.an (Q1o x5.1 0) (.lv (Q34 x5.1 0) λ(x6:Q01×List Q0a×Bool)=>.an (Qe9 x5.1 2) (.lv (Qmb x5.1 2) λ(x7:List Int)=>.br x1.2 (.br x2.2 (.br (x2.1==0) (.br (!x3.2.2) (.br (x3.1.B4==1) (.br x5.2 (.br x6.2.2 (.br (x6.1.A0.A2==1) (.br ((x7.length:Int)==(2:Int)) (.cn (bT 1 1&&bJ 0 1&&decide ((0:Int)<=(0:Int)/\0<(x7.length:Int))) (.br (x7.getD (dB 0) (0:Int)==(1:Int)) (.an (Qdt x6.1) (.lv (Qm4 x6.1) λ(x8:Bool)=>.lf (!x8))) (.lf false))) (.lf false)) (.lf false)) (.lf false)) (.lf false)) (.lf false)) (.lf false)) (.lf false)) (.lf false)) (.lf false)))))))))
def Q7e:Bool:=(Qd1).m
abbrev Q3e:Prop:=(Qd1).p
def Z9i:Q0b:=mT 12 [] true [] [] (λa r=>Qd1) (λX=>.bool X) (λX=>[])
theorem Z4j:Q04 pG Z9i:=oT (.cons Qos (.cons Ql (.cons Qj4 (.cons Qn2 (.cons Q95 (.cons Qd7 (.cons Qn3 (.cons Qmn (.nil))))))))) Tryz.func12 Tryz.call12 [] [] 2
def Qqr(kind:Int)(prog:List Int)(steps:Int)(z:(Int)×Q00):Nat:=(steps-z.1).toNat
def Ql8(kind:Int)(prog:List Int)(steps:Int):Tree Q00:=
.an (Qg kind prog) (.lv (Qfq kind prog) λ(x0:Q00)=>.lp inferInstance (Qqr kind prog steps (0,x0)+1) ((rE (steps:Int)/\rZ/\rZ/\rE (0:Int)/\True)/\(mE zM True True)/\(mE x0 True True)/\rE x0.Mem/\True) (0,x0) λ(v0:Int×Q00)=>.br (decide (v0.1<steps)) (.an (Qm v0.2 (wrap u32 v0.1)) (.lv (Qli v0.2 (wrap u32 v0.1)) λ(x1:Q00×List Q0a)=>.br (dA v0.1 (9:Int)==(3:Int)) (.an (Qbf (wrap i64 (v0.1+steps))) (.lv (Qh2 (wrap i64 (v0.1+steps))) λ(x2:Q0f)=>.an (Qk5 x1.1 x2) (.lv (Qap x1.1 x2) λ(x3:Q00×Bool)=>.nx ((rE (steps:Int)/\rZ/\rZ/\rE ((wrap i64 (v0.1+1)):Int)/\True)/\(mE zM True True)/\(mE x3.1 True True)/\rE x3.1.Mem/\True) (Sum.inl (wrap i64 (v0.1+1),x3.1))))) (.nx ((rE (steps:Int)/\rZ/\rZ/\rE ((wrap i64 (v0.1+1)):Int)/\True)/\(mE zM True True)/\(mE x1.1 True True)/\rE x1.1.Mem/\True) (Sum.inl (wrap i64 (v0.1+1),x1.1))))) (.lf (Sum.inr v0.2)))
def Zjh kind prog steps:=(Ql8 kind prog steps).m
abbrev Qxx kind prog steps:=(Ql8 kind prog steps).p
def Zgn:LInv:={
 α:=(Int)×Q00
 F:=λst a=>([(2,(lk st 2)),(6,.ptr 0 0 0),(7,.ptr 1 0 0),(8,.int i64 a.1)],[⟨true,42,49,.gen [mB (cT st 6)]⟩,⟨true,42,49,.gen [mD a.2 (.all 2)]⟩,⟨false,23,1,.ints u32 a.2.Mem⟩])
 a0:=λst=>((lk st 8).toInt,(mR (cT st 7) (Q5u st.rows (Q1c (cT st 7 25) 1000000))))
 ex0:=λst=>[]++[(rX st 6 0),(rX st 7 1),(Q1c (cT st 7 25) (st.rows.length+2))]}
def Z9a:List (Nat×LInv):=[(3,Zgn)]
def Zm2:Q0b:=mT 18 [] true [.one (.int .i64),.one (.ints .i64),.one (.int .i64)] [] (λa r=>Ql8 (argI a 0) (argL .i64 a 1) (argI a 2)) (λX=>.agg (Q00.cellsW X (.all 0))) (λX=>[⟨false,23,1,.ints .u32 X.Mem⟩])
theorem Zit:Q04 pG Zm2:=oT (.cons Qos (.cons Zd9 (.cons Zaj (.cons Qtm (.nil))))) Tryz.func18 Tryz.call18 [.row 23 1 (.ints .u32)] Z9a 3
def Qjz(p:Q01)(pages l:List Int)(z:(Int)×Q01):Nat:=(l.length-z.1).toNat
def Qbh(p:Q01)(pages l:List Int):Tree Q01:=
.lp inferInstance (Qjz p pages l (0,p)+1) ((((Els.Nil (Els.ints u32 pages)\/rE (1:Nat))/\rE (pages:List Int))/\((Els.Nil (Els.ints i64 l)\/rE (1:Nat))/\rE (l:List Int))/\rZ/\rZ/\rE (0:Int)/\True)/\(mE p.A0 (((Els.Nil (Els.ints u32 p.A0.Mem)\/rE (1:Nat))/\rE p.A0.Mem)) (((Els.Nil (Els.bools p.A7)\/rE (1:Nat))/\rE p.A7)/\rE p.C9/\rE p.B4/\True))/\(mE zM True (True/\rE (0:Int)/\rE (0:Int)/\True))/\True) (0,p) λ(v0:Int×Q01)=>.br (decide (v0.1<(l.length:Int))) (let E1:=bT 1 1&&bJ 0 1&&decide (0<=v0.1/\v0.1<(l.length:Int));.cn E1 (.an (Q4y pages (l.getD v0.1.toNat 0)) (.lv (Q12 pages (l.getD v0.1.toNat 0)) λ(x0:List UInt8×Bool)=>.cn E1 (.an (Q89 v0.2 {Frame:=l.getD v0.1.toNat 0,C5:=x0.1}) (.lv (Qdg v0.2 {Frame:=l.getD v0.1.toNat 0,C5:=x0.1}) λ(x1:Q01×Bool)=>.nx ((((Els.Nil (Els.ints u32 pages)\/rE (1:Nat))/\rE (pages:List Int))/\((Els.Nil (Els.ints i64 l)\/rE (1:Nat))/\rE (l:List Int))/\rZ/\rZ/\rE ((wrap i64 (v0.1+1)):Int)/\True)/\(mE x1.1.A0 (rE x1.1.A0.Mem) (rE x1.1.A7/\rE x1.1.C9/\rE x1.1.B4/\True))/\(mE zM True (True/\rE (0:Int)/\rE (0:Int)/\True))/\True) (Sum.inl (wrap i64 (v0.1+1),x1.1))))))) (.lf (Sum.inr v0.2))
def Q5r p pages l:=(Qbh p pages l).m
abbrev Q30 p pages l:=(Qbh p pages l).p
def Z29:LInv:={
 α:=(Int)×Q01
 F:=λst a=>([(1,(lk st 1)),(2,(lk st 2)),(3,.ptr 0 0 0),(6,.ptr 1 0 0),(7,.int i64 a.1)],[⟨true,48,52,.gen [[.int u32 a.2.A0.A4.X.a0,.int u32 a.2.A0.A4.X.a1,.int u32 a.2.A0.A4.X.a2,.int u32 a.2.A0.A4.X.a3,.int u32 a.2.A0.A4.X.a4,.int u32 a.2.A0.A4.X.a5,.int u32 a.2.A0.A4.X.a6,.int u32 a.2.A0.A4.X.a7,.int u32 a.2.A0.A4.X.a8,.int u32 a.2.A0.A4.X.a9,.int u32 a.2.A0.A4.X.a10,.int u32 a.2.A0.A4.X.a11,.int u32 a.2.A0.A4.X.a12,.int u32 a.2.A0.A4.X.a13,.int u32 a.2.A0.A4.X.a14,.int u32 a.2.A0.A4.X.a15,.int u32 a.2.A0.A4.Pc,.int u32 a.2.A0.A4.B3.a0,.int u32 a.2.A0.A4.B3.a1,.int u32 a.2.A0.A4.B3.a2,.int u32 a.2.A0.A4.B3.a3,.int u32 a.2.A0.A4.B3.a4,.int u32 a.2.A0.A4.B3.a5,.int u32 a.2.A0.A4.B3.a6,.int u32 a.2.A0.A4.B3.a7,.sl 1 (.ints u32 a.2.A0.Mem) false,.str a.2.A0.A3.D0,.bool a.2.A0.B2.D4,.int u32 a.2.A0.B2.C7,.bool a.2.A0.B2.D2,.int u32 a.2.A0.B0.Blocks,.int u32 a.2.A0.B0.B8,.int u32 a.2.A0.B0.Frame,.int i64 a.2.A0.B0.B9,.int i64 a.2.A0.B0.D5,.int u32 a.2.A0.B0.B5,.int u32 a.2.A0.B0.B1,.str a.2.A0.B0.C1,.int u32 a.2.A0.C2.Frame,.int u32 a.2.A0.C2.D7,.bool a.2.A0.C2.C4,.int u32 a.2.A0.C2.B6,.bool a.2.A0.C2.B7,.int u32 a.2.A0.C2.E0,.int u32 a.2.A0.A1.C6,.int u32 a.2.A0.A1.C0,.int u64 a.2.A0.A2,.bool a.2.A0.A6,.bool a.2.A0.A9,.sl 1 (.bools a.2.A7) false,.int i64 a.2.C9,.int i64 a.2.B4]]⟩,⟨true,48,52,.gen [[(cT st 6 0),(cT st 6 1),(cT st 6 2),(cT st 6 3),(cT st 6 4),(cT st 6 5),(cT st 6 6),(cT st 6 7),(cT st 6 8),(cT st 6 9),(cT st 6 10),(cT st 6 11),(cT st 6 12),(cT st 6 13),(cT st 6 14),(cT st 6 15),(cT st 6 16),(cT st 6 17),(cT st 6 18),(cT st 6 19),(cT st 6 20),(cT st 6 21),(cT st 6 22),(cT st 6 23),(cT st 6 24),(cT st 6 25),(cT st 6 26),(cT st 6 27),(cT st 6 28),(cT st 6 29),(cT st 6 30),(cT st 6 31),(cT st 6 32),(cT st 6 33),(cT st 6 34),(cT st 6 35),(cT st 6 36),(cT st 6 37),(cT st 6 38),(cT st 6 39),(cT st 6 40),(cT st 6 41),(cT st 6 42),(cT st 6 43),(cT st 6 44),(cT st 6 45),(cT st 6 46),(cT st 6 47),(cT st 6 48),(cT st 6 49),(cT st 6 50),(cT st 6 51)]]⟩])
 a0:=λst=>((lk st 7).toInt,(⟨(mR (cT st 3) (frzI u32 st.rows (cT st 3 25))),(frzB st.rows (cT st 3 49)),(cT st 3 50).toInt,(cT st 3 51).toInt⟩:Q01))
 ex0:=λst=>[]++[(rX st 3 0),(rX st 6 1)]}
def Qwy:List (Nat×LInv):=[(2,Z29)]
def Z5f:Q0b:=mT 29 [] false [.agg Q01.sig,.one (.ints .u32),.one (.ints .i64)] [] (λa r=>Qbh (Q01.of (aC a 0)) (argL .u32 a 1) (argL .i64 a 2)) (λX=>.agg (Q01.cells X)) (λX=>[])
theorem Z1f:Q04 pG Z5f:=oT (.cons Q95 (.cons Qd7 (.nil))) Tryz.func29 Tryz.call29 [.sl (.ints .u32) false,.sl (.bools) false] Qwy 3 (hff:=nofun)
end
noncomputable section
def Q5j(kind:Int)(prog:List Int)(steps:Int)(order events:List Int)(z:(Int)×Q00×Q01):Nat:=(steps-z.1).toNat
def Q1y(kind:Int)(prog:List Int)(steps:Int)(order events:List Int)(v0:Int×Q00×Q01)(z:(Int)×(Bool)×(Int)×Q01):Nat:=(4-z.2.2.1).toNat
def Q8s(kind:Int)(prog:List Int)(steps:Int)(order events:List Int):Tree Bool:=
.br (decide ((prog.length:Int)>(60:Int))) (.an Q3e (.lv Q7e λ(x0:Bool)=>.lf x0)) (.br (decide (steps<0)) (.an Q3e (.lv Q7e λ(x1:Bool)=>.lf x1)) (.br (decide (steps>60)) (.an Q3e (.lv Q7e λ(x2:Bool)=>.lf x2)) (.br (decide ((order.length:Int)>(60:Int))) (.an Q3e (.lv Q7e λ(x3:Bool)=>.lf x3)) (.br (decide ((events.length:Int)>(60:Int))) (.an Q3e (.lv Q7e λ(x4:Bool)=>.lf x4)) (.an (Qxx kind prog 20) (.lv (Zjh kind prog 20) λ(x5:Q00)=>.an (Qd2 x5) (.lv (Qk7 x5) λ(x6:Q01×Bool)=>.br (!x6.2) (.lf false) (.lp inferInstance (Q5j kind prog steps order events (0,x5,x6.1)+1) ((rE (steps:Int)/\((Els.Nil (Els.ints i64 order)\/rE (1:Nat))/\rE (order:List Int))/\((Els.Nil (Els.ints i64 events)\/rE (1:Nat))/\rE (events:List Int))/\rZ/\rE x5.Mem/\rZ/\rE (0:Int)/\True)/\(mE x5 (rE x5.Mem) True)/\(mE x6.1.A0 (rE x6.1.A0.Mem) (rE x6.1.A7/\rE x6.1.C9/\rE x6.1.B4/\True))/\True) (0,x5,x6.1) λ(v0:Int×Q00×Q01)=>.br (decide (v0.1<steps)) (let E6:=events.getD v0.1.toNat 0;let E7:=bT 1 1&&bJ 0 1&&decide (0<=v0.1/\v0.1<(events.length:Int));let E8:=decide (v0.1<(events.length:Int));.br (decide (v0.1<(order.length:Int))) (.cn (bT 1 1&&bJ 0 1&&decide (0<=v0.1/\v0.1<(order.length:Int))) (.an (Q4v (order.getD v0.1.toNat 0) 16) (.lv (Q81 (order.getD v0.1.toNat 0) 16) λ(x7:Int)=>.an (Q4y x5.Mem x7) (.lv (Q12 x5.Mem x7) λ(x8:List UInt8×Bool)=>.an (Q89 v0.2.2 {Frame:=x7,C5:=x8.1}) (.lv (Qdg v0.2.2 {Frame:=x7,C5:=x8.1}) λ(x9:Q01×Bool)=>let T1:Tree ((Int×Q00×Q01)⊕(Bool)):=.br E8 (.cn E7 (.an (Qbf E6) (.lv (Qh2 E6) λ(x10:Q0f)=>.an (Q6y x9.1.A0 x10) (.lv (Qah x9.1.A0 x10) λ(x11:List Int)=>.an (Q30 x9.1 x5.Mem x11) (.lv (Q5r x9.1 x5.Mem x11) λ(x12:Q01)=>.an (Q9d x12 x10) (.lv (Qev x12 x10) λ(x13:Q01×Bool)=>.an (Q33 v0.2.1 x10) (.lv (Q0p v0.2.1 x10) λ(x14:Q00×Bool)=>.br (!x13.2==x14.2) (.lf (Sum.inr false)) (.an (Q1l x13.1) (.lv (Q2g x13.1) λ(x15:Int×Bool)=>.lp inferInstance (Q1y kind prog steps order events v0 (x15.1,x15.2,0,x13.1)+1) ((rE (steps:Int)/\((Els.Nil (Els.ints i64 order)\/rE (1:Nat))/\rE (order:List Int))/\((Els.Nil (Els.ints i64 events)\/rE (1:Nat))/\rE (events:List Int))/\rZ/\((Els.Nil (Els.ints u32 x5.Mem)\/rE (1:Nat))/\rE x5.Mem)/\rZ/\rE v0.1/\rE x15.1/\rE x15.2/\rE (0:Int)/\True)/\(mE x14.1 (rE x14.1.Mem) True)/\(mE x13.1.A0 (rE x13.1.A0.Mem) (rE x13.1.A7/\rE x13.1.C9/\rE x13.1.B4/\True))/\True) (x15.1,x15.2,0,x13.1) λ(v1:Int×Bool×Int×Q01)=>let T4:Tree ((Int×Bool×Int×Q01)⊕((Int×Q00×Q01)⊕(Bool))):=.an (Q1o v1.2.2.2 (wrap u32 v0.1)) (.lv (Q34 v1.2.2.2 (wrap u32 v0.1)) λ(x19:Q01×List Q0a×Bool)=>.an (Q46 x14.1 (wrap u32 v0.1)) (.lv (Q0z x14.1 (wrap u32 v0.1)) λ(x20:Q00×List Q0a)=>.br (!x19.2.2) (.lf (Sum.inr (Sum.inr false))) (.an (Q2l x19.2.1 x20.2) (.lv (Q6q x19.2.1 x20.2) λ(x21:Bool)=>.br (!x21) (.lf (Sum.inr (Sum.inr false))) (.br (!eqs [D.int u32 x19.1.A0.A4.X.a0,D.int u32 x19.1.A0.A4.X.a1,D.int u32 x19.1.A0.A4.X.a2,D.int u32 x19.1.A0.A4.X.a3,D.int u32 x19.1.A0.A4.X.a4,D.int u32 x19.1.A0.A4.X.a5,D.int u32 x19.1.A0.A4.X.a6,D.int u32 x19.1.A0.A4.X.a7,D.int u32 x19.1.A0.A4.X.a8,D.int u32 x19.1.A0.A4.X.a9,D.int u32 x19.1.A0.A4.X.a10,D.int u32 x19.1.A0.A4.X.a11,D.int u32 x19.1.A0.A4.X.a12,D.int u32 x19.1.A0.A4.X.a13,D.int u32 x19.1.A0.A4.X.a14,D.int u32 x19.1.A0.A4.X.a15,D.int u32 x19.1.A0.A4.Pc,D.int u32 x19.1.A0.A4.B3.a0,D.int u32 x19.1.A0.A4.B3.a1,D.int u32 x19.1.A0.A4.B3.a2,D.int u32 x19.1.A0.A4.B3.a3,D.int u32 x19.1.A0.A4.B3.a4,D.int u32 x19.1.A0.A4.B3.a5,D.int u32 x19.1.A0.A4.B3.a6,D.int u32 x19.1.A0.A4.B3.a7] [D.int u32 x20.1.A4.X.a0,D.int u32 x20.1.A4.X.a1,D.int u32 x20.1.A4.X.a2,D.int u32 x20.1.A4.X.a3,D.int u32 x20.1.A4.X.a4,D.int u32 x20.1.A4.X.a5,D.int u32 x20.1.A4.X.a6,D.int u32 x20.1.A4.X.a7,D.int u32 x20.1.A4.X.a8,D.int u32 x20.1.A4.X.a9,D.int u32 x20.1.A4.X.a10,D.int u32 x20.1.A4.X.a11,D.int u32 x20.1.A4.X.a12,D.int u32 x20.1.A4.X.a13,D.int u32 x20.1.A4.X.a14,D.int u32 x20.1.A4.X.a15,D.int u32 x20.1.A4.Pc,D.int u32 x20.1.A4.B3.a0,D.int u32 x20.1.A4.B3.a1,D.int u32 x20.1.A4.B3.a2,D.int u32 x20.1.A4.B3.a3,D.int u32 x20.1.A4.B3.a4,D.int u32 x20.1.A4.B3.a5,D.int u32 x20.1.A4.B3.a6,D.int u32 x20.1.A4.B3.a7]) (.lf (Sum.inr (Sum.inr false))) (.br (x19.1.A0.A2 !=x20.1.A2) (.lf (Sum.inr (Sum.inr false))) (.nx ((rE (steps:Int)/\((Els.Nil (Els.ints i64 order)\/rE (1:Nat))/\rE (order:List Int))/\((Els.Nil (Els.ints i64 events)\/rE (1:Nat))/\rE (events:List Int))/\rZ/\((Els.Nil (Els.ints u32 x5.Mem)\/eqAt Nat 1 1)/\rE x5.Mem)/\rZ/\rE ((wrap i64 (v0.1+1)):Int)/\True)/\(mE x20.1 (((Els.Nil (Els.ints u32 x20.1.Mem)\/eqAt Nat 1 1)/\rE x20.1.Mem)) True)/\(mE x19.1.A0 (((Els.Nil (Els.ints u32 x19.1.A0.Mem)\/eqAt Nat 1 1)/\rE x19.1.A0.Mem)) (rE x19.1.A7/\rE x19.1.C9/\rE x19.1.B4/\True))/\True) (Sum.inr (Sum.inl (wrap i64 (v0.1+1),x20.1,x19.1))))))))));.br v1.2.1 (.br (decide (v1.2.2.1<4)) (.an (Q1o v1.2.2.2 (wrap u32 v0.1)) (.lv (Q34 v1.2.2.2 (wrap u32 v0.1)) λ(x16:Q01×List Q0a×Bool)=>.br x16.2.2 (.lf (Sum.inr (Sum.inr false))) (.br ((x16.2.1.length:Int) !=(0:Int)) (.lf (Sum.inr (Sum.inr false))) (.br (x16.1.C9 !=v1.1) (.lf (Sum.inr (Sum.inr false))) (.br (x16.1.B4 !=wrap i64 (v1.2.2.2.B4+1)) (.lf (Sum.inr (Sum.inr false))) (.an (Q30 x16.1 x5.Mem [v1.1]) (.lv (Q5r x16.1 x5.Mem [v1.1]) λ(x17:Q01)=>.an (Q1l x17) (.lv (Q2g x17) λ(x18:Int×Bool)=>.nx ((rE (steps:Int)/\((Els.Nil (Els.ints i64 order)\/rE (1:Nat))/\rE (order:List Int))/\((Els.Nil (Els.ints i64 events)\/rE (1:Nat))/\rE (events:List Int))/\rZ/\((Els.Nil (Els.ints u32 x5.Mem)\/rE (1:Nat))/\rE x5.Mem)/\rZ/\rE v0.1/\rE x18.1/\rE x18.2/\rE ((wrap i64 (v1.2.2.1+1)):Int)/\True)/\(mE x14.1 (((Els.Nil (Els.ints u32 x14.1.Mem)\/eqAt Nat 1 1)/\rE x14.1.Mem)) True)/\(mE x17.A0 (((Els.Nil (Els.ints u32 x17.A0.Mem)\/eqAt Nat 1 1)/\rE x17.A0.Mem)) (((Els.Nil (Els.bools x17.A7)\/eqAt Nat 1 1)/\rE x17.A7)/\rE x17.C9/\rE x17.B4/\True))/\True) (Sum.inl (x18.1,x18.2,wrap i64 (v1.2.2.1+1),x17)))))))))) T4) T4))))))))) (.an (Q1l x9.1) (.lv (Q2g x9.1) λ(x25:Int×Bool)=>.lp inferInstance (Q1y kind prog steps order events v0 (x25.1,x25.2,0,x9.1)+1) ((rE (steps:Int)/\((Els.Nil (Els.ints i64 order)\/rE (1:Nat))/\rE (order:List Int))/\((Els.Nil (Els.ints i64 events)\/rE (1:Nat))/\rE (events:List Int))/\rZ/\((Els.Nil (Els.ints u32 x5.Mem)\/rE (1:Nat))/\rE x5.Mem)/\rZ/\rE v0.1/\rE x25.1/\rE x25.2/\rE (0:Int)/\True)/\(mE v0.2.1 (((Els.Nil (Els.ints u32 v0.2.1.Mem)\/eqAt Nat 1 1)/\rE v0.2.1.Mem)) True)/\(mE x9.1.A0 (rE x9.1.A0.Mem) (rE x9.1.A7/\rE x9.1.C9/\rE x9.1.B4/\True))/\True) (x25.1,x25.2,0,x9.1) λ(v1:Int×Bool×Int×Q01)=>let T2:Tree ((Int×Bool×Int×Q01)⊕((Int×Q00×Q01)⊕(Bool))):=.an (Q1o v1.2.2.2 (wrap u32 v0.1)) (.lv (Q34 v1.2.2.2 (wrap u32 v0.1)) λ(x29:Q01×List Q0a×Bool)=>.an (Q46 v0.2.1 (wrap u32 v0.1)) (.lv (Q0z v0.2.1 (wrap u32 v0.1)) λ(x30:Q00×List Q0a)=>.br (!x29.2.2) (.lf (Sum.inr (Sum.inr false))) (.an (Q2l x29.2.1 x30.2) (.lv (Q6q x29.2.1 x30.2) λ(x31:Bool)=>.br (!x31) (.lf (Sum.inr (Sum.inr false))) (.br (!eqs [D.int u32 x29.1.A0.A4.X.a0,D.int u32 x29.1.A0.A4.X.a1,D.int u32 x29.1.A0.A4.X.a2,D.int u32 x29.1.A0.A4.X.a3,D.int u32 x29.1.A0.A4.X.a4,D.int u32 x29.1.A0.A4.X.a5,D.int u32 x29.1.A0.A4.X.a6,D.int u32 x29.1.A0.A4.X.a7,D.int u32 x29.1.A0.A4.X.a8,D.int u32 x29.1.A0.A4.X.a9,D.int u32 x29.1.A0.A4.X.a10,D.int u32 x29.1.A0.A4.X.a11,D.int u32 x29.1.A0.A4.X.a12,D.int u32 x29.1.A0.A4.X.a13,D.int u32 x29.1.A0.A4.X.a14,D.int u32 x29.1.A0.A4.X.a15,D.int u32 x29.1.A0.A4.Pc,D.int u32 x29.1.A0.A4.B3.a0,D.int u32 x29.1.A0.A4.B3.a1,D.int u32 x29.1.A0.A4.B3.a2,D.int u32 x29.1.A0.A4.B3.a3,D.int u32 x29.1.A0.A4.B3.a4,D.int u32 x29.1.A0.A4.B3.a5,D.int u32 x29.1.A0.A4.B3.a6,D.int u32 x29.1.A0.A4.B3.a7] [D.int u32 x30.1.A4.X.a0,D.int u32 x30.1.A4.X.a1,D.int u32 x30.1.A4.X.a2,D.int u32 x30.1.A4.X.a3,D.int u32 x30.1.A4.X.a4,D.int u32 x30.1.A4.X.a5,D.int u32 x30.1.A4.X.a6,D.int u32 x30.1.A4.X.a7,D.int u32 x30.1.A4.X.a8,D.int u32 x30.1.A4.X.a9,D.int u32 x30.1.A4.X.a10,D.int u32 x30.1.A4.X.a11,D.int u32 x30.1.A4.X.a12,D.int u32 x30.1.A4.X.a13,D.int u32 x30.1.A4.X.a14,D.int u32 x30.1.A4.X.a15,D.int u32 x30.1.A4.Pc,D.int u32 x30.1.A4.B3.a0,D.int u32 x30.1.A4.B3.a1,D.int u32 x30.1.A4.B3.a2,D.int u32 x30.1.A4.B3.a3,D.int u32 x30.1.A4.B3.a4,D.int u32 x30.1.A4.B3.a5,D.int u32 x30.1.A4.B3.a6,D.int u32 x30.1.A4.B3.a7]) (.lf (Sum.inr (Sum.inr false))) (.br (x29.1.A0.A2 !=x30.1.A2) (.lf (Sum.inr (Sum.inr false))) (.nx ((rE (steps:Int)/\((Els.Nil (Els.ints i64 order)\/rE (1:Nat))/\rE (order:List Int))/\((Els.Nil (Els.ints i64 events)\/rE (1:Nat))/\rE (events:List Int))/\rZ/\((Els.Nil (Els.ints u32 x5.Mem)\/eqAt Nat 1 1)/\rE x5.Mem)/\rZ/\rE ((wrap i64 (v0.1+1)):Int)/\True)/\(mE x30.1 (((Els.Nil (Els.ints u32 x30.1.Mem)\/eqAt Nat 1 1)/\rE x30.1.Mem)) True)/\(mE x29.1.A0 (((Els.Nil (Els.ints u32 x29.1.A0.Mem)\/eqAt Nat 1 1)/\rE x29.1.A0.Mem)) (rE x29.1.A7/\rE x29.1.C9/\rE x29.1.B4/\True))/\True) (Sum.inr (Sum.inl (wrap i64 (v0.1+1),x30.1,x29.1))))))))));.br v1.2.1 (.br (decide (v1.2.2.1<4)) (.an (Q1o v1.2.2.2 (wrap u32 v0.1)) (.lv (Q34 v1.2.2.2 (wrap u32 v0.1)) λ(x26:Q01×List Q0a×Bool)=>.br x26.2.2 (.lf (Sum.inr (Sum.inr false))) (.br ((x26.2.1.length:Int) !=(0:Int)) (.lf (Sum.inr (Sum.inr false))) (.br (x26.1.C9 !=v1.1) (.lf (Sum.inr (Sum.inr false))) (.br (x26.1.B4 !=wrap i64 (v1.2.2.2.B4+1)) (.lf (Sum.inr (Sum.inr false))) (.an (Q30 x26.1 x5.Mem [v1.1]) (.lv (Q5r x26.1 x5.Mem [v1.1]) λ(x27:Q01)=>.an (Q1l x27) (.lv (Q2g x27) λ(x28:Int×Bool)=>.nx ((rE (steps:Int)/\((Els.Nil (Els.ints i64 order)\/rE (1:Nat))/\rE (order:List Int))/\((Els.Nil (Els.ints i64 events)\/rE (1:Nat))/\rE (events:List Int))/\rZ/\((Els.Nil (Els.ints u32 x5.Mem)\/rE (1:Nat))/\rE x5.Mem)/\rZ/\rE v0.1/\rE x28.1/\rE x28.2/\rE ((wrap i64 (v1.2.2.1+1)):Int)/\True)/\(mE v0.2.1 (((Els.Nil (Els.ints u32 v0.2.1.Mem)\/eqAt Nat 1 1)/\rE v0.2.1.Mem)) True)/\(mE x27.A0 (((Els.Nil (Els.ints u32 x27.A0.Mem)\/eqAt Nat 1 1)/\rE x27.A0.Mem)) (((Els.Nil (Els.bools x27.A7)\/eqAt Nat 1 1)/\rE x27.A7)/\rE x27.C9/\rE x27.B4/\True))/\True) (Sum.inl (x28.1,x28.2,wrap i64 (v1.2.2.1+1),x27)))))))))) T2) T2));.br x9.2 (.br (!x8.2) (.lf (Sum.inr false)) T1) T1))))) (.br E8 (.cn E7 (.an (Qbf E6) (.lv (Qh2 E6) λ(x60:Q0f)=>.an (Q6y v0.2.2.A0 x60) (.lv (Qah v0.2.2.A0 x60) λ(x61:List Int)=>.an (Q30 v0.2.2 x5.Mem x61) (.lv (Q5r v0.2.2 x5.Mem x61) λ(x62:Q01)=>.an (Q9d x62 x60) (.lv (Qev x62 x60) λ(x63:Q01×Bool)=>.an (Q33 v0.2.1 x60) (.lv (Q0p v0.2.1 x60) λ(x64:Q00×Bool)=>.br (!x63.2==x64.2) (.lf (Sum.inr false)) (.an (Q1l x63.1) (.lv (Q2g x63.1) λ(x65:Int×Bool)=>.lp inferInstance (Q1y kind prog steps order events v0 (x65.1,x65.2,0,x63.1)+1) ((rE (steps:Int)/\((Els.Nil (Els.ints i64 order)\/rE (1:Nat))/\rE (order:List Int))/\((Els.Nil (Els.ints i64 events)\/rE (1:Nat))/\rE (events:List Int))/\rZ/\((Els.Nil (Els.ints u32 x5.Mem)\/rE (1:Nat))/\rE x5.Mem)/\rZ/\rE v0.1/\rE x65.1/\rE x65.2/\rE (0:Int)/\True)/\(mE x64.1 (rE x64.1.Mem) True)/\(mE x63.1.A0 (rE x63.1.A0.Mem) (rE x63.1.A7/\rE x63.1.C9/\rE x63.1.B4/\True))/\True) (x65.1,x65.2,0,x63.1) λ(v1:Int×Bool×Int×Q01)=>let T5:Tree ((Int×Bool×Int×Q01)⊕((Int×Q00×Q01)⊕(Bool))):=.an (Q1o v1.2.2.2 (wrap u32 v0.1)) (.lv (Q34 v1.2.2.2 (wrap u32 v0.1)) λ(x69:Q01×List Q0a×Bool)=>.an (Q46 x64.1 (wrap u32 v0.1)) (.lv (Q0z x64.1 (wrap u32 v0.1)) λ(x70:Q00×List Q0a)=>.br (!x69.2.2) (.lf (Sum.inr (Sum.inr false))) (.an (Q2l x69.2.1 x70.2) (.lv (Q6q x69.2.1 x70.2) λ(x71:Bool)=>.br (!x71) (.lf (Sum.inr (Sum.inr false))) (.br (!eqs [D.int u32 x69.1.A0.A4.X.a0,D.int u32 x69.1.A0.A4.X.a1,D.int u32 x69.1.A0.A4.X.a2,D.int u32 x69.1.A0.A4.X.a3,D.int u32 x69.1.A0.A4.X.a4,D.int u32 x69.1.A0.A4.X.a5,D.int u32 x69.1.A0.A4.X.a6,D.int u32 x69.1.A0.A4.X.a7,D.int u32 x69.1.A0.A4.X.a8,D.int u32 x69.1.A0.A4.X.a9,D.int u32 x69.1.A0.A4.X.a10,D.int u32 x69.1.A0.A4.X.a11,D.int u32 x69.1.A0.A4.X.a12,D.int u32 x69.1.A0.A4.X.a13,D.int u32 x69.1.A0.A4.X.a14,D.int u32 x69.1.A0.A4.X.a15,D.int u32 x69.1.A0.A4.Pc,D.int u32 x69.1.A0.A4.B3.a0,D.int u32 x69.1.A0.A4.B3.a1,D.int u32 x69.1.A0.A4.B3.a2,D.int u32 x69.1.A0.A4.B3.a3,D.int u32 x69.1.A0.A4.B3.a4,D.int u32 x69.1.A0.A4.B3.a5,D.int u32 x69.1.A0.A4.B3.a6,D.int u32 x69.1.A0.A4.B3.a7] [D.int u32 x70.1.A4.X.a0,D.int u32 x70.1.A4.X.a1,D.int u32 x70.1.A4.X.a2,D.int u32 x70.1.A4.X.a3,D.int u32 x70.1.A4.X.a4,D.int u32 x70.1.A4.X.a5,D.int u32 x70.1.A4.X.a6,D.int u32 x70.1.A4.X.a7,D.int u32 x70.1.A4.X.a8,D.int u32 x70.1.A4.X.a9,D.int u32 x70.1.A4.X.a10,D.int u32 x70.1.A4.X.a11,D.int u32 x70.1.A4.X.a12,D.int u32 x70.1.A4.X.a13,D.int u32 x70.1.A4.X.a14,D.int u32 x70.1.A4.X.a15,D.int u32 x70.1.A4.Pc,D.int u32 x70.1.A4.B3.a0,D.int u32 x70.1.A4.B3.a1,D.int u32 x70.1.A4.B3.a2,D.int u32 x70.1.A4.B3.a3,D.int u32 x70.1.A4.B3.a4,D.int u32 x70.1.A4.B3.a5,D.int u32 x70.1.A4.B3.a6,D.int u32 x70.1.A4.B3.a7]) (.lf (Sum.inr (Sum.inr false))) (.br (x69.1.A0.A2 !=x70.1.A2) (.lf (Sum.inr (Sum.inr false))) (.nx ((rE (steps:Int)/\((Els.Nil (Els.ints i64 order)\/rE (1:Nat))/\rE (order:List Int))/\((Els.Nil (Els.ints i64 events)\/rE (1:Nat))/\rE (events:List Int))/\rZ/\((Els.Nil (Els.ints u32 x5.Mem)\/eqAt Nat 1 1)/\rE x5.Mem)/\rZ/\rE ((wrap i64 (v0.1+1)):Int)/\True)/\(mE x70.1 (((Els.Nil (Els.ints u32 x70.1.Mem)\/eqAt Nat 1 1)/\rE x70.1.Mem)) True)/\(mE x69.1.A0 (((Els.Nil (Els.ints u32 x69.1.A0.Mem)\/eqAt Nat 1 1)/\rE x69.1.A0.Mem)) (rE x69.1.A7/\rE x69.1.C9/\rE x69.1.B4/\True))/\True) (Sum.inr (Sum.inl (wrap i64 (v0.1+1),x70.1,x69.1))))))))));.br v1.2.1 (.br (decide (v1.2.2.1<4)) (.an (Q1o v1.2.2.2 (wrap u32 v0.1)) (.lv (Q34 v1.2.2.2 (wrap u32 v0.1)) λ(x66:Q01×List Q0a×Bool)=>.br x66.2.2 (.lf (Sum.inr (Sum.inr false))) (.br ((x66.2.1.length:Int) !=(0:Int)) (.lf (Sum.inr (Sum.inr false))) (.br (x66.1.C9 !=v1.1) (.lf (Sum.inr (Sum.inr false))) (.br (x66.1.B4 !=wrap i64 (v1.2.2.2.B4+1)) (.lf (Sum.inr (Sum.inr false))) (.an (Q30 x66.1 x5.Mem [v1.1]) (.lv (Q5r x66.1 x5.Mem [v1.1]) λ(x67:Q01)=>.an (Q1l x67) (.lv (Q2g x67) λ(x68:Int×Bool)=>.nx ((rE (steps:Int)/\((Els.Nil (Els.ints i64 order)\/rE (1:Nat))/\rE (order:List Int))/\((Els.Nil (Els.ints i64 events)\/rE (1:Nat))/\rE (events:List Int))/\rZ/\((Els.Nil (Els.ints u32 x5.Mem)\/rE (1:Nat))/\rE x5.Mem)/\rZ/\rE v0.1/\rE x68.1/\rE x68.2/\rE ((wrap i64 (v1.2.2.1+1)):Int)/\True)/\(mE x64.1 (((Els.Nil (Els.ints u32 x64.1.Mem)\/eqAt Nat 1 1)/\rE x64.1.Mem)) True)/\(mE x67.A0 (((Els.Nil (Els.ints u32 x67.A0.Mem)\/eqAt Nat 1 1)/\rE x67.A0.Mem)) (((Els.Nil (Els.bools x67.A7)\/eqAt Nat 1 1)/\rE x67.A7)/\rE x67.C9/\rE x67.B4/\True))/\True) (Sum.inl (x68.1,x68.2,wrap i64 (v1.2.2.1+1),x67)))))))))) T5) T5))))))))) (.an (Q1l v0.2.2) (.lv (Q2g v0.2.2) λ(x75:Int×Bool)=>.lp inferInstance (Q1y kind prog steps order events v0 (x75.1,x75.2,0,v0.2.2)+1) ((rE (steps:Int)/\((Els.Nil (Els.ints i64 order)\/rE (1:Nat))/\rE (order:List Int))/\((Els.Nil (Els.ints i64 events)\/rE (1:Nat))/\rE (events:List Int))/\rZ/\((Els.Nil (Els.ints u32 x5.Mem)\/rE (1:Nat))/\rE x5.Mem)/\rZ/\rE v0.1/\rE x75.1/\rE x75.2/\rE (0:Int)/\True)/\(mE v0.2.1 (((Els.Nil (Els.ints u32 v0.2.1.Mem)\/eqAt Nat 1 1)/\rE v0.2.1.Mem)) True)/\(mE v0.2.2.A0 (((Els.Nil (Els.ints u32 v0.2.2.A0.Mem)\/eqAt Nat 1 1)/\rE v0.2.2.A0.Mem)) (((Els.Nil (Els.bools v0.2.2.A7)\/eqAt Nat 1 1)/\rE v0.2.2.A7)/\rE v0.2.2.C9/\rE v0.2.2.B4/\True))/\True) (x75.1,x75.2,0,v0.2.2) λ(v1:Int×Bool×Int×Q01)=>let T3:Tree ((Int×Bool×Int×Q01)⊕((Int×Q00×Q01)⊕(Bool))):=.an (Q1o v1.2.2.2 (wrap u32 v0.1)) (.lv (Q34 v1.2.2.2 (wrap u32 v0.1)) λ(x79:Q01×List Q0a×Bool)=>.an (Q46 v0.2.1 (wrap u32 v0.1)) (.lv (Q0z v0.2.1 (wrap u32 v0.1)) λ(x80:Q00×List Q0a)=>.br (!x79.2.2) (.lf (Sum.inr (Sum.inr false))) (.an (Q2l x79.2.1 x80.2) (.lv (Q6q x79.2.1 x80.2) λ(x81:Bool)=>.br (!x81) (.lf (Sum.inr (Sum.inr false))) (.br (!eqs [D.int u32 x79.1.A0.A4.X.a0,D.int u32 x79.1.A0.A4.X.a1,D.int u32 x79.1.A0.A4.X.a2,D.int u32 x79.1.A0.A4.X.a3,D.int u32 x79.1.A0.A4.X.a4,D.int u32 x79.1.A0.A4.X.a5,D.int u32 x79.1.A0.A4.X.a6,D.int u32 x79.1.A0.A4.X.a7,D.int u32 x79.1.A0.A4.X.a8,D.int u32 x79.1.A0.A4.X.a9,D.int u32 x79.1.A0.A4.X.a10,D.int u32 x79.1.A0.A4.X.a11,D.int u32 x79.1.A0.A4.X.a12,D.int u32 x79.1.A0.A4.X.a13,D.int u32 x79.1.A0.A4.X.a14,D.int u32 x79.1.A0.A4.X.a15,D.int u32 x79.1.A0.A4.Pc,D.int u32 x79.1.A0.A4.B3.a0,D.int u32 x79.1.A0.A4.B3.a1,D.int u32 x79.1.A0.A4.B3.a2,D.int u32 x79.1.A0.A4.B3.a3,D.int u32 x79.1.A0.A4.B3.a4,D.int u32 x79.1.A0.A4.B3.a5,D.int u32 x79.1.A0.A4.B3.a6,D.int u32 x79.1.A0.A4.B3.a7] [D.int u32 x80.1.A4.X.a0,D.int u32 x80.1.A4.X.a1,D.int u32 x80.1.A4.X.a2,D.int u32 x80.1.A4.X.a3,D.int u32 x80.1.A4.X.a4,D.int u32 x80.1.A4.X.a5,D.int u32 x80.1.A4.X.a6,D.int u32 x80.1.A4.X.a7,D.int u32 x80.1.A4.X.a8,D.int u32 x80.1.A4.X.a9,D.int u32 x80.1.A4.X.a10,D.int u32 x80.1.A4.X.a11,D.int u32 x80.1.A4.X.a12,D.int u32 x80.1.A4.X.a13,D.int u32 x80.1.A4.X.a14,D.int u32 x80.1.A4.X.a15,D.int u32 x80.1.A4.Pc,D.int u32 x80.1.A4.B3.a0,D.int u32 x80.1.A4.B3.a1,D.int u32 x80.1.A4.B3.a2,D.int u32 x80.1.A4.B3.a3,D.int u32 x80.1.A4.B3.a4,D.int u32 x80.1.A4.B3.a5,D.int u32 x80.1.A4.B3.a6,D.int u32 x80.1.A4.B3.a7]) (.lf (Sum.inr (Sum.inr false))) (.br (x79.1.A0.A2 !=x80.1.A2) (.lf (Sum.inr (Sum.inr false))) (.nx ((rE (steps:Int)/\((Els.Nil (Els.ints i64 order)\/rE (1:Nat))/\rE (order:List Int))/\((Els.Nil (Els.ints i64 events)\/rE (1:Nat))/\rE (events:List Int))/\rZ/\((Els.Nil (Els.ints u32 x5.Mem)\/eqAt Nat 1 1)/\rE x5.Mem)/\rZ/\rE ((wrap i64 (v0.1+1)):Int)/\True)/\(mE x80.1 (((Els.Nil (Els.ints u32 x80.1.Mem)\/eqAt Nat 1 1)/\rE x80.1.Mem)) True)/\(mE x79.1.A0 (((Els.Nil (Els.ints u32 x79.1.A0.Mem)\/eqAt Nat 1 1)/\rE x79.1.A0.Mem)) (rE x79.1.A7/\rE x79.1.C9/\rE x79.1.B4/\True))/\True) (Sum.inr (Sum.inl (wrap i64 (v0.1+1),x80.1,x79.1))))))))));.br v1.2.1 (.br (decide (v1.2.2.1<4)) (.an (Q1o v1.2.2.2 (wrap u32 v0.1)) (.lv (Q34 v1.2.2.2 (wrap u32 v0.1)) λ(x76:Q01×List Q0a×Bool)=>.br x76.2.2 (.lf (Sum.inr (Sum.inr false))) (.br ((x76.2.1.length:Int) !=(0:Int)) (.lf (Sum.inr (Sum.inr false))) (.br (x76.1.C9 !=v1.1) (.lf (Sum.inr (Sum.inr false))) (.br (x76.1.B4 !=wrap i64 (v1.2.2.2.B4+1)) (.lf (Sum.inr (Sum.inr false))) (.an (Q30 x76.1 x5.Mem [v1.1]) (.lv (Q5r x76.1 x5.Mem [v1.1]) λ(x77:Q01)=>.an (Q1l x77) (.lv (Q2g x77) λ(x78:Int×Bool)=>.nx ((rE (steps:Int)/\((Els.Nil (Els.ints i64 order)\/rE (1:Nat))/\rE (order:List Int))/\((Els.Nil (Els.ints i64 events)\/rE (1:Nat))/\rE (events:List Int))/\rZ/\((Els.Nil (Els.ints u32 x5.Mem)\/rE (1:Nat))/\rE x5.Mem)/\rZ/\rE v0.1/\rE x78.1/\rE x78.2/\rE ((wrap i64 (v1.2.2.1+1)):Int)/\True)/\(mE v0.2.1 (((Els.Nil (Els.ints u32 v0.2.1.Mem)\/eqAt Nat 1 1)/\rE v0.2.1.Mem)) True)/\(mE x77.A0 (((Els.Nil (Els.ints u32 x77.A0.Mem)\/eqAt Nat 1 1)/\rE x77.A0.Mem)) (((Els.Nil (Els.bools x77.A7)\/eqAt Nat 1 1)/\rE x77.A7)/\rE x77.C9/\rE x77.B4/\True))/\True) (Sum.inl (x78.1,x78.2,wrap i64 (v1.2.2.1+1),x77)))))))))) T3) T3)))) (.an (Qe9 v0.2.2 32) (.lv (Qmb v0.2.2 32) λ(x85:List Int)=>.an (Q30 v0.2.2 x5.Mem x85) (.lv (Q5r v0.2.2 x5.Mem x85) λ(x86:Q01)=>.an (Qdt x86) (.lv (Qm4 x86) λ(x87:Bool)=>.br x87 (.an (Qud x86.A0 v0.2.1) (.lv (Zdp x86.A0 v0.2.1) λ(x88:Bool)=>.br x88 (.an Q3e (.lv Q7e λ(x89:Bool)=>.lf (Sum.inr x89))) (.lf (Sum.inr false)))) (.lf (Sum.inr false))))))))))))))
def Qk4 kind prog steps order events:=(Q8s kind prog steps order events).m
abbrev Qjs kind prog steps order events:=(Q8s kind prog steps order events).p
def Qvz:LInv:={
 α:=(Int)×Q00×Q01
 F:=λst a=>([(2,(lk st 2)),(3,(lk st 3)),(4,(lk st 4)),(11,.ptr 0 0 0),(12,.sl 1 (frzEs st.rows (lk st 12)) false),(13,.ptr 1 0 0),(15,.int i64 a.1)],[⟨true,42,49,.gen [mD a.2.1 (.sl 1 (.ints u32 a.2.1.Mem) false)]⟩,⟨true,48,52,.gen [[.int u32 a.2.2.A0.A4.X.a0,.int u32 a.2.2.A0.A4.X.a1,.int u32 a.2.2.A0.A4.X.a2,.int u32 a.2.2.A0.A4.X.a3,.int u32 a.2.2.A0.A4.X.a4,.int u32 a.2.2.A0.A4.X.a5,.int u32 a.2.2.A0.A4.X.a6,.int u32 a.2.2.A0.A4.X.a7,.int u32 a.2.2.A0.A4.X.a8,.int u32 a.2.2.A0.A4.X.a9,.int u32 a.2.2.A0.A4.X.a10,.int u32 a.2.2.A0.A4.X.a11,.int u32 a.2.2.A0.A4.X.a12,.int u32 a.2.2.A0.A4.X.a13,.int u32 a.2.2.A0.A4.X.a14,.int u32 a.2.2.A0.A4.X.a15,.int u32 a.2.2.A0.A4.Pc,.int u32 a.2.2.A0.A4.B3.a0,.int u32 a.2.2.A0.A4.B3.a1,.int u32 a.2.2.A0.A4.B3.a2,.int u32 a.2.2.A0.A4.B3.a3,.int u32 a.2.2.A0.A4.B3.a4,.int u32 a.2.2.A0.A4.B3.a5,.int u32 a.2.2.A0.A4.B3.a6,.int u32 a.2.2.A0.A4.B3.a7,.sl 1 (.ints u32 a.2.2.A0.Mem) false,.str a.2.2.A0.A3.D0,.bool a.2.2.A0.B2.D4,.int u32 a.2.2.A0.B2.C7,.bool a.2.2.A0.B2.D2,.int u32 a.2.2.A0.B0.Blocks,.int u32 a.2.2.A0.B0.B8,.int u32 a.2.2.A0.B0.Frame,.int i64 a.2.2.A0.B0.B9,.int i64 a.2.2.A0.B0.D5,.int u32 a.2.2.A0.B0.B5,.int u32 a.2.2.A0.B0.B1,.str a.2.2.A0.B0.C1,.int u32 a.2.2.A0.C2.Frame,.int u32 a.2.2.A0.C2.D7,.bool a.2.2.A0.C2.C4,.int u32 a.2.2.A0.C2.B6,.bool a.2.2.A0.C2.B7,.int u32 a.2.2.A0.C2.E0,.int u32 a.2.2.A0.A1.C6,.int u32 a.2.2.A0.A1.C0,.int u64 a.2.2.A0.A2,.bool a.2.2.A0.A6,.bool a.2.2.A0.A9,.sl 1 (.bools a.2.2.A7) false,.int i64 a.2.2.C9,.int i64 a.2.2.B4]]⟩])
 a0:=λst=>((lk st 15).toInt,(mR (cT st 11) (frzI u32 st.rows (cT st 11 25))),(⟨(mR (cT st 13) (frzI u32 st.rows (cT st 13 25))),(frzB st.rows (cT st 13 49)),(cT st 13 50).toInt,(cT st 13 51).toInt⟩:Q01))
 ex0:=λst=>[]++[(rX st 11 0),(rX st 13 1)]}
def Qv1:LInv:={
 α:=(Int)×(Bool)×(Int)×Q01
 F:=λst a=>([(2,(lk st 2)),(3,(lk st 3)),(4,(lk st 4)),(11,.ptr 0 0 0),(12,(lk st 12)),(13,.ptr 1 0 0),(15,(lk st 15)),(26,.int i64 a.1),(27,.bool a.2.1),(28,.int i64 a.2.2.1)],[⟨true,42,49,.gen [[(cT st 11 0),(cT st 11 1),(cT st 11 2),(cT st 11 3),(cT st 11 4),(cT st 11 5),(cT st 11 6),(cT st 11 7),(cT st 11 8),(cT st 11 9),(cT st 11 10),(cT st 11 11),(cT st 11 12),(cT st 11 13),(cT st 11 14),(cT st 11 15),(cT st 11 16),(cT st 11 17),(cT st 11 18),(cT st 11 19),(cT st 11 20),(cT st 11 21),(cT st 11 22),(cT st 11 23),(cT st 11 24),.sl 1 (frzEs st.rows (cT st 11 25)) false,(cT st 11 26),(cT st 11 27),(cT st 11 28),(cT st 11 29),(cT st 11 30),(cT st 11 31),(cT st 11 32),(cT st 11 33),(cT st 11 34),(cT st 11 35),(cT st 11 36),(cT st 11 37),(cT st 11 38),(cT st 11 39),(cT st 11 40),(cT st 11 41),(cT st 11 42),(cT st 11 43),(cT st 11 44),(cT st 11 45),(cT st 11 46),(cT st 11 47),(cT st 11 48)]]⟩,⟨true,48,52,.gen [[.int u32 a.2.2.2.A0.A4.X.a0,.int u32 a.2.2.2.A0.A4.X.a1,.int u32 a.2.2.2.A0.A4.X.a2,.int u32 a.2.2.2.A0.A4.X.a3,.int u32 a.2.2.2.A0.A4.X.a4,.int u32 a.2.2.2.A0.A4.X.a5,.int u32 a.2.2.2.A0.A4.X.a6,.int u32 a.2.2.2.A0.A4.X.a7,.int u32 a.2.2.2.A0.A4.X.a8,.int u32 a.2.2.2.A0.A4.X.a9,.int u32 a.2.2.2.A0.A4.X.a10,.int u32 a.2.2.2.A0.A4.X.a11,.int u32 a.2.2.2.A0.A4.X.a12,.int u32 a.2.2.2.A0.A4.X.a13,.int u32 a.2.2.2.A0.A4.X.a14,.int u32 a.2.2.2.A0.A4.X.a15,.int u32 a.2.2.2.A0.A4.Pc,.int u32 a.2.2.2.A0.A4.B3.a0,.int u32 a.2.2.2.A0.A4.B3.a1,.int u32 a.2.2.2.A0.A4.B3.a2,.int u32 a.2.2.2.A0.A4.B3.a3,.int u32 a.2.2.2.A0.A4.B3.a4,.int u32 a.2.2.2.A0.A4.B3.a5,.int u32 a.2.2.2.A0.A4.B3.a6,.int u32 a.2.2.2.A0.A4.B3.a7,.sl 1 (.ints u32 a.2.2.2.A0.Mem) false,.str a.2.2.2.A0.A3.D0,.bool a.2.2.2.A0.B2.D4,.int u32 a.2.2.2.A0.B2.C7,.bool a.2.2.2.A0.B2.D2,.int u32 a.2.2.2.A0.B0.Blocks,.int u32 a.2.2.2.A0.B0.B8,.int u32 a.2.2.2.A0.B0.Frame,.int i64 a.2.2.2.A0.B0.B9,.int i64 a.2.2.2.A0.B0.D5,.int u32 a.2.2.2.A0.B0.B5,.int u32 a.2.2.2.A0.B0.B1,.str a.2.2.2.A0.B0.C1,.int u32 a.2.2.2.A0.C2.Frame,.int u32 a.2.2.2.A0.C2.D7,.bool a.2.2.2.A0.C2.C4,.int u32 a.2.2.2.A0.C2.B6,.bool a.2.2.2.A0.C2.B7,.int u32 a.2.2.2.A0.C2.E0,.int u32 a.2.2.2.A0.A1.C6,.int u32 a.2.2.2.A0.A1.C0,.int u64 a.2.2.2.A0.A2,.bool a.2.2.2.A0.A6,.bool a.2.2.2.A0.A9,.sl 1 (.bools a.2.2.2.A7) false,.int i64 a.2.2.2.C9,.int i64 a.2.2.2.B4]]⟩])
 a0:=λst=>((lk st 26).toInt,(lk st 27).toBool,(lk st 28).toInt,(⟨(mR (cT st 13) (frzI u32 st.rows (cT st 13 25))),(frzB st.rows (cT st 13 49)),(cT st 13 50).toInt,(cT st 13 51).toInt⟩:Q01))
 ex0:=λst=>[]++[(rX st 11 0),(rX st 13 1)]}
def Qs5:List (Nat×LInv):=[(9,Qvz),(28,Qv1)]
def Qyu:Q0b:=mT 5 [] true [.one (.int .i64),.one (.ints .i64),.one (.int .i64),.one (.ints .i64),.one (.ints .i64)] [] (λa r=>Q8s (argI a 0) (argL .i64 a 1) (argI a 2) (argL .i64 a 3) (argL .i64 a 4)) (λX=>.bool X) (λX=>[])
theorem Qww:Q04 pG Qyu:=oT (.cons Z4j (.cons Zit (.cons Ql (.cons Qm3 (.cons Q95 (.cons Qd7 (.cons Qtm (.cons Z1f (.cons Qqc (.cons Qvr (.cons Qg4 (.cons Qj4 (.cons Qn2 (.cons Qom (.cons Qs3 (.cons Qn3 (.cons Qmn (.cons Ze0 (.nil))))))))))))))))))) Tryz.func5 Tryz.call5 [] Qs5 3

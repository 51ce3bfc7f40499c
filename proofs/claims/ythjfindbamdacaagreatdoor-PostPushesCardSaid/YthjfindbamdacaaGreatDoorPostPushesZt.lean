import Derived.Test.YthjfindbamdacaaGreatDoorPostPushesZd
import Derived.Test.YthjfindbamdacaaGreatDoorPostPushesZx
open Nat renaming beq->bT,blt->bJ
open List renaming getD->aK,length->dG,append->cN,take->cW,drop->cX,replicate->cM
open Int renaming toNat->dB,tdiv->eN,tmod->dA
set_option maxRecDepth 100000
set_option linter.all false
namespace Go.Proofs.YthjfindbamdacaaGreatDoor
open Go Go.GD Go.IntKind
noncomputable section
instance sumInhZi {α β:Type} [Inhabited β]:Inhabited (α⊕β):=⟨.inr default⟩
def Qow(src:List UInt8)(z:(Int)×(List Int)):Nat:=((Qyt src).2.1.length-z.1).toNat
def Qoz(src:List UInt8)(v0:Int×List Int)(z:(Int)×(List Int)):Nat:=(1024-z.1).toNat
def Q8p(src:List UInt8):Tree ((List Int)×Q13):=
.an (Qji src) (.lv (Qyt src) λ(x0:List Q1z×List Q08×Q13)=>.br (x0.2.2.Err !=0) (.lf ([],x0.2.2)) (.lp inferInstance (Qow src (0,[])+1) ((True/\rZ/\True/\True/\True/\rE (0:Int)/\True)/\(rE (0:Int)/\rE (0:Int)/\True)/\rE x0.1/\rE x0.2.1/\rE ([]:List Int)/\True) (0,[]) λ(v0:Int×List Int)=>.br (decide (v0.1<(x0.2.1.length:Int))) (.cn (bT 6 6&&bJ 0 6&&decide (0<=v0.1/\v0.1<(x0.2.1.length:Int))) (let E4:=x0.2.1.getD v0.1.toNat (RK.dflt RK.vmfleetref1Statement);let T1:Tree ((Int×List Int)⊕(((List Int)×Q13))):=.lp inferInstance (Qoz src v0 (0,v0.2)+1) ((True/\rZ/\True/\True/\True/\rE v0.1/\rZ/\rE (0:Int)/\True)/\(rE (0:Int)/\rE (0:Int)/\True)/\rE x0.1/\rE x0.2.1/\(rE ((x0.2.1.getD v0.1.toNat (RK.dflt RK.vmfleetref1Statement)).what:List UInt8)/\rE ((x0.2.1.getD v0.1.toNat (RK.dflt RK.vmfleetref1Statement)).op:Int)/\((Els.Nil (D.toEs (aK (Els.get (Els.recs RK.vmfleetref1Statement x0.2.1) v0.1.toNat) ((0:Nat)+(1:Nat)+(1:Nat)) D.dead))\/rE (3:Nat))/\rE ((x0.2.1.getD v0.1.toNat (RK.dflt RK.vmfleetref1Statement)).l:List (RK.T RK.vmfleetref1Arg)))/\rE ((x0.2.1.getD v0.1.toNat (RK.dflt RK.vmfleetref1Statement)).D2:Int)/\rE ((x0.2.1.getD v0.1.toNat (RK.dflt RK.vmfleetref1Statement)).at_:Int)/\rE ((x0.2.1.getD v0.1.toNat (RK.dflt RK.vmfleetref1Statement)).size:Int)/\True)/\rE v0.2/\True) (0,v0.2) λ(v1:Int×List Int)=>.br (decide (v1.1<E4.size)) (.cn (decide (4*(v1.2.length+1)<=140737488355328)) (.nx ((True/\rZ/\True/\True/\True/\rE v0.1/\rZ/\rE ((wrap i64 (v1.1+1)):Int)/\True)/\(rE (0:Int)/\rE (0:Int)/\True)/\rE x0.1/\rE x0.2.1/\(rE ((x0.2.1.getD v0.1.toNat (RK.dflt RK.vmfleetref1Statement)).what:List UInt8)/\rE ((x0.2.1.getD v0.1.toNat (RK.dflt RK.vmfleetref1Statement)).op:Int)/\((Els.Nil (Els.recs RK.vmfleetref1Arg (x0.2.1.getD v0.1.toNat (RK.dflt RK.vmfleetref1Statement)).l)\/rE (3:Nat))/\rE ((x0.2.1.getD v0.1.toNat (RK.dflt RK.vmfleetref1Statement)).l:List (RK.T RK.vmfleetref1Arg)))/\rE ((x0.2.1.getD v0.1.toNat (RK.dflt RK.vmfleetref1Statement)).D2:Int)/\rE ((x0.2.1.getD v0.1.toNat (RK.dflt RK.vmfleetref1Statement)).at_:Int)/\rE ((x0.2.1.getD v0.1.toNat (RK.dflt RK.vmfleetref1Statement)).size:Int)/\True)/\rE ((v1.2++[0]):List Int)/\True) (Sum.inl (wrap i64 (v1.1+1),v1.2++[0])))) (.nx ((True/\rZ/\True/\True/\True/\rE ((wrap i64 (v0.1+1)):Int)/\True)/\(rE (0:Int)/\rE (0:Int)/\True)/\rE x0.1/\rE x0.2.1/\rE v1.2/\True) (Sum.inr (Sum.inl (wrap i64 (v0.1+1),v1.2))));let E5:=bT 3 3&&bJ 0 3&&decide ((0:Int)<=(0:Int)/\0<(↑(dG E4.l):Int));let E7:=aK E4.l (dB 0) (RK.dflt RK.vmfleetref1Arg);let E8:=decide (4*(v0.2.length+1)<=140737488355328);let T2:Tree ((Int×List Int)⊕(((List Int)×Q13))):=.cn E5 (.cn (bT 3 3&&bJ 0 3&&decide ((0:Int)<=(1:Int)/\1<(↑(dG E4.l):Int))) (.lv (Q19 {Op:=16,A:=E7.reg,B:=(aK E4.l (dB 1) (RK.dflt RK.vmfleetref1Arg)).reg,C:=0,Imm:=0}) λ(x4:Int×Bool)=>.cn E8 (.nx ((True/\rZ/\True/\True/\True/\rE ((wrap i64 (v0.1+1)):Int)/\True)/\(rE (0:Int)/\rE (0:Int)/\True)/\rE x0.1/\rE x0.2.1/\rE ((v0.2++[x4.1]):List Int)/\True) (Sum.inl (wrap i64 (v0.1+1),v0.2++[x4.1])))));let T3:Tree ((Int×List Int)⊕(((List Int)×Q13))):=.lv (Q19 {Op:=16,A:=0,B:=0,C:=0,Imm:=0}) λ(x5:Int×Bool)=>.cn E8 (.nx ((True/\rZ/\True/\True/\True/\rE ((wrap i64 (v0.1+1)):Int)/\True)/\(rE (0:Int)/\rE (0:Int)/\True)/\rE x0.1/\rE x0.2.1/\rE ((v0.2++[x5.1]):List Int)/\True) (Sum.inl (wrap i64 (v0.1+1),v0.2++[x5.1])));let E9:=decide (E4.what=[(46:UInt8),115,112,97,99,101]);let E10:=decide (E4.what=[(46:UInt8),119,111,114,100]);let E12:=decide (E4.what=[(110:UInt8),111,112]);let E13:=decide (4*(v0.2.length+2)<=140737488355328);let E14:=decide (E4.what=[(108:UInt8),105]);let E15:=decide (E4.what=[(109:UInt8),118]);.br (decide ((↑(dG E4.l):Int)>(0:Int))) (.cn (bT 3 3&&bJ 0 3&&decide (0<=wrap i64 ((↑(dG E4.l):Int)-(1:Int))/\wrap i64 ((↑(dG E4.l):Int)-(1:Int))<(↑(dG E4.l):Int))) (let E6:=aK E4.l (dB (wrap i64 ((↑(dG E4.l):Int)-(1:Int)))) (RK.dflt RK.vmfleetref1Arg);.br (!decide (E6.label=[])) (.an (Q39 x0.1 E6.label) (.lv (Qlu x0.1 E6.label) λ(x1:Int×Bool)=>.br (!x1.2) (.lf (Sum.inr ([],{Err:=302,Line:=E4.D2}))) (.br (decide (E4.op>0)) (let E11:=wrap i64 (wrap i64 (eN (wrap i64 x1.1) 4)-E4.at_);.br E10 (.cn E8 (.nx ((True/\rZ/\True/\True/\True/\rE ((wrap i64 (v0.1+1)):Int)/\True)/\(rE (0:Int)/\rE (0:Int)/\True)/\rE x0.1/\rE x0.2.1/\rE ((v0.2++[wrap u32 (wrap i64 (wrap i64 (eN (wrap i64 x1.1) 4)-(x0.2.1.getD v0.1.toNat (RK.dflt RK.vmfleetref1Statement)).at_))]):List Int)/\True) (Sum.inl (wrap i64 (v0.1+1),v0.2++[wrap u32 E11])))) (.br E9 T1 (.br E14 (.cn E5 (.lv (Q19 {Op:=24,A:=E7.reg,B:=0,C:=0,Imm:=wrap i32 (ishr u32 (wrap u32 E11) 16)}) λ(x2:Int×Bool)=>.cn E5 (.cn E5 (.lv (Q19 {Op:=18,A:=E7.reg,B:=E7.reg,C:=0,Imm:=wrap i32 (iand u32 (wrap u32 E11) 65535)}) λ(x3:Int×Bool)=>.cn E13 (.nx ((True/\rZ/\True/\True/\True/\rE ((wrap i64 (v0.1+1)):Int)/\True)/\(rE (0:Int)/\rE (0:Int)/\True)/\rE x0.1/\rE x0.2.1/\rE ((v0.2++[x2.1,x3.1]):List Int)/\True) (Sum.inl (wrap i64 (v0.1+1),v0.2++[x2.1,x3.1]))))))) (.br E15 T2 (.br E12 T3 (.an (Q95 E4 E11) (.lv (Qmu E4 E11) λ(x6:Int×Bool)=>.br (!x6.2) (.lf (Sum.inr ([],{Err:=304,Line:=E4.D2}))) (.cn E8 (.nx ((True/\rZ/\True/\True/\True/\rE ((wrap i64 (v0.1+1)):Int)/\True)/\(rE (0:Int)/\rE (0:Int)/\True)/\rE x0.1/\rE x0.2.1/\rE ((v0.2++[x6.1]):List Int)/\True) (Sum.inl (wrap i64 (v0.1+1),v0.2++[x6.1]))))))))))) (.br E10 (.cn E8 (.nx ((True/\rZ/\True/\True/\True/\rE ((wrap i64 (v0.1+1)):Int)/\True)/\(rE (0:Int)/\rE (0:Int)/\True)/\rE x0.1/\rE x0.2.1/\rE ((v0.2++[wrap u32 (wrap i64 x1.1)]):List Int)/\True) (Sum.inl (wrap i64 (v0.1+1),v0.2++[wrap u32 (wrap i64 x1.1)])))) (.br E9 T1 (.br E14 (.cn E5 (.lv (Q19 {Op:=24,A:=E7.reg,B:=0,C:=0,Imm:=wrap i32 (ishr u32 (wrap u32 (wrap i64 x1.1)) 16)}) λ(x7:Int×Bool)=>.cn E5 (.cn E5 (.lv (Q19 {Op:=18,A:=E7.reg,B:=E7.reg,C:=0,Imm:=wrap i32 (iand u32 (wrap u32 (wrap i64 x1.1)) 65535)}) λ(x8:Int×Bool)=>.cn E13 (.nx ((True/\rZ/\True/\True/\True/\rE ((wrap i64 (v0.1+1)):Int)/\True)/\(rE (0:Int)/\rE (0:Int)/\True)/\rE x0.1/\rE x0.2.1/\rE ((v0.2++[x7.1,x8.1]):List Int)/\True) (Sum.inl (wrap i64 (v0.1+1),v0.2++[x7.1,x8.1]))))))) (.br E15 T2 (.br E12 T3 (.an (Q95 E4 (wrap i64 x1.1)) (.lv (Qmu E4 (wrap i64 x1.1)) λ(x11:Int×Bool)=>.br (!x11.2) (.lf (Sum.inr ([],{Err:=304,Line:=E4.D2}))) (.cn E8 (.nx ((True/\rZ/\True/\True/\True/\rE ((wrap i64 (v0.1+1)):Int)/\True)/\(rE (0:Int)/\rE (0:Int)/\True)/\rE x0.1/\rE x0.2.1/\rE ((v0.2++[x11.1]):List Int)/\True) (Sum.inl (wrap i64 (v0.1+1),v0.2++[x11.1])))))))))))))) (.br E10 (.cn E8 (.nx ((True/\rZ/\True/\True/\True/\rE ((wrap i64 (v0.1+1)):Int)/\True)/\(rE (0:Int)/\rE (0:Int)/\True)/\rE x0.1/\rE x0.2.1/\rE ((v0.2++[wrap u32 (aK (x0.2.1.getD v0.1.toNat (RK.dflt RK.vmfleetref1Statement)).l (dB (wrap i64 ((↑(dG (x0.2.1.getD v0.1.toNat (RK.dflt RK.vmfleetref1Statement)).l):Int)-(1:Int)))) (RK.dflt RK.vmfleetref1Arg)).num]):List Int)/\True) (Sum.inl (wrap i64 (v0.1+1),v0.2++[wrap u32 E6.num])))) (.br E9 T1 (.br E14 (.cn E5 (.lv (Q19 {Op:=24,A:=E7.reg,B:=0,C:=0,Imm:=wrap i32 (ishr u32 (wrap u32 E6.num) 16)}) λ(x12:Int×Bool)=>.cn E5 (.cn E5 (.lv (Q19 {Op:=18,A:=E7.reg,B:=E7.reg,C:=0,Imm:=wrap i32 (iand u32 (wrap u32 E6.num) 65535)}) λ(x13:Int×Bool)=>.cn E13 (.nx ((True/\rZ/\True/\True/\True/\rE ((wrap i64 (v0.1+1)):Int)/\True)/\(rE (0:Int)/\rE (0:Int)/\True)/\rE x0.1/\rE x0.2.1/\rE ((v0.2++[x12.1,x13.1]):List Int)/\True) (Sum.inl (wrap i64 (v0.1+1),v0.2++[x12.1,x13.1]))))))) (.br E15 T2 (.br E12 T3 (.an (Q95 E4 E6.num) (.lv (Qmu E4 E6.num) λ(x16:Int×Bool)=>.br (!x16.2) (.lf (Sum.inr ([],{Err:=304,Line:=E4.D2}))) (.cn E8 (.nx ((True/\rZ/\True/\True/\True/\rE ((wrap i64 (v0.1+1)):Int)/\True)/\(rE (0:Int)/\rE (0:Int)/\True)/\rE x0.1/\rE x0.2.1/\rE ((v0.2++[x16.1]):List Int)/\True) (Sum.inl (wrap i64 (v0.1+1),v0.2++[x16.1]))))))))))))) (.br E10 (.cn E8 (.nx ((True/\rZ/\True/\True/\True/\rE ((wrap i64 (v0.1+1)):Int)/\True)/\(rE (0:Int)/\rE (0:Int)/\True)/\rE x0.1/\rE x0.2.1/\rE ((v0.2++[wrap u32 0]):List Int)/\True) (Sum.inl (wrap i64 (v0.1+1),v0.2++[wrap u32 0])))) (.br E9 T1 (.br E14 (.cn E5 (.lv (Q19 {Op:=24,A:=E7.reg,B:=0,C:=0,Imm:=wrap i32 (ishr u32 (wrap u32 0) 16)}) λ(x17:Int×Bool)=>.cn E5 (.cn E5 (.lv (Q19 {Op:=18,A:=E7.reg,B:=E7.reg,C:=0,Imm:=wrap i32 (iand u32 (wrap u32 0) 65535)}) λ(x18:Int×Bool)=>.cn E13 (.nx ((True/\rZ/\True/\True/\True/\rE ((wrap i64 (v0.1+1)):Int)/\True)/\(rE (0:Int)/\rE (0:Int)/\True)/\rE x0.1/\rE x0.2.1/\rE ((v0.2++[x17.1,x18.1]):List Int)/\True) (Sum.inl (wrap i64 (v0.1+1),v0.2++[x17.1,x18.1]))))))) (.br E15 T2 (.br E12 T3 (.an (Q95 E4 0) (.lv (Qmu E4 0) λ(x21:Int×Bool)=>.br (!x21.2) (.lf (Sum.inr ([],{Err:=304,Line:=E4.D2}))) (.cn E8 (.nx ((True/\rZ/\True/\True/\True/\rE ((wrap i64 (v0.1+1)):Int)/\True)/\(rE (0:Int)/\rE (0:Int)/\True)/\rE x0.1/\rE x0.2.1/\rE ((v0.2++[x21.1]):List Int)/\True) (Sum.inl (wrap i64 (v0.1+1),v0.2++[x21.1]))))))))))))) (.lf (Sum.inr (v0.2,{Err:=0,Line:=0})))))
def Q12 src:=(Q8p src).m
abbrev Q97 src:=(Q8p src).p
def Qvw:LInv:={
 α:=(Int)×(List Int)
 F:=λst a=>([(2,(lk st 2)),(3,.ptr 0 0 0),(4,.all 1),(5,.all 2),(7,.all 3),(8,.int i64 a.1)],[⟨true,112,2,.gen [[(cT st 3 0),(cT st 3 1)]]⟩,⟨false,238,2,esOf st.rows (rN st 4)⟩,⟨false,175,6,esOf st.rows (rN st 5)⟩,⟨false,23,1,.ints u32 a.2⟩])
 a0:=λst=>((lk st 8).toInt,(Q80 st.rows (rN st 7)))
 ex0:=λst=>[]++[(rX st 3 0),(rX st 4 1),(rX st 5 2),(rX st 7 3)]}
def Qvv:LInv:={
 α:=(Int)×(List Int)
 F:=λst a=>([(2,(lk st 2)),(3,.ptr 0 0 0),(4,.all 1),(5,.all 2),(7,.all 4),(8,(lk st 8)),(9,.ptr 3 0 0),(14,.int i64 a.1)],[⟨true,112,2,.gen [[(cT st 3 0),(cT st 3 1)]]⟩,⟨false,238,2,esOf st.rows (rN st 4)⟩,⟨false,175,6,esOf st.rows (rN st 5)⟩,⟨true,175,6,.gen [[(cT st 9 0),(cT st 9 1),(cT st 9 2),(cT st 9 3),(cT st 9 4),(cT st 9 5)]]⟩,⟨false,23,1,.ints u32 a.2⟩])
 a0:=λst=>((lk st 14).toInt,(Q80 st.rows (rN st 7)))
 ex0:=λst=>[]++[(rX st 3 0),(rX st 4 1),(rX st 5 2),(rX st 9 3),(rX st 7 4)]}
def Qqx:List (Nat×LInv):=[(6,Qvw),(29,Qvv)]
def Qxe:Q09:=mT 49 [] true [.one (.str)] [] (λa r=>Q8p (argS a 0)) (λX=>.tup [.all 0,.agg (Q13.cells (X.2))]) (λX=>[⟨false,23,1,.ints .u32 (X.1)⟩])
theorem Qvh:Q04 pG Qxe:=oT (.cons Z89 (.cons Qmg (.cons Qib (.cons Zbc (.nil))))) Tryz.func49 Tryz.call49 [.row 23 1 (.ints .u32)] Qqx 3
end
noncomputable section
instance sumInhZh {α β:Type} [Inhabited β]:Inhabited (α⊕β):=⟨.inr default⟩
end
noncomputable section
def tblZe0:List UInt8:=[(105:UInt8),32,114,49,44,32,104,97,110,100,108,101,114,10,99,115,114,119,32,114,49,44,32,49,10,108,105,32,114,49,44,32,51,49,10,99,115,114,119,32,114]
def Z2f:List UInt8:=[(49:UInt8),44,32,55,10,108,105,32,114,49,44,32,52,10,99,115,114,119,32,114,49,44,32,54,10,108,105,32,114,50,44,32,53,49,50,10,108,105,32,114,51,44]
def Z29:List UInt8:=[(32:UInt8),48,10,108,105,32,114,52,44,32,56,10,109,97,112,58,32,115,104,108,105,32,114,53,44,32,114,51,44,32,56,10,111,114,105,32,114,53,44,32,114,53]
def Z4k:List UInt8:=[(44:UInt8),32,55,10,115,104,108,105,32,114,54,44,32,114,51,44,32,50,10,97,100,100,32,114,54,44,32,114,54,44,32,114,50,10,115,119,32,114,53,44,32,48,40]
def Z2q:List UInt8:=[(114:UInt8),54,41,10,97,100,100,105,32,114,51,44,32,114,51,44,32,49,10,98,108,116,32,114,51,44,32,114,52,44,32,109,97,112,10,108,105,32,114,49,44,32]
def Z30:List UInt8:=[(54:UInt8),10,111,117,116,32,114,49,44,32,55,10,108,105,32,114,49,44,32,50,10,111,117,116,32,114,49,44,32,57,10,108,105,32,114,49,44,32,49,48,48,10,111]
def Z46:List UInt8:=[(117:UInt8),116,32,114,49,44,32,51,10,108,105,32,114,49,44,32,54,52,48,10,99,115,114,119,32,114,49,44,32,50,10,108,105,32,114,49,44,32,50,49,10,99]
def Z3q:List UInt8:=[(115:UInt8),114,119,32,114,49,44,32,48,10,101,114,101,116,10,104,97,110,100,108,101,114,58,32,99,115,114,119,32,114,49,44,32,53,10,99,115,114,114,32,114,49,44]
def Z3k:List UInt8:=[(32:UInt8),51,10,115,108,116,105,32,114,49,44,32,114,49,44,32,49,54,10,98,101,113,32,114,49,44,32,114,48,44,32,105,114,113,10,99,115,114,114,32,114,49]
def Z35:List UInt8:=[(44:UInt8),32,50,10,97,100,100,105,32,114,49,44,32,114,49,44,32,52,10,99,115,114,119,32,114,49,44,32,50,10,105,110,32,114,51,44,32,50,10,111,117,116]
def Qsn:List UInt8:=[(32:UInt8),114,51,44,32,48,10,108,105,32,114,49,44,32,49,10,111,117,116,32,114,49,44,32,52,10,108,105,32,114,49,44,32,55,10,111,117,116,32,114,49,44]
def Qsj:List UInt8:=[(32:UInt8),53,10,97,110,100,105,32,114,49,44,32,114,50,44,32,49,10,97,100,100,105,32,114,49,44,32,114,49,44,32,49,10,111,117,116,32,114,49,44,32,54,10]
def Qsm:List UInt8:=[(99:UInt8),115,114,114,32,114,49,44,32,53,10,101,114,101,116,10,105,114,113,58,32,105,110,32,114,49,44,32,48,10,111,117,116,32,114,49,44,32,48,10,111,117]
def Qsh:List UInt8:=[(116:UInt8),32,114,48,44,32,54,10,111,117,116,32,114,48,44,32,57,10,108,105,32,114,49,44,32,54,10,111,117,116,32,114,49,44,32,55,10,108,105,32,114,49,44]
def Qsl:List UInt8:=[(32:UInt8),50,10,111,117,116,32,114,49,44,32,57,10,105,110,32,114,49,44,32,50,10,97,100,100,105,32,114,49,44,32,114,49,44,32,50,48,10,111,117,116,32]
def Qsp:List UInt8:=[(114:UInt8),49,44,32,51,10,105,110,32,114,49,44,32,49,48,10,111,117,116,32,114,49,44,32,49,48,10,99,115,114,114,32,114,49,44,32,53,10,101,114,101,116,10]
def Z5r:List UInt8:=[(108:UInt8),105,32,114,49,44,32,104,97,110,100,108,101,114,10,99,115,114,119,32,114,49,44,32,49,10,108,105,32,114,49,44,32,51,49,10,99,115,114,119,32,114]
instance sumInhZe {α β:Type} [Inhabited β]:Inhabited (α⊕β):=⟨.inr default⟩
def Qja(l:List Q2q)(z:(Int)):Prop:=1<=z/\(z<=l.length\/z=1)
def Qbo(l:List Q2q)(z:(Int)):Nat:=(l.length-z).toNat
def Qd(l:List Q2q):Tree Bool:=
.lp inferInstance (Qbo l 1+1) ((nR RK.apiEntry 4 l/\rE (1:Int)/\True)/\True) 1 λ(v0:Int)=>.br (decide (v0<(l.length:Int))) (let E4:=bT 4 4&&bJ 0 4&&decide (0<=v0/\v0<(l.length:Int));.cn E4 (let E2:=bT 4 4&&bJ 0 4&&decide (0<=wrap i64 (v0-1)/\wrap i64 (v0-1)<(l.length:Int));.cn E2 (let E3:=l.getD (dB (wrap i64 (v0-1))) (RK.dflt RK.apiEntry);let E5:=l.getD v0.toNat (RK.dflt RK.apiEntry);.br (decide (E5.At<E3.At)) (.lf (Sum.inr false)) (.cn E4 (.cn E2 (let T1:Tree ((Int)⊕(Bool)):=.nx ((nR RK.apiEntry 4 l/\rE ((wrap i64 (v0+1)):Int)/\True)/\True) (Sum.inl (wrap i64 (v0+1)));.br (E5.At==E3.At) (.cn E2 (.br (E3.Event.C1==1) (.lf (Sum.inr false)) T1)) T1)))))) (.lf (Sum.inr true))
def Qty l:=(Qd l).m
def Q7e(l:List Q2q):Prop:=
l.length<=1000000000000
theorem Qw(l:List Q2q)(hw:Q7e l):(Qd l).p:=by
 simp only[Q7e]at hw
 unfold Tree.p Qd
 repeat'(first|refine w_lp (inv:=Qja l) (μ:=Qbo l) ?_ (Nat.lt_succ_self _) (λ_ _=>?_)|exact trivial|refine w_br (λ_=>?_) (λ_=>?_)|refine w_cn ?_ ?_|refine w_an ?_ ?_|refine w_lv (λ_ _=>?_)|refine w_nx ?_|refine w_lf ?_|refine And.intro ?_ ?_)
 all_goals((try simp only[Qja,Qbo]at*);exact fin0)
def Qzq:LInv:={
 α:=(Int)
 F:=λst a=>([(0,(lk st 0)),(3,.int i64 a)],[])
 a0:=λst=>(lk st 3).toInt
 ex0:=λst=>[]++[]}
def Qt5:List (Nat×LInv):=[(2,Qzq)]
def Z0i:Q09:=mkP 102 [] true [.one (.recs .apiEntry)] [] (λa r=>Q7e (argR .apiEntry a 0)) (λa r=>Qty (argR .apiEntry a 0)) (λX=>.bool X) (λX=>[])
theorem Qy0:Q04 pG Z0i:=Q0i drawn Q0h (.nil) Tryz.func102 Tryz.call102 (λa r=>Qd (argR .apiEntry a 0)) [] Qt5 3 (hp:=λa r h=>Qw (argR .apiEntry a 0) h)
def Qeg(m:Q00)(script:List Q2q)(until0:Int)(z:Q00×(List Q0d)):Nat:=(until0-z.1.A4).toNat
def Qe7(m:Q00)(script:List Q2q)(until0:Int)(v0:Q00×List Q0d)(z:Unit):Nat:=0
def Q84(m:Q00)(script:List Q2q)(until0:Int):Tree (Q00×(List Q0d)×Int×Int):=
.lv (Qb9 m) λ(x0:Bool)=>let E2:=({B2:={X:={a0:=0,a1:=0,a2:=0,a3:=0,a4:=0,a5:=0,a6:=0,a7:=0,a8:=0,a9:=0,a10:=0,a11:=0,a12:=0,a13:=0,a14:=0,a15:=0},Pc:=0,B3:={a0:=0,a1:=0,a2:=0,a3:=0,a4:=0,a5:=0,a6:=0,a7:=0}},Mem:=[],A2:={C9:=[]},A9:={D4:=false,C6:=0,D3:=false},B1:={Blocks:=0,B8:=0,Frame:=0,B7:=0,D5:=0,B4:=0,B0:=0,C0:=[]},C3:={Frame:=0,D8:=0,C2:=false,B6:=0,B5:=false,E0:=0},A0:={C5:=0,B9:=0},A4:=0,A3:=false,A6:=false}:Q00);let T1:Tree ((Q00×(List Q0d)×Int×Int)):=.lf (E2,[],0,1300);.br (!x0) T1 (.br (decide (until0<m.A4)) T1 (.br (decide (wrap u64 (until0-m.A4)>4000)) T1 (.an (Q7e []) (.lv (Qty []) λ(x1:Bool)=>.br (!x1) (.lf (E2,[],0,1301)) (.an (Qhi m) (.lv (Qnj m) λ(x2:Q00)=>.lp inferInstance (Qeg m script until0 (x2,[])+1) ((((Els.Nil (Els.gen [])\/rE (0:Nat))/\rE ([]:List (List D)))/\rE (until0:Int)/\rZ/\rZ/\True/\rE (0:Int)/\True)/\(mE x2 True True)/\rE x2.Mem/\(mE zM True True)/\rE ([]:List (RK.T RK.apiOutput))/\True) (x2,[]) λ(v0:Q00×List Q0d)=>.br (decide (v0.1.A4<until0)) (.br (decide (v0.1.A4<1152921504606846976)) (.lp inferInstance (Qe7 m script until0 v0 ()+1) ((((Els.Nil (Els.gen [])\/rE (0:Nat))/\rE ([]:List (List D)))/\rE (until0:Int)/\rZ/\rZ/\True/\rE (0:Int)/\(rE (0:Nat)/\rE (46:Nat))/\rE v0.1.A4/\rE ((decide (v0.1.A4<1152921504606846976)):Bool)/\True)/\(mE v0.1 True True)/\rE v0.1.Mem/\(mE zM True True)/\rE v0.2/\True) () λ(v1:PUnit)=>.br v0.1.A6 (.lf (Sum.inr (Sum.inr (v0.1,v0.2,0,0)))) (.an (Qjj v0.1) (.lv (Qdz v0.1) λ(x3:Bool)=>.br x3 (.lf (Sum.inr (Sum.inr (v0.1,v0.2,0,0)))) (.an (Qoj v0.1) (.lv (Z2o v0.1) λ(x4:Bool)=>.br (!false==x4) (.lf (Sum.inr (Sum.inr (E2,[],0,1302)))) (.an (Qe8 v0.1 0) (.lv (Q1q v0.1 0) λ(x5:List Q0d×Q00)=>.cn (decide (40*(v0.2.length+x5.1.length)<=140737488355328)) (.nx ((((Els.Nil (Els.gen [])\/rE (0:Nat))/\rE ([]:List (List D)))/\rE (until0:Int)/\rZ/\rZ/\True/\rE (0:Int)/\True)/\(mE x5.2 True True)/\rE x5.2.Mem/\(mE zM True True)/\rE ((v0.2++x5.1):List (RK.T RK.apiOutput))/\True) (Sum.inr (Sum.inl (x5.2,v0.2++x5.1))))))))))) (.lf (Sum.inr (v0.1,v0.2,0,0)))) (.lf (Sum.inr (v0.1,v0.2,0,0)))))))))
def Qcl m script until0:=(Q84 m script until0).m
abbrev Qa5 m script until0:=(Q84 m script until0).p
def Z5m:LInv:={
 α:=Q00×(List Q0d)
 F:=λst a=>([(1,(lk st 1)),(2,(lk st 2)),(3,.ptr 0 0 0),(6,.ptr 2 0 0),(10,.all 3),(11,(lk st 11))],[⟨true,42,49,.gen [mD a.1 (.all 1)]⟩,⟨false,23,1,.ints u32 a.1.Mem⟩,⟨true,42,49,.gen [mB (cT st 6)]⟩,⟨false,137,4,.recs RK.apiOutput a.2⟩])
 a0:=λst=>((mR (cT st 3) (Q80 st.rows (Q1 (cT st 3 25) 1000000))),(Qkt RK.apiOutput st.rows (rN st 10)))
 ex0:=λst=>[]++[(rX st 3 0),(Q1 (cT st 3 25) (st.rows.length+1)),(rX st 6 2),(rX st 10 3)]}
def Z6i:LInv:={
 α:=Unit
 F:=λst a=>([(1,(lk st 1)),(2,(lk st 2)),(3,.ptr 0 0 0),(6,.ptr 2 0 0),(10,.all 3),(11,(lk st 11)),(61,.ptr 0 0 46),(62,(lk st 62)),(63,(lk st 63))],[⟨true,42,49,.gen [[(cT st 3 0),(cT st 3 1),(cT st 3 2),(cT st 3 3),(cT st 3 4),(cT st 3 5),(cT st 3 6),(cT st 3 7),(cT st 3 8),(cT st 3 9),(cT st 3 10),(cT st 3 11),(cT st 3 12),(cT st 3 13),(cT st 3 14),(cT st 3 15),(cT st 3 16),(cT st 3 17),(cT st 3 18),(cT st 3 19),(cT st 3 20),(cT st 3 21),(cT st 3 22),(cT st 3 23),(cT st 3 24),.all 1,(cT st 3 26),(cT st 3 27),(cT st 3 28),(cT st 3 29),(cT st 3 30),(cT st 3 31),(cT st 3 32),(cT st 3 33),(cT st 3 34),(cT st 3 35),(cT st 3 36),(cT st 3 37),(cT st 3 38),(cT st 3 39),(cT st 3 40),(cT st 3 41),(cT st 3 42),(cT st 3 43),(cT st 3 44),(cT st 3 45),(cT st 3 46),(cT st 3 47),(cT st 3 48)]]⟩,⟨false,23,1,esOf st.rows (Q1 (cT st 3 25) 1000000)⟩,⟨true,42,49,.gen [mB (cT st 6)]⟩,⟨false,137,4,esOf st.rows (rN st 10)⟩])
 a0:=λst=>()
 ex0:=λst=>[]++[(rX st 3 0),(Q1 (cT st 3 25) (st.rows.length+1)),(rX st 6 2),(rX st 10 3)]}
def Qyu:List (Nat×LInv):=[(8,Z5m),(9,Z6i)]
def Zal:Q09:=mT 52 [] true [.agg Q00.sig,.one .nil,.one (.int .u64)] [] (λa r=>Q84 (Q00.of (aC a 0)) (argR .apiEntry a 1) (argI a 2)) (λX=>.tup [.agg (Q00.cellsW (X.1) (.all 0)),.all 1,.int .i64 (X.2.2.1),.int .i64 (X.2.2.2)]) (λX=>[⟨false,23,1,.ints .u32 (X.1).Mem⟩,⟨false,137,4,.recs .apiOutput (X.2.1)⟩])
theorem Z73:Q04 pG Zal:=oT (.cons Zc3 (.cons Qy0 (.cons Zdv (.cons Z7e (.cons Z8j (.cons Z6o (.cons Z05 (.nil)))))))) Tryz.func52 Tryz.call52 [.row 23 1 (.ints .u32),.row 137 4 (.recs .apiOutput)] Qyu 3
def Qb6(kind:Int)(l z:List Int):Nat:=160-z.length
def Q62(kind:Int)(l:List Int):Tree Q00:=
.an (Q2o kind 3) (.lv (Q38 kind 3) λ(x0:Int)=>.br (decide (x0<2)) (.an (Q97 ((108:UInt8)::(tblZe0++Z2f++(Z29++Z4k)++(Z2q++Z30++(Z46++Z3q))++(Z3k++Z35++(Qsn++Qsj)++(Qsm++Qsh++(Qsl++Qsp)))))) (.lv (Q12 (cN (cN (cN (cN Z5r Z2f) (cN Z29 Z4k)) (cN (cN Z2q Z30) (cN Z46 Z3q))) (cN (cN (cN Z3k Z35) (cN Qsn Qsj)) (cN (cN Qsm Qsh) (cN Qsl Qsp))))) λ(x1:List Int×Q13)=>.lp inferInstance (Qb6 kind l x1.1+1) ((rE (x0:Int)/\((Els.Nil (Els.ints i64 l)\/rE (1:Nat))/\rE (l:List Int))/\rZ/\True/\True)/\(mE zM True True)/\rE x1.1/\True) x1.1 λ(v0:List Int)=>.br (decide ((v0.length:Int)<(160:Int))) (.cn (decide (4*(v0.length+1)<=140737488355328)) (.nx ((rE (x0:Int)/\((Els.Nil (Els.ints i64 l)\/rE (1:Nat))/\rE (l:List Int))/\rZ/\True/\True)/\(mE zM True True)/\rE ((v0++[0]):List Int)/\True) (Sum.inl (v0++[0])))) (.an (Qjp l) (.lv (Qld l) λ(x2:List Int)=>.cn (decide (4*(v0.length+x2.length)<=140737488355328)) (.br (decide ((↑(dG (v0++x2)):Int)>(256:Int))) (.cn (bT 1 1&&bJ 0 1&&decide ((0:Int)<=(0:Int)/\(0:Int)<=(256:Int)/\256<=(↑(dG (v0++x2)):Int))) (let E1:=cW (dB 256-dB 0) (cX (dB 0) (v0++x2));.an (Qde 8 4 E1) (.lv (Q1l 8 4 E1) λ(x3:Q00×Bool)=>.br (x0==1) (.an (Qa5 x3.1 [] 87) (.lv (Qcl x3.1 [] 87) λ(x4:Q00×List Q0d×Int×Int)=>.lf (Sum.inr x4.1))) (.lf (Sum.inr x3.1))))) (.an (Qde 8 4 (v0++x2)) (.lv (Q1l 8 4 (v0++x2)) λ(x5:Q00×Bool)=>.br (x0==1) (.an (Qa5 x5.1 [] 87) (.lv (Qcl x5.1 [] 87) λ(x6:Q00×List Q0d×Int×Int)=>.lf (Sum.inr x6.1))) (.lf (Sum.inr x5.1))))))))) (.an (Qjp l) (.lv (Qld l) λ(x7:List Int)=>.cn (decide (4*(0+x7.length)<=140737488355328)) (.br (decide ((x7.length:Int)>(256:Int))) (.cn (bT 1 1&&bJ 0 1&&decide ((0:Int)<=(0:Int)/\(0:Int)<=(256:Int)/\256<=(x7.length:Int))) (let E2:=cW (dB 256-dB 0) (cX (dB 0) x7);.an (Qde 8 4 E2) (.lv (Q1l 8 4 E2) λ(x8:Q00×Bool)=>.br (x0==1) (.an (Qa5 x8.1 [] 87) (.lv (Qcl x8.1 [] 87) λ(x9:Q00×List Q0d×Int×Int)=>.lf x9.1)) (.lf x8.1)))) (.an (Qde 8 4 x7) (.lv (Q1l 8 4 x7) λ(x10:Q00×Bool)=>.br (x0==1) (.an (Qa5 x10.1 [] 87) (.lv (Qcl x10.1 [] 87) λ(x11:Q00×List Q0d×Int×Int)=>.lf x11.1)) (.lf x10.1)))))))
def Qdx kind l:=(Q62 kind l).m
abbrev Qef kind l:=(Q62 kind l).p
def Qzo:LInv:={
 α:=(List Int)
 F:=λst a=>([(0,(lk st 0)),(1,(lk st 1)),(4,.ptr 0 0 0),(5,.all 1)],[⟨true,42,49,.gen [mB (cT st 4)]⟩,⟨false,23,1,.ints u32 a⟩])
 a0:=λst=>(Q80 st.rows (rN st 5))
 ex0:=λst=>[]++[(rX st 4 0),(rX st 5 1)]}
def Qsa:List (Nat×LInv):=[(5,Qzo)]
def Z1q:Q09:=mT 13 [] true [.one (.int .i64),.one (.ints .i64)] [] (λa r=>Q62 (argI a 0) (argL .i64 a 1)) (λX=>.agg (Q00.cellsW X (.all 0))) (λX=>[⟨false,23,1,.ints .u32 X.Mem⟩])
theorem Qms:Q04 pG Z1q:=oT (.cons Qjl (.cons Qvh (.cons Zbj (.cons Zdh (.cons Z73 (.nil)))))) Tryz.func13 Tryz.call13 [.row 23 1 (.ints .u32)] Qsa 3
end
noncomputable section
def Qx1(m:Q00)(clock:Int):Tree (Q00×(List Q0d)):=
.an (Qhi m) (.lv (Qnj m) λ(x0:Q00)=>.an (Z1 x0) (.lv (Q7q x0) λ(x1:Bool)=>.br x1 (.lf (x0,[])) (.an (Qe8 x0 clock) (.lv (Q1q x0 clock) λ(x2:List Q0d×Q00)=>.lf (x2.2,x2.1)))))
def Qxo m clock:=(Qx1 m clock).m
def Qhu(m:Q00)(e:Q0s):Tree (Q00×Bool):=
.an (Qhi m) (.lv (Qnj m) λ(x0:Q00)=>.lv (Qb9 x0) λ(x1:Bool)=>.br (!x1) (.lf (x0,false)) (.an (Qo7 x0 e) (.lv (Q7y x0 e) λ(x2:Bool×Q00)=>.lf (x2.2,x2.1))))
def Qin m e:=(Qhu m e).m
def Qu(t:Q0j):Tree (Q0j×Bool):=
.br (!t.D4) (.lf (t,false)) (.lf ({D4:=false,C6:=t.C6,D3:=true},true))
def Qn0 t:=(Qu t).m
def Qd4(c:Q0c)(b:Int):Tree (Q0c×Bool):=
.br (decide ((c.C9.length:Int)>=(16:Int))) (.lf (c,false)) (.cn (decide (c.C9.length+1<=maxLen)) (.lf ({C9:=c.C9++[(λ(n:Int)=>UInt8.ofNat n.toNat) b]},true)))
def Qv7 c b:=(Qd4 c b).m
abbrev Qvz c b:=(Qd4 c b).p
def Q91(d0:Q0a)(m:List Int)(e:Q0s):Tree (Q0a×(List Int)×Bool):=
let T2:Tree ((Q0a×(List Int)×Bool)):=.an (Q07 m) (.lv (Q02 m) λ(x0:List Int)=>.lf (d0,x0,false));.br (d0.B7 !=1) T2 (.br (e.C1 !=4) T2 (.br (decide (e.N>1)) T2 (.an (Q07 m) (.lv (Q02 m) λ(x3:List Int)=>let E3:=({Blocks:=d0.Blocks,B8:=d0.B8,Frame:=d0.Frame,B7:=2,D5:=0,B4:=0,B0:=0,C0:=[]}:Q0a);let E4:=({Blocks:=d0.Blocks,B8:=d0.B8,Frame:=d0.Frame,B7:=3,D5:=0,B4:=0,B0:=0,C0:=[]}:Q0a);let T1:Tree ((Q0a×(List Int)×Bool)):=.br (!decide (e.C8=[])) (.lf (d0,x3,false)) (.br (e.N==1) (.lf (E3,x3,true)) (.lf (E4,x3,true)));.br (e.N==1) (.br (d0.D5==1) (.lv (Q8a m d0.B0) λ(x4:Bool)=>.br (!x4) (.lf (d0,x3,false)) (.an (Q5s m (wrap i64 d0.B0) e.C8) (.lv (Q0y m (wrap i64 d0.B0) e.C8) λ(x5:List Int×Bool)=>.br (!x5.2) (.lf (d0,x5.1,false)) (.br (e.N==1) (.lf (E3,x5.1,true)) (.lf (E4,x5.1,true)))))) T1) T1))))
def Qjs d0 m e:=(Q91 d0 m e).m
abbrev Qtu d0 m e:=(Q91 d0 m e).p
def Qbe(n:Q0o)(m:List Int)(frame:List UInt8):Tree (Q0o×(List Int)×Bool):=
let T1:Tree ((Q0o×(List Int)×Bool)):=.an (Q07 m) (.lv (Q02 m) λ(x0:List Int)=>.lf (n,x0,false));.br (!n.C2) T1 (.br (decide ((frame.length:Int)<(1:Int))) T1 (.br (decide ((frame.length:Int)>(128:Int))) T1 (.lv (Q9j m n.B6) λ(x3:Bool)=>.br (!x3) T1 (.an (Q8z m (wrap i64 n.B6)) (.lv (Q33 m (wrap i64 n.B6)) λ(x5:List UInt8×Bool)=>.cn (decide (0<=(frame.length:Int)/\(frame.length:Int)<=(x5.1.length:Int)/\(x5.1.length:Int)<=(x5.1.length:Int))) (let E2:=dB (x5.1.length:Int)-dB (frame.length:Int);let E3:=cX (dB (frame.length:Int)) x5.1;.cn (decide (frame.length+dG (cW E2 E3)<=maxLen)) (.an (Q5s m (wrap i64 n.B6) (frame++cW E2 E3)) (.lv (Q0y m (wrap i64 n.B6) (frame++cW E2 E3)) λ(x6:List Int×Bool)=>.lf ({Frame:=n.Frame,D8:=n.D8,C2:=false,B6:=0,B5:=true,E0:=wrap u32 (frame.length:Int)},x6.1,true)))))))))
def Qp1 n m frame:=(Qbe n m frame).m
abbrev Qz7 n m frame:=(Qbe n m frame).p
def Q8q(m:Q00)(e:Q0s):Tree (Q00×Bool):=
.an (Q07 m.Mem) (.lv (Q02 m.Mem) λ(x0:List Int)=>let E2:=({B2:=m.B2,Mem:=x0,A2:=m.A2,A9:=m.A9,B1:=m.B1,C3:=m.C3,A0:=m.A0,A4:=m.A4,A3:=m.A3,A6:=m.A6}:Q00);.an (Q44 E2) (.lv (Q0t E2) λ(x1:Bool)=>let T1:Tree ((Q00×Bool)):=.lf (E2,false);.br (!x1) T1 (.br m.A6 T1 (.br (e.C1==2) (.br (e.N==0) (.br (decide (e.C8=[])) (.lv (Qn0 m.A9) λ(x2:Q0j×Bool)=>.lf ({B2:=m.B2,Mem:=x0,A2:=m.A2,A9:=x2.1,B1:=m.B1,C3:=m.C3,A0:=m.A0,A4:=m.A4,A3:=m.A3,A6:=m.A6},x2.2)) T1) T1) (.br (e.C1==3) (.br (decide (e.N<=255)) (.br (decide (e.C8=[])) (.an (Qvz m.A2 (wrap u8 e.N)) (.lv (Qv7 m.A2 (wrap u8 e.N)) λ(x3:Q0c×Bool)=>.lf ({B2:=m.B2,Mem:=x0,A2:=x3.1,A9:=m.A9,B1:=m.B1,C3:=m.C3,A0:=m.A0,A4:=m.A4,A3:=m.A3,A6:=m.A6},x3.2))) T1) T1) (.br (e.C1==4) (.an (Qtu m.B1 x0 e) (.lv (Qjs m.B1 x0 e) λ(x4:Q0a×List Int×Bool)=>.lf ({B2:=m.B2,Mem:=x4.2.1,A2:=m.A2,A9:=m.A9,B1:=x4.1,C3:=m.C3,A0:=m.A0,A4:=m.A4,A3:=m.A3,A6:=m.A6},x4.2.2))) (.br (e.C1==5) (.br (e.N==0) (.an (Qz7 m.C3 x0 e.C8) (.lv (Qp1 m.C3 x0 e.C8) λ(x5:Q0o×List Int×Bool)=>.lf ({B2:=m.B2,Mem:=x5.2.1,A2:=m.A2,A9:=m.A9,B1:=m.B1,C3:=x5.1,A0:=m.A0,A4:=m.A4,A3:=m.A3,A6:=m.A6},x5.2.2))) T1) (.br (e.C1==6) (.br (decide (e.C8=[])) (.lf ({B2:=m.B2,Mem:=x0,A2:=m.A2,A9:=m.A9,B1:=m.B1,C3:=m.C3,A0:={C5:=e.N,B9:=m.A0.B9},A4:=m.A4,A3:=m.A3,A6:=m.A6},true)) T1) T1))))))))
def Q1m m e:=(Q8q m e).m
abbrev Qio m e:=(Q8q m e).p
end
noncomputable section
def Q23(s:List Bool):(List Bool):=
s
def Q3f(s:List Bool):Prop:=
s.length<=140737488355328
def Q54(s:List Bool):List D:=[.sl 1 (.bools s) false]
def Q2y(s:List Bool):List Row:=[]
def Q1r(X:List Bool):D:=.all 0
def Q1s(X:List Bool):List Row:=[⟨false,4,1,.bools X⟩]
def Qgm:List Dir:=[.row 4 1 (.bools)]
def Q9o:List PT:=[.one (.bools)]
def Q8l:List RT:=[]
def Qh7(args:List D)(rows:List Row):(List Bool):=Q23 (argM args 0)
def Qh9(args:List D)(rows:List Row):Prop:=Q3f (argM args 0)
def Qiy:Q09:=mkP 132 [] true Q9o Q8l Qh9 Qh7 Q1r Q1s
def Q6m(s:List Bool)(Leaf:(List Bool)->Prop):Prop:=
(s=[]->Leaf [])/\cand (decide ((1:Nat)*((0:Nat)+s.length)<=(140737488355328:Nat))) (Leaf s)
set_option maxRecDepth 100000 in
theorem Qia(s:List Bool)(Q:D->List Row->Prop):(fnVC tab [] (LL tab [] Tryz.f132.ntmps 0 [] 2) Tryz.f132 (Q54 s) (Q2y s) λd R=>Qcw (Q2y s).length Qgm d R Q)=Q6m s (λX=>Q (Q1r X) (Q1s X)):=by kernel_rfl
theorem Qg6(s:List Bool)(Leaf:(List Bool)->Prop)(hw:Q3f s)(h:Leaf (Q23 s)):
Q6m s Leaf:=by
 delta Q6m
 refine⟨λe=>by rw[e]at h;exact h,?_⟩
 rw[Q05]
 refine⟨dY ?_,h⟩
 have:s.length<=140737488355328:=hw
 omega
set_option maxRecDepth 100000 in
theorem Qf0(s:List Bool)(hw:Q3f s):Q3i pG 132 (Q54 s) (Q2y s) (Q1r (Q23 s)) (Q1s (Q23 s)):=
 have hG:Q7l pG []:=.nil
 FnOK.calls drawn Q0h hG Tryz.func132 (rf:=none) (λ_ _=>trivial) (LL_ok drawn Q0h hG (.inl rfl) 2 (invs:=[])) (FnOK.of (Qia s _) (Qg6 s (λX=>Q1r X=Q1r (Q23 s)/\Q1s X=Q1s (Q23 s)) hw ⟨rfl,rfl⟩))
set_option maxRecDepth 100000 in
theorem Qg3(args:List D)(rows:List Row):Qlq Q9o args 0=Q54 (argM args 0):=by kernel_rfl
set_option maxRecDepth 100000 in
theorem Qew(args:List D)(rows:List Row):Qa0 Q8l rows 0=Q2y (argM args 0):=by kernel_rfl
set_option maxRecDepth 100000 in
theorem Qi2(X:List Bool):(ffB (Q1r X)&&ffBR (Q1s X))=true:=by kernel_rfl
theorem Qic:Q04 pG Qiy:=Qy9 Tryz.call132 (λargs rows hp=>by rw[Qg3 args rows,Qew args rows];exact Qf0 (argM args 0) hp) (λ_ X=>Qi2 X)
def Q0k(x:Int):Int:=
(Lib.ctz 32 x.toNat:Int)
def Q1x(x:Int):Prop:=
0<=x/\x<4294967296
def Q6z(x:Int):List D:=[.int .u32 x]
def Q6y(x:Int):List Row:=[]
def Q4g(X:Int):D:=.int .i64 X
def Q4h(X:Int):List Row:=[]
def Q7d:List PT:=[.one (.int .u32)]
def Q6w:List RT:=[]
def Qeh(args:List D)(rows:List Row):Int:=Q0k (argI args 0)
def Qei(args:List D)(rows:List Row):Prop:=Q1x (argI args 0)
def Qfn:Q09:=mkP 78 [] true Q7d Q6w Qei Qeh Q4g Q4h
theorem Qcg(x:Int)(hw:Q1x x):Q3i pG 78 (Q6z x) (Q6y x) (Q4g (Q0k x)) (Q4h (Q0k x)):=by
 exact yT (Proofs.Any7.bits_TrailingZeros32 Tryz.lays7) vu hw.1 hw.2
set_option maxRecDepth 100000 in
theorem Qdn(args:List D)(rows:List Row):Qlq Q7d args 0=Q6z (argI args 0):=by kernel_rfl
set_option maxRecDepth 100000 in
theorem Qck(args:List D)(rows:List Row):Qa0 Q6w rows 0=Q6y (argI args 0):=by kernel_rfl
set_option maxRecDepth 100000 in
theorem Qf(X:Int):(ffB (Q4g X)&&ffBR (Q4h X))=true:=by kernel_rfl
theorem Q4n:Q04 pG Qfn:=Qy9 Tryz.call78 (λargs rows hp=>by rw[Qdn args rows,Qck args rows];exact Qcg (argI args 0) hp) (λ_ X=>Qf X)
def Q4y(m:List Int)(frame:Int):Tree Int:=
.lv (Q0m m) λ(x0:Int)=>.br (decide (frame>=wrap u32 x0)) (.lf 0) (.cn (decide (0<=frame)) (.lf (ishl u32 1 frame)))
def Q0u m frame:=(Q4y m frame).m
abbrev Q1b m frame:=(Q4y m frame).p
def Qtm:Q09:=mT 133 [] true [.one (.ints .u32),.one (.int .u32)] [] (λa r=>Q4y (argL .u32 a 0) (argI a 1)) (λX=>.int .u32 X) (λX=>[])
theorem Qhj:Q04 pG Qtm:=oT (.cons Q1w (.nil)) Tryz.func133 Tryz.call133 [] [] 2
def Qm5(c:Q01):Tree Bool:=
.lf (iand u32 c.B3.a0 (1:Int)==(0:Int))
def Q30 c:=(Qm5 c).m
def Qyh:Q09:=mS 113 [] true [.agg Q01.sig] [] (λa r=>Qm5 (Q01.of (aC a 0))) (λX=>.bool X) (λX=>[])
theorem Qkl:Q04 pG Qyh:=oS (.nil) Tryz.func113 Tryz.call113 [] [] 2
def Q6e(c:Q01)(m:List Int)(va size kind:Int):Tree Int:=
.cn (decide (size≠0)) (.br (dA va size !=0) (.lf 0) (.lv (Q30 c) λ(x0:Bool)=>let T1:Tree (Int):=.an (Q1b m (wrap u32 (eN va 128))) (.lv (Q0u m (wrap u32 (eN va 128))) λ(x1:Int)=>.lf x1);.br (!x0) T1 (.br (iand u32 c.B3.a0 (4:Int)==(0:Int)) T1 (.br (decide (va>=4096)) (.lf 0) (.an (Q1b m c.B3.a6) (.lv (Q0u m c.B3.a6) λ(x3:Int)=>.an (Qbn m c.B3.a6 va kind) (.lv (Q2m m c.B3.a6 va kind) λ(x4:Q0w)=>.br (x4.D6==0) (.an (Q1b m (wrap u32 (eN x4.Addr 128))) (.lv (Q0u m (wrap u32 (eN x4.Addr 128))) λ(x5:Int)=>.lf (ior u32 x3 x5))) (.lf x3))))))))
def Q0p c m va size kind:=(Q6e c m va size kind).m
abbrev Q1v c m va size kind:=(Q6e c m va size kind).p
def Qtv:Q09:=mT 110 [] true [.agg Q01.sig,.one (.ints .u32),.one (.int .u32),.one (.int .u32),.one (.int .i64)] [] (λa r=>Q6e (Q01.of (aC a 0)) (argL .u32 a 1) (argI a 2) (argI a 3) (argI a 4)) (λX=>.int .u32 X) (λX=>[])
theorem Qhe:Q04 pG Qtv:=oT (.cons Qkl (.cons Qhj (.cons Qof (.nil)))) Tryz.func110 Tryz.call110 [] [] 2
def Q3z(m:Q00)(port v:Int):Tree Int:=
.br (port==6) (.br (v==2) (.br (m.B1.B7==0) (.br (decide (m.B1.B8<m.B1.Blocks)) (.an (Q1b m.Mem m.B1.Frame) (.lv (Q0u m.Mem m.B1.Frame) λ(x0:Int)=>.lf x0)) (.lf 0)) (.lf 0)) (.lf 0)) (.br (port==9) (.br (v==1) (.br (decide (m.C3.D8>=1)) (.br (decide (m.C3.D8<=128)) (.an (Q1b m.Mem m.C3.Frame) (.lv (Q0u m.Mem m.C3.Frame) λ(x1:Int)=>.lf x1)) (.lf 0)) (.lf 0)) (.lf 0)) (.br (port==10) (.an (Q1b m.Mem v) (.lv (Q0u m.Mem v) λ(x2:Int)=>.lf (Q7f u32 x2 m.A0.B9))) (.lf 0)))
def Qdh m port v:=(Q3z m port v).m
abbrev Qkm m port v:=(Q3z m port v).p
def Z0z:Q09:=mT 183 [] true [.agg Q00.sig,.one (.int .i64),.one (.int .u32)] [] (λa r=>Q3z (Q00.of (aC a 0)) (argI a 1) (argI a 2)) (λX=>.int .u32 X) (λX=>[])
theorem Qxx:Q04 pG Z0z:=oT (.cons Qhj (.nil)) Tryz.func183 Tryz.call183 [] [] 2
def Q4z(m:Q00)(c:Q01)(mem:List Int)(i:Q0f):Tree Int:=
.cn (bJ 0 1&&decide (0<=iand i64 i.B 15/\iand i64 i.B 15<(↑16:Int))) (let E2:=wrap u32 (aK (A16.l c.X) (dB (iand i64 i.B 15)) 0+wrap u32 i.Imm);.br (i.Op==32) (.an (Q1v c mem E2 4 2) (.lv (Q0p c mem E2 4 2) λ(x0:Int)=>.lf x0)) (let T1:Tree (Int):=.an (Q1v c mem E2 1 2) (.lv (Q0p c mem E2 1 2) λ(x1:Int)=>.lf x1);.br (i.Op==33) T1 (.br (i.Op==34) T1 (.br (i.Op==35) (.an (Q1v c mem E2 4 3) (.lv (Q0p c mem E2 4 3) λ(x3:Int)=>.lf x3)) (.br (i.Op==36) (.an (Q1v c mem E2 1 3) (.lv (Q0p c mem E2 1 3) λ(x4:Int)=>.lf x4)) (.br (i.Op==61) (.cn (bJ 0 1&&decide (0<=iand i64 i.A 15/\iand i64 i.A 15<(↑16:Int))) (let E3:=aK (A16.l c.X) (dB (iand i64 i.A 15)) 0;.an (Qkm m (wrap i64 i.Imm) E3) (.lv (Qdh m (wrap i64 i.Imm) E3) λ(x5:Int)=>.lf x5))) (.lf 0)))))))
def Q1h m c mem i:=(Q4z m c mem i).m
abbrev Q4 m c mem i:=(Q4z m c mem i).p
def Qpe:Q09:=mT 115 [] true [.agg Q00.sig,.agg Q01.sig,.one (.ints .u32),.agg Q0f.sig] [] (λa r=>Q4z (Q00.of (aC a 0)) (Q01.of (aC a 1)) (argL .u32 a 2) (Q0f.of (aC a 3))) (λX=>.int .u32 X) (λX=>[])
theorem Qnt:Q04 pG Qpe:=oT (.cons Qhe (.cons Qxx (.nil))) Tryz.func115 Tryz.call115 [] [] 2
def Q5j(m:Q00):Tree Int:=
.an (Q44 m) (.lv (Q0t m) λ(x0:Bool)=>.br (!x0) (.lf 0) (.br m.A6 (.lf 0) (.an (Qac m) (.lv (Q45 m) λ(x1:Bool)=>.br x1 (.lf 0) (.br (decide (m.A4>=1152921504606846976)) (.lf 0) (.an (Qcu m) (.lv (Q2p m) λ(x2:Int)=>let T1:Tree (Int):=.an (Q1v m.B2 m.Mem m.B2.Pc 4 1) (.lv (Q0p m.B2 m.Mem m.B2.Pc 4 1) λ(x12:Int)=>.an (Qbw m.B2 m.Mem) (.lv (Q1i m.B2 m.Mem) λ(x13:Int×List Int×Int)=>.br (x13.2.2 !=0) (.lf x12) (.an (Qa6 x13.1) (.lv (Q1j x13.1) λ(x14:Q0f×Bool)=>.br (!x14.2) (.lf x12) (.lv (Q30 m.B2) λ(x15:Bool)=>let T2:Tree (Int):=.an (Q4 m m.B2 x13.2.1 x14.1) (.lv (Q1h m m.B2 x13.2.1 x14.1) λ(x17:Int)=>.lf (ior u32 x12 x17));.br x15 (.lv (Q2e x14.1.Op) λ(x16:Bool)=>.br x16 (.lf x12) T2) T2)))));.br (iand u32 x2 m.B2.B3.a7 !=0) (.br (iand u32 m.B2.B3.a0 (2:Int) !=(0:Int)) (.an (Q1x (iand u32 x2 m.B2.B3.a7)) (.lv (Q0k (iand u32 x2 m.B2.B3.a7)) λ(x3:Int)=>.lv (Q2x m.B2 (wrap i64 (16+x3)) 0) λ(x4:Q01)=>.an (Q1v x4 m.Mem x4.Pc 4 1) (.lv (Q0p x4 m.Mem x4.Pc 4 1) λ(x5:Int)=>.an (Qbw x4 m.Mem) (.lv (Q1i x4 m.Mem) λ(x6:Int×List Int×Int)=>.br (x6.2.2 !=0) (.lf x5) (.an (Qa6 x6.1) (.lv (Q1j x6.1) λ(x7:Q0f×Bool)=>.br (!x7.2) (.lf x5) (.lv (Q30 x4) λ(x8:Bool)=>let T3:Tree (Int):=.an (Q4 m x4 x6.2.1 x7.1) (.lv (Q1h m x4 x6.2.1 x7.1) λ(x10:Int)=>.lf (ior u32 x5 x10));.br x8 (.lv (Q2e x7.1.Op) λ(x9:Bool)=>.br x9 (.lf x5) T3) T3))))))) T1) T1)))))))
def Q20 m:=(Q5j m).m
abbrev Q8 m:=(Q5j m).p
def Qvr:Q09:=mT 56 [] true [.agg Q00.sig] [] (λa r=>Q5j (Q00.of (aC a 0))) (λX=>.int .u32 X) (λX=>[])
theorem Qit:Q04 pG Qvr:=oT (.cons Qd5 (.cons Qm0 (.cons Ql (.cons Qc2 (.cons Q4n (.cons Qhe (.cons Qul (.cons Qpu (.cons Qkl (.cons Qjb (.cons Qnt (.nil)))))))))))) Tryz.func56 Tryz.call56 [] [] 2
def Qon(m:Q00)(e:Q0s):Tree Int:=
.br (e.C1==4) (.an (Qio m e) (.lv (Q1m m e) λ(x0:Q00×Bool)=>.br x0.2 (.br (e.N==1) (.br (m.B1.D5==1) (.an (Q1b m.Mem m.B1.B0) (.lv (Q0u m.Mem m.B1.B0) λ(x1:Int)=>.lf x1)) (.lf 0)) (.lf 0)) (.lf 0))) (.br (e.C1==5) (.an (Qio m e) (.lv (Q1m m e) λ(x2:Q00×Bool)=>.br x2.2 (.an (Q1b m.Mem m.C3.B6) (.lv (Q0u m.Mem m.C3.B6) λ(x3:Int)=>.lf x3)) (.lf 0))) (.lf 0))
def Q6l m e:=(Qon m e).m
def Q7g(p:Q03):Tree Q03:=
.an (Q07 p.A1.Mem) (.lv (Q02 p.A1.Mem) λ(x0:List Int)=>.an (Q3f p.A7) (.lv (Q23 p.A7) λ(x1:List Bool)=>.lf ({A1:={B2:=p.A1.B2,Mem:=x0,A2:=p.A1.A2,A9:=p.A1.A9,B1:=p.A1.B1,C3:=p.A1.C3,A0:=p.A1.A0,A4:=p.A1.A4,A3:=p.A1.A3,A6:=p.A1.A6},A7:=x1,D0:=p.D0,C4:=p.C4})))
def Q7o p:=(Q7g p).m
abbrev Q4b p:=(Q7g p).p
def Qva:Q09:=mT 70 [] true [.agg Q03.sig] [] (λa r=>Q7g (Q03.of (aC a 0))) (λX=>.agg (Q03.cellsW X (.all 0) (.all 1))) (λX=>[⟨false,23,1,.ints .u32 X.A1.Mem⟩,⟨false,4,1,.bools X.A7⟩])
theorem Qc9:Q04 pG Qva:=oT (.cons Q14 (.cons Qic (.nil))) Tryz.func70 Tryz.call70 [.row 23 1 (.ints .u32),.row 4 1 (.bools)] [] 2
end
noncomputable section
def Qdt(pages:Int):Tree (List Int):=
.br (decide (pages<1)) (.lf ([])) (.br (decide (pages>32)) (.lf ([])) (.cn (bJ 0 1&&bT 1 1&&List.all [D.int u32 0] D.plain&&decide (0<=wrap i64 (pages*32)/\wrap i64 (pages*32)<=wrap i64 (pages*32)/\wrap i64 (pages*32)<=9223372036854775807/\(↑4:Int)*wrap i64 (pages*32)<=140737488355328)) (.lf (cM (dB (wrap i64 (pages*32))) 0))))
def Z38 pages:=(Qdt pages).m
abbrev Qog pages:=(Qdt pages).p
def Zbh:Q09:=mT 69 [] true [.one (.int .i64)] [] (λa r=>Qdt (argI a 0)) (λX=>.all 0) (λX=>[⟨false,23,1,.ints .u32 X⟩])
theorem Z63:Q04 pG Zbh:=oT (.nil) Tryz.func69 Tryz.call69 [.row 23 1 (.ints .u32)] [] 2
def Q3j(p:Q03)(z:(Int)×(Int)):Nat:=(p.A7.length-z.2).toNat
def Q5q(p:Q03):Tree Int:=
.lp inferInstance (Q3j p (0,0)+1) ((rE (0:Int)/\((Els.Nil (Els.bools p.A7)\/rE (1:Nat))/\rE p.A7)/\rE ((p.A7.length:Int):Int)/\rE (0:Int)/\True)/\True) (0,0) λ(v0:Int×Int)=>.br (decide (v0.2<(p.A7.length:Int))) (.cn (bT 1 1&&bJ 0 1&&decide (0<=v0.2/\v0.2<(p.A7.length:Int))) (.br (p.A7.getD v0.2.toNat false) (.cn (decide (0<=v0.2)) (.nx ((rE ((ior u32 v0.1 (ishl u32 1 v0.2)):Int)/\((Els.Nil (Els.bools p.A7)\/rE (1:Nat))/\rE p.A7)/\rE ((p.A7.length:Int):Int)/\rE ((wrap i64 (v0.2+1)):Int)/\True)/\True) (Sum.inl (ior u32 v0.1 (ishl u32 1 v0.2),wrap i64 (v0.2+1))))) (.nx ((rE v0.1/\((Els.Nil (Els.bools p.A7)\/rE (1:Nat))/\rE p.A7)/\rE ((p.A7.length:Int):Int)/\rE ((wrap i64 (v0.2+1)):Int)/\True)/\True) (Sum.inl (v0.1,wrap i64 (v0.2+1)))))) (.lf (Sum.inr v0.1))
def Q4i p:=(Q5q p).m
abbrev Q6c p:=(Q5q p).p
def Qoo:LInv:={
 α:=(Int)×(Int)
 F:=λst a=>([(3,.int u32 a.1),(7,(lk st 7)),(8,(lk st 8)),(9,.int i64 a.2)],[])
 a0:=λst=>((lk st 3).toInt,(lk st 9).toInt)
 ex0:=λst=>[]++[]}
def Qm9:List (Nat×LInv):=[(3,Qoo)]
def Qql:Q09:=mT 72 [] true [.agg Q03.sig] [] (λa r=>Q5q (Q03.of (aC a 0))) (λX=>.int .u32 X) (λX=>[])
theorem Qgi:Q04 pG Qql:=oT (.nil) Tryz.func72 Tryz.call72 [] Qm9 3
def Q79(p:Q03)(missing:Int):Tree Q03:=
.an (Q4b p) (.lv (Q7o p) λ(x0:Q03)=>.an (Q1x missing) (.lv (Q0k missing) λ(x1:Int)=>.lf ({A1:=x0.A1,A7:=x0.A7,D0:=x1,C4:=wrap i64 (x0.C4+1)})))
def Qo1 p missing:=(Q79 p missing).m
abbrev Qhp p missing:=(Q79 p missing).p
def Qw6:Q09:=mT 73 [] true [.agg Q03.sig,.one (.int .u32)] [] (λa r=>Q79 (Q03.of (aC a 0)) (argI a 1)) (λX=>.agg (Q03.cellsW X (.all 0) (.all 1))) (λX=>[⟨false,23,1,.ints .u32 X.A1.Mem⟩,⟨false,4,1,.bools X.A7⟩])
theorem Qt9:Q04 pG Qw6:=oT (.cons Qc9 (.cons Q4n (.nil))) Tryz.func73 Tryz.call73 [.row 23 1 (.ints .u32),.row 4 1 (.bools)] [] 2
def Q5i(p:Q03):Tree Bool:=
.lv (Q0m p.A1.Mem) λ(x0:Int)=>.an (Q44 p.A1) (.lv (Q0t p.A1) λ(x1:Bool)=>.br x1 (.br ((p.A7.length:Int)==x0) (.br (decide (p.D0>=0)) (.br (decide (p.D0<x0)) (.lf (decide (p.C4>=0))) (.lf false)) (.lf false)) (.lf false)) (.lf false))
def Q4s p:=(Q5i p).m
abbrev Q35 p:=(Q5i p).p
def Qvy:Q09:=mT 53 [] true [.agg Q03.sig] [] (λa r=>Q5i (Q03.of (aC a 0))) (λX=>.bool X) (λX=>[])
theorem Q6o:Q04 pG Qvy:=oT (.cons Q1w (.cons Qd5 (.nil))) Tryz.func53 Tryz.call53 [] [] 2
def Q7i(m:Q00):Tree (Q03×Bool):=
.an (Q44 m) (.lv (Q0t m) λ(x0:Bool)=>.br (!x0) (.lf ({A1:={B2:={X:={a0:=0,a1:=0,a2:=0,a3:=0,a4:=0,a5:=0,a6:=0,a7:=0,a8:=0,a9:=0,a10:=0,a11:=0,a12:=0,a13:=0,a14:=0,a15:=0},Pc:=0,B3:={a0:=0,a1:=0,a2:=0,a3:=0,a4:=0,a5:=0,a6:=0,a7:=0}},Mem:=[],A2:={C9:=[]},A9:={D4:=false,C6:=0,D3:=false},B1:={Blocks:=0,B8:=0,Frame:=0,B7:=0,D5:=0,B4:=0,B0:=0,C0:=[]},C3:={Frame:=0,D8:=0,C2:=false,B6:=0,B5:=false,E0:=0},A0:={C5:=0,B9:=0},A4:=0,A3:=false,A6:=false},A7:=[],D0:=0,C4:=0},false)) (.lv (Q0m m.Mem) λ(x1:Int)=>.an (Qog x1) (.lv (Z38 x1) λ(x2:List Int)=>.cn (bJ 0 1&&bT 1 1&&List.all [D.bool false] D.plain&&decide (0<=x1/\x1<=x1/\x1<=9223372036854775807/\(↑1:Int)*x1<=140737488355328)) (.lf ({A1:={B2:=m.B2,Mem:=x2,A2:=m.A2,A9:=m.A9,B1:=m.B1,C3:=m.C3,A0:=m.A0,A4:=m.A4,A3:=m.A3,A6:=m.A6},A7:=cM x1.toNat false,D0:=0,C4:=0},true)))))
def Qo5 m:=(Q7i m).m
abbrev Qi m:=(Q7i m).p
def Qvn:Q09:=mT 26 [] true [.agg Q00.sig] [] (λa r=>Q7i (Q00.of (aC a 0))) (λX=>.tup [.agg (Q03.cellsW (X.1) (.all 0) (.all 1)),.bool (X.2)]) (λX=>[⟨false,23,1,.ints .u32 (X.1).A1.Mem⟩,⟨false,4,1,.bools (X.1).A7⟩])
theorem Qtw:Q04 pG Qvn:=oT (.cons Qd5 (.cons Q1w (.cons Z63 (.nil)))) Tryz.func26 Tryz.call26 [.row 23 1 (.ints .u32),.row 4 1 (.bools)] [] 2
def Q5o(p:Q03):Tree (Int×Bool):=
.an (Q35 p) (.lv (Q4s p) λ(x0:Bool)=>.br (!x0) (.lf (0,false)) (.an (Q8 p.A1) (.lv (Q20 p.A1) λ(x1:Int)=>.an (Q6c p) (.lv (Q4i p) λ(x2:Int)=>.br (Q7f u32 x1 x2==0) (.lf (0,false)) (.an (Q1x (Q7f u32 x1 x2)) (.lv (Q0k (Q7f u32 x1 x2)) λ(x3:Int)=>.lf (x3,true)))))))
def Qks p:=(Q5o p).m
abbrev Qel p:=(Q5o p).p
def Qrc:Q09:=mT 33 [] true [.agg Q03.sig] [] (λa r=>Q5o (Q03.of (aC a 0))) (λX=>.tup [.int .i64 (X.1),.bool (X.2)]) (λX=>[])
theorem Qpf:Q04 pG Qrc:=oT (.cons Q6o (.cons Qit (.cons Qgi (.cons Q4n (.nil))))) Tryz.func33 Tryz.call33 [] [] 2
def Q8u(p:Q03)(clock:Int):Tree (Q03×(List Q0d)×Bool):=
.an (Q35 p) (.lv (Q4s p) λ(x0:Bool)=>.br (!x0) (.an (Q4b p) (.lv (Q7o p) λ(x1:Q03)=>.lf (x1,[],false))) (.an (Q8 p.A1) (.lv (Q20 p.A1) λ(x2:Int)=>.an (Q6c p) (.lv (Q4i p) λ(x3:Int)=>.br (Q7f u32 x2 x3 !=0) (.an (Qhp p (Q7f u32 x2 x3)) (.lv (Qo1 p (Q7f u32 x2 x3)) λ(x4:Q03)=>.lf (x4,[],false))) (.an (Q4b p) (.lv (Q7o p) λ(x5:Q03)=>.an (Qe3 p.A1 clock) (.lv (Q22 p.A1 clock) λ(x6:Q00×List Q0d)=>.lf ({A1:=x6.1,A7:=x5.A7,D0:=x5.D0,C4:=x5.C4},x6.2,true))))))))
def Qk1 p clock:=(Q8u p clock).m
abbrev Qcn p clock:=(Q8u p clock).p
def Qyp:Q09:=mT 34 [] false [.agg Q03.sig,.one (.int .u32)] [] (λa r=>Q8u (Q03.of (aC a 0)) (argI a 1)) (λX=>.tup [.agg (Q03.cellsW (X.1) (.sl 1 (.ints .u32 X.1.A1.Mem) false) (.all 0)),.sl 4 (.recs .apiOutput (X.2.1)) false,.bool (X.2.2)]) (λX=>[⟨false,4,1,.bools (X.1).A7⟩])
theorem Qw8:Q04 pG Qyp:=oT (.cons Q6o (.cons Qc9 (.cons Qit (.cons Qgi (.cons Qt9 (.cons Qzg (.nil))))))) Tryz.func34 Tryz.call34 [.sl (.ints .u32) false,.row 4 1 (.bools),.sl (.recs .apiOutput) false] [] 2 (hff:=nofun)
def Q6i(p:Q03)(c:Q36):Tree (Q03×Bool):=
.an (Q4b p) (.lv (Q7o p) λ(x0:Q03)=>.an (Q35 p) (.lv (Q4s p) λ(x1:Bool)=>.br (!x1) (.lf (x0,false)) (.br (decide (c.Frame<0)) (.lf (x0,false)) (.br (decide (c.Frame>=(p.A7.length:Int))) (.lf (x0,false)) (.cn (bT 1 1&&bJ 0 1&&decide (0<=c.Frame/\c.Frame<(p.A7.length:Int))) (.br (p.A7.getD c.Frame.toNat false) (.lf (x0,false)) (.an (Q5s p.A1.Mem c.Frame c.C8) (.lv (Q0y p.A1.Mem c.Frame c.C8) λ(x2:List Int×Bool)=>.br (!x2.2) (.lf (x0,false)) (.cn (bT 1 1&&bJ 0 1&&decide (0<=c.Frame/\c.Frame<(x0.A7.length:Int))) (.lf ({A1:={B2:=x0.A1.B2,Mem:=x2.1,A2:=x0.A1.A2,A9:=x0.A1.A9,B1:=x0.A1.B1,C3:=x0.A1.C3,A0:=x0.A1.A0,A4:=x0.A1.A4,A3:=x0.A1.A3,A6:=x0.A1.A6},A7:=List.set x0.A7 c.Frame.toNat true,D0:=x0.D0,C4:=x0.C4},true)))))))))))
def Qmf p c:=(Q6i p c).m
abbrev Qh1 p c:=(Q6i p c).p
def Qti:Q09:=mT 27 [] true [.agg Q03.sig,.agg Q36.sig] [] (λa r=>Q6i (Q03.of (aC a 0)) (Q36.of (aC a 1))) (λX=>.tup [.agg (Q03.cellsW (X.1) (.all 0) (.all 1)),.bool (X.2)]) (λX=>[⟨false,23,1,.ints .u32 (X.1).A1.Mem⟩,⟨false,4,1,.bools (X.1).A7⟩])
theorem Qrf:Q04 pG Qti:=oT (.cons Qc9 (.cons Q6o (.cons Qj6 (.nil)))) Tryz.func27 Tryz.call27 [.row 23 1 (.ints .u32),.row 4 1 (.bools)] [] 2
def Q57(p:Q03)(most:Int)(z:(Int)×(List Int)):Nat:=(p.A7.length-z.1).toNat
def Q8m(p:Q03)(most:Int):Tree (List Int):=
.an (Q35 p) (.lv (Q4s p) λ(x0:Bool)=>.br (!x0) (.lf ([])) (.lp inferInstance (Q57 p most (0,[])+1) ((rE (most:Int)/\rZ/\True/\rE ((p.A7.length:Int):Int)/\rE ((p.A7.length:Int):Int)/\rE (0:Int)/\True)/\(mE p.A1 (((Els.Nil (Els.ints u32 p.A1.Mem)\/rE (1:Nat))/\rE p.A1.Mem)) (((Els.Nil (Els.bools p.A7)\/rE (1:Nat))/\rE p.A7)/\rE p.D0/\rE p.C4/\True))/\rE ([]:List Int)/\True) (0,[]) λ(v0:Int×List Int)=>.br (decide (v0.1<(p.A7.length:Int))) (.cn (decide ((p.A7.length:Int)≠(0:Int))) (let T1:Tree ((Int×List Int)⊕((List Int))):=.nx ((rE (most:Int)/\rZ/\True/\rE ((p.A7.length:Int):Int)/\rE ((p.A7.length:Int):Int)/\rE ((wrap i64 (v0.1+1)):Int)/\True)/\(mE p.A1 (((Els.Nil (Els.ints u32 p.A1.Mem)\/rE (1:Nat))/\rE p.A1.Mem)) (((Els.Nil (Els.bools p.A7)\/rE (1:Nat))/\rE p.A7)/\rE p.D0/\rE p.C4/\True))/\rE v0.2/\True) (Sum.inl (wrap i64 (v0.1+1),v0.2));.br (decide ((v0.2.length:Int)<most)) (.cn (bT 1 1&&bJ 0 1&&decide (0<=dA (wrap i64 (p.D0+v0.1)) (p.A7.length:Int)/\dA (wrap i64 (p.D0+v0.1)) (p.A7.length:Int)<(p.A7.length:Int))) (.br (!p.A7.getD (dB (dA (wrap i64 (p.D0+v0.1)) (p.A7.length:Int))) false) (.cn (decide (8*(v0.2.length+1)<=140737488355328)) (.nx ((rE (most:Int)/\rZ/\True/\rE ((p.A7.length:Int):Int)/\rE ((p.A7.length:Int):Int)/\rE ((wrap i64 (v0.1+1)):Int)/\True)/\(mE p.A1 (((Els.Nil (Els.ints u32 p.A1.Mem)\/rE (1:Nat))/\rE p.A1.Mem)) (((Els.Nil (Els.bools p.A7)\/rE (1:Nat))/\rE p.A7)/\rE p.D0/\rE p.C4/\True))/\rE ((v0.2++[dA (wrap i64 (p.D0+v0.1)) (p.A7.length:Int)]):List Int)/\True) (Sum.inl (wrap i64 (v0.1+1),v0.2++[dA (wrap i64 (p.D0+v0.1)) (p.A7.length:Int)])))) T1)) T1)) (.lf (Sum.inr v0.2))))
def Qkd p most:=(Q8m p most).m
abbrev Qcx p most:=(Q8m p most).p
def Qw0:LInv:={
 α:=(Int)×(List Int)
 F:=λst a=>([(1,(lk st 1)),(2,.ptr 0 0 0),(5,.all 1),(6,(lk st 6)),(15,(lk st 15)),(16,.int i64 a.1)],[⟨true,48,52,.gen [[(cT st 2 0),(cT st 2 1),(cT st 2 2),(cT st 2 3),(cT st 2 4),(cT st 2 5),(cT st 2 6),(cT st 2 7),(cT st 2 8),(cT st 2 9),(cT st 2 10),(cT st 2 11),(cT st 2 12),(cT st 2 13),(cT st 2 14),(cT st 2 15),(cT st 2 16),(cT st 2 17),(cT st 2 18),(cT st 2 19),(cT st 2 20),(cT st 2 21),(cT st 2 22),(cT st 2 23),(cT st 2 24),(cT st 2 25),(cT st 2 26),(cT st 2 27),(cT st 2 28),(cT st 2 29),(cT st 2 30),(cT st 2 31),(cT st 2 32),(cT st 2 33),(cT st 2 34),(cT st 2 35),(cT st 2 36),(cT st 2 37),(cT st 2 38),(cT st 2 39),(cT st 2 40),(cT st 2 41),(cT st 2 42),(cT st 2 43),(cT st 2 44),(cT st 2 45),(cT st 2 46),(cT st 2 47),(cT st 2 48),(cT st 2 49),(cT st 2 50),(cT st 2 51)]]⟩,⟨false,3,1,.ints i64 a.2⟩])
 a0:=λst=>((lk st 16).toInt,(Q80 st.rows (rN st 5)))
 ex0:=λst=>[]++[(rX st 2 0),(rX st 5 1)]}
def Qq5:List (Nat×LInv):=[(6,Qw0)]
def Qyl:Q09:=mT 16 [] true [.agg Q03.sig,.one (.int .i64)] [] (λa r=>Q8m (Q03.of (aC a 0)) (argI a 1)) (λX=>.all 0) (λX=>[⟨false,3,1,.ints .i64 X⟩])
theorem Qki:Q04 pG Qyl:=oT (.cons Q6o (.nil)) Tryz.func16 Tryz.call16 [.row 3 1 (.ints .i64)] Qq5 3
def Q83(s:List Bool)(v:Bool)(z:(Int)):Nat:=(s.length-z).toNat
def Q2u(s:List Bool)(v:Bool):Tree Int:=
.lp inferInstance (Q83 s v 0+1) ((((Els.Nil (Els.bools s)\/rE (1:Nat))/\rE (s:List Bool))/\rE (v:Bool)/\rE ((s.length:Int):Int)/\rE (0:Int)/\True)/\True) 0 λ(v0:Int)=>.br (decide (v0<(s.length:Int))) (.cn (bT 1 1&&bJ 0 1&&decide (0<=v0/\v0<(s.length:Int))) (.br (v==s.getD v0.toNat false) (.lf (Sum.inr v0)) (.nx ((((Els.Nil (Els.bools s)\/rE (1:Nat))/\rE (s:List Bool))/\rE (v:Bool)/\rE ((s.length:Int):Int)/\rE ((wrap i64 (v0+1)):Int)/\True)/\True) (Sum.inl (wrap i64 (v0+1)))))) (.lf (Sum.inr (-1)))
def Qc s v:=(Q2u s v).m
abbrev Q9m s v:=(Q2u s v).p
def Qi5:LInv:={
 α:=(Int)
 F:=λst a=>([(0,(lk st 0)),(1,(lk st 1)),(7,(lk st 7)),(8,.int i64 a)],[])
 a0:=λst=>(lk st 8).toInt
 ex0:=λst=>[]++[]}
def Qfq:List (Nat×LInv):=[(2,Qi5)]
def Qir:Q09:=mT 106 [] true [.one (.bools),.one (.bool)] [] (λa r=>Q2u (argM a 0) (argB a 1)) (λX=>.int .i64 X) (λX=>[])
theorem Qie:Q04 pG Qir:=oT (.nil) Tryz.func106 Tryz.call106 [] Qfq 3
def Q29(s:List Bool)(v:Bool):Tree Bool:=
.an (Q9m s v) (.lv (Qc s v) λ(x0:Int)=>.lf (decide (x0>=0)))
def Qa3 s v:=(Q29 s v).m
abbrev Q7j s v:=(Q29 s v).p
def Qgj:Q09:=mT 54 [] true [.one (.bools),.one (.bool)] [] (λa r=>Q29 (argM a 0) (argB a 1)) (λX=>.bool X) (λX=>[])
theorem Qf1:Q04 pG Qgj:=oT (.cons Qie (.nil)) Tryz.func54 Tryz.call54 [] [] 2
def Q9(p:Q03):Tree Bool:=
.an (Q35 p) (.lv (Q4s p) λ(x0:Bool)=>.br x0 (.an (Q7j p.A7 false) (.lv (Qa3 p.A7 false) λ(x1:Bool)=>.lf (!x1))) (.lf false))
def Qjx p:=(Q9 p).m
abbrev Qcf p:=(Q9 p).p
def Qwy:Q09:=mT 17 [] true [.agg Q03.sig] [] (λa r=>Q9 (Q03.of (aC a 0))) (λX=>.bool X) (λX=>[])
theorem Qkk:Q04 pG Qwy:=oT (.cons Q6o (.cons Qf1 (.nil))) Tryz.func17 Tryz.call17 [] [] 2
end
noncomputable section
def Qbg:Tree Bool:=
.an (Qef 2 [0]) (.lv (Qdx 2 [0]) λ(x0:Q00)=>.an (Qi x0) (.lv (Qo5 x0) λ(x1:Q03×Bool)=>.an (Qel x1.1) (.lv (Qks x1.1) λ(x2:Int×Bool)=>.an (Qcn x1.1 0) (.lv (Qk1 x1.1 0) λ(x3:Q03×List Q0d×Bool)=>.an (Q8z x0.Mem 0) (.lv (Q33 x0.Mem 0) λ(x4:List UInt8×Bool)=>.an (Qh1 x3.1 {Frame:=0,C8:=x4.1}) (.lv (Qmf x3.1 {Frame:=0,C8:=x4.1}) λ(x5:Q03×Bool)=>.an (Qcn x5.1 0) (.lv (Qk1 x5.1 0) λ(x6:Q03×List Q0d×Bool)=>.an (Qcx x5.1 2) (.lv (Qkd x5.1 2) λ(x7:List Int)=>.br x1.2 (.br x2.2 (.br (x2.1==0) (.br (!x3.2.2) (.br (x3.1.C4==1) (.br x5.2 (.br x6.2.2 (.br (x6.1.A1.A4==1) (.br ((x7.length:Int)==(2:Int)) (.cn (bT 1 1&&bJ 0 1&&decide ((0:Int)<=(0:Int)/\0<(x7.length:Int))) (.br (x7.getD (dB 0) (0:Int)==(1:Int)) (.an (Qcf x6.1) (.lv (Qjx x6.1) λ(x8:Bool)=>.lf (!x8))) (.lf false))) (.lf false)) (.lf false)) (.lf false)) (.lf false)) (.lf false)) (.lf false)) (.lf false)) (.lf false)) (.lf false)))))))))
def Qfv:Bool:=(Qbg).m
abbrev Q86:Prop:=(Qbg).p
def Z4p:Q09:=mT 12 [] true [] [] (λa r=>Qbg) (λX=>.bool X) (λX=>[])
theorem Z1g:Q04 pG Z4p:=oT (.cons Qms (.cons Qtw (.cons Qpf (.cons Qw8 (.cons Qi8 (.cons Qrf (.cons Qki (.cons Qkk (.nil))))))))) Tryz.func12 Tryz.call12 [] [] 2
end
noncomputable section
def Qc1(kind:Int)(prog:List Int)(missing last most:Int)(z:(Int)×(Int)×(List Bool)):Nat:=(40-z.2.1).toNat
def Q3k(kind:Int)(prog:List Int)(missing last most:Int)(z:(Int)):Nat:=(40-z).toNat
def Q5y(kind:Int)(prog:List Int)(missing last most:Int):Tree Bool:=
.br (decide ((prog.length:Int)>(60:Int))) (.an Q86 (.lv Qfv λ(x0:Bool)=>.lf x0)) (.an (Qef kind prog) (.lv (Qdx kind prog) λ(x1:Q00)=>.lv (Q0m x1.Mem) λ(x2:Int)=>.an (Q2o last (if 1>x2 then 1 else x2)) (.lv (Q38 last (if 1>x2 then 1 else x2)) λ(x3:Int)=>.lp inferInstance (Qc1 kind prog missing last most (0,0,[])+1) ((rE (missing:Int)/\rE (most:Int)/\rE (x2:Int)/\rZ/\rE (0:Int)/\rE (0:Int)/\True)/\(mE x1 True (True/\rE (x3:Int)/\rE (0:Int)/\True))/\rE x1.Mem/\rE ([]:List Bool)/\True) (0,0,[]) λ(v0:Int×Int×List Bool)=>.br (decide (v0.2.1<x2)) (.cn (decide (0<=wrap u64 v0.2.1)) (.cn (decide (1*(v0.2.2.length+1)<=140737488355328)) (.cn (decide (0<=wrap u64 v0.2.1)) (let E3:=ishr u32 missing (wrap u64 v0.2.1);.br (iand u32 E3 (1:Int)==(1:Int)) (.nx ((rE (missing:Int)/\rE (most:Int)/\rE (x2:Int)/\rZ/\rE ((wrap i64 (v0.1+1)):Int)/\rE ((wrap i64 (v0.2.1+1)):Int)/\True)/\(mE x1 True (True/\rE (x3:Int)/\rE (0:Int)/\True))/\rE x1.Mem/\rE ((v0.2.2++[iand u32 (ishr u32 missing (wrap u64 v0.2.1)) (1:Int)==(0:Int)]):List Bool)/\True) (Sum.inl (wrap i64 (v0.1+1),wrap i64 (v0.2.1+1),v0.2.2++[iand u32 E3 (1:Int)==(0:Int)]))) (.nx ((rE (missing:Int)/\rE (most:Int)/\rE (x2:Int)/\rZ/\rE v0.1/\rE ((wrap i64 (v0.2.1+1)):Int)/\True)/\(mE x1 True (True/\rE (x3:Int)/\rE (0:Int)/\True))/\rE x1.Mem/\rE ((v0.2.2++[iand u32 (ishr u32 missing (wrap u64 v0.2.1)) (1:Int)==(0:Int)]):List Bool)/\True) (Sum.inl (v0.1,wrap i64 (v0.2.1+1),v0.2.2++[iand u32 E3 (1:Int)==(0:Int)]))))))) (.an (Qcx {A1:=x1,A7:=v0.2.2,D0:=x3,C4:=0} most) (.lv (Qkd {A1:=x1,A7:=v0.2.2,D0:=x3,C4:=0} most) λ(x4:List Int)=>.br ((x4.length:Int) !=if(if v0.1<most then v0.1 else most)>0 then if v0.1<most then v0.1 else most else 0) (.lf (Sum.inr false)) (.lp inferInstance (Q3k kind prog missing last most 0+1) ((rE (x2:Int)/\rZ/\rE v0.1/\True/\rE (0:Int)/\True)/\(mE x1 True (True/\rE (x3:Int)/\rE (0:Int)/\True))/\rE x1.Mem/\rE v0.2.2/\rE (x4:List Int)/\True) 0 λ(v1:Int)=>.br (decide (v1<(x4.length:Int))) (let E2:=bT 1 1&&bJ 0 1&&decide (0<=v1/\v1<(x4.length:Int));.cn E2 (.br (decide (x4.getD v1.toNat (0:Int)<(0:Int))) (.lf (Sum.inr (Sum.inr false))) (.cn E2 (.br (decide (x4.getD v1.toNat 0>=x2)) (.lf (Sum.inr (Sum.inr false))) (.cn E2 (.cn (bT 1 1&&bJ 0 1&&decide (0<=x4.getD v1.toNat 0/\x4.getD v1.toNat 0<(v0.2.2.length:Int))) (.br (v0.2.2.getD (dB (x4.getD v1.toNat 0)) false) (.lf (Sum.inr (Sum.inr false))) (let T1:Tree ((Int)⊕((Int×Int×List Bool)⊕(Bool))):=.nx ((rE (x2:Int)/\rZ/\rE v0.1/\True/\rE ((wrap i64 (v1+1)):Int)/\True)/\(mE x1 True (True/\rE (x3:Int)/\rE (0:Int)/\True))/\rE x1.Mem/\rE v0.2.2/\rE (x4:List Int)/\True) (Sum.inl (wrap i64 (v1+1)));.br (decide (v1>0)) (.cn E2 (let E5:=wrap i64 (x4.getD v1.toNat 0-x3);.an (Q2o E5 x2) (.lv (Q38 E5 x2) λ(x5:Int)=>.cn (bT 1 1&&bJ 0 1&&decide (0<=wrap i64 (v1-1)/\wrap i64 (v1-1)<(x4.length:Int))) (let E4:=wrap i64 (x4.getD (dB (wrap i64 (v1-1))) 0-x3);.an (Q2o E4 x2) (.lv (Q38 E4 x2) λ(x6:Int)=>.br (decide (x5<=x6)) (.lf (Sum.inr (Sum.inr false))) T1))))) T1)))))))) (.an (Qcf {A1:=x1,A7:=v0.2.2,D0:=x3,C4:=0}) (.lv (Qjx {A1:=x1,A7:=v0.2.2,D0:=x3,C4:=0}) λ(x7:Bool)=>.br (x7==(v0.1==0)) (.an Q86 (.lv Qfv λ(x8:Bool)=>.lf (Sum.inr (Sum.inr x8)))) (.lf (Sum.inr (Sum.inr false)))))))))))
def Qee kind prog missing last most:=(Q5y kind prog missing last most).m
abbrev Qej kind prog missing last most:=(Q5y kind prog missing last most).p
def Qp4:LInv:={
 α:=(Int)×(Int)×(List Bool)
 F:=λst a=>([(2,(lk st 2)),(4,(lk st 4)),(12,(lk st 12)),(13,.ptr 0 0 0),(14,.int i64 a.1),(15,.int i64 a.2.1)],[⟨true,48,52,.gen [[(cT st 13 0),(cT st 13 1),(cT st 13 2),(cT st 13 3),(cT st 13 4),(cT st 13 5),(cT st 13 6),(cT st 13 7),(cT st 13 8),(cT st 13 9),(cT st 13 10),(cT st 13 11),(cT st 13 12),(cT st 13 13),(cT st 13 14),(cT st 13 15),(cT st 13 16),(cT st 13 17),(cT st 13 18),(cT st 13 19),(cT st 13 20),(cT st 13 21),(cT st 13 22),(cT st 13 23),(cT st 13 24),.all 1,(cT st 13 26),(cT st 13 27),(cT st 13 28),(cT st 13 29),(cT st 13 30),(cT st 13 31),(cT st 13 32),(cT st 13 33),(cT st 13 34),(cT st 13 35),(cT st 13 36),(cT st 13 37),(cT st 13 38),(cT st 13 39),(cT st 13 40),(cT st 13 41),(cT st 13 42),(cT st 13 43),(cT st 13 44),(cT st 13 45),(cT st 13 46),(cT st 13 47),(cT st 13 48),.all 2,(cT st 13 50),(cT st 13 51)]]⟩,⟨false,23,1,esOf st.rows (Q1 (cT st 13 25) 1000000)⟩,⟨false,4,1,.bools a.2.2⟩])
 a0:=λst=>((lk st 14).toInt,(lk st 15).toInt,(boolsOf st.rows (Q1 (cT st 13 49) 1000000)))
 ex0:=λst=>[]++[(rX st 13 0),(Q1 (cT st 13 25) (st.rows.length+1)),(Q1 (cT st 13 49) (st.rows.length+2))]}
def Qp:LInv:={
 α:=(Int)
 F:=λst a=>([(12,(lk st 12)),(13,.ptr 0 0 0),(14,(lk st 14)),(16,.all 3),(17,.int i64 a)],[⟨true,48,52,.gen [[(cT st 13 0),(cT st 13 1),(cT st 13 2),(cT st 13 3),(cT st 13 4),(cT st 13 5),(cT st 13 6),(cT st 13 7),(cT st 13 8),(cT st 13 9),(cT st 13 10),(cT st 13 11),(cT st 13 12),(cT st 13 13),(cT st 13 14),(cT st 13 15),(cT st 13 16),(cT st 13 17),(cT st 13 18),(cT st 13 19),(cT st 13 20),(cT st 13 21),(cT st 13 22),(cT st 13 23),(cT st 13 24),.all 1,(cT st 13 26),(cT st 13 27),(cT st 13 28),(cT st 13 29),(cT st 13 30),(cT st 13 31),(cT st 13 32),(cT st 13 33),(cT st 13 34),(cT st 13 35),(cT st 13 36),(cT st 13 37),(cT st 13 38),(cT st 13 39),(cT st 13 40),(cT st 13 41),(cT st 13 42),(cT st 13 43),(cT st 13 44),(cT st 13 45),(cT st 13 46),(cT st 13 47),(cT st 13 48),.all 2,(cT st 13 50),(cT st 13 51)]]⟩,⟨false,23,1,esOf st.rows (Q1 (cT st 13 25) 1000000)⟩,⟨false,4,1,esOf st.rows (Q1 (cT st 13 49) 1000000)⟩,⟨false,3,1,esOf st.rows (rN st 16)⟩])
 a0:=λst=>(lk st 17).toInt
 ex0:=λst=>[]++[(rX st 13 0),(Q1 (cT st 13 25) (st.rows.length+1)),(Q1 (cT st 13 49) (st.rows.length+2)),(rX st 16 3)]}
def Qmt:List (Nat×LInv):=[(8,Qp4),(17,Qp)]
def Qqh:Q09:=mT 3 [] true [.one (.int .i64),.one (.ints .i64),.one (.int .u32),.one (.int .i64),.one (.int .i64)] [] (λa r=>Q5y (argI a 0) (argL .i64 a 1) (argI a 2) (argI a 3) (argI a 4)) (λX=>.bool X) (λX=>[])
theorem Qp9:Q04 pG Qqh:=oT (.cons Z1g (.cons Qms (.cons Q1w (.cons Qjl (.cons Qki (.cons Qkk (.nil))))))) Tryz.func3 Tryz.call3 [] Qmt 3

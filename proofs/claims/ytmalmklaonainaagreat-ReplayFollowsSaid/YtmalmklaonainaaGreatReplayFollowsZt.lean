import Derived.Test.YtmalmklaonainaaGreatReplayFollowsZd
import Derived.Test.YtmalmklaonainaaGreatReplayFollowsZx
open Nat renaming beq->bS, blt->bT, lt_succ_self->cK
open List renaming getD->aK, length->dG, append->cM, take->cW, drop->cX
open Int renaming toNat->dB
set_option maxRecDepth 100000
set_option linter.all false
namespace Go.Proofs.YtmalmklaonainaaGreat
open Go Go.GD Go.IntKind
noncomputable section
instance sumInhZi {α β:Type} [Inhabited β]:Inhabited (α⊕β):=⟨.inr default⟩
def Qrt(src:List UInt8)(z:(Int)×(List Int)):Nat:=((Z39 src).2.1.length-z.1).toNat
def Qrv(src:List UInt8)(v0:Int×List Int)(z:(Int)×(List Int)):Nat:=(1024-z.1).toNat
def Q9t(src:List UInt8):Tree ((List Int)×Q1k):=
.an (Qmc src) (.lv (Z39 src) λ(x0:List Q2d×List Q0b×Q1k)=> .br (x0.2.2.Err !=0) (.lf ([],x0.2.2)) (.lp inferInstance (Qrt src (0,[])+1) ((True/\rZ/\True/\True/\True/\rE (0:Int)/\True)/\(rE (0:Int)/\rE (0:Int)/\True)/\rE x0.1/\rE x0.2.1/\rE ([]:List Int)/\True) (0,[]) λ(v0:Int×List Int)=> .br (decide (v0.1<(x0.2.1.length:Int))) (.cn (bS 6 6&&bT 0 6&&decide (0<=v0.1/\v0.1<(x0.2.1.length:Int))) (let E4:=x0.2.1.getD v0.1.toNat (RK.dflt RK.vmfleetref1Statement);let T1:Tree ((Int×List Int)⊕(((List Int)×Q1k))):= .lp inferInstance (Qrv src v0 (0,v0.2)+1) ((True/\rZ/\True/\True/\True/\rE v0.1/\rZ/\rE (0:Int)/\True)/\(rE (0:Int)/\rE (0:Int)/\True)/\rE x0.1/\rE x0.2.1/\(rE ((x0.2.1.getD v0.1.toNat (RK.dflt RK.vmfleetref1Statement)).what:List UInt8)/\rE ((x0.2.1.getD v0.1.toNat (RK.dflt RK.vmfleetref1Statement)).op:Int)/\((Els.Nil (D.toEs (aK (Els.get (Els.recs RK.vmfleetref1Statement x0.2.1) v0.1.toNat) ((0:Nat)+(1:Nat)+(1:Nat)) D.dead))\/rE (3:Nat))/\rE ((x0.2.1.getD v0.1.toNat (RK.dflt RK.vmfleetref1Statement)).l:List (RK.T RK.vmfleetref1Arg)))/\rE ((x0.2.1.getD v0.1.toNat (RK.dflt RK.vmfleetref1Statement)).D7:Int)/\rE ((x0.2.1.getD v0.1.toNat (RK.dflt RK.vmfleetref1Statement)).at_:Int)/\rE ((x0.2.1.getD v0.1.toNat (RK.dflt RK.vmfleetref1Statement)).size:Int)/\True)/\rE v0.2/\True) (0,v0.2) λ(v1:Int×List Int)=> .br (decide (v1.1<E4.size)) (.cn (decide (4*(v1.2.length+1)<=140737488355328)) (.nx ((True/\rZ/\True/\True/\True/\rE v0.1/\rZ/\rE ((wrap i64 (v1.1+1)):Int)/\True)/\(rE (0:Int)/\rE (0:Int)/\True)/\rE x0.1/\rE x0.2.1/\(rE ((x0.2.1.getD v0.1.toNat (RK.dflt RK.vmfleetref1Statement)).what:List UInt8)/\rE ((x0.2.1.getD v0.1.toNat (RK.dflt RK.vmfleetref1Statement)).op:Int)/\((Els.Nil (Els.recs RK.vmfleetref1Arg (x0.2.1.getD v0.1.toNat (RK.dflt RK.vmfleetref1Statement)).l)\/rE (3:Nat))/\rE ((x0.2.1.getD v0.1.toNat (RK.dflt RK.vmfleetref1Statement)).l:List (RK.T RK.vmfleetref1Arg)))/\rE ((x0.2.1.getD v0.1.toNat (RK.dflt RK.vmfleetref1Statement)).D7:Int)/\rE ((x0.2.1.getD v0.1.toNat (RK.dflt RK.vmfleetref1Statement)).at_:Int)/\rE ((x0.2.1.getD v0.1.toNat (RK.dflt RK.vmfleetref1Statement)).size:Int)/\True)/\rE ((v1.2++[0]):List Int)/\True) (Sum.inl (wrap i64 (v1.1+1),v1.2++[0])))) (.nx ((True/\rZ/\True/\True/\True/\rE ((wrap i64 (v0.1+1)):Int)/\True)/\(rE (0:Int)/\rE (0:Int)/\True)/\rE x0.1/\rE x0.2.1/\rE v1.2/\True) (Sum.inr (Sum.inl (wrap i64 (v0.1+1),v1.2))));let E5:=bS 3 3&&bT 0 3&&decide ((0:Int)<=(0:Int)/\0<(↑(dG E4.l):Int));let E7:=aK E4.l (dB 0) (RK.dflt RK.vmfleetref1Arg);let E8:=decide (4*(v0.2.length+1)<=140737488355328);let T2:Tree ((Int×List Int)⊕(((List Int)×Q1k))):= .cn E5 (.cn (bS 3 3&&bT 0 3&&decide ((0:Int)<=(1:Int)/\1<(↑(dG E4.l):Int))) (.lv (Q1q {Op:=16,A:=E7.reg,B:=(aK E4.l (dB 1) (RK.dflt RK.vmfleetref1Arg)).reg,C:=0,Imm:=0}) λ(x4:Int×Bool)=> .cn E8 (.nx ((True/\rZ/\True/\True/\True/\rE ((wrap i64 (v0.1+1)):Int)/\True)/\(rE (0:Int)/\rE (0:Int)/\True)/\rE x0.1/\rE x0.2.1/\rE ((v0.2++[x4.1]):List Int)/\True) (Sum.inl (wrap i64 (v0.1+1),v0.2++[x4.1])))));let T3:Tree ((Int×List Int)⊕(((List Int)×Q1k))):= .lv (Q1q {Op:=16,A:=0,B:=0,C:=0,Imm:=0}) λ(x5:Int×Bool)=> .cn E8 (.nx ((True/\rZ/\True/\True/\True/\rE ((wrap i64 (v0.1+1)):Int)/\True)/\(rE (0:Int)/\rE (0:Int)/\True)/\rE x0.1/\rE x0.2.1/\rE ((v0.2++[x5.1]):List Int)/\True) (Sum.inl (wrap i64 (v0.1+1),v0.2++[x5.1])));let E9:=decide (E4.what=[(46:UInt8),115,112,97,99,101]);let E10:=decide (E4.what=[(46:UInt8),119,111,114,100]);let E12:=decide (E4.what=[(110:UInt8),111,112]);let E13:=decide (4*(v0.2.length+2)<=140737488355328);let E14:=decide (E4.what=[(108:UInt8),105]);let E15:=decide (E4.what=[(109:UInt8),118]); .br (decide ((↑(dG E4.l):Int)>(0:Int))) (.cn (bS 3 3&&bT 0 3&&decide (0<=wrap i64 ((↑(dG E4.l):Int)-(1:Int))/\wrap i64 ((↑(dG E4.l):Int)-(1:Int))<(↑(dG E4.l):Int))) (let E6:=aK E4.l (dB (wrap i64 ((↑(dG E4.l):Int)-(1:Int)))) (RK.dflt RK.vmfleetref1Arg); .br (!decide (E6.label=[])) (.an (Q3s x0.1 E6.label) (.lv (Qod x0.1 E6.label) λ(x1:Int×Bool)=> .br (!x1.2) (.lf (Sum.inr ([],{Err:=302,Line:=E4.D7}))) (.br (decide (E4.op>0)) (let E11:=wrap i64 (wrap i64 (Int.tdiv (wrap i64 x1.1) 4)-E4.at_); .br E10 (.cn E8 (.nx ((True/\rZ/\True/\True/\True/\rE ((wrap i64 (v0.1+1)):Int)/\True)/\(rE (0:Int)/\rE (0:Int)/\True)/\rE x0.1/\rE x0.2.1/\rE ((v0.2++[wrap u32 (wrap i64 (wrap i64 (Int.tdiv (wrap i64 x1.1) 4)-(x0.2.1.getD v0.1.toNat (RK.dflt RK.vmfleetref1Statement)).at_))]):List Int)/\True) (Sum.inl (wrap i64 (v0.1+1),v0.2++[wrap u32 E11])))) (.br E9 T1 (.br E14 (.cn E5 (.lv (Q1q {Op:=24,A:=E7.reg,B:=0,C:=0,Imm:=wrap i32 (ishr u32 (wrap u32 E11) 16)}) λ(x2:Int×Bool)=> .cn E5 (.cn E5 (.lv (Q1q {Op:=18,A:=E7.reg,B:=E7.reg,C:=0,Imm:=wrap i32 (iand u32 (wrap u32 E11) 65535)}) λ(x3:Int×Bool)=> .cn E13 (.nx ((True/\rZ/\True/\True/\True/\rE ((wrap i64 (v0.1+1)):Int)/\True)/\(rE (0:Int)/\rE (0:Int)/\True)/\rE x0.1/\rE x0.2.1/\rE ((v0.2++[x2.1,x3.1]):List Int)/\True) (Sum.inl (wrap i64 (v0.1+1),v0.2++[x2.1,x3.1]))))))) (.br E15 T2 (.br E12 T3 (.an (Qao E4 E11) (.lv (Qp8 E4 E11) λ(x6:Int×Bool)=> .br (!x6.2) (.lf (Sum.inr ([],{Err:=304,Line:=E4.D7}))) (.cn E8 (.nx ((True/\rZ/\True/\True/\True/\rE ((wrap i64 (v0.1+1)):Int)/\True)/\(rE (0:Int)/\rE (0:Int)/\True)/\rE x0.1/\rE x0.2.1/\rE ((v0.2++[x6.1]):List Int)/\True) (Sum.inl (wrap i64 (v0.1+1),v0.2++[x6.1]))))))))))) (.br E10 (.cn E8 (.nx ((True/\rZ/\True/\True/\True/\rE ((wrap i64 (v0.1+1)):Int)/\True)/\(rE (0:Int)/\rE (0:Int)/\True)/\rE x0.1/\rE x0.2.1/\rE ((v0.2++[wrap u32 (wrap i64 x1.1)]):List Int)/\True) (Sum.inl (wrap i64 (v0.1+1),v0.2++[wrap u32 (wrap i64 x1.1)])))) (.br E9 T1 (.br E14 (.cn E5 (.lv (Q1q {Op:=24,A:=E7.reg,B:=0,C:=0,Imm:=wrap i32 (ishr u32 (wrap u32 (wrap i64 x1.1)) 16)}) λ(x7:Int×Bool)=> .cn E5 (.cn E5 (.lv (Q1q {Op:=18,A:=E7.reg,B:=E7.reg,C:=0,Imm:=wrap i32 (iand u32 (wrap u32 (wrap i64 x1.1)) 65535)}) λ(x8:Int×Bool)=> .cn E13 (.nx ((True/\rZ/\True/\True/\True/\rE ((wrap i64 (v0.1+1)):Int)/\True)/\(rE (0:Int)/\rE (0:Int)/\True)/\rE x0.1/\rE x0.2.1/\rE ((v0.2++[x7.1,x8.1]):List Int)/\True) (Sum.inl (wrap i64 (v0.1+1),v0.2++[x7.1,x8.1]))))))) (.br E15 T2 (.br E12 T3 (.an (Qao E4 (wrap i64 x1.1)) (.lv (Qp8 E4 (wrap i64 x1.1)) λ(x11:Int×Bool)=> .br (!x11.2) (.lf (Sum.inr ([],{Err:=304,Line:=E4.D7}))) (.cn E8 (.nx ((True/\rZ/\True/\True/\True/\rE ((wrap i64 (v0.1+1)):Int)/\True)/\(rE (0:Int)/\rE (0:Int)/\True)/\rE x0.1/\rE x0.2.1/\rE ((v0.2++[x11.1]):List Int)/\True) (Sum.inl (wrap i64 (v0.1+1),v0.2++[x11.1])))))))))))))) (.br E10 (.cn E8 (.nx ((True/\rZ/\True/\True/\True/\rE ((wrap i64 (v0.1+1)):Int)/\True)/\(rE (0:Int)/\rE (0:Int)/\True)/\rE x0.1/\rE x0.2.1/\rE ((v0.2++[wrap u32 (aK (x0.2.1.getD v0.1.toNat (RK.dflt RK.vmfleetref1Statement)).l (dB (wrap i64 ((↑(dG (x0.2.1.getD v0.1.toNat (RK.dflt RK.vmfleetref1Statement)).l):Int)-(1:Int)))) (RK.dflt RK.vmfleetref1Arg)).num]):List Int)/\True) (Sum.inl (wrap i64 (v0.1+1),v0.2++[wrap u32 E6.num])))) (.br E9 T1 (.br E14 (.cn E5 (.lv (Q1q {Op:=24,A:=E7.reg,B:=0,C:=0,Imm:=wrap i32 (ishr u32 (wrap u32 E6.num) 16)}) λ(x12:Int×Bool)=> .cn E5 (.cn E5 (.lv (Q1q {Op:=18,A:=E7.reg,B:=E7.reg,C:=0,Imm:=wrap i32 (iand u32 (wrap u32 E6.num) 65535)}) λ(x13:Int×Bool)=> .cn E13 (.nx ((True/\rZ/\True/\True/\True/\rE ((wrap i64 (v0.1+1)):Int)/\True)/\(rE (0:Int)/\rE (0:Int)/\True)/\rE x0.1/\rE x0.2.1/\rE ((v0.2++[x12.1,x13.1]):List Int)/\True) (Sum.inl (wrap i64 (v0.1+1),v0.2++[x12.1,x13.1]))))))) (.br E15 T2 (.br E12 T3 (.an (Qao E4 E6.num) (.lv (Qp8 E4 E6.num) λ(x16:Int×Bool)=> .br (!x16.2) (.lf (Sum.inr ([],{Err:=304,Line:=E4.D7}))) (.cn E8 (.nx ((True/\rZ/\True/\True/\True/\rE ((wrap i64 (v0.1+1)):Int)/\True)/\(rE (0:Int)/\rE (0:Int)/\True)/\rE x0.1/\rE x0.2.1/\rE ((v0.2++[x16.1]):List Int)/\True) (Sum.inl (wrap i64 (v0.1+1),v0.2++[x16.1]))))))))))))) (.br E10 (.cn E8 (.nx ((True/\rZ/\True/\True/\True/\rE ((wrap i64 (v0.1+1)):Int)/\True)/\(rE (0:Int)/\rE (0:Int)/\True)/\rE x0.1/\rE x0.2.1/\rE ((v0.2++[wrap u32 0]):List Int)/\True) (Sum.inl (wrap i64 (v0.1+1),v0.2++[wrap u32 0])))) (.br E9 T1 (.br E14 (.cn E5 (.lv (Q1q {Op:=24,A:=E7.reg,B:=0,C:=0,Imm:=wrap i32 (ishr u32 (wrap u32 0) 16)}) λ(x17:Int×Bool)=> .cn E5 (.cn E5 (.lv (Q1q {Op:=18,A:=E7.reg,B:=E7.reg,C:=0,Imm:=wrap i32 (iand u32 (wrap u32 0) 65535)}) λ(x18:Int×Bool)=> .cn E13 (.nx ((True/\rZ/\True/\True/\True/\rE ((wrap i64 (v0.1+1)):Int)/\True)/\(rE (0:Int)/\rE (0:Int)/\True)/\rE x0.1/\rE x0.2.1/\rE ((v0.2++[x17.1,x18.1]):List Int)/\True) (Sum.inl (wrap i64 (v0.1+1),v0.2++[x17.1,x18.1]))))))) (.br E15 T2 (.br E12 T3 (.an (Qao E4 0) (.lv (Qp8 E4 0) λ(x21:Int×Bool)=> .br (!x21.2) (.lf (Sum.inr ([],{Err:=304,Line:=E4.D7}))) (.cn E8 (.nx ((True/\rZ/\True/\True/\True/\rE ((wrap i64 (v0.1+1)):Int)/\True)/\(rE (0:Int)/\rE (0:Int)/\True)/\rE x0.1/\rE x0.2.1/\rE ((v0.2++[x21.1]):List Int)/\True) (Sum.inl (wrap i64 (v0.1+1),v0.2++[x21.1]))))))))))))) (.lf (Sum.inr (v0.2,{Err:=0,Line:=0})))))
def Q1j src:=(Q9t src).m
abbrev Qai src:=(Q9t src).p
def Qzc:LInv:={
 α:=(Int)×(List Int)
 F:=λst a=>([(2,(lk st 2)),(3, .ptr 0 0 0),(4, .all 1),(5, .all 2),(7, .all 3),(8, .int i64 a.1)],[⟨true,59,2, .gen [[(cT st 3 0),(cT st 3 1)]]⟩,⟨false,257,2,esOf st.rows (rN st 4)⟩,⟨false,181,6,esOf st.rows (rN st 5)⟩,⟨false,25,1, .ints u32 a.2⟩])
 a0:=λst=>((lk st 8).toInt,(Q7d st.rows (rN st 7)))
 ex0:=λst=>[]++[(rX st 3 0),(rX st 4 1),(rX st 5 2),(rX st 7 3)]}
def Qzo:LInv:={
 α:=(Int)×(List Int)
 F:=λst a=>([(2,(lk st 2)),(3, .ptr 0 0 0),(4, .all 1),(5, .all 2),(7, .all 4),(8,(lk st 8)),(9, .ptr 3 0 0),(14, .int i64 a.1)],[⟨true,59,2, .gen [[(cT st 3 0),(cT st 3 1)]]⟩,⟨false,257,2,esOf st.rows (rN st 4)⟩,⟨false,181,6,esOf st.rows (rN st 5)⟩,⟨true,181,6, .gen [[(cT st 9 0),(cT st 9 1),(cT st 9 2),(cT st 9 3),(cT st 9 4),(cT st 9 5)]]⟩,⟨false,25,1, .ints u32 a.2⟩])
 a0:=λst=>((lk st 14).toInt,(Q7d st.rows (rN st 7)))
 ex0:=λst=>[]++[(rX st 3 0),(rX st 4 1),(rX st 5 2),(rX st 9 3),(rX st 7 4)]}
def Quq:List (Nat×LInv):=[(6,Qzc),(29,Qzo)]
def Z0r:Q0e:=mT 36 [] true [.one (.str)] [] (λa r=>Q9t (argS a 0)) (λX=> .tup [.all 0, .agg (Q1k.cells (X.2))]) (λX=>[⟨false,25,1, .ints .u32 (X.1)⟩])
theorem Qyt:Q06 pG Z0r:=oT (.cons Zd0 (.cons Qo5 (.cons Qkg (.cons Zg2 (.nil))))) Tryz.func36 Tryz.call36 [.row 25 1 (.ints .u32)] Quq 3
end
noncomputable section
instance sumInhZh {α β:Type} [Inhabited β]:Inhabited (α⊕β):=⟨.inr default⟩
end
noncomputable section
def tblZe0:List UInt8:=[(105:UInt8),32,114,49,44,32,104,97,110,100,108,101,114,10,99,115,114,119,32,114,49,44,32,49,10,108,105,32,114,49,44,32,51,49,10,99,115,114,119,32,114]
def Z6k:List UInt8:=[(49:UInt8),44,32,55,10,108,105,32,114,49,44,32,52,10,99,115,114,119,32,114,49,44,32,54,10,108,105,32,114,50,44,32,53,49,50,10,108,105,32,114,51,44]
def Z88:List UInt8:=[(32:UInt8),48,10,108,105,32,114,52,44,32,56,10,109,97,112,58,32,115,104,108,105,32,114,53,44,32,114,51,44,32,56,10,111,114,105,32,114,53,44,32,114,53]
def Z8p:List UInt8:=[(44:UInt8),32,55,10,115,104,108,105,32,114,54,44,32,114,51,44,32,50,10,97,100,100,32,114,54,44,32,114,54,44,32,114,50,10,115,119,32,114,53,44,32,48,40]
def Z81:List UInt8:=[(114:UInt8),54,41,10,97,100,100,105,32,114,51,44,32,114,51,44,32,49,10,98,108,116,32,114,51,44,32,114,52,44,32,109,97,112,10,108,105,32,114,49,44,32]
def Z8c:List UInt8:=[(54:UInt8),10,111,117,116,32,114,49,44,32,55,10,108,105,32,114,49,44,32,50,10,111,117,116,32,114,49,44,32,57,10,108,105,32,114,49,44,32,49,48,48,10,111]
def Z8b:List UInt8:=[(117:UInt8),116,32,114,49,44,32,51,10,108,105,32,114,49,44,32,54,52,48,10,99,115,114,119,32,114,49,44,32,50,10,108,105,32,114,49,44,32,50,49,10,99]
def Z7w:List UInt8:=[(115:UInt8),114,119,32,114,49,44,32,48,10,101,114,101,116,10,104,97,110,100,108,101,114,58,32,99,115,114,119,32,114,49,44,32,53,10,99,115,114,114,32,114,49,44]
def Z7n:List UInt8:=[(32:UInt8),51,10,115,108,116,105,32,114,49,44,32,114,49,44,32,49,54,10,98,101,113,32,114,49,44,32,114,48,44,32,105,114,113,10,99,115,114,114,32,114,49]
def Z7x:List UInt8:=[(44:UInt8),32,50,10,97,100,100,105,32,114,49,44,32,114,49,44,32,52,10,99,115,114,119,32,114,49,44,32,50,10,105,110,32,114,51,44,32,50,10,111,117,116]
def Qv:List UInt8:=[(32:UInt8),114,51,44,32,48,10,108,105,32,114,49,44,32,49,10,111,117,116,32,114,49,44,32,52,10,108,105,32,114,49,44,32,55,10,111,117,116,32,114,49,44]
def Qwm:List UInt8:=[(32:UInt8),53,10,97,110,100,105,32,114,49,44,32,114,50,44,32,49,10,97,100,100,105,32,114,49,44,32,114,49,44,32,49,10,111,117,116,32,114,49,44,32,54,10]
def Qv9:List UInt8:=[(99:UInt8),115,114,114,32,114,49,44,32,53,10,101,114,101,116,10,105,114,113,58,32,105,110,32,114,49,44,32,48,10,111,117,116,32,114,49,44,32,48,10,111,117]
def Qvs:List UInt8:=[(116:UInt8),32,114,48,44,32,54,10,111,117,116,32,114,48,44,32,57,10,108,105,32,114,49,44,32,54,10,111,117,116,32,114,49,44,32,55,10,108,105,32,114,49,44]
def Quy:List UInt8:=[(32:UInt8),50,10,111,117,116,32,114,49,44,32,57,10,105,110,32,114,49,44,32,50,10,97,100,100,105,32,114,49,44,32,114,49,44,32,50,48,10,111,117,116,32]
def Qvq:List UInt8:=[(114:UInt8),49,44,32,51,10,105,110,32,114,49,44,32,49,48,10,111,117,116,32,114,49,44,32,49,48,10,99,115,114,114,32,114,49,44,32,53,10,101,114,101,116,10]
def Z8u:List UInt8:=[(108:UInt8),105,32,114,49,44,32,104,97,110,100,108,101,114,10,99,115,114,119,32,114,49,44,32,49,10,108,105,32,114,49,44,32,51,49,10,99,115,114,119,32,114]
instance sumInhZe {α β:Type} [Inhabited β]:Inhabited (α⊕β):=⟨.inr default⟩
def Qlt(l:List Q0c)(z:(Int)):Prop:=1<=z/\(z<=l.length\/z=1)
def Qdk(l:List Q0c)(z:(Int)):Nat:=(l.length-z).toNat
def Qf9(l:List Q0c):Tree Bool:=
.lp inferInstance (Qdk l 1+1) ((nR RK.apiEntry 4 l/\rE (1:Int)/\True)/\True) 1 λ(v0:Int)=> .br (decide (v0<(l.length:Int))) (let E4:=bS 4 4&&bT 0 4&&decide (0<=v0/\v0<(l.length:Int)); .cn E4 (let E2:=bS 4 4&&bT 0 4&&decide (0<=wrap i64 (v0-1)/\wrap i64 (v0-1)<(l.length:Int)); .cn E2 (let E3:=l.getD (dB (wrap i64 (v0-1))) (RK.dflt RK.apiEntry);let E5:=l.getD v0.toNat (RK.dflt RK.apiEntry); .br (decide (E5.At<E3.At)) (.lf (Sum.inr false)) (.cn E4 (.cn E2 (let T1:Tree ((Int)⊕(Bool)):= .nx ((nR RK.apiEntry 4 l/\rE ((wrap i64 (v0+1)):Int)/\True)/\True) (Sum.inl (wrap i64 (v0+1))); .br (E5.At==E3.At) (.cn E2 (.br (E3.C1.B6==1) (.lf (Sum.inr false)) T1)) T1)))))) (.lf (Sum.inr true))
def Qyh l:=(Qf9 l).m
def Q8h(l:List Q0c):Prop:=
l.length<=1000000000000
theorem Qzp(l:List Q0c)(hw:Q8h l):(Qf9 l).p:=by
 simp only[Q8h]at hw
 unfold Tree.p Qf9
 repeat'(first|refine w_lp (inv:=Qlt l) (μ:=Qdk l) ?_ (cK _) (λ_ _=> ?_)|exact trivial|refine w_br (λ_=> ?_) (λ_=> ?_)|refine w_cn ?_ ?_|refine w_an ?_ ?_|refine w_lv (λ_ _=> ?_)|refine w_nx ?_|refine w_lf ?_|refine And.intro ?_ ?_)
 all_goals((try simp only[Qlt,Qdk]at*);exact fin0)
def Z3t:LInv:={
 α:=(Int)
 F:=λst a=>([(0,(lk st 0)),(3, .int i64 a)],[])
 a0:=λst=>(lk st 3).toInt
 ex0:=λst=>[]++[]}
def Qvn:List (Nat×LInv):=[(2,Z3t)]
def Z4g:Q0e:=mkP 155 [] true [.one (.recs .apiEntry)] [] (λa r=>Q8h (argR .apiEntry a 0)) (λa r=>Qyh (argR .apiEntry a 0)) (λX=> .bool X) (λX=>[])
theorem Z3m:Q06 pG Z4g:=Q0p drawn Q0l (.nil) Tryz.func155 Tryz.call155 (λa r=>Qf9 (argR .apiEntry a 0)) [] Qvn 3 (hp:=λa r h=>Qzp (argR .apiEntry a 0) h)
def Qgk(m:Q00)(script:List Q0c)(until0:Int)(z:Q00×(List Q04)):Nat:=(until0-z.1.A1).toNat
def Qgi(m:Q00)(script:List Q0c)(until0:Int)(v0:Q00×List Q04)(z:Unit):Nat:=0
def Q9o(m:Q00)(script:List Q0c)(until0:Int):Tree (Q00×(List Q04)×Int×Int):=
.lv (Q55 m) λ(x0:Bool)=>let E2:=({B1:={X:={a0:=0,a1:=0,a2:=0,a3:=0,a4:=0,a5:=0,a6:=0,a7:=0,a8:=0,a9:=0,a10:=0,a11:=0,a12:=0,a13:=0,a14:=0,a15:=0},Pc:=0,B5:={a0:=0,a1:=0,a2:=0,a3:=0,a4:=0,a5:=0,a6:=0,a7:=0}},Mem:=[],A4:={D3:=[]},B0:={D2:=false,C8:=0,D5:=false},B2:={Blocks:=0,C2:=0,Frame:=0,C0:=0,D8:=0,B7:=0,B3:=0,C4:=[]},C6:={Frame:=0,E0:=0,C7:=false,B9:=0,B8:=false,F1:=0},A2:={D0:=0,C3:=0},A1:=0,A7:=false,A9:=false}:Q00);let T1:Tree ((Q00×(List Q04)×Int×Int)):= .lf (E2,[],0,1300); .br (!x0) T1 (.br (decide (until0<m.A1)) T1 (.br (decide (wrap u64 (until0-m.A1)>4000)) T1 (.an (Q8h []) (.lv (Qyh []) λ(x1:Bool)=> .br (!x1) (.lf (E2,[],0,1301)) (.an (Qjp m) (.lv (Qpo m) λ(x2:Q00)=> .lp inferInstance (Qgk m script until0 (x2,[])+1) ((((Els.Nil (Els.gen [])\/rE (0:Nat))/\rE ([]:List (List D)))/\rE (until0:Int)/\rZ/\rZ/\True/\rE (0:Int)/\True)/\(mE x2 True True)/\rE x2.Mem/\(mE zM True True)/\rE ([]:List (RK.T RK.apiOutput))/\True) (x2,[]) λ(v0:Q00×List Q04)=> .br (decide (v0.1.A1<until0)) (.br (decide (v0.1.A1<1152921504606846976)) (.lp inferInstance (Qgi m script until0 v0 ()+1) ((((Els.Nil (Els.gen [])\/rE (0:Nat))/\rE ([]:List (List D)))/\rE (until0:Int)/\rZ/\rZ/\True/\rE (0:Int)/\(rE (0:Nat)/\rE (46:Nat))/\rE v0.1.A1/\rE ((decide (v0.1.A1<1152921504606846976)):Bool)/\True)/\(mE v0.1 True True)/\rE v0.1.Mem/\(mE zM True True)/\rE v0.2/\True) () λ(v1:PUnit)=> .br v0.1.A9 (.lf (Sum.inr (Sum.inr (v0.1,v0.2,0,0)))) (.an (Qlx v0.1) (.lv (Qdv v0.1) λ(x3:Bool)=> .br x3 (.lf (Sum.inr (Sum.inr (v0.1,v0.2,0,0)))) (.an (Qkl v0.1) (.lv (Qet v0.1) λ(x4:Bool)=> .br (!false==x4) (.lf (Sum.inr (Sum.inr (E2,[],0,1302)))) (.an (Qn7 v0.1 0) (.lv (Q0j v0.1 0) λ(x5:List Q04×Q00)=> .cn (decide (40*(v0.2.length+x5.1.length)<=140737488355328)) (.nx ((((Els.Nil (Els.gen [])\/rE (0:Nat))/\rE ([]:List (List D)))/\rE (until0:Int)/\rZ/\rZ/\True/\rE (0:Int)/\True)/\(mE x5.2 True True)/\rE x5.2.Mem/\(mE zM True True)/\rE ((v0.2++x5.1):List (RK.T RK.apiOutput))/\True) (Sum.inr (Sum.inl (x5.2,v0.2++x5.1))))))))))) (.lf (Sum.inr (v0.1,v0.2,0,0)))) (.lf (Sum.inr (v0.1,v0.2,0,0)))))))))
def Qev m script until0:=(Q9o m script until0).m
abbrev Qbo m script until0:=(Q9o m script until0).p
def Zal:LInv:={
 α:=Q00×(List Q04)
 F:=λst a=>([(1,(lk st 1)),(2,(lk st 2)),(3, .ptr 0 0 0),(6, .ptr 2 0 0),(10, .all 3),(11,(lk st 11))],[⟨true,43,49, .gen [mD a.1 (.all 1)]⟩,⟨false,25,1, .ints u32 a.1.Mem⟩,⟨true,43,49, .gen [mB (cT st 6)]⟩,⟨false,71,4, .recs RK.apiOutput a.2⟩])
 a0:=λst=>((mR (cT st 3) (Q7d st.rows (Q0x (cT st 3 25) 1000000))),(Q5g RK.apiOutput st.rows (rN st 10)))
 ex0:=λst=>[]++[(rX st 3 0),(Q0x (cT st 3 25) (st.rows.length+1)),(rX st 6 2),(rX st 10 3)]}
def Za7:LInv:={
 α:=Unit
 F:=λst a=>([(1,(lk st 1)),(2,(lk st 2)),(3, .ptr 0 0 0),(6, .ptr 2 0 0),(10, .all 3),(11,(lk st 11)),(61, .ptr 0 0 46),(62,(lk st 62)),(63,(lk st 63))],[⟨true,43,49, .gen [[(cT st 3 0),(cT st 3 1),(cT st 3 2),(cT st 3 3),(cT st 3 4),(cT st 3 5),(cT st 3 6),(cT st 3 7),(cT st 3 8),(cT st 3 9),(cT st 3 10),(cT st 3 11),(cT st 3 12),(cT st 3 13),(cT st 3 14),(cT st 3 15),(cT st 3 16),(cT st 3 17),(cT st 3 18),(cT st 3 19),(cT st 3 20),(cT st 3 21),(cT st 3 22),(cT st 3 23),(cT st 3 24), .all 1,(cT st 3 26),(cT st 3 27),(cT st 3 28),(cT st 3 29),(cT st 3 30),(cT st 3 31),(cT st 3 32),(cT st 3 33),(cT st 3 34),(cT st 3 35),(cT st 3 36),(cT st 3 37),(cT st 3 38),(cT st 3 39),(cT st 3 40),(cT st 3 41),(cT st 3 42),(cT st 3 43),(cT st 3 44),(cT st 3 45),(cT st 3 46),(cT st 3 47),(cT st 3 48)]]⟩,⟨false,25,1,esOf st.rows (Q0x (cT st 3 25) 1000000)⟩,⟨true,43,49, .gen [mB (cT st 6)]⟩,⟨false,71,4,esOf st.rows (rN st 10)⟩])
 a0:=λst=>()
 ex0:=λst=>[]++[(rX st 3 0),(Q0x (cT st 3 25) (st.rows.length+1)),(rX st 6 2),(rX st 10 3)]}
def Z31:List (Nat×LInv):=[(8,Zal),(9,Za7)]
def Zc9:Q0e:=mT 75 [] true [.agg Q00.sig, .one .nil, .one (.int .u64)] [] (λa r=>Q9o (Q00.of (aC a 0)) (argR .apiEntry a 1) (argI a 2)) (λX=> .tup [.agg (Q00.cellsW (X.1) (.all 0)), .all 1, .int .i64 (X.2.2.1), .int .i64 (X.2.2.2)]) (λX=>[⟨false,25,1, .ints .u32 (X.1).Mem⟩,⟨false,71,4, .recs .apiOutput (X.2.1)⟩])
theorem Z9q:Q06 pG Zc9:=oT (.cons Zi1 (.cons Z3m (.cons Zjm (.cons Zc5 (.cons Zey (.cons Zb1 (.cons Z2p (.nil)))))))) Tryz.func75 Tryz.call75 [.row 25 1 (.ints .u32), .row 71 4 (.recs .apiOutput)] Z31 3
def Qe4(kind:Int)(l z:List Int):Nat:=160-z.length
def Q71(kind:Int)(l:List Int):Tree Q00:=
.an (Q2z kind 3) (.lv (Q5l kind 3) λ(x0:Int)=> .br (decide (x0<2)) (.an (Qai ((108:UInt8)::(tblZe0++Z6k++(Z88++Z8p)++(Z81++Z8c++(Z8b++Z7w))++(Z7n++Z7x++(Qv++Qwm)++(Qv9++Qvs++(Quy++Qvq)))))) (.lv (Q1j (cM (cM (cM (cM Z8u Z6k) (cM Z88 Z8p)) (cM (cM Z81 Z8c) (cM Z8b Z7w))) (cM (cM (cM Z7n Z7x) (cM Qv Qwm)) (cM (cM Qv9 Qvs) (cM Quy Qvq))))) λ(x1:List Int×Q1k)=> .lp inferInstance (Qe4 kind l x1.1+1) ((rE (x0:Int)/\((Els.Nil (Els.ints i64 l)\/rE (1:Nat))/\rE (l:List Int))/\rZ/\True/\True)/\(mE zM True True)/\rE x1.1/\True) x1.1 λ(v0:List Int)=> .br (decide ((v0.length:Int)<(160:Int))) (.cn (decide (4*(v0.length+1)<=140737488355328)) (.nx ((rE (x0:Int)/\((Els.Nil (Els.ints i64 l)\/rE (1:Nat))/\rE (l:List Int))/\rZ/\True/\True)/\(mE zM True True)/\rE ((v0++[0]):List Int)/\True) (Sum.inl (v0++[0])))) (.an (Qlz l) (.lv (Qnw l) λ(x2:List Int)=> .cn (decide (4*(v0.length+x2.length)<=140737488355328)) (.br (decide ((↑(dG (v0++x2)):Int)>(256:Int))) (.cn (bS 1 1&&bT 0 1&&decide ((0:Int)<=(0:Int)/\(0:Int)<=(256:Int)/\256<=(↑(dG (v0++x2)):Int))) (let E1:=cW (dB 256-dB 0) (cX (dB 0) (v0++x2)); .an (Q9n 8 4 E1) (.lv (Q20 8 4 E1) λ(x3:Q00×Bool)=> .br (x0==1) (.an (Qbo x3.1 [] 87) (.lv (Qev x3.1 [] 87) λ(x4:Q00×List Q04×Int×Int)=> .lf (Sum.inr x4.1))) (.lf (Sum.inr x3.1))))) (.an (Q9n 8 4 (v0++x2)) (.lv (Q20 8 4 (v0++x2)) λ(x5:Q00×Bool)=> .br (x0==1) (.an (Qbo x5.1 [] 87) (.lv (Qev x5.1 [] 87) λ(x6:Q00×List Q04×Int×Int)=> .lf (Sum.inr x6.1))) (.lf (Sum.inr x5.1))))))))) (.an (Qlz l) (.lv (Qnw l) λ(x7:List Int)=> .cn (decide (4*(0+x7.length)<=140737488355328)) (.br (decide ((x7.length:Int)>(256:Int))) (.cn (bS 1 1&&bT 0 1&&decide ((0:Int)<=(0:Int)/\(0:Int)<=(256:Int)/\256<=(x7.length:Int))) (let E2:=cW (dB 256-dB 0) (cX (dB 0) x7); .an (Q9n 8 4 E2) (.lv (Q20 8 4 E2) λ(x8:Q00×Bool)=> .br (x0==1) (.an (Qbo x8.1 [] 87) (.lv (Qev x8.1 [] 87) λ(x9:Q00×List Q04×Int×Int)=> .lf x9.1)) (.lf x8.1)))) (.an (Q9n 8 4 x7) (.lv (Q20 8 4 x7) λ(x10:Q00×Bool)=> .br (x0==1) (.an (Qbo x10.1 [] 87) (.lv (Qev x10.1 [] 87) λ(x11:Q00×List Q04×Int×Int)=> .lf x11.1)) (.lf x10.1)))))))
def Qjt kind l:=(Q71 kind l).m
abbrev Qnc kind l:=(Q71 kind l).p
def Z3s:LInv:={
 α:=(List Int)
 F:=λst a=>([(0,(lk st 0)),(1,(lk st 1)),(4, .ptr 0 0 0),(5, .all 1)],[⟨true,43,49, .gen [mB (cT st 4)]⟩,⟨false,25,1, .ints u32 a⟩])
 a0:=λst=>(Q7d st.rows (rN st 5))
 ex0:=λst=>[]++[(rX st 4 0),(rX st 5 1)]}
def Qwq:List (Nat×LInv):=[(5,Z3s)]
def Z53:Q0e:=mT 41 [] true [.one (.int .i64), .one (.ints .i64)] [] (λa r=>Q71 (argI a 0) (argL .i64 a 1)) (λX=> .agg (Q00.cellsW X (.all 0))) (λX=>[⟨false,25,1, .ints .u32 X.Mem⟩])
theorem Z1t:Q06 pG Z53:=oT (.cons Qgz (.cons Qyt (.cons Zck (.cons Z2l (.cons Z9q (.nil)))))) Tryz.func41 Tryz.call41 [.row 25 1 (.ints .u32)] Qwq 3
end
noncomputable section
def Qvf(l acts:List Int):Tree Bool:=
.br (decide ((l.length:Int)<=(40:Int))) (.lf (decide ((acts.length:Int)<=(30:Int)))) (.lf false)
def Qu2 l acts:=(Qvf l acts).m
def Zok:Q0e:=mS 15 [] true [.one (.ints .i64), .one (.ints .i64)] [] (λa r=>Qvf (argL .i64 a 0) (argL .i64 a 1)) (λX=> .bool X) (λX=>[])
theorem Zjb:Q06 pG Zok:=oS (.nil) Tryz.func15 Tryz.call15 [] [] 2
def Qpa(t:Q0i):Tree (Q0i×Bool):=
.br (!t.D2) (.lf (t,false)) (.lf ({D2:=false,C8:=t.C8,D5:=true},true))
def Qlr t:=(Qpa t).m
def Zd:Q0e:=mS 130 [] true [.agg Q0i.sig] [] (λa r=>Qpa (Q0i.of (aC a 0))) (λX=> .tup [.agg (Q0i.cells (X.1)), .bool (X.2)]) (λX=>[])
theorem Zba:Q06 pG Zd:=oS (.nil) Tryz.func130 Tryz.call130 [] [] 2
def Qb9(c:Q0d)(b:Int):Tree (Q0d×Bool):=
.br (decide ((c.D3.length:Int)>=(16:Int))) (.lf (c,false)) (.cn (decide (c.D3.length+1<=maxLen)) (.lf ({D3:=c.D3++[(λ(n:Int)=>UInt8.ofNat n.toNat) b]},true)))
def Qns c b:=(Qb9 c b).m
abbrev Qn9 c b:=(Qb9 c b).p
def Z5e:Q0e:=mT 131 [] true [.agg Q0d.sig, .one (.int .u8)] [] (λa r=>Qb9 (Q0d.of (aC a 0)) (argI a 1)) (λX=> .tup [.agg (Q0d.cells (X.1)), .bool (X.2)]) (λX=>[])
theorem Z34:Q06 pG Z5e:=oT (.nil) Tryz.func131 Tryz.call131 [] [] 2
def Q7u(d0:Q0f)(m:List Int)(e:Q0a):Tree (Q0f×(List Int)×Bool):=
let T2:Tree ((Q0f×(List Int)×Bool)):= .an (Q08 m) (.lv (Q03 m) λ(x0:List Int)=> .lf (d0,x0,false)); .br (d0.C0 !=1) T2 (.br (e.B6 !=4) T2 (.br (decide (e.N>1)) T2 (.an (Q08 m) (.lv (Q03 m) λ(x3:List Int)=>let E3:=({Blocks:=d0.Blocks,C2:=d0.C2,Frame:=d0.Frame,C0:=2,D8:=0,B7:=0,B3:=0,C4:=[]}:Q0f);let E4:=({Blocks:=d0.Blocks,C2:=d0.C2,Frame:=d0.Frame,C0:=3,D8:=0,B7:=0,B3:=0,C4:=[]}:Q0f);let T1:Tree ((Q0f×(List Int)×Bool)):= .br (!decide (e.C9=[])) (.lf (d0,x3,false)) (.br (e.N==1) (.lf (E3,x3,true)) (.lf (E4,x3,true))); .br (e.N==1) (.br (d0.D8==1) (.lv (Q9k m d0.B3) λ(x4:Bool)=> .br (!x4) (.lf (d0,x3,false)) (.an (Q8z m (wrap i64 d0.B3) e.C9) (.lv (Q3 m (wrap i64 d0.B3) e.C9) λ(x5:List Int×Bool)=> .br (!x5.2) (.lf (d0,x5.1,false)) (.br (e.N==1) (.lf (E3,x5.1,true)) (.lf (E4,x5.1,true)))))) T1) T1))))
def Qh1 d0 m e:=(Q7u d0 m e).m
abbrev Qkx d0 m e:=(Q7u d0 m e).p
def Z1c:Q0e:=mT 132 [] true [.agg Q0f.sig, .one (.ints .u32), .agg Q0a.sig] [] (λa r=>Q7u (Q0f.of (aC a 0)) (argL .u32 a 1) (Q0a.of (aC a 2))) (λX=> .tup [.agg (Q0f.cells (X.1)), .all 0, .bool (X.2.2)]) (λX=>[⟨false,25,1, .ints .u32 (X.2.1)⟩])
theorem Qz0:Q06 pG Z1c:=oT (.cons Q0w (.cons Qqq (.cons Qez (.nil)))) Tryz.func132 Tryz.call132 [.row 25 1 (.ints .u32)] [] 2
def Qak(n:Q0q)(m:List Int)(frame:List UInt8):Tree (Q0q×(List Int)×Bool):=
let T1:Tree ((Q0q×(List Int)×Bool)):= .an (Q08 m) (.lv (Q03 m) λ(x0:List Int)=> .lf (n,x0,false)); .br (!n.C7) T1 (.br (decide ((frame.length:Int)<(1:Int))) T1 (.br (decide ((frame.length:Int)>(128:Int))) T1 (.lv (Qan m n.B9) λ(x3:Bool)=> .br (!x3) T1 (.an (Qe1 m (wrap i64 n.B9)) (.lv (Q6 m (wrap i64 n.B9)) λ(x5:List UInt8×Bool)=> .cn (decide (0<=(frame.length:Int)/\(frame.length:Int)<=(x5.1.length:Int)/\(x5.1.length:Int)<=(x5.1.length:Int))) (let E2:=dB (x5.1.length:Int)-dB (frame.length:Int);let E3:=cX (dB (frame.length:Int)) x5.1; .cn (decide (frame.length+dG (cW E2 E3)<=maxLen)) (.an (Q8z m (wrap i64 n.B9) (frame++cW E2 E3)) (.lv (Q3 m (wrap i64 n.B9) (frame++cW E2 E3)) λ(x6:List Int×Bool)=> .lf ({Frame:=n.Frame,E0:=n.E0,C7:=false,B9:=0,B8:=true,F1:=wrap u32 (frame.length:Int)},x6.1,true)))))))))
def Qm5 n m frame:=(Qak n m frame).m
abbrev Qov n m frame:=(Qak n m frame).p
def Zbl:Q0e:=mT 133 [] true [.agg Q0q.sig, .one (.ints .u32), .one (.str)] [] (λa r=>Qak (Q0q.of (aC a 0)) (argL .u32 a 1) (argS a 2)) (λX=> .tup [.agg (Q0q.cells (X.1)), .all 0, .bool (X.2.2)]) (λX=>[⟨false,25,1, .ints .u32 (X.2.1)⟩])
theorem Z5q:Q06 pG Zbl:=oT (.cons Qm3 (.cons Q0w (.cons Qke (.cons Qez (.nil))))) Tryz.func133 Tryz.call133 [.row 25 1 (.ints .u32)] [] 2
def Q4e(m:Q00)(e:Q0a):Tree (Q00×Bool):=
.an (Q08 m.Mem) (.lv (Q03 m.Mem) λ(x0:List Int)=>let E2:=({B1:=m.B1,Mem:=x0,A4:=m.A4,B0:=m.B0,B2:=m.B2,C6:=m.C6,A2:=m.A2,A1:=m.A1,A7:=m.A7,A9:=m.A9}:Q00); .an (Q3g E2) (.lv (Q1a E2) λ(x1:Bool)=>let T1:Tree ((Q00×Bool)):= .lf (E2,false); .br (!x1) T1 (.br m.A9 T1 (.br (e.B6==2) (.br (e.N==0) (.br (decide (e.C9=[])) (.lv (Qlr m.B0) λ(x2:Q0i×Bool)=> .lf ({B1:=m.B1,Mem:=x0,A4:=m.A4,B0:=x2.1,B2:=m.B2,C6:=m.C6,A2:=m.A2,A1:=m.A1,A7:=m.A7,A9:=m.A9},x2.2)) T1) T1) (.br (e.B6==3) (.br (decide (e.N<=255)) (.br (decide (e.C9=[])) (.an (Qn9 m.A4 (wrap u8 e.N)) (.lv (Qns m.A4 (wrap u8 e.N)) λ(x3:Q0d×Bool)=> .lf ({B1:=m.B1,Mem:=x0,A4:=x3.1,B0:=m.B0,B2:=m.B2,C6:=m.C6,A2:=m.A2,A1:=m.A1,A7:=m.A7,A9:=m.A9},x3.2))) T1) T1) (.br (e.B6==4) (.an (Qkx m.B2 x0 e) (.lv (Qh1 m.B2 x0 e) λ(x4:Q0f×List Int×Bool)=> .lf ({B1:=m.B1,Mem:=x4.2.1,A4:=m.A4,B0:=m.B0,B2:=x4.1,C6:=m.C6,A2:=m.A2,A1:=m.A1,A7:=m.A7,A9:=m.A9},x4.2.2))) (.br (e.B6==5) (.br (e.N==0) (.an (Qov m.C6 x0 e.C9) (.lv (Qm5 m.C6 x0 e.C9) λ(x5:Q0q×List Int×Bool)=> .lf ({B1:=m.B1,Mem:=x5.2.1,A4:=m.A4,B0:=m.B0,B2:=m.B2,C6:=x5.1,A2:=m.A2,A1:=m.A1,A7:=m.A7,A9:=m.A9},x5.2.2))) T1) (.br (e.B6==6) (.br (decide (e.C9=[])) (.lf ({B1:=m.B1,Mem:=x0,A4:=m.A4,B0:=m.B0,B2:=m.B2,C6:=m.C6,A2:={D0:=e.N,C3:=m.A2.C3},A1:=m.A1,A7:=m.A7,A9:=m.A9},true)) T1) T1))))))))
def Q54 m e:=(Q4e m e).m
abbrev Q7o m e:=(Q4e m e).p
def Z17:Q0e:=mT 38 [] true [.agg Q00.sig, .agg Q0a.sig] [] (λa r=>Q4e (Q00.of (aC a 0)) (Q0a.of (aC a 1))) (λX=> .tup [.agg (Q00.cellsW (X.1) (.all 0)), .bool (X.2)]) (λX=>[⟨false,25,1, .ints .u32 (X.1).Mem⟩])
theorem Qc2:Q06 pG Z17:=oT (.cons Q0w (.cons Q8o (.cons Zba (.cons Z34 (.cons Qz0 (.cons Z5q (.nil))))))) Tryz.func38 Tryz.call38 [.row 25 1 (.ints .u32)] [] 2
end
noncomputable section
instance sumInhRa {α β:Type} [Inhabited β]:Inhabited (α⊕β):=⟨.inr default⟩
def Q12(s:List Q0c):(List Q0c):=
s
def Q0z(s:List Q0c):Prop:=
s.length<=3518437208883
def Q2u(s:List Q0c):List D:=[.sl 4 (.recs .apiEntry s) false]
def Q22(s:List Q0c):List Row:=[]
def Q1d(X:List Q0c):D:= .all 0
def Q1e(X:List Q0c):List Row:=[⟨false,126,4, .recs .apiEntry X⟩]
def Qb6:List Dir:=[.row 126 4 (.recs .apiEntry)]
def Q5e:List PT:=[.one (.recs .apiEntry)]
def Q51:List RT:=[]
def Qbh(args:List D)(rows:List Row):(List Q0c):=Q12 (argR .apiEntry args 0)
def Qbt(args:List D)(rows:List Row):Prop:=Q0z (argR .apiEntry args 0)
def Qd4:Q0e:=mkP 210 [] true Q5e Q51 Qbt Qbh Q1d Q1e
def Q3c(s:List Q0c)(Leaf:(List Q0c)->Prop):Prop:=
(s=[]->Leaf [])/\cand (decide ((40:Nat)*((0:Nat)+s.length)<=(140737488355328:Nat))) (Leaf s)
set_option maxRecDepth 100000 in
theorem Qck(s:List Q0c)(Q:D->List Row->Prop):(fnVC tab [] (LL tab [] Tryz.f210.ntmps 0 [] 2) Tryz.f210 (Q2u s) (Q22 s) λd R=>Q9z (Q22 s).length Qb6 d R Q)=Q3c s (λX=>Q (Q1d X) (Q1e X)):=by kernel_rfl
theorem Qaw(s:List Q0c)(Leaf:(List Q0c)->Prop)(hw:Q0z s)(h:Leaf (Q12 s)):
Q3c s Leaf:=by
 delta Q3c
 refine⟨λe=>by rw[e]at h;exact h,?_⟩
 rw[Q07]
 refine⟨dY ?_,h⟩
 have:s.length<=3518437208883:=hw
 omega
set_option maxRecDepth 100000 in
theorem Qac(s:List Q0c)(hw:Q0z s):Q4f pG 210 (Q2u s) (Q22 s) (Q1d (Q12 s)) (Q1e (Q12 s)):=
 have hG:Q79 pG []:= .nil
 FnOK.calls drawn Q0l hG Tryz.func210 (rf:=none) (λ_ _=>trivial) (Znw drawn Q0l hG (.inl rfl) 2 (invs:=[])) (FnOK.of (Qck s _) (Qaw s (λX=>Q1d X=Q1d (Q12 s)/\Q1e X=Q1e (Q12 s)) hw ⟨rfl,rfl⟩))
set_option maxRecDepth 100000 in
theorem Qb5(args:List D)(rows:List Row):Qg8 Q5e args 0=Q2u (argR .apiEntry args 0):=by kernel_rfl
set_option maxRecDepth 100000 in
theorem Qa8(args:List D)(rows:List Row):Q66 Q51 rows 0=Q22 (argR .apiEntry args 0):=by kernel_rfl
set_option maxRecDepth 100000 in
theorem Qcs(X:List Q0c):(ffB (Q1d X)&&ffBR (Q1e X))=true:=by kernel_rfl
theorem Q5r:Q06 pG Qd4:=Qyl Tryz.call210 (λargs rows hp=>by rw[Qb5 args rows,Qa8 args rows];exact Qac (argR .apiEntry args 0) hp) (λ_ X=>Qcs X)
def Q19(s:List Q0a):(List Q0a):=
s
def Q11(s:List Q0a):Prop:=
s.length<=3518437208883
def Q2s(s:List Q0a):List D:=[.sl 3 (.recs .apiEvent s) false]
def Q21(s:List Q0a):List Row:=[]
def Q1f(X:List Q0a):D:= .all 0
def Q1c(X:List Q0a):List Row:=[⟨false,66,3, .recs .apiEvent X⟩]
def Qay:List Dir:=[.row 66 3 (.recs .apiEvent)]
def Q5b:List PT:=[.one (.recs .apiEvent)]
def Q5:List RT:=[]
def Qbu(args:List D)(rows:List Row):(List Q0a):=Q19 (argR .apiEvent args 0)
def Qbi(args:List D)(rows:List Row):Prop:=Q11 (argR .apiEvent args 0)
def Qd2:Q0e:=mkP 211 [] true Q5b Q5 Qbi Qbu Q1f Q1c
def Q3b(s:List Q0a)(Leaf:(List Q0a)->Prop):Prop:=
(s=[]->Leaf [])/\cand (decide ((32:Nat)*((0:Nat)+s.length)<=(140737488355328:Nat))) (Leaf s)
set_option maxRecDepth 100000 in
theorem Qc7(s:List Q0a)(Q:D->List Row->Prop):(fnVC tab [] (LL tab [] Tryz.f211.ntmps 0 [] 2) Tryz.f211 (Q2s s) (Q21 s) λd R=>Q9z (Q21 s).length Qay d R Q)=Q3b s (λX=>Q (Q1f X) (Q1c X)):=by kernel_rfl
theorem Qau(s:List Q0a)(Leaf:(List Q0a)->Prop)(hw:Q11 s)(h:Leaf (Q19 s)):
Q3b s Leaf:=by
 delta Q3b
 refine⟨λe=>by rw[e]at h;exact h,?_⟩
 rw[Q07]
 refine⟨dY ?_,h⟩
 have:s.length<=3518437208883:=hw
 omega
set_option maxRecDepth 100000 in
theorem Qag(s:List Q0a)(hw:Q11 s):Q4f pG 211 (Q2s s) (Q21 s) (Q1f (Q19 s)) (Q1c (Q19 s)):=
 have hG:Q79 pG []:= .nil
 FnOK.calls drawn Q0l hG Tryz.func211 (rf:=none) (λ_ _=>trivial) (Znw drawn Q0l hG (.inl rfl) 2 (invs:=[])) (FnOK.of (Qc7 s _) (Qau s (λX=>Q1f X=Q1f (Q19 s)/\Q1c X=Q1c (Q19 s)) hw ⟨rfl,rfl⟩))
set_option maxRecDepth 100000 in
theorem Qb(args:List D)(rows:List Row):Qg8 Q5b args 0=Q2s (argR .apiEvent args 0):=by kernel_rfl
set_option maxRecDepth 100000 in
theorem Qar(args:List D)(rows:List Row):Q66 Q5 rows 0=Q21 (argR .apiEvent args 0):=by kernel_rfl
set_option maxRecDepth 100000 in
theorem Qcm(X:List Q0a):(ffB (Q1f X)&&ffBR (Q1c X))=true:=by kernel_rfl
theorem Qc6:Q06 pG Qd2:=Qyl Tryz.call211 (λargs rows hp=>by rw[Qb args rows,Qar args rows];exact Qag (argR .apiEvent args 0) hp) (λ_ X=>Qcm X)
def Q5s(r:Q01):Tree Q01:=
.an (Q08 r.A0.Mem) (.lv (Q03 r.A0.Mem) λ(x0:List Int)=> .an (Q0z r.B4) (.lv (Q12 r.B4) λ(x1:List Q0c)=> .an (Q11 r.A6) (.lv (Q19 r.A6) λ(x2:List Q0a)=> .lf ({A0:={B1:=r.A0.B1,Mem:=x0,A4:=r.A0.A4,B0:=r.A0.B0,B2:=r.A0.B2,C6:=r.A0.C6,A2:=r.A0.A2,A1:=r.A0.A1,A7:=r.A0.A7,A9:=r.A0.A9},A3:=r.A3,B4:=x1,A6:=x2}))))
def Qa7 r:=(Q5s r).m
abbrev Q41 r:=(Q5s r).p
def Z2s:Q0e:=mT 145 [] true [.agg Q01.sig] [] (λa r=>Q5s (Q01.of (aC a 0))) (λX=> .agg (Q01.cellsW X (.all 0) (.all 1) (.all 2))) (λX=>[⟨false,25,1, .ints .u32 X.A0.Mem⟩,⟨false,126,4, .recs .apiEntry X.B4⟩,⟨false,66,3, .recs .apiEvent X.A6⟩])
theorem Qc0:Q06 pG Z2s:=oT (.cons Q0w (.cons Q5r (.cons Qc6 (.nil)))) Tryz.func145 Tryz.call145 [.row 25 1 (.ints .u32), .row 126 4 (.recs .apiEntry), .row 66 3 (.recs .apiEvent)] [] 2
def Q9g(m:Q00):Tree Q01:=
.an (Q41 {A0:=m,A3:=0,B4:=[],A6:=[]}) (.lv (Qa7 {A0:=m,A3:=0,B4:=[],A6:=[]}) λ(x0:Q01)=> .lf x0)
def Qvx m:=(Q9g m).m
abbrev Qf4 m:=(Q9g m).p
def Zgn:Q0e:=mT 54 [] true [.agg Q00.sig] [] (λa r=>Q9g (Q00.of (aC a 0))) (λX=> .agg (Q01.cellsW X (.all 0) (.all 1) (.all 2))) (λX=>[⟨false,25,1, .ints .u32 X.A0.Mem⟩,⟨false,126,4, .recs .apiEntry X.B4⟩,⟨false,66,3, .recs .apiEvent X.A6⟩])
theorem Quc:Q06 pG Zgn:=oT (.cons Qc0 (.nil)) Tryz.func54 Tryz.call54 [.row 25 1 (.ints .u32), .row 126 4 (.recs .apiEntry), .row 66 3 (.recs .apiEvent)] [] 2
def Qgn(e:Q0a):Tree Bool:=
.br (e.B6==1) (.lf (decide (e.C9=[]))) (.br (e.B6==6) (.lf (decide (e.C9=[]))) (.br (e.B6==2) (.br (e.N==0) (.lf (decide (e.C9=[]))) (.lf false)) (.br (e.B6==3) (.br (decide (e.N<=255)) (.lf (decide (e.C9=[]))) (.lf false)) (.br (e.B6==4) (.br (e.N==1) (.br (decide (e.C9=[])) (.lf true) (.lf ((e.C9.length:Int)==(128:Int)))) (.br (e.N==0) (.lf (decide (e.C9=[]))) (.lf false))) (.br (e.B6==5) (.br (e.N==0) (.br (decide ((e.C9.length:Int)>=(1:Int))) (.lf (decide ((e.C9.length:Int)<=(128:Int)))) (.lf false)) (.lf false)) (.lf false))))))
def Qbk e:=(Qgn e).m
def Qyv:Q0e:=mS 150 [] true [.agg Q0a.sig] [] (λa r=>Qgn (Q0a.of (aC a 0))) (λX=> .bool X) (λX=>[])
theorem Qky:Q06 pG Qyv:=oS (.nil) Tryz.func150 Tryz.call150 [] [] 2
def Q9a(r:Q01)(e:Q0a):Tree (Q01×Bool):=
.an (Q41 r) (.lv (Qa7 r) λ(x0:Q01)=> .lv (Qbk e) λ(x1:Bool)=> .br (!x1) (.lf (x0,false)) (.br (e.B6==1) (.lf (x0,false)) (.br (decide ((x0.A6.length:Int)>=(16:Int))) (.lf (x0,false)) (.cn (decide (32*(x0.A6.length+1)<=140737488355328)) (.lf ({A0:=x0.A0,A3:=x0.A3,B4:=x0.B4,A6:=x0.A6++[e]},true))))))
def Qse r e:=(Q9a r e).m
abbrev Qkw r e:=(Q9a r e).p
def Z48:Q0e:=mT 78 [] true [.agg Q01.sig, .agg Q0a.sig] [] (λa r=>Q9a (Q01.of (aC a 0)) (Q0a.of (aC a 1))) (λX=> .tup [.agg (Q01.cellsW (X.1) (.all 0) (.all 1) (.all 2)), .bool (X.2)]) (λX=>[⟨false,25,1, .ints .u32 (X.1).A0.Mem⟩,⟨false,126,4, .recs .apiEntry (X.1).B4⟩,⟨false,66,3, .recs .apiEvent (X.1).A6⟩])
theorem Qys:Q06 pG Z48:=oT (.cons Qc0 (.cons Qky (.nil))) Tryz.func78 Tryz.call78 [.row 25 1 (.ints .u32), .row 126 4 (.recs .apiEntry), .row 66 3 (.recs .apiEvent)] [] 2
def Qfg(r:Q01):Tree (Q01×(List Q0c)×Int):=
.an (Q41 r) (.lv (Qa7 r) λ(x0:Q01)=> .lf ({A0:=x0.A0,A3:=x0.A3,B4:=[],A6:=x0.A6},x0.B4,x0.A0.A1))
def Z80 r:=(Qfg r).m
abbrev Qr5 r:=(Qfg r).p
def Zcz:Q0e:=mT 56 [] true [.agg Q01.sig] [] (λa r=>Qfg (Q01.of (aC a 0))) (λX=> .tup [.agg (Q01.cellsW (X.1) (.all 0) (.all 1) (.all 2)), .all 3, .int .u64 (X.2.2)]) (λX=>[⟨false,25,1, .ints .u32 (X.1).A0.Mem⟩,⟨false,126,4, .recs .apiEntry (X.1).B4⟩,⟨false,66,3, .recs .apiEvent (X.1).A6⟩,⟨false,126,4, .recs .apiEntry (X.2.1)⟩])
theorem Z94:Q06 pG Zcz:=oT (.cons Qc0 (.nil)) Tryz.func56 Tryz.call56 [.row 25 1 (.ints .u32), .row 126 4 (.recs .apiEntry), .row 66 3 (.recs .apiEvent), .row 126 4 (.recs .apiEntry)] [] 2
def Z10(t:Q0i)(now:Int):Tree Bool:=
.br t.D2 (.lf (decide (now>=t.C8))) (.lf false)
def Zej t now:=(Z10 t now).m
def Zjg:Q0e:=mS 165 [] true [.agg Q0i.sig, .one (.int .u32)] [] (λa r=>Z10 (Q0i.of (aC a 0)) (argI a 1)) (λX=> .bool X) (λX=>[])
theorem Zdv:Q06 pG Zjg:=oS (.nil) Tryz.func165 Tryz.call165 [] [] 2
def Q6p(e:Q0a)(fr0:Q01):Tree Q01:=
.cn (decide (40*(fr0.B4.length+1)<=140737488355328)) (.lf ({A0:=fr0.A0,A3:=fr0.A3,B4:=fr0.B4++[{At:=fr0.A0.A1,C1:=e}],A6:=fr0.A6}))
def Qge e fr0:=(Q6p e fr0).m
abbrev Qb0 e fr0:=(Q6p e fr0).p
def Qtu:Q0e:=mkKP 1 163 [false,true] [.agg Q0a.sig, .ptr 0] [.box 96 52 (Q01.sigW (.ints .u32) (.row 1) (.recs .apiEvent)), .arr 126 4 (.recs .apiEntry)] (λa r=>Qb0 (Q0a.of (aC a 0)) (Q01.ofW (r.getD 0 default).cs (slI .u32 (((r.getD 0 default).cs).getD 25 .dead)) (rowR .apiEntry r 1) (slR .apiEvent (((r.getD 0 default).cs).getD 51 .dead)))) (λa r=>Qge (Q0a.of (aC a 0)) (Q01.ofW (r.getD 0 default).cs (slI .u32 (((r.getD 0 default).cs).getD 25 .dead)) (rowR .apiEntry r 1) (slR .apiEvent (((r.getD 0 default).cs).getD 51 .dead)))) (λX=> .tup []) (λX=>[⟨true,96,52, .gen [(Q01.cellsW X (.sl 1 (.ints .u32 X.A0.Mem) false) (.all 1) (.sl 3 (.recs .apiEvent X.A6) false))]⟩,⟨false,126,4, .recs .apiEntry X.B4⟩])
theorem Qs7:Q06 pG Qtu:=Zbz drawn Q0l (.nil) Tryz.func163 Tryz.call163 (λa r=>Q6p (Q0a.of (aC a 0)) (Q01.ofW (r.getD 0 default).cs (slI .u32 (((r.getD 0 default).cs).getD 25 .dead)) (rowR .apiEntry r 1) (slR .apiEvent (((r.getD 0 default).cs).getD 51 .dead)))) [.sl (.ints .u32) false, .row 126 4 (.recs .apiEntry), .sl (.recs .apiEvent) false] [] 2 (λ_ _ _=>by kernel_rfl) (λ_ _=>rfl) (λ_ _ h=>h)
def Q60(e:Q0a)(fr0:Q01):Tree Q01:=
.cn (decide (40*(fr0.B4.length+1)<=140737488355328)) (.lf ({A0:=fr0.A0,A3:=fr0.A3,B4:=fr0.B4++[{At:=fr0.A0.A1,C1:=e}],A6:=fr0.A6}))
def Qle e fr0:=(Q60 e fr0).m
abbrev Qg e fr0:=(Q60 e fr0).p
def Qra:Q0e:=mkKP 1 163 [false,true] [.agg Q0a.sig, .ptr 0] [.box 96 52 (Q01.sigW (.row 1) (.row 2) (.recs .apiEvent)), .arr 25 1 (.ints .u32), .arr 126 4 (.recs .apiEntry)] (λa r=>Qg (Q0a.of (aC a 0)) (Q01.ofW (r.getD 0 default).cs (rowL .u32 r 1) (rowR .apiEntry r 2) (slR .apiEvent (((r.getD 0 default).cs).getD 51 .dead)))) (λa r=>Qle (Q0a.of (aC a 0)) (Q01.ofW (r.getD 0 default).cs (rowL .u32 r 1) (rowR .apiEntry r 2) (slR .apiEvent (((r.getD 0 default).cs).getD 51 .dead)))) (λX=> .tup []) (λX=>[⟨true,96,52, .gen [(Q01.cellsW X (.all 1) (.all 2) (.sl 3 (.recs .apiEvent X.A6) false))]⟩,⟨false,25,1, .ints .u32 X.A0.Mem⟩,⟨false,126,4, .recs .apiEntry X.B4⟩])
theorem Qqf:Q06 pG Qra:=Zbz drawn Q0l (.nil) Tryz.func163 Tryz.call163 (λa r=>Q60 (Q0a.of (aC a 0)) (Q01.ofW (r.getD 0 default).cs (rowL .u32 r 1) (rowR .apiEntry r 2) (slR .apiEvent (((r.getD 0 default).cs).getD 51 .dead)))) [.row 25 1 (.ints .u32), .row 126 4 (.recs .apiEntry), .sl (.recs .apiEvent) false] [] 2 (λ_ _ _=>by kernel_rfl) (λ_ _=>rfl) (λ_ _ h=>h)
def Q6n(e:Q0a)(fr0:Q01):Tree Q01:=
.an (Q7o fr0.A0 e) (.lv (Q54 fr0.A0 e) λ(x0:Q00×Bool)=> .br x0.2 (.an (Qg e {A0:=x0.1,A3:=fr0.A3,B4:=fr0.B4,A6:=fr0.A6}) (.lv (Qle e {A0:=x0.1,A3:=fr0.A3,B4:=fr0.B4,A6:=fr0.A6}) λ(x1:Q01)=> .lf x1)) (.lf fr0))
def Qgd e fr0:=(Q6n e fr0).m
abbrev Qb2 e fr0:=(Q6n e fr0).p
def Quv:Q0e:=mkKP 2 164 [false,true,true] [.agg Q0a.sig, .ptr 0, .ptr 1] [.box 96 52 (Q01.sigW (.ints .u32) (.row 2) (.recs .apiEvent)), .box 228 1 [.clo 163 [.ptr 0 0 0]], .arr 126 4 (.recs .apiEntry)] (λa r=>Qb2 (Q0a.of (aC a 0)) (Q01.ofW (r.getD 0 default).cs (slI .u32 (((r.getD 0 default).cs).getD 25 .dead)) (rowR .apiEntry r 2) (slR .apiEvent (((r.getD 0 default).cs).getD 51 .dead)))) (λa r=>Qgd (Q0a.of (aC a 0)) (Q01.ofW (r.getD 0 default).cs (slI .u32 (((r.getD 0 default).cs).getD 25 .dead)) (rowR .apiEntry r 2) (slR .apiEvent (((r.getD 0 default).cs).getD 51 .dead)))) (λX=> .tup []) (λX=>[⟨true,96,52, .gen [(Q01.cellsW X (.sl 1 (.ints .u32 X.A0.Mem) false) (.all 2) (.sl 3 (.recs .apiEvent X.A6) false))]⟩,⟨true,228,1, .gen [[.clo 163 [.ptr 0 0 0]]]⟩,⟨false,126,4, .recs .apiEntry X.B4⟩])
theorem Qsa:Q06 pG Quv:=Zbz drawn Q0l (.cons Qc2 (.cons Qqf (.nil))) Tryz.func164 Tryz.call164 (λa r=>Q6n (Q0a.of (aC a 0)) (Q01.ofW (r.getD 0 default).cs (slI .u32 (((r.getD 0 default).cs).getD 25 .dead)) (rowR .apiEntry r 2) (slR .apiEvent (((r.getD 0 default).cs).getD 51 .dead)))) [.sl (.ints .u32) false, .row 126 4 (.recs .apiEntry), .sl (.recs .apiEvent) false] [] 2 (λ_ _ _=>by kernel_rfl) (λ_ _=>rfl) (λ_ _ h=>h)
def Qgv(r:Q01)(steps clock:Int)(z:(Int)×Q01):Nat:=(z.2.A6.length-z.1).toNat
def Q7f(r:Q01)(steps clock:Int)(v0:Int×Q01)(z:(Int)×Q01×(List Q04)):Nat:=(4000-z.1).toNat
def Q6g(r:Q01)(steps clock:Int):Tree (Q01×(List Q04)):=
.an (Q41 r) (.lv (Qa7 r) λ(x0:Q01)=> .an (Q3g x0.A0) (.lv (Q1a x0.A0) λ(x1:Bool)=> .br (!x1) (.lf (x0,[])) (.lp inferInstance (Qgv r steps clock (0,{A0:=x0.A0,A3:=if clock>x0.A3 then clock else x0.A3,B4:=x0.B4,A6:=x0.A6})+1) ((rE (steps:Int)/\rZ/\rZ/\rZ/\True/\rE x0.A6/\rE ((x0.A6.length:Int):Int)/\rE (0:Int)/\True)/\(mE x0.A0 (rE x0.A0.Mem) (rE ((if clock>x0.A3 then clock else x0.A3):Int)/\True/\rE x0.A6/\True))/\rE x0.B4/\(mE zM True (rE (0:Int)/\True/\True/\True))/\(True/\True)/\True) (0,{A0:=x0.A0,A3:=if clock>x0.A3 then clock else x0.A3,B4:=x0.B4,A6:=x0.A6}) λ(v0:Int×Q01)=> .br (decide (v0.1<(x0.A6.length:Int))) (.cn (bS 3 3&&bT 0 3&&decide (0<=v0.1/\v0.1<(x0.A6.length:Int))) (let E1:=x0.A6.getD v0.1.toNat (RK.dflt RK.apiEvent); .an (Qb2 E1 v0.2) (.lv (Qgd E1 v0.2) λ(x2:Q01)=> .nx ((rE (steps:Int)/\rZ/\rZ/\rZ/\True/\((Els.Nil (Els.recs RK.apiEvent x0.A6)\/eqAt Nat 3 3)/\rE x0.A6)/\rE ((x0.A6.length:Int):Int)/\rE ((wrap i64 (v0.1+1)):Int)/\True)/\(mE x2.A0 (((Els.Nil (Els.ints u32 x2.A0.Mem)\/rE (1:Nat))/\rE x2.A0.Mem)) (rE x2.A3/\True/\((Els.Nil (Els.recs RK.apiEvent x2.A6)\/rE (3:Nat))/\rE x2.A6)/\True))/\rE x2.B4/\(mE zM True (rE (0:Int)/\True/\True/\True))/\(True/\True)/\True) (Sum.inl (wrap i64 (v0.1+1),x2))))) (.lp inferInstance (Q7f r steps clock v0 (0,{A0:=v0.2.A0,A3:=v0.2.A3,B4:=v0.2.B4,A6:=[]},[])+1) ((rZ/\rZ/\rZ/\True/\True/\rE ((if 4000<if 0>steps then 0 else steps then 4000 else if 0>steps then 0 else steps):Int)/\rE (0:Int)/\True)/\(mE v0.2.A0 (((Els.Nil (Els.ints u32 v0.2.A0.Mem)\/eqAt Nat 1 1)/\rE v0.2.A0.Mem)) (rE v0.2.A3/\True/\rE ([]:List (RK.T RK.apiEvent))/\True))/\rE v0.2.B4/\(mE zM True (rE (0:Int)/\True/\True/\True))/\(True/\True)/\rE ([]:List (RK.T RK.apiOutput))/\True) (0,{A0:=v0.2.A0,A3:=v0.2.A3,B4:=v0.2.B4,A6:=[]},[]) λ(v1:Int×Q01×List Q04)=> .br (decide (v1.1<if 4000<if 0>steps then 0 else steps then 4000 else if 0>steps then 0 else steps)) (.lv (Zej v1.2.1.A0.B0 v1.2.1.A3) λ(x3:Bool)=> .br x3 (.an (Qb2 {B6:=2,N:=0,C9:=[]} v1.2.1) (.lv (Qgd {B6:=2,N:=0,C9:=[]} v1.2.1) λ(x4:Q01)=> .br x4.A0.A9 (.lf (Sum.inr (Sum.inr (x4,v1.2.2)))) (.an (Q3q x4.A0) (.lv (Q37 x4.A0) λ(x5:Bool)=> .br x5 (.lf (Sum.inr (Sum.inr (x4,v1.2.2)))) (.br (x4.A0.A1==1152921504606846976) (.lf (Sum.inr (Sum.inr (x4,v1.2.2)))) (.an (Q1r x4.A0) (.lv (Q2 x4.A0) λ(x6:Bool)=> .br x6 (.an (Qb0 {B6:=1,N:=x4.A3,C9:=[]} x4) (.lv (Qge {B6:=1,N:=x4.A3,C9:=[]} x4) λ(x7:Q01)=> .an (Q2m x7.A0 x7.A3) (.lv (Q1z x7.A0 x7.A3) λ(x8:Q00×List Q04)=> .cn (decide (40*(v1.2.2.length+x8.2.length)<=140737488355328)) (.nx ((rZ/\rZ/\rZ/\True/\True/\rE ((if 4000<if 0>steps then 0 else steps then 4000 else if 0>steps then 0 else steps):Int)/\rE ((wrap i64 (v1.1+1)):Int)/\True)/\(mE x8.1 (((Els.Nil (Els.ints u32 x8.1.Mem)\/rE (1:Nat))/\rE x8.1.Mem)) (rE ((wrap u32 (x7.A3+1)):Int)/\True/\((Els.Nil (Els.recs RK.apiEvent x7.A6)\/rE (3:Nat))/\rE x7.A6)/\True))/\rE x7.B4/\(mE zM True (rE (0:Int)/\True/\True/\True))/\(True/\True)/\rE ((v1.2.2++x8.2):List (RK.T RK.apiOutput))/\True) (Sum.inl (wrap i64 (v1.1+1),{A0:=x8.1,A3:=wrap u32 (x7.A3+1),B4:=x7.B4,A6:=x7.A6},v1.2.2++x8.2)))))) (.an (Q2m x4.A0 x4.A3) (.lv (Q1z x4.A0 x4.A3) λ(x9:Q00×List Q04)=> .cn (decide (40*(v1.2.2.length+x9.2.length)<=140737488355328)) (.nx ((rZ/\rZ/\rZ/\True/\True/\rE ((if 4000<if 0>steps then 0 else steps then 4000 else if 0>steps then 0 else steps):Int)/\rE ((wrap i64 (v1.1+1)):Int)/\True)/\(mE x9.1 (((Els.Nil (Els.ints u32 x9.1.Mem)\/rE (1:Nat))/\rE x9.1.Mem)) (rE ((wrap u32 (x4.A3+1)):Int)/\True/\((Els.Nil (Els.recs RK.apiEvent x4.A6)\/rE (3:Nat))/\rE x4.A6)/\True))/\rE x4.B4/\(mE zM True (rE (0:Int)/\True/\True/\True))/\(True/\True)/\rE ((v1.2.2++x9.2):List (RK.T RK.apiOutput))/\True) (Sum.inl (wrap i64 (v1.1+1),{A0:=x9.1,A3:=wrap u32 (x4.A3+1),B4:=x4.B4,A6:=x4.A6},v1.2.2++x9.2)))))))))))) (.br v1.2.1.A0.A9 (.lf (Sum.inr (Sum.inr (v1.2.1,v1.2.2)))) (.an (Q3q v1.2.1.A0) (.lv (Q37 v1.2.1.A0) λ(x10:Bool)=> .br x10 (.lf (Sum.inr (Sum.inr (v1.2.1,v1.2.2)))) (.br (v1.2.1.A0.A1==1152921504606846976) (.lf (Sum.inr (Sum.inr (v1.2.1,v1.2.2)))) (.an (Q1r v1.2.1.A0) (.lv (Q2 v1.2.1.A0) λ(x11:Bool)=> .br x11 (.an (Qb0 {B6:=1,N:=v1.2.1.A3,C9:=[]} v1.2.1) (.lv (Qge {B6:=1,N:=v1.2.1.A3,C9:=[]} v1.2.1) λ(x12:Q01)=> .an (Q2m x12.A0 x12.A3) (.lv (Q1z x12.A0 x12.A3) λ(x13:Q00×List Q04)=> .cn (decide (40*(v1.2.2.length+x13.2.length)<=140737488355328)) (.nx ((rZ/\rZ/\rZ/\True/\True/\rE ((if 4000<if 0>steps then 0 else steps then 4000 else if 0>steps then 0 else steps):Int)/\rE ((wrap i64 (v1.1+1)):Int)/\True)/\(mE x13.1 (((Els.Nil (Els.ints u32 x13.1.Mem)\/rE (1:Nat))/\rE x13.1.Mem)) (rE ((wrap u32 (x12.A3+1)):Int)/\True/\((Els.Nil (Els.recs RK.apiEvent x12.A6)\/rE (3:Nat))/\rE x12.A6)/\True))/\rE x12.B4/\(mE zM True (rE (0:Int)/\True/\True/\True))/\(True/\True)/\rE ((v1.2.2++x13.2):List (RK.T RK.apiOutput))/\True) (Sum.inl (wrap i64 (v1.1+1),{A0:=x13.1,A3:=wrap u32 (x12.A3+1),B4:=x12.B4,A6:=x12.A6},v1.2.2++x13.2)))))) (.an (Q2m v1.2.1.A0 v1.2.1.A3) (.lv (Q1z v1.2.1.A0 v1.2.1.A3) λ(x14:Q00×List Q04)=> .cn (decide (40*(v1.2.2.length+x14.2.length)<=140737488355328)) (.nx ((rZ/\rZ/\rZ/\True/\True/\rE ((if 4000<if 0>steps then 0 else steps then 4000 else if 0>steps then 0 else steps):Int)/\rE ((wrap i64 (v1.1+1)):Int)/\True)/\(mE x14.1 (((Els.Nil (Els.ints u32 x14.1.Mem)\/rE (1:Nat))/\rE x14.1.Mem)) (rE ((wrap u32 (v1.2.1.A3+1)):Int)/\True/\((Els.Nil (Els.recs RK.apiEvent v1.2.1.A6)\/eqAt Nat 3 3)/\rE v1.2.1.A6)/\True))/\rE v1.2.1.B4/\(mE zM True (rE (0:Int)/\True/\True/\True))/\(True/\True)/\rE ((v1.2.2++x14.2):List (RK.T RK.apiOutput))/\True) (Sum.inl (wrap i64 (v1.1+1),{A0:=x14.1,A3:=wrap u32 (v1.2.1.A3+1),B4:=v1.2.1.B4,A6:=v1.2.1.A6},v1.2.2++x14.2)))))))))))) (.lf (Sum.inr (Sum.inr (v1.2.1,v1.2.2))))))))
def Qr8 r steps clock:=(Q6g r steps clock).m
abbrev Qjv r steps clock:=(Q6g r steps clock).p
def Qw9:LInv:={
 α:=(Int)×Q01
 F:=λst a=>([(1,(lk st 1)),(3, .ptr 0 0 0),(6, .ptr 2 0 0),(8, .ptr 3 0 0),(9, .clo 164 [.ptr 0 0 0, .ptr 3 0 0]),(29, .sl 3 (esOf st.rows (rN st 29)) false),(30,(lk st 30)),(31, .int i64 a.1)],[⟨true,96,52, .gen [[.int u32 a.2.A0.B1.X.a0, .int u32 a.2.A0.B1.X.a1, .int u32 a.2.A0.B1.X.a2, .int u32 a.2.A0.B1.X.a3, .int u32 a.2.A0.B1.X.a4, .int u32 a.2.A0.B1.X.a5, .int u32 a.2.A0.B1.X.a6, .int u32 a.2.A0.B1.X.a7, .int u32 a.2.A0.B1.X.a8, .int u32 a.2.A0.B1.X.a9, .int u32 a.2.A0.B1.X.a10, .int u32 a.2.A0.B1.X.a11, .int u32 a.2.A0.B1.X.a12, .int u32 a.2.A0.B1.X.a13, .int u32 a.2.A0.B1.X.a14, .int u32 a.2.A0.B1.X.a15, .int u32 a.2.A0.B1.Pc, .int u32 a.2.A0.B1.B5.a0, .int u32 a.2.A0.B1.B5.a1, .int u32 a.2.A0.B1.B5.a2, .int u32 a.2.A0.B1.B5.a3, .int u32 a.2.A0.B1.B5.a4, .int u32 a.2.A0.B1.B5.a5, .int u32 a.2.A0.B1.B5.a6, .int u32 a.2.A0.B1.B5.a7, .sl 1 (.ints u32 a.2.A0.Mem) false, .str a.2.A0.A4.D3, .bool a.2.A0.B0.D2, .int u32 a.2.A0.B0.C8, .bool a.2.A0.B0.D5, .int u32 a.2.A0.B2.Blocks, .int u32 a.2.A0.B2.C2, .int u32 a.2.A0.B2.Frame, .int i64 a.2.A0.B2.C0, .int i64 a.2.A0.B2.D8, .int u32 a.2.A0.B2.B7, .int u32 a.2.A0.B2.B3, .str a.2.A0.B2.C4, .int u32 a.2.A0.C6.Frame, .int u32 a.2.A0.C6.E0, .bool a.2.A0.C6.C7, .int u32 a.2.A0.C6.B9, .bool a.2.A0.C6.B8, .int u32 a.2.A0.C6.F1, .int u32 a.2.A0.A2.D0, .int u32 a.2.A0.A2.C3, .int u64 a.2.A0.A1, .bool a.2.A0.A7, .bool a.2.A0.A9, .int u32 a.2.A3, .all 1, .sl 3 (.recs RK.apiEvent a.2.A6) false]]⟩,⟨false,126,4, .recs RK.apiEntry a.2.B4⟩,⟨true,96,52, .gen [[(cT st 6 0),(cT st 6 1),(cT st 6 2),(cT st 6 3),(cT st 6 4),(cT st 6 5),(cT st 6 6),(cT st 6 7),(cT st 6 8),(cT st 6 9),(cT st 6 10),(cT st 6 11),(cT st 6 12),(cT st 6 13),(cT st 6 14),(cT st 6 15),(cT st 6 16),(cT st 6 17),(cT st 6 18),(cT st 6 19),(cT st 6 20),(cT st 6 21),(cT st 6 22),(cT st 6 23),(cT st 6 24),(cT st 6 25),(cT st 6 26),(cT st 6 27),(cT st 6 28),(cT st 6 29),(cT st 6 30),(cT st 6 31),(cT st 6 32),(cT st 6 33),(cT st 6 34),(cT st 6 35),(cT st 6 36),(cT st 6 37),(cT st 6 38),(cT st 6 39),(cT st 6 40),(cT st 6 41),(cT st 6 42),(cT st 6 43),(cT st 6 44),(cT st 6 45),(cT st 6 46),(cT st 6 47),(cT st 6 48),(cT st 6 49),(cT st 6 50),(cT st 6 51)]]⟩,⟨true,228,1, .gen [[.clo 163 [.ptr 0 0 0]]]⟩])
 a0:=λst=>((lk st 31).toInt,(⟨(mR (cT st 3) (frzI u32 st.rows (cT st 3 25))),(cT st 3 49).toInt,(Q5g RK.apiEntry st.rows (Q0x (cT st 3 50) 1000000)),(frzR RK.apiEvent st.rows (cT st 3 51))⟩:Q01))
 ex0:=λst=>[]++[(rX st 3 0),(Q0x (cT st 3 50) (st.rows.length+1)),(rX st 6 2),(rX st 8 3)]}
def Qx3:LInv:={
 α:=(Int)×Q01×(List Q04)
 F:=λst a=>([(3, .ptr 0 0 0),(6, .ptr 2 0 0),(8, .ptr 3 0 0),(9, .clo 164 [.ptr 0 0 0, .ptr 3 0 0]),(12, .all 4),(42,(lk st 42)),(43, .int i64 a.1)],[⟨true,96,52, .gen [[.int u32 a.2.1.A0.B1.X.a0, .int u32 a.2.1.A0.B1.X.a1, .int u32 a.2.1.A0.B1.X.a2, .int u32 a.2.1.A0.B1.X.a3, .int u32 a.2.1.A0.B1.X.a4, .int u32 a.2.1.A0.B1.X.a5, .int u32 a.2.1.A0.B1.X.a6, .int u32 a.2.1.A0.B1.X.a7, .int u32 a.2.1.A0.B1.X.a8, .int u32 a.2.1.A0.B1.X.a9, .int u32 a.2.1.A0.B1.X.a10, .int u32 a.2.1.A0.B1.X.a11, .int u32 a.2.1.A0.B1.X.a12, .int u32 a.2.1.A0.B1.X.a13, .int u32 a.2.1.A0.B1.X.a14, .int u32 a.2.1.A0.B1.X.a15, .int u32 a.2.1.A0.B1.Pc, .int u32 a.2.1.A0.B1.B5.a0, .int u32 a.2.1.A0.B1.B5.a1, .int u32 a.2.1.A0.B1.B5.a2, .int u32 a.2.1.A0.B1.B5.a3, .int u32 a.2.1.A0.B1.B5.a4, .int u32 a.2.1.A0.B1.B5.a5, .int u32 a.2.1.A0.B1.B5.a6, .int u32 a.2.1.A0.B1.B5.a7, .sl 1 (.ints u32 a.2.1.A0.Mem) false, .str a.2.1.A0.A4.D3, .bool a.2.1.A0.B0.D2, .int u32 a.2.1.A0.B0.C8, .bool a.2.1.A0.B0.D5, .int u32 a.2.1.A0.B2.Blocks, .int u32 a.2.1.A0.B2.C2, .int u32 a.2.1.A0.B2.Frame, .int i64 a.2.1.A0.B2.C0, .int i64 a.2.1.A0.B2.D8, .int u32 a.2.1.A0.B2.B7, .int u32 a.2.1.A0.B2.B3, .str a.2.1.A0.B2.C4, .int u32 a.2.1.A0.C6.Frame, .int u32 a.2.1.A0.C6.E0, .bool a.2.1.A0.C6.C7, .int u32 a.2.1.A0.C6.B9, .bool a.2.1.A0.C6.B8, .int u32 a.2.1.A0.C6.F1, .int u32 a.2.1.A0.A2.D0, .int u32 a.2.1.A0.A2.C3, .int u64 a.2.1.A0.A1, .bool a.2.1.A0.A7, .bool a.2.1.A0.A9, .int u32 a.2.1.A3, .all 1, .sl 3 (.recs RK.apiEvent a.2.1.A6) false]]⟩,⟨false,126,4, .recs RK.apiEntry a.2.1.B4⟩,⟨true,96,52, .gen [[(cT st 6 0),(cT st 6 1),(cT st 6 2),(cT st 6 3),(cT st 6 4),(cT st 6 5),(cT st 6 6),(cT st 6 7),(cT st 6 8),(cT st 6 9),(cT st 6 10),(cT st 6 11),(cT st 6 12),(cT st 6 13),(cT st 6 14),(cT st 6 15),(cT st 6 16),(cT st 6 17),(cT st 6 18),(cT st 6 19),(cT st 6 20),(cT st 6 21),(cT st 6 22),(cT st 6 23),(cT st 6 24),(cT st 6 25),(cT st 6 26),(cT st 6 27),(cT st 6 28),(cT st 6 29),(cT st 6 30),(cT st 6 31),(cT st 6 32),(cT st 6 33),(cT st 6 34),(cT st 6 35),(cT st 6 36),(cT st 6 37),(cT st 6 38),(cT st 6 39),(cT st 6 40),(cT st 6 41),(cT st 6 42),(cT st 6 43),(cT st 6 44),(cT st 6 45),(cT st 6 46),(cT st 6 47),(cT st 6 48),(cT st 6 49),(cT st 6 50),(cT st 6 51)]]⟩,⟨true,228,1, .gen [[.clo 163 [.ptr 0 0 0]]]⟩,⟨false,71,4, .recs RK.apiOutput a.2.2⟩])
 a0:=λst=>((lk st 43).toInt,(⟨(mR (cT st 3) (slI u32 (cT st 3 25))),(cT st 3 49).toInt,(Q5g RK.apiEntry st.rows (Q0x (cT st 3 50) 1000000)),(slR RK.apiEvent (cT st 3 51))⟩:Q01),(Q5g RK.apiOutput st.rows (rN st 12)))
 ex0:=λst=>[]++[(rX st 3 0),(Q0x (cT st 3 50) (st.rows.length+1)),(rX st 6 2),(rX st 8 3),(rX st 12 4)]}
def Qrr:List (Nat×LInv):=[(8,Qw9),(15,Qx3)]
def Qzg:Q0e:=Q0e.fz<|mkP 79 [] false [.agg Q01.sig, .one (.int .i64), .one (.int .u32)] [] (λa r=>Qjv (Q01.of (aC a 0)) (argI a 1) (argI a 2)) (λa r=>Qr8 (Q01.of (aC a 0)) (argI a 1) (argI a 2)) (λX=> .tup [.agg (Q01.cellsW (X.1) (.sl 1 (.ints .u32 X.1.A0.Mem) false) (.all 0) (.sl 3 (.recs .apiEvent X.1.A6) false)), .all 1]) (λX=>[⟨false,126,4, .recs .apiEntry (X.1).B4⟩,⟨false,71,4, .recs .apiOutput (X.2)⟩])
theorem Qv5:Q06 pG Qzg:=Zfi<|Q0p drawn Q0l (.cons Qc0 (.cons Q8o (.cons Qs7 (.cons Qsa (.cons Zdv (.cons Qdy (.cons Qfz (.cons Qi4 (.nil))))))))) Tryz.func79 Tryz.call79 (λa r=>Q6g (Q01.of (aC a 0)) (argI a 1) (argI a 2)) [.sl (.ints .u32) false, .row 126 4 (.recs .apiEntry), .sl (.recs .apiEvent) false, .row 71 4 (.recs .apiOutput)] Qrr 3 (λ_ _ _=>by kernel_rfl) (λ_ _=>rfl) (λ_ _ h=>h) (λh=>by cases h)
end
noncomputable section
instance sumInhRc {α β:Type} [Inhabited β]:Inhabited (α⊕β):=⟨.inr default⟩
def Qfo(a b:List Q04)(z:(Int)):Prop:=0<=z/\z<=a.length/\a.length=b.length
def Q64(a b:List Q04)(z:(Int)):Nat:=(a.length-z).toNat
def Q4m(a b:List Q04):Tree Bool:=
.br ((a.length:Int) !=(b.length:Int)) (.lf false) (.lp inferInstance (Q64 a b 0+1) ((nR RK.apiOutput 4 a/\nR RK.apiOutput 4 b/\rE (0:Int)/\True)/\True) 0 λ(v0:Int)=> .br (decide (v0<(a.length:Int))) (.cn (bS 4 4&&bT 0 4&&decide (0<=v0/\v0<(a.length:Int))) (.cn (bS 4 4&&bT 0 4&&decide (0<=v0/\v0<(b.length:Int))) (let E1:=a.getD v0.toNat (RK.dflt RK.apiOutput);let E2:=b.getD v0.toNat (RK.dflt RK.apiOutput); .br (!eqs [D.int i64 E1.B6,D.int u64 E1.At,D.int u32 E1.C2,D.str E1.C9] [D.int i64 E2.B6,D.int u64 E2.At,D.int u32 E2.C2,D.str E2.C9]) (.lf (Sum.inr false)) (.nx ((nR RK.apiOutput 4 a/\nR RK.apiOutput 4 b/\rE ((wrap i64 (v0+1)):Int)/\True)/\True) (Sum.inl (wrap i64 (v0+1))))))) (.lf (Sum.inr true)))
def Q6d a b:=(Q4m a b).m
def Q52(a b:List Q04):Prop:=
a.length<=1000000000000
theorem Qqd(a b:List Q04)(hw:Q52 a b):(Q4m a b).p:=by
 simp only[Q52]at hw
 unfold Tree.p Q4m
 repeat'(first|refine w_lp (inv:=Qfo a b) (μ:=Q64 a b) ?_ (cK _) (λ_ _=> ?_)|exact trivial|refine w_br (λ_=> ?_) (λ_=> ?_)|refine w_cn ?_ ?_|refine w_an ?_ ?_|refine w_lv (λ_ _=> ?_)|refine w_nx ?_|refine w_lf ?_|refine And.intro ?_ ?_)
 all_goals((try simp only[Qfo,Q64]at*);exact fin0)
def Qrg:LInv:={
 α:=(Int)
 F:=λst a=>([(0,(lk st 0)),(1,(lk st 1)),(5, .int i64 a)],[])
 a0:=λst=>(lk st 5).toInt
 ex0:=λst=>[]++[]}
def Qoz:List (Nat×LInv):=[(4,Qrg)]
def Quj:Q0e:=mkP 70 [] true [.one (.recs .apiOutput), .one (.recs .apiOutput)] [] (λa r=>Q52 (argR .apiOutput a 0) (argR .apiOutput a 1)) (λa r=>Q6d (argR .apiOutput a 0) (argR .apiOutput a 1)) (λX=> .bool X) (λX=>[])
theorem Qs2:Q06 pG Quj:=Q0p drawn Q0l (.nil) Tryz.func70 Tryz.call70 (λa r=>Q4m (argR .apiOutput a 0) (argR .apiOutput a 1)) [] Qoz 3 (hp:=λa r h=>Qqd (argR .apiOutput a 0) (argR .apiOutput a 1) h)
end
noncomputable section
def Q62(p:Q02):Tree Q02:=
.an (Q08 p.A0.Mem) (.lv (Q03 p.A0.Mem) λ(x0:List Int)=> .an (Q0z p.B4) (.lv (Q12 p.B4) λ(x1:List Q0c)=> .lf ({A0:={B1:=p.A0.B1,Mem:=x0,A4:=p.A0.A4,B0:=p.A0.B0,B2:=p.A0.B2,C6:=p.A0.C6,A2:=p.A0.A2,A1:=p.A0.A1,A7:=p.A0.A7,A9:=p.A0.A9},B4:=x1,C5:=p.C5,A3:=p.A3})))
def Qh7 p:=(Q62 p).m
abbrev Q7j p:=(Q62 p).p
def Z3b:Q0e:=mT 149 [] true [.agg Q02.sig] [] (λa r=>Q62 (Q02.of (aC a 0))) (λX=> .agg (Q02.cellsW X (.all 0) (.sl 4 (.recs .apiEntry X.B4) true))) (λX=>[⟨false,25,1, .ints .u32 X.A0.Mem⟩])
theorem Qc1:Q06 pG Z3b:=oT (.cons Q0w (.cons Q5r (.nil))) Tryz.func149 Tryz.call149 [.row 25 1 (.ints .u32), .sl (.recs .apiEntry) true] [] 2
def Q94(m:Q00):Tree Q02:=
.an (Q7j {A0:=m,B4:=[],C5:=m.A1,A3:=0}) (.lv (Qh7 {A0:=m,B4:=[],C5:=m.A1,A3:=0}) λ(x0:Q02)=> .lf x0)
def Qwk m:=(Q94 m).m
abbrev Qf3 m:=(Q94 m).p
def Zgt:Q0e:=Q0e.fz<|mkP 74 [] false [.agg Q00.sig] [] (λa r=>Qf3 (Q00.of (aC a 0))) (λa r=>Qwk (Q00.of (aC a 0))) (λX=> .agg (Q02.cells X)) (λX=>[])
theorem Qto:Q06 pG Zgt:=Zfi<|Q0p drawn Q0l (.cons Qc1 (.nil)) Tryz.func74 Tryz.call74 (λa r=>Q94 (Q00.of (aC a 0))) [.sl (.ints .u32) false, .sl (.recs .apiEntry) false] [] 2 (λ_ _ _=>by kernel_rfl) (λ_ _=>rfl) (λ_ _ h=>h) (λh=>by cases h)
def Qjq(p:Q02):Tree Int:=
.br (decide (p.A0.A1>p.C5)) (.lf 0) (.lf (wrap u64 (p.C5-p.A0.A1)))
def Ql7 p:=(Qjq p).m
def Zfr:Q0e:=mS 66 [] true [.agg Q02.sig] [] (λa r=>Qjq (Q02.of (aC a 0))) (λX=> .int .u64 X) (λX=>[])
theorem Qur:Q06 pG Zfr:=oS (.nil) Tryz.func66 Tryz.call66 [] [] 2
def Q76(p:Q02):Tree (Int×Bool×Bool):=
.br (decide ((p.B4.length:Int)>(0:Int))) (.cn (bS 4 4&&bT 0 4&&decide ((0:Int)<=(0:Int)/\0<(p.B4.length:Int))) (let E1:=p.B4.getD (dB 0) (RK.dflt RK.apiEntry); .br (E1.C1.B6==1) (.an (Q1r p.A0) (.lv (Q2 p.A0) λ(x0:Bool)=> .br (!x0) (.lf (0,false,!decide (E1.At<=p.A0.A1))) (.br (decide (E1.At<=p.A0.A1)) (.lf (E1.C1.N,true,E1.At==p.A0.A1)) (.lf (E1.C1.N,true,false))))) (.an (Q1r p.A0) (.lv (Q2 p.A0) λ(x1:Bool)=> .br (!x1) (.lf (0,false,true)) (.lf (E1.C1.N,true,false)))))) (.an (Q1r p.A0) (.lv (Q2 p.A0) λ(x2:Bool)=> .br (!x2) (.lf (0,false,true)) (.lf (0,true,false))))
def Qxi p:=(Q76 p).m
abbrev Qgo p:=(Q76 p).p
def Z60:Q0e:=mT 157 [] true [.agg Q02.sig] [] (λa r=>Q76 (Q02.of (aC a 0))) (λX=> .tup [.int .u32 (X.1), .bool (X.2.1), .bool (X.2.2)]) (λX=>[])
theorem Qp0:Q06 pG Z60:=oT (.cons Qfz (.nil)) Tryz.func157 Tryz.call157 [] [] 2
def Qj5(p:Q02)(z:(Int)×Q00):Nat:=(p.B4.length-z.1).toNat
def Q5y(p:Q02):Tree (Q01×Bool):=
.an (Q3g p.A0) (.lv (Q1a p.A0) λ(x0:Bool)=>let T1:Tree ((Q01×Bool)):= .lf ({A0:={B1:={X:={a0:=0,a1:=0,a2:=0,a3:=0,a4:=0,a5:=0,a6:=0,a7:=0,a8:=0,a9:=0,a10:=0,a11:=0,a12:=0,a13:=0,a14:=0,a15:=0},Pc:=0,B5:={a0:=0,a1:=0,a2:=0,a3:=0,a4:=0,a5:=0,a6:=0,a7:=0}},Mem:=[],A4:={D3:=[]},B0:={D2:=false,C8:=0,D5:=false},B2:={Blocks:=0,C2:=0,Frame:=0,C0:=0,D8:=0,B7:=0,B3:=0,C4:=[]},C6:={Frame:=0,E0:=0,C7:=false,B9:=0,B8:=false,F1:=0},A2:={D0:=0,C3:=0},A1:=0,A7:=false,A9:=false},A3:=0,B4:=[],A6:=[]},false); .br (!x0) T1 (.br (p.A0.A1 !=p.C5) T1 (.lp inferInstance (Qj5 p (0,p.A0)+1) ((rZ/\rZ/\rZ/\((Els.Nil (Els.recs RK.apiEntry p.B4)\/rE (4:Nat))/\rE p.B4)/\rE ((p.B4.length:Int):Int)/\rE (0:Int)/\True)/\(mE p.A0 (((Els.Nil (Els.ints u32 p.A0.Mem)\/rE (1:Nat))/\rE p.A0.Mem)) (((Els.Nil (Els.recs RK.apiEntry p.B4)\/rE (4:Nat))/\rE p.B4)/\rE p.C5/\rE p.A3/\True))/\(mE zM True (rE (0:Int)/\True/\True/\True))/\(mE p.A0 (((Els.Nil (Els.ints u32 p.A0.Mem)\/rE (1:Nat))/\rE p.A0.Mem)) True)/\True) (0,p.A0) λ(v0:Int×Q00)=> .br (decide (v0.1<(p.B4.length:Int))) (.cn (bS 4 4&&bT 0 4&&decide (0<=v0.1/\v0.1<(p.B4.length:Int))) (let E2:=p.B4.getD v0.1.toNat (RK.dflt RK.apiEntry); .an (Q7o v0.2 E2.C1) (.lv (Q54 v0.2 E2.C1) λ(x1:Q00×Bool)=> .nx ((rZ/\rZ/\rZ/\((Els.Nil (Els.recs RK.apiEntry p.B4)\/rE (4:Nat))/\rE p.B4)/\rE ((p.B4.length:Int):Int)/\rE ((wrap i64 (v0.1+1)):Int)/\True)/\(mE p.A0 (((Els.Nil (Els.ints u32 p.A0.Mem)\/rE (1:Nat))/\rE p.A0.Mem)) (((Els.Nil (Els.recs RK.apiEntry p.B4)\/rE (4:Nat))/\rE p.B4)/\rE p.C5/\rE p.A3/\True))/\(mE zM True (rE (0:Int)/\True/\True/\True))/\(mE x1.1 (rE x1.1.Mem) True)/\True) (Sum.inl (wrap i64 (v0.1+1),x1.1))))) (.an (Qf4 v0.2) (.lv (Qvx v0.2) λ(x2:Q01)=> .lf (Sum.inr ({A0:=x2.A0,A3:=p.A3,B4:=x2.B4,A6:=x2.A6},true)))))))
def Qhe p:=(Q5y p).m
abbrev Q7l p:=(Q5y p).p
def Qza:LInv:={
 α:=(Int)×Q00
 F:=λst a=>([(1, .ptr 0 0 0),(2, .ptr 1 0 0),(4, .ptr 2 0 0),(24,(lk st 24)),(25,(lk st 25)),(26, .int i64 a.1)],[⟨true,106,52, .gen [[(cT st 1 0),(cT st 1 1),(cT st 1 2),(cT st 1 3),(cT st 1 4),(cT st 1 5),(cT st 1 6),(cT st 1 7),(cT st 1 8),(cT st 1 9),(cT st 1 10),(cT st 1 11),(cT st 1 12),(cT st 1 13),(cT st 1 14),(cT st 1 15),(cT st 1 16),(cT st 1 17),(cT st 1 18),(cT st 1 19),(cT st 1 20),(cT st 1 21),(cT st 1 22),(cT st 1 23),(cT st 1 24),(cT st 1 25),(cT st 1 26),(cT st 1 27),(cT st 1 28),(cT st 1 29),(cT st 1 30),(cT st 1 31),(cT st 1 32),(cT st 1 33),(cT st 1 34),(cT st 1 35),(cT st 1 36),(cT st 1 37),(cT st 1 38),(cT st 1 39),(cT st 1 40),(cT st 1 41),(cT st 1 42),(cT st 1 43),(cT st 1 44),(cT st 1 45),(cT st 1 46),(cT st 1 47),(cT st 1 48),(cT st 1 49),(cT st 1 50),(cT st 1 51)]]⟩,⟨true,96,52, .gen [[(cT st 2 0),(cT st 2 1),(cT st 2 2),(cT st 2 3),(cT st 2 4),(cT st 2 5),(cT st 2 6),(cT st 2 7),(cT st 2 8),(cT st 2 9),(cT st 2 10),(cT st 2 11),(cT st 2 12),(cT st 2 13),(cT st 2 14),(cT st 2 15),(cT st 2 16),(cT st 2 17),(cT st 2 18),(cT st 2 19),(cT st 2 20),(cT st 2 21),(cT st 2 22),(cT st 2 23),(cT st 2 24),(cT st 2 25),(cT st 2 26),(cT st 2 27),(cT st 2 28),(cT st 2 29),(cT st 2 30),(cT st 2 31),(cT st 2 32),(cT st 2 33),(cT st 2 34),(cT st 2 35),(cT st 2 36),(cT st 2 37),(cT st 2 38),(cT st 2 39),(cT st 2 40),(cT st 2 41),(cT st 2 42),(cT st 2 43),(cT st 2 44),(cT st 2 45),(cT st 2 46),(cT st 2 47),(cT st 2 48),(cT st 2 49),(cT st 2 50),(cT st 2 51)]]⟩,⟨true,43,49, .gen [mD a.2 (.sl 1 (.ints u32 a.2.Mem) false)]⟩])
 a0:=λst=>((lk st 26).toInt,(mR (cT st 4) (frzI u32 st.rows (cT st 4 25))))
 ex0:=λst=>[]++[(rX st 1 0),(rX st 2 1),(rX st 4 2)]}
def Qsj:List (Nat×LInv):=[(5,Qza)]
def Z2h:Q0e:=Q0e.fz<|mkP 71 [] true [.agg Q02.sig] [] (λa r=>Q7l (Q02.of (aC a 0))) (λa r=>Qhe (Q02.of (aC a 0))) (λX=> .tup [.agg (Q01.cellsW (X.1) (.all 0) (.all 1) (.all 2)), .bool (X.2)]) (λX=>[⟨false,25,1, .ints .u32 (X.1).A0.Mem⟩,⟨false,126,4, .recs .apiEntry (X.1).B4⟩,⟨false,66,3, .recs .apiEvent (X.1).A6⟩])
theorem Qn0:Q06 pG Z2h:=Zfi<|Q0p drawn Q0l (.cons Q8o (.cons Qc2 (.cons Quc (.nil)))) Tryz.func71 Tryz.call71 (λa r=>Q5y (Q02.of (aC a 0))) [.row 25 1 (.ints .u32), .row 126 4 (.recs .apiEntry), .row 66 3 (.recs .apiEvent)] Qsj 3
end
noncomputable section
def Qkz(script:List Q0c)(z:(Int)):Prop:=1<=z/\(z<=script.length\/z=1)
def Q4n(script:List Q0c)(z:(Int)):Nat:=(script.length-z).toNat
def Q8r(script:List Q0c):Tree Bool:=
.lp inferInstance (Q4n script 1+1) ((nR RK.apiEntry 4 script/\rE (1:Int)/\True)/\True) 1 λ(v0:Int)=> .br (decide (v0<(script.length:Int))) (.cn (bS 4 4&&bT 0 4&&decide (0<=wrap i64 (v0-1)/\wrap i64 (v0-1)<(script.length:Int))) (.cn (bS 4 4&&bT 0 4&&decide (0<=v0/\v0<(script.length:Int))) (let E2:=script.getD (dB (wrap i64 (v0-1))) (RK.dflt RK.apiEntry);let E3:=script.getD v0.toNat (RK.dflt RK.apiEntry); .br (decide (E3.At<E2.At)) (.lf (Sum.inr false)) (let T1:Tree ((Int)⊕(Bool)):= .nx ((nR RK.apiEntry 4 script/\rE ((wrap i64 (v0+1)):Int)/\True)/\True) (Sum.inl (wrap i64 (v0+1))); .br (E3.At==E2.At) (.br (E2.C1.B6==1) (.lf (Sum.inr false)) T1) T1)))) (.lf (Sum.inr true))
def Qd0 script:=(Q8r script).m
def Q4t(script:List Q0c):Prop:=
script.length<=1000000000000
theorem Qzk(script:List Q0c)(hw:Q4t script):(Q8r script).p:=by
 simp only[Q4t]at hw
 unfold Tree.p Q8r
 repeat'(first|refine w_lp (inv:=Qkz script) (μ:=Q4n script) ?_ (cK _) (λ_ _=> ?_)|exact trivial|refine w_br (λ_=> ?_) (λ_=> ?_)|refine w_cn ?_ ?_|refine w_an ?_ ?_|refine w_lv (λ_ _=> ?_)|refine w_nx ?_|refine w_lf ?_|refine And.intro ?_ ?_)
 all_goals((try simp only[Qkz,Q4n]at*);exact fin0)
def Z3:LInv:={
 α:=(Int)
 F:=λst a=>([(0,(lk st 0)),(3, .int i64 a)],[])
 a0:=λst=>(lk st 3).toInt
 ex0:=λst=>[]++[]}
def Qv1:List (Nat×LInv):=[(2,Z3)]
def Z69:Q0e:=mkP 152 [] true [.one (.recs .apiEntry)] [] (λa r=>Q4t (argR .apiEntry a 0)) (λa r=>Qd0 (argR .apiEntry a 0)) (λX=> .bool X) (λX=>[])
theorem Z3y:Q06 pG Z69:=Q0p drawn Q0l (.nil) Tryz.func152 Tryz.call152 (λa r=>Q8r (argR .apiEntry a 0)) [] Qv1 3 (hp:=λa r h=>Qzk (argR .apiEntry a 0) h)
def Q2o(s:List Q0c)(n:Int):(List Q0c):=
[]
def Q1h(s:List Q0c)(n:Int):Prop:=
0<=n/\n<=1000000000000
def Q5i(s:List Q0c)(n:Int):List D:=[.nils, .int .i64 n]
def Q5c(s:List Q0c)(n:Int):List Row:=[]
def Q34(X:List Q0c):D:= .all 0
def Q33(X:List Q0c):List Row:=[⟨false,126,4, .recs .apiEntry X⟩]
def Q61:List PT:=[.one .nil0, .one (.int .i64)]
def Q5h:List RT:=[]
def Qch(args:List D)(rows:List Row):(List Q0c):=Q2o (argR .apiEntry args 0) (argI args 1)
def Qct(args:List D)(rows:List Row):Prop:=Q1h (argR .apiEntry args 0) (argI args 1)
def Qdh:Q0e:=mkP 215 [true,false] true Q61 Q5h Qct Qch Q34 Q33
theorem Qav(s:List Q0c)(n:Int)(hw:Q1h s n):Q4f pG 215 (Q5i s n) (Q5c s n) (Q34 (Q2o s n)) (Q33 (Q2o s n)):=by
 exact xG Tryz.lays8 Q0l rfl rfl (by decide) (by decide) hw.1 (by have:=hw.2;omega)
set_option maxRecDepth 100000 in
theorem Qbj(args:List D)(rows:List Row):Qg8 Q61 args 0=Q5i (argR .apiEntry args 0) (argI args 1):=by kernel_rfl
set_option maxRecDepth 100000 in
theorem Qaz(args:List D)(rows:List Row):Q66 Q5h rows 0=Q5c (argR .apiEntry args 0) (argI args 1):=by kernel_rfl
set_option maxRecDepth 100000 in
theorem Qd6(X:List Q0c):(ffB (Q34 X)&&ffBR (Q33 X))=true:=by kernel_rfl
theorem Qd3:Q06 pG Qdh:=Qyl Tryz.call215 (λargs rows hp=>by rw[Qbj args rows,Qaz args rows];exact Qav (argR .apiEntry args 0) (argI args 1) hp) (λ_ X=>Qd6 X)
def Q4g(slices:(List (List Q0c)))(z:(Int)×(Int)):Nat:=(slices.length-z.2).toNat
def Q4c(slices:(List (List Q0c)))(z:(Int)×(List Q0c)):Nat:=(slices.length-z.1).toNat
def Q13(slices:(List (List Q0c))):Tree (List Q0c):=
.lp inferInstance (Q4g slices (0,0)+1) ((nR RK.lapiEntry 1 slices/\rE (0:Int)/\nR RK.lapiEntry 1 slices/\rE ((slices.length:Int):Int)/\rE (0:Int)/\True)/\True) (0,0) λ(v0:Int×Int)=> .br (decide (v0.2<(slices.length:Int))) (.cn (bS 1 1&&bT 0 1&&decide (0<=v0.2/\v0.2<(slices.length:Int))) (let E1:=(↑(dG (slices.getD v0.2.toNat (RK.dflt RK.lapiEntry))):Int); .fl (decide (wrap i64 (v0.1+E1)<0)) (.nx ((nR RK.lapiEntry 1 slices/\rE ((wrap i64 (v0.1+(↑(dG (slices.getD v0.2.toNat (RK.dflt RK.lapiEntry))):Int))):Int)/\nR RK.lapiEntry 1 slices/\rE ((slices.length:Int):Int)/\rE ((wrap i64 (v0.2+1)):Int)/\True)/\True) (Sum.inl (wrap i64 (v0.1+E1),wrap i64 (v0.2+1)))))) (.an (Q1h [] v0.1) (.lv (Q2o [] v0.1) λ(x0:List Q0c)=> .lp inferInstance (Q4c slices (0,x0)+1) ((True/\nR RK.lapiEntry 1 slices/\rE ((slices.length:Int):Int)/\rE (0:Int)/\True)/\rE (x0:List (RK.T RK.apiEntry))/\True) (0,x0) λ(v1:Int×List Q0c)=> .br (decide (v1.1<(slices.length:Int))) (.cn (bS 1 1&&bT 0 1&&decide (0<=v1.1/\v1.1<(slices.length:Int))) (.cn (decide (40*(v1.2.length+dG (slices.getD v1.1.toNat (RK.dflt RK.lapiEntry)))<=140737488355328)) (.nx ((True/\nR RK.lapiEntry 1 slices/\rE ((slices.length:Int):Int)/\rE ((wrap i64 (v1.1+1)):Int)/\True)/\rE ((v1.2++slices.getD v1.1.toNat (RK.dflt RK.lapiEntry)):List (RK.T RK.apiEntry))/\True) (Sum.inl (wrap i64 (v1.1+1),v1.2++slices.getD v1.1.toNat (RK.dflt RK.lapiEntry)))))) (.lf (Sum.inr (Sum.inr v1.2)))))
def Q6r slices:=(Q13 slices).m
abbrev Q2t slices:=(Q13 slices).p
def Qbb:LInv:={
 α:=(Int)×(Int)
 F:=λst a=>([(0,(lk st 0)),(3, .int i64 a.1),(9,(lk st 9)),(10,(lk st 10)),(11, .int i64 a.2)],[])
 a0:=λst=>((lk st 3).toInt,(lk st 11).toInt)
 ex0:=λst=>[]++[]}
def Qbr:LInv:={
 α:=(Int)×(List Q0c)
 F:=λst a=>([(6, .all 0),(25,(lk st 25)),(26,(lk st 26)),(27, .int i64 a.1)],[⟨false,126,4, .recs RK.apiEntry a.2⟩])
 a0:=λst=>((lk st 27).toInt,(Q5g RK.apiEntry st.rows (rN st 6)))
 ex0:=λst=>[]++[(rX st 6 0)]}
def Qa5:List (Nat×LInv):=[(3,Qbb),(11,Qbr)]
def Qcg:Q0e:=mT 151 [] true [.one (.recs .lapiEntry)] [] (λa r=>Q13 (argR .lapiEntry a 0)) (λX=> .all 0) (λX=>[⟨false,126,4, .recs .apiEntry X⟩])
theorem Qbg:Q06 pG Qcg:=oT (.cons Qd3 (.nil)) Tryz.func151 Tryz.call151 [.row 126 4 (.recs .apiEntry)] Qa5 3
def Qaa(p:Q02)(l:List Q0c)(known:Int)(z:(Int)):Nat:=(l.length-z).toNat
def Q8c(p:Q02)(l:List Q0c)(known:Int):Tree (Q02×Bool):=
.an (Q7j p) (.lv (Qh7 p) λ(x0:Q02)=> .br (decide (known<x0.C5)) (.lf (x0,false)) (.br (decide ((l.length:Int)>(400:Int))) (.lf (x0,false)) (.br (decide (wrap i64 ((x0.B4.length:Int)+(l.length:Int))>4096)) (.lf (x0,false)) (.lp inferInstance (Qaa p l known 0+1) ((nR RK.apiEntry 4 l/\rE (known:Int)/\rZ/\rZ/\nR RK.apiEntry 4 l/\rE ((l.length:Int):Int)/\rE (0:Int)/\True)/\(mE x0.A0 True (((Els.Nil (Els.recs RK.apiEntry x0.B4)\/rE (4:Nat))/\rE x0.B4)/\rE x0.C5/\rE x0.A3/\True))/\rE x0.A0.Mem/\(mE zM True (True/\rE (0:Int)/\rE (0:Int)/\True))/\True) 0 λ(v0:Int)=> .br (decide (v0<(l.length:Int))) (.cn (bS 4 4&&bT 0 4&&decide (0<=v0/\v0<(l.length:Int))) (let E2:=l.getD v0.toNat (RK.dflt RK.apiEntry); .br (decide (E2.At<x0.C5)) (.lf (Sum.inr (x0,false))) (.br (decide (E2.At>known)) (.lf (Sum.inr (x0,false))) (let T1:Tree ((Int)⊕((Q02×Bool))):= .lv (Qbk E2.C1) λ(x1:Bool)=> .br (!x1) (.lf (Sum.inr (x0,false))) (.nx ((nR RK.apiEntry 4 l/\rE (known:Int)/\rZ/\rZ/\nR RK.apiEntry 4 l/\rE ((l.length:Int):Int)/\rE ((wrap i64 (v0+1)):Int)/\True)/\(mE x0.A0 True (((Els.Nil (Els.recs RK.apiEntry x0.B4)\/rE (4:Nat))/\rE x0.B4)/\rE x0.C5/\rE x0.A3/\True))/\rE x0.A0.Mem/\(mE zM True (True/\rE (0:Int)/\rE (0:Int)/\True))/\True) (Sum.inl (wrap i64 (v0+1)))); .br (E2.At==known) (.br (E2.C1.B6==1) (.lf (Sum.inr (x0,false))) T1) T1)))) (.an (Q2t [x0.B4,l]) (.lv (Q6r [x0.B4,l]) λ(x3:List Q0c)=> .an (Q4t x3) (.lv (Qd0 x3) λ(x4:Bool)=> .br (!x4) (.lf (Sum.inr (x0,false))) (.lf (Sum.inr ({A0:=x0.A0,B4:=x3,C5:=known,A3:=x0.A3},true))))))))))
def Qrn p l known:=(Q8c p l known).m
abbrev Qdm p l known:=(Q8c p l known).p
def Z5k:LInv:={
 α:=(Int)
 F:=λst a=>([(1,(lk st 1)),(2,(lk st 2)),(3, .ptr 0 0 0),(6, .ptr 2 0 0),(32,(lk st 32)),(33,(lk st 33)),(34, .int i64 a)],[⟨true,106,52, .gen [[(cT st 3 0),(cT st 3 1),(cT st 3 2),(cT st 3 3),(cT st 3 4),(cT st 3 5),(cT st 3 6),(cT st 3 7),(cT st 3 8),(cT st 3 9),(cT st 3 10),(cT st 3 11),(cT st 3 12),(cT st 3 13),(cT st 3 14),(cT st 3 15),(cT st 3 16),(cT st 3 17),(cT st 3 18),(cT st 3 19),(cT st 3 20),(cT st 3 21),(cT st 3 22),(cT st 3 23),(cT st 3 24), .all 1,(cT st 3 26),(cT st 3 27),(cT st 3 28),(cT st 3 29),(cT st 3 30),(cT st 3 31),(cT st 3 32),(cT st 3 33),(cT st 3 34),(cT st 3 35),(cT st 3 36),(cT st 3 37),(cT st 3 38),(cT st 3 39),(cT st 3 40),(cT st 3 41),(cT st 3 42),(cT st 3 43),(cT st 3 44),(cT st 3 45),(cT st 3 46),(cT st 3 47),(cT st 3 48),(cT st 3 49),(cT st 3 50),(cT st 3 51)]]⟩,⟨false,25,1,esOf st.rows (Q0x (cT st 3 25) 1000000)⟩,⟨true,106,52, .gen [[(cT st 6 0),(cT st 6 1),(cT st 6 2),(cT st 6 3),(cT st 6 4),(cT st 6 5),(cT st 6 6),(cT st 6 7),(cT st 6 8),(cT st 6 9),(cT st 6 10),(cT st 6 11),(cT st 6 12),(cT st 6 13),(cT st 6 14),(cT st 6 15),(cT st 6 16),(cT st 6 17),(cT st 6 18),(cT st 6 19),(cT st 6 20),(cT st 6 21),(cT st 6 22),(cT st 6 23),(cT st 6 24),(cT st 6 25),(cT st 6 26),(cT st 6 27),(cT st 6 28),(cT st 6 29),(cT st 6 30),(cT st 6 31),(cT st 6 32),(cT st 6 33),(cT st 6 34),(cT st 6 35),(cT st 6 36),(cT st 6 37),(cT st 6 38),(cT st 6 39),(cT st 6 40),(cT st 6 41),(cT st 6 42),(cT st 6 43),(cT st 6 44),(cT st 6 45),(cT st 6 46),(cT st 6 47),(cT st 6 48),(cT st 6 49),(cT st 6 50),(cT st 6 51)]]⟩])
 a0:=λst=>(lk st 34).toInt
 ex0:=λst=>[]++[(rX st 3 0),(Q0x (cT st 3 25) (st.rows.length+1)),(rX st 6 2)]}
def Qzf:List (Nat×LInv):=[(5,Z5k)]
def Z9b:Q0e:=mT 63 [] true [.agg Q02.sig, .one (.recs .apiEntry), .one (.int .u64)] [] (λa r=>Q8c (Q02.of (aC a 0)) (argR .apiEntry a 1) (argI a 2)) (λX=> .tup [.agg (Q02.cellsW (X.1) (.all 0) (.sl 4 (.recs .apiEntry X.1.B4) true)), .bool (X.2)]) (λX=>[⟨false,25,1, .ints .u32 (X.1).A0.Mem⟩])
theorem Qqk:Q06 pG Z9b:=oT (.cons Qc1 (.cons Qky (.cons Qbg (.cons Z3y (.nil))))) Tryz.func63 Tryz.call63 [.row 25 1 (.ints .u32), .sl (.recs .apiEntry) true] Qzf 3
end
noncomputable section
def Qfi:Q0e:=⟨156,[true],false,λargs rows=>match args,rows with|[.ptr r i o, .int .u64 n],[⟨true,ty,sz, .gen [e]⟩]=>(match bS r 0&&(bS i 0&&(bS o 49&&e.all D.stayB)) with|true=> .abs Unit () (λ_=> .clo 216 [.ptr 1 0 0, .ptr 2 0 0]) (λ_=>[⟨true,ty,sz, .gen [e]⟩,⟨true,219,1, .gen [[.ptr 0 0 49]]⟩,⟨true,41,1, .gen [[.int .u64 n]]⟩])|false=> .no)|_,_=> .no,none,false⟩
theorem Qup:Q06 pG Qfi:=by
  refine⟨λ_=>Tryz.call156,λ_=>by decide,λ_ args rows r r' hm=> ?_,λ_ args rows p r r' hm=> ?_,λ_ args rows α v res rows' hm=> ?_,λ_ args rows p α v res rows' hm=> ?_,λk hk=>(by cases hk),λk hk=>(by cases hk)⟩
  . simp only[Qfi]at hm;split at hm<;>(try split at hm)<;>cases hm
  . simp only[Qfi]at hm;split at hm<;>(try split at hm)<;>cases hm
  . simp only[Qfi]at hm
    split at hm
    . rename_i r i o n ty sz e
      split at hm
      . rename_i hc
        cases hm
        simp only[aE]at hc
        obtain⟨h1,h2,h3,he⟩:=hc
        have h1:=bE h1;have h2:=bE h2;have h3:=bE h3
        subst h1;subst h2;subst h3
        refine⟨?_,λh=>by cases h⟩
        have e1: ∀Q0:D->GD.Rows->Prop,(fnVC tab [] (λ_ _ _=>False) Tryz.f156 [.ptr 0 0 49, .int .u64 n] [⟨true,ty,sz, .gen [e]⟩] λd R=>Q0 d R)=Q0 (.clo 216 [.ptr 1 0 0, .ptr 2 0 0]) [some ⟨true,ty,sz, .gen [e]⟩,some ⟨true,219,1, .gen [[.ptr 0 0 49]]⟩,some ⟨true,41,1, .gen [[.int .u64 n]]⟩]:=λ_=>by kernel_rfl
        refine z8 drawn Q0l Q79.nil Tryz.func156 (rf:=none) (L:=λ_ _ _=>False) (λ_ _=>trivial) (λ_ _ _ _ h=>h.elim) (Q0:=λd R=>d= .clo 216 [.ptr 1 0 0, .ptr 2 0 0]/\R=[some ⟨true,ty,sz, .gen [e]⟩,some ⟨true,219,1, .gen [[.ptr 0 0 49]]⟩,some ⟨true,41,1, .gen [[.int .u64 n]]⟩]) (λd R h=> ?_) ((e1 _).symm▸⟨rfl,rfl⟩)
        obtain⟨rfl,rfl⟩:=h
        refine⟨[0,1,2],rfl,?_,?_⟩
        . simp [retD,retV,retC,cand,capX,inEx]
        . simp [Q3t,Z45,retC,cand,inEx,Z85 he]
      . cases hm
    . cases hm
  . simp only[Qfi]at hm;split at hm<;>(try split at hm)<;>cases hm
def Q4d(p0:Q0a)(fr0:Q02):Tree (Bool×Q02):=
.an (Q7o fr0.A0 p0) (.lv (Q54 fr0.A0 p0) λ(x0:Q00×Bool)=> .lf (true,{A0:=x0.1,B4:=fr0.B4,C5:=fr0.C5,A3:=fr0.A3}))
def Qiy p0 fr0:=(Q4d p0 fr0).m
abbrev Qds p0 fr0:=(Q4d p0 fr0).p
def Qo:Q0e:=mkKP 1 1000000068 [false,true] [.agg Q0a.sig, .ptr 0] [.box 106 52 Q02.sig] (λa r=>Qds (Q0a.of (aC a 0)) (Q02.of (r.getD 0 default).cs)) (λa r=>Qiy (Q0a.of (aC a 0)) (Q02.of (r.getD 0 default).cs)) (λX=> .bool (X.1)) (λX=>[⟨true,106,52, .gen [(Q02.cellsW (X.2) (.all 1) (.sl 4 (.recs .apiEntry X.2.B4) false))]⟩,⟨false,25,1, .ints .u32 (X.2).A0.Mem⟩])
theorem Qng:Q06 pG Qo:=Zko none (λ_ _=>trivial) drawn Q0l (.cons Qc1 (.cons Q8o (.cons Qup (.cons Qc2 (.cons Qdy (.cons Qp0 (.cons Qi4 (.nil)))))))) (Tryz.func1000000068 ⟨λ_ _=>by kernel_rfl,rfl⟩) (λh=>absurd h (by decide)) (λa r=>Q4d (Q0a.of (aC a 0)) (Q02.of (r.getD 0 default).cs)) [.row 25 1 (.ints .u32), .sl (.recs .apiEntry) false] [] 2 (λ_ _ _=>by kernel_rfl) (λ_ _=>rfl) (λ_ _ h=>h)
def Qk3(p:Q02)(fr1:Int)(z:Q02):Nat:=z.B4.length
def Q77(p:Q02)(fr1:Int):Tree (Q02×Int):=
.lp inferInstance (Qk3 p fr1 p+1) ((True/\rZ/\rZ/\True)/\(mE p.A0 (((Els.Nil (Els.ints u32 p.A0.Mem)\/rE (1:Nat))/\rE p.A0.Mem)) (((Els.Nil (Els.recs RK.apiEntry p.B4)\/rE (4:Nat))/\rE p.B4)/\rE p.C5/\rE p.A3/\True))/\(True/\True)/\(rE (fr1:Int)/\True)/\True) p λ(v0:Q02)=> .br (decide ((v0.B4.length:Int)>(0:Int))) (let E1:=bS 4 4&&bT 0 4&&decide ((0:Int)<=(0:Int)/\0<(v0.B4.length:Int)); .cn E1 (let E2:=v0.B4.getD (dB 0) (RK.dflt RK.apiEntry); .br (decide (E2.At<=fr1)) (.cn E1 (.br (E2.C1.B6 !=1) (.cn E1 (.cn (bS 4 4&&bT 0 4&&decide ((0:Int)<=(1:Int)/\1<=(v0.B4.length:Int)/\(v0.B4.length:Int)<=(v0.B4.length:Int))) (let E3:=dB (v0.B4.length:Int)-dB 1; .an (Qds E2.C1 {A0:=v0.A0,B4:=cW E3 (cX (dB 1) v0.B4),C5:=v0.C5,A3:=v0.A3}) (.lv (Qiy E2.C1 {A0:=v0.A0,B4:=cW E3 (cX (dB 1) v0.B4),C5:=v0.C5,A3:=v0.A3}) λ(x0:Bool×Q02)=> .br (!x0.1) (.lf (Sum.inr (x0.2,fr1))) (.nx ((True/\rZ/\rZ/\True)/\(mE x0.2.A0 (rE x0.2.A0.Mem) (((Els.Nil (Els.recs RK.apiEntry x0.2.B4)\/rE (4:Nat))/\rE x0.2.B4)/\rE x0.2.C5/\rE x0.2.A3/\True))/\(True/\True)/\(rE (fr1:Int)/\True)/\True) (Sum.inl x0.2)))))) (.lf (Sum.inr (v0,fr1))))) (.lf (Sum.inr (v0,fr1))))) (.lf (Sum.inr (v0,fr1)))
def Qxt p fr1:=(Q77 p fr1).m
abbrev Qgl p fr1:=(Q77 p fr1).p
def Z2d:LInv:={
 α:=Q02
 F:=λst a=>([(0, .clo 1000000068 [.ptr 0 0 0]),(1, .ptr 1 0 0),(2, .ptr 2 0 0)],[⟨true,106,52, .gen [[.int u32 a.A0.B1.X.a0, .int u32 a.A0.B1.X.a1, .int u32 a.A0.B1.X.a2, .int u32 a.A0.B1.X.a3, .int u32 a.A0.B1.X.a4, .int u32 a.A0.B1.X.a5, .int u32 a.A0.B1.X.a6, .int u32 a.A0.B1.X.a7, .int u32 a.A0.B1.X.a8, .int u32 a.A0.B1.X.a9, .int u32 a.A0.B1.X.a10, .int u32 a.A0.B1.X.a11, .int u32 a.A0.B1.X.a12, .int u32 a.A0.B1.X.a13, .int u32 a.A0.B1.X.a14, .int u32 a.A0.B1.X.a15, .int u32 a.A0.B1.Pc, .int u32 a.A0.B1.B5.a0, .int u32 a.A0.B1.B5.a1, .int u32 a.A0.B1.B5.a2, .int u32 a.A0.B1.B5.a3, .int u32 a.A0.B1.B5.a4, .int u32 a.A0.B1.B5.a5, .int u32 a.A0.B1.B5.a6, .int u32 a.A0.B1.B5.a7, .sl 1 (.ints u32 a.A0.Mem) false, .str a.A0.A4.D3, .bool a.A0.B0.D2, .int u32 a.A0.B0.C8, .bool a.A0.B0.D5, .int u32 a.A0.B2.Blocks, .int u32 a.A0.B2.C2, .int u32 a.A0.B2.Frame, .int i64 a.A0.B2.C0, .int i64 a.A0.B2.D8, .int u32 a.A0.B2.B7, .int u32 a.A0.B2.B3, .str a.A0.B2.C4, .int u32 a.A0.C6.Frame, .int u32 a.A0.C6.E0, .bool a.A0.C6.C7, .int u32 a.A0.C6.B9, .bool a.A0.C6.B8, .int u32 a.A0.C6.F1, .int u32 a.A0.A2.D0, .int u32 a.A0.A2.C3, .int u64 a.A0.A1, .bool a.A0.A7, .bool a.A0.A9, .sl 4 (.recs RK.apiEntry a.B4) false, .int u64 a.C5, .int u32 a.A3]]⟩,⟨true,219,1, .gen [[.ptr 0 0 49]]⟩,⟨true,41,1, .gen [[(Q0u st.rows 2 0)]]⟩])
 a0:=λst=>(⟨(⟨(⟨(⟨(Q0u st.rows 0 0).toInt,(Q0u st.rows 0 1).toInt,(Q0u st.rows 0 2).toInt,(Q0u st.rows 0 3).toInt,(Q0u st.rows 0 4).toInt,(Q0u st.rows 0 5).toInt,(Q0u st.rows 0 6).toInt,(Q0u st.rows 0 7).toInt,(Q0u st.rows 0 8).toInt,(Q0u st.rows 0 9).toInt,(Q0u st.rows 0 10).toInt,(Q0u st.rows 0 11).toInt,(Q0u st.rows 0 12).toInt,(Q0u st.rows 0 13).toInt,(Q0u st.rows 0 14).toInt,(Q0u st.rows 0 15).toInt⟩:(A16 Int)),(Q0u st.rows 0 16).toInt,(⟨(Q0u st.rows 0 17).toInt,(Q0u st.rows 0 18).toInt,(Q0u st.rows 0 19).toInt,(Q0u st.rows 0 20).toInt,(Q0u st.rows 0 21).toInt,(Q0u st.rows 0 22).toInt,(Q0u st.rows 0 23).toInt,(Q0u st.rows 0 24).toInt⟩:(A8 Int))⟩:Q05),(frzI u32 st.rows (Q0u st.rows 0 25)),(⟨(Q0u st.rows 0 26).toStr⟩:Q0d),(⟨(Q0u st.rows 0 27).toBool,(Q0u st.rows 0 28).toInt,(Q0u st.rows 0 29).toBool⟩:Q0i),(⟨(Q0u st.rows 0 30).toInt,(Q0u st.rows 0 31).toInt,(Q0u st.rows 0 32).toInt,(Q0u st.rows 0 33).toInt,(Q0u st.rows 0 34).toInt,(Q0u st.rows 0 35).toInt,(Q0u st.rows 0 36).toInt,(Q0u st.rows 0 37).toStr⟩:Q0f),(⟨(Q0u st.rows 0 38).toInt,(Q0u st.rows 0 39).toInt,(Q0u st.rows 0 40).toBool,(Q0u st.rows 0 41).toInt,(Q0u st.rows 0 42).toBool,(Q0u st.rows 0 43).toInt⟩:Q0q),(⟨(Q0u st.rows 0 44).toInt,(Q0u st.rows 0 45).toInt⟩:Q09),(Q0u st.rows 0 46).toInt,(Q0u st.rows 0 47).toBool,(Q0u st.rows 0 48).toBool⟩:Q00),(slR RK.apiEntry (Q0u st.rows 0 49)),(Q0u st.rows 0 50).toInt,(Q0u st.rows 0 51).toInt⟩:Q02)
 ex0:=λst=>[0,1,2]++[]}
def Qvg:List (Nat×LInv):=[(0,Z2d)]
def Z5h:Q0e:=mkKP 3 216 [true,true,true] [.clo 1000000068 [.ptr 0 0 0], .ptr 1, .ptr 2] [.box 106 52 Q02.sig, .box 219 1 [.pt 0 0 49], .box 41 1 [.int .u64]] (λa r=>Qgl (Q02.of (r.getD 0 default).cs) (rcell r 2 0).toInt) (λa r=>Qxt (Q02.of (r.getD 0 default).cs) (rcell r 2 0).toInt) (λX=> .tup []) (λX=>[⟨true,106,52, .gen [(Q02.cells (X.1))]⟩,⟨true,219,1, .gen [[.ptr 0 0 49]]⟩,⟨true,41,1, .gen [[.int .u64 X.2]]⟩])
theorem Z0l:Q06 pG Z5h:=Zbz drawn Q0l (.cons Qng (.nil)) Tryz.func216 Tryz.call216 (λa r=>Q77 (Q02.of (r.getD 0 default).cs) (rcell r 2 0).toInt) [.sl (.ints .u32) false, .sl (.recs .apiEntry) false] Qvg 3 (λ_ _ _=>by kernel_rfl) (λ_ _=>rfl) (λ_ _ h=>h)
def Q7g(p:Q02)(steps:Int)(z:(Int)×Q02×(List Q04)):Nat:=(4000-z.1).toNat
def Q4w(p:Q02)(steps:Int):Tree (Q02×(List Q04)):=
.an (Q7j p) (.lv (Qh7 p) λ(x0:Q02)=> .an (Q3g x0.A0) (.lv (Q1a x0.A0) λ(x1:Bool)=> .br (!x1) (.lf (x0,[])) (.lp inferInstance (Q7g p steps (0,x0,[])+1) ((rZ/\rZ/\True/\rE ((if 4000<if 0>steps then 0 else steps then 4000 else if 0>steps then 0 else steps):Int)/\rE (0:Int)/\True)/\(mE x0.A0 (rE x0.A0.Mem) (((Els.Nil (Els.recs RK.apiEntry x0.B4)\/rE (4:Nat))/\rE x0.B4)/\rE x0.C5/\rE x0.A3/\True))/\(mE zM True (True/\rE (0:Int)/\rE (0:Int)/\True))/\rE ([]:List (RK.T RK.apiOutput))/\True) (0,x0,[]) λ(v0:Int×Q02×List Q04)=> .br (decide (v0.1<if 4000<if 0>steps then 0 else steps then 4000 else if 0>steps then 0 else steps)) (.br (decide (v0.2.1.A0.A1>=v0.2.1.C5)) (.lf (Sum.inr (v0.2.1,v0.2.2))) (.lv () λ(x2:Unit)=> .an (Qgl v0.2.1 v0.2.1.A0.A1) (.lv (Qxt v0.2.1 v0.2.1.A0.A1) λ(x3:Q02×Int)=> .br x3.1.A0.A9 (.lf (Sum.inr (x3.1,v0.2.2))) (.an (Q3q x3.1.A0) (.lv (Q37 x3.1.A0) λ(x4:Bool)=> .br x4 (.lf (Sum.inr (x3.1,v0.2.2))) (.br (x3.1.A0.A1==1152921504606846976) (.lf (Sum.inr (x3.1,v0.2.2))) (.an (Qgo x3.1) (.lv (Qxi x3.1) λ(x5:Int×Bool×Bool)=> .br (!x5.2.2) (.lf (Sum.inr (x3.1,v0.2.2))) (.br x5.2.1 (.cn (bS 4 4&&bT 0 4&&decide ((0:Int)<=(1:Int)/\1<=(x3.1.B4.length:Int)/\(x3.1.B4.length:Int)<=(x3.1.B4.length:Int))) (.an (Q2m x3.1.A0 x5.1) (.lv (Q1z x3.1.A0 x5.1) λ(x6:Q00×List Q04)=> .cn (decide (40*(v0.2.2.length+x6.2.length)<=140737488355328)) (.nx ((rZ/\rZ/\True/\rE ((if 4000<if 0>steps then 0 else steps then 4000 else if 0>steps then 0 else steps):Int)/\rE ((wrap i64 (v0.1+1)):Int)/\True)/\(mE x6.1 (((Els.Nil (Els.ints u32 x6.1.Mem)\/rE (1:Nat))/\rE x6.1.Mem)) (((Els.Nil (Els.take (Els.drop (Els.recs RK.apiEntry x3.1.B4) (dB 1)) (dB (↑(Els.len (Els.recs RK.apiEntry x3.1.B4)):Int)-dB 1))\/rE (4:Nat))/\rE ((cW (dB (x3.1.B4.length:Int)-dB 1) (cX (dB 1) x3.1.B4)):List (RK.T RK.apiEntry)))/\rE x3.1.C5/\rE ((wrap u32 (x5.1+1)):Int)/\True))/\(mE zM True (True/\rE (0:Int)/\rE (0:Int)/\True))/\rE ((v0.2.2++x6.2):List (RK.T RK.apiOutput))/\True) (Sum.inl (wrap i64 (v0.1+1),{A0:=x6.1,B4:=cW (dB (x3.1.B4.length:Int)-dB 1) (cX (dB 1) x3.1.B4),C5:=x3.1.C5,A3:=wrap u32 (x5.1+1)},v0.2.2++x6.2)))))) (.an (Q2m x3.1.A0 x5.1) (.lv (Q1z x3.1.A0 x5.1) λ(x7:Q00×List Q04)=> .cn (decide (40*(v0.2.2.length+x7.2.length)<=140737488355328)) (.nx ((rZ/\rZ/\True/\rE ((if 4000<if 0>steps then 0 else steps then 4000 else if 0>steps then 0 else steps):Int)/\rE ((wrap i64 (v0.1+1)):Int)/\True)/\(mE x7.1 (((Els.Nil (Els.ints u32 x7.1.Mem)\/rE (1:Nat))/\rE x7.1.Mem)) (((Els.Nil (Els.recs RK.apiEntry x3.1.B4)\/rE (4:Nat))/\rE x3.1.B4)/\rE x3.1.C5/\rE x3.1.A3/\True))/\(mE zM True (True/\rE (0:Int)/\rE (0:Int)/\True))/\rE ((v0.2.2++x7.2):List (RK.T RK.apiOutput))/\True) (Sum.inl (wrap i64 (v0.1+1),{A0:=x7.1,B4:=x3.1.B4,C5:=x3.1.C5,A3:=x3.1.A3},v0.2.2++x7.2)))))))))))))) (.lf (Sum.inr (v0.2.1,v0.2.2))))))
def Qf8 p steps:=(Q4w p steps).m
abbrev Q6l p steps:=(Q4w p steps).p
def Qx5:LInv:={
 α:=(Int)×Q02×(List Q04)
 F:=λst a=>([(2, .ptr 0 0 0),(4, .ptr 1 0 0),(6, .all 2),(21,(lk st 21)),(22, .int i64 a.1)],[⟨true,106,52, .gen [[.int u32 a.2.1.A0.B1.X.a0, .int u32 a.2.1.A0.B1.X.a1, .int u32 a.2.1.A0.B1.X.a2, .int u32 a.2.1.A0.B1.X.a3, .int u32 a.2.1.A0.B1.X.a4, .int u32 a.2.1.A0.B1.X.a5, .int u32 a.2.1.A0.B1.X.a6, .int u32 a.2.1.A0.B1.X.a7, .int u32 a.2.1.A0.B1.X.a8, .int u32 a.2.1.A0.B1.X.a9, .int u32 a.2.1.A0.B1.X.a10, .int u32 a.2.1.A0.B1.X.a11, .int u32 a.2.1.A0.B1.X.a12, .int u32 a.2.1.A0.B1.X.a13, .int u32 a.2.1.A0.B1.X.a14, .int u32 a.2.1.A0.B1.X.a15, .int u32 a.2.1.A0.B1.Pc, .int u32 a.2.1.A0.B1.B5.a0, .int u32 a.2.1.A0.B1.B5.a1, .int u32 a.2.1.A0.B1.B5.a2, .int u32 a.2.1.A0.B1.B5.a3, .int u32 a.2.1.A0.B1.B5.a4, .int u32 a.2.1.A0.B1.B5.a5, .int u32 a.2.1.A0.B1.B5.a6, .int u32 a.2.1.A0.B1.B5.a7, .sl 1 (.ints u32 a.2.1.A0.Mem) false, .str a.2.1.A0.A4.D3, .bool a.2.1.A0.B0.D2, .int u32 a.2.1.A0.B0.C8, .bool a.2.1.A0.B0.D5, .int u32 a.2.1.A0.B2.Blocks, .int u32 a.2.1.A0.B2.C2, .int u32 a.2.1.A0.B2.Frame, .int i64 a.2.1.A0.B2.C0, .int i64 a.2.1.A0.B2.D8, .int u32 a.2.1.A0.B2.B7, .int u32 a.2.1.A0.B2.B3, .str a.2.1.A0.B2.C4, .int u32 a.2.1.A0.C6.Frame, .int u32 a.2.1.A0.C6.E0, .bool a.2.1.A0.C6.C7, .int u32 a.2.1.A0.C6.B9, .bool a.2.1.A0.C6.B8, .int u32 a.2.1.A0.C6.F1, .int u32 a.2.1.A0.A2.D0, .int u32 a.2.1.A0.A2.C3, .int u64 a.2.1.A0.A1, .bool a.2.1.A0.A7, .bool a.2.1.A0.A9, .sl 4 (.recs RK.apiEntry a.2.1.B4) false, .int u64 a.2.1.C5, .int u32 a.2.1.A3]]⟩,⟨true,106,52, .gen [[(cT st 4 0),(cT st 4 1),(cT st 4 2),(cT st 4 3),(cT st 4 4),(cT st 4 5),(cT st 4 6),(cT st 4 7),(cT st 4 8),(cT st 4 9),(cT st 4 10),(cT st 4 11),(cT st 4 12),(cT st 4 13),(cT st 4 14),(cT st 4 15),(cT st 4 16),(cT st 4 17),(cT st 4 18),(cT st 4 19),(cT st 4 20),(cT st 4 21),(cT st 4 22),(cT st 4 23),(cT st 4 24),(cT st 4 25),(cT st 4 26),(cT st 4 27),(cT st 4 28),(cT st 4 29),(cT st 4 30),(cT st 4 31),(cT st 4 32),(cT st 4 33),(cT st 4 34),(cT st 4 35),(cT st 4 36),(cT st 4 37),(cT st 4 38),(cT st 4 39),(cT st 4 40),(cT st 4 41),(cT st 4 42),(cT st 4 43),(cT st 4 44),(cT st 4 45),(cT st 4 46),(cT st 4 47),(cT st 4 48),(cT st 4 49),(cT st 4 50),(cT st 4 51)]]⟩,⟨false,71,4, .recs RK.apiOutput a.2.2⟩])
 a0:=λst=>((lk st 22).toInt,(⟨(mR (cT st 2) (frzI u32 st.rows (cT st 2 25))),(slR RK.apiEntry (cT st 2 49)),(cT st 2 50).toInt,(cT st 2 51).toInt⟩:Q02),(Q5g RK.apiOutput st.rows (rN st 6)))
 ex0:=λst=>[]++[(rX st 2 0),(rX st 4 1),(rX st 6 2)]}
def Qs3:List (Nat×LInv):=[(6,Qx5)]
def Qze:Q0e:=Q0e.fz<|mkP 68 [] false [.agg Q02.sig, .one (.int .i64)] [] (λa r=>Q6l (Q02.of (aC a 0)) (argI a 1)) (λa r=>Qf8 (Q02.of (aC a 0)) (argI a 1)) (λX=> .tup [.agg (Q02.cells (X.1)), .all 0]) (λX=>[⟨false,71,4, .recs .apiOutput (X.2)⟩])
theorem Qku:Q06 pG Qze:=Zfi<|xz (some 1000000068) (rf_of (by kernel_rfl) rfl) drawn Q0l (.cons Qc1 (.cons Q8o (.cons Qup (.cons Qc2 (.cons Qdy (.cons Qp0 (.cons Qi4 (.cons Z0l (.nil))))))))) Tryz.func68 Tryz.call68 (λa r=>Q4w (Q02.of (aC a 0)) (argI a 1)) [.sl (.ints .u32) false, .sl (.recs .apiEntry) false, .row 71 4 (.recs .apiOutput)] Qs3 3 (λ_ _ _=>by kernel_rfl) (λ_ _=>rfl) (λ_ _ h=>h) (λh=>by cases h)
end
noncomputable section
def Qdc:Tree Bool:=
.an (Q9n 1 0 []) (.lv (Q20 1 0 []) λ(x0:Q00×Bool)=> .an (Qf3 x0.1) (.lv (Qwk x0.1) λ(x1:Q02)=> .an (Qdm x1 [] 3) (.lv (Qrn x1 [] 3) λ(x2:Q02×Bool)=> .an (Q6l x2.1 10) (.lv (Qf8 x2.1 10) λ(x3:Q02×List Q04)=> .an (Q7l x3.1) (.lv (Qhe x3.1) λ(x4:Q01×Bool)=> .an (Q7l x2.1) (.lv (Qhe x2.1) λ(x5:Q01×Bool)=> .br x2.2 (.lv (Ql7 x2.1) λ(x6:Int)=> .br (x6==3) (.br (x3.1.A0.A1==3) (.br ((x3.2.length:Int)==(0:Int)) (.lv (Ql7 x3.1) λ(x7:Int)=> .br (x7==0) (.br x4.2 (.lf (!x5.2)) (.lf false)) (.lf false)) (.lf false)) (.lf false)) (.lf false)) (.lf false)))))))
def Qcr:Bool:=(Qdc).m
abbrev Q5t:Prop:=(Qdc).p
def Zbs:Q0e:=mT 60 [] true [] [] (λa r=>Qdc) (λX=> .bool X) (λX=>[])
theorem Z6b:Q06 pG Zbs:=oT (.cons Z2l (.cons Qqk (.cons Qto (.cons Qku (.cons Qn0 (.cons Qur (.nil))))))) Tryz.func60 Tryz.call60 [] [] 2
end
noncomputable section
def Qnt(l:List Int)(i:Int):Tree Int:=
.br ((l.length:Int)==(0:Int)) (.lf 0) (.an (Q2z i (l.length:Int)) (.lv (Q5l i (l.length:Int)) λ(x0:Int)=> .cn (bS 1 1&&bT 0 1&&decide (0<=x0/\x0<(l.length:Int))) (.lf (l.getD x0.toNat 0))))
def zB l i:=(Qnt l i).m
abbrev Qry l i:=(Qnt l i).p
def yB:Q0e:=mT 80 [] true [.one (.ints .i64), .one (.int .i64)] [] (λa r=>Qnt (argL .i64 a 0) (argI a 1)) (λX=> .int .i64 X) (λX=>[])
theorem Zm5:Q06 pG yB:=oT (.cons Qgz (.nil)) Tryz.func80 Tryz.call80 [] [] 2
def Q49(kind:Int)(l acts pace:List Int)(z:(Int)×Q01×Q02×(List Q04)×(List Q04)):Nat:=(acts.length-z.1).toNat
def Q70(kind:Int)(l acts pace:List Int):Tree Bool:=
.lv (Qu2 l acts) λ(x0:Bool)=> .br (!x0) (.an Q5t (.lv Qcr λ(x1:Bool)=> .lf x1)) (.an (Qnc kind l) (.lv (Qjt kind l) λ(x2:Q00)=> .an (Qf4 x2) (.lv (Qvx x2) λ(x3:Q01)=> .an (Qf3 x2) (.lv (Qwk x2) λ(x4:Q02)=> .lp inferInstance (Q49 kind l acts pace (0,x3,x4,[],[])+1) ((((Els.Nil (Els.ints i64 acts)\/rE (1:Nat))/\rE (acts:List Int))/\((Els.Nil (Els.ints i64 pace)\/rE (1:Nat))/\rE (pace:List Int))/\rZ/\rZ/\True/\True/\rE (0:Int)/\True)/\(mE x3.A0 True (rE x3.A3/\True/\True/\True))/\rE x3.A0.Mem/\rE x3.B4/\rE x3.A6/\(mE x4.A0 (((Els.Nil (Els.ints u32 x4.A0.Mem)\/rE (1:Nat))/\rE x4.A0.Mem)) (((Els.Nil (Els.recs RK.apiEntry x4.B4)\/rE (4:Nat))/\rE x4.B4)/\rE x4.C5/\rE x4.A3/\True))/\rE ([]:List (RK.T RK.apiOutput))/\rE ([]:List (RK.T RK.apiOutput))/\True) (0,x3,x4,[],[]) λ(v0:Int×Q01×Q02×List Q04×List Q04)=> .br (decide (v0.1<(acts.length:Int))) (let E2:=bS 1 1&&bT 0 1&&decide (0<=v0.1/\v0.1<(acts.length:Int)); .cn E2 (let E4:=acts.getD v0.1.toNat 0; .lv (Qpk E4 3) λ(x5:Int)=> .br (Int.tmod x5 (3:Int)==(0:Int)) (.cn E2 (.an (Qr3 E4) (.lv (Qpu E4) λ(x6:Q0a)=> .an (Qkw v0.2.1 x6) (.lv (Qse v0.2.1 x6) λ(x7:Q01×Bool)=> .nx ((((Els.Nil (Els.ints i64 acts)\/rE (1:Nat))/\rE (acts:List Int))/\((Els.Nil (Els.ints i64 pace)\/rE (1:Nat))/\rE (pace:List Int))/\rZ/\rZ/\True/\True/\rE ((wrap i64 (v0.1+1)):Int)/\True)/\(mE x7.1.A0 True (rE x7.1.A3/\True/\True/\True))/\rE x7.1.A0.Mem/\rE x7.1.B4/\rE x7.1.A6/\(mE v0.2.2.1.A0 (((Els.Nil (Els.ints u32 v0.2.2.1.A0.Mem)\/eqAt Nat 1 1)/\rE v0.2.2.1.A0.Mem)) (((Els.Nil (Els.recs RK.apiEntry v0.2.2.1.B4)\/eqAt Nat 4 4)/\rE v0.2.2.1.B4)/\rE v0.2.2.1.C5/\rE v0.2.2.1.A3/\True))/\rE v0.2.2.2.1/\rE v0.2.2.2.2/\True) (Sum.inl (wrap i64 (v0.1+1),x7.1,v0.2.2.1,v0.2.2.2.1,v0.2.2.2.2)))))) (.an (Q2z (ishr i64 x5 4) 12) (.lv (Q5l (ishr i64 x5 4) 12) λ(x8:Int)=>let E6:=wrap u32 (iand i64 (ishr i64 x5 12) 255); .an (Qjv v0.2.1 x8 E6) (.lv (Qr8 v0.2.1 x8 E6) λ(x9:Q01×List Q04)=> .an (Qr5 x9.1) (.lv (Z80 x9.1) λ(x10:Q01×List Q0c×Int)=> .an (Qdm v0.2.2.1 x10.2.1 x10.2.2) (.lv (Qrn v0.2.2.1 x10.2.1 x10.2.2) λ(x11:Q02×Bool)=> .br (!x11.2) (.lf (Sum.inr false)) (.cn (decide (40*(v0.2.2.2.1.length+x9.2.length)<=140737488355328)) (.an (Qry pace v0.1) (.lv (zB pace v0.1) λ(x12:Int)=> .an (Q2z x12 14) (.lv (Q5l x12 14) λ(x13:Int)=> .an (Q6l x11.1 x13) (.lv (Qf8 x11.1 x13) λ(x14:Q02×List Q04)=> .cn (decide (40*(v0.2.2.2.2.length+x14.2.length)<=140737488355328)) (let E1:=(↑(dG (v0.2.2.2.2++x14.2)):Int);let E5:=(↑(dG (v0.2.2.2.1++x9.2)):Int); .br (decide (E1>E5)) (.lf (Sum.inr false)) (.cn (bS 4 4&&bT 0 4&&decide ((0:Int)<=(0:Int)/\0<=E1/\E1<=E5)) (let E3:=cW (dB E1-dB 0) (cX (dB 0) (v0.2.2.2.1++x9.2)); .an (Q52 (v0.2.2.2.2++x14.2) E3) (.lv (Q6d (v0.2.2.2.2++x14.2) E3) λ(x15:Bool)=> .br (!x15) (.lf (Sum.inr false)) (.nx ((((Els.Nil (Els.ints i64 acts)\/rE (1:Nat))/\rE (acts:List Int))/\((Els.Nil (Els.ints i64 pace)\/rE (1:Nat))/\rE (pace:List Int))/\rZ/\rZ/\True/\True/\rE ((wrap i64 (v0.1+1)):Int)/\True)/\(mE x10.1.A0 True (rE x10.1.A3/\True/\True/\True))/\rE x10.1.A0.Mem/\rE x10.1.B4/\rE x10.1.A6/\(mE x14.1.A0 (((Els.Nil (Els.ints u32 x14.1.A0.Mem)\/rE (1:Nat))/\rE x14.1.A0.Mem)) (((Els.Nil (Els.recs RK.apiEntry x14.1.B4)\/rE (4:Nat))/\rE x14.1.B4)/\rE x14.1.C5/\rE x14.1.A3/\True))/\rE ((v0.2.2.2.1++x9.2):List (RK.T RK.apiOutput))/\rE ((v0.2.2.2.2++x14.2):List (RK.T RK.apiOutput))/\True) (Sum.inl (wrap i64 (v0.1+1),x10.1,x14.1,v0.2.2.2.1++x9.2,v0.2.2.2.2++x14.2))))))))))))))))))) (.an (Q6l v0.2.2.1 500) (.lv (Qf8 v0.2.2.1 500) λ(x16:Q02×List Q04)=> .cn (decide (40*(v0.2.2.2.2.length+x16.2.length)<=140737488355328)) (.lv (Ql7 x16.1) λ(x17:Int)=> .br (x17 !=0) (.lf (Sum.inr false)) (.an (Q52 v0.2.2.2.1 (v0.2.2.2.2++x16.2)) (.lv (Q6d v0.2.2.2.1 (v0.2.2.2.2++x16.2)) λ(x18:Bool)=> .br (!x18) (.lf (Sum.inr false)) (.br (x16.1.A0.A1 !=v0.2.1.A0.A1) (.lf (Sum.inr false)) (.an (Q7l x16.1) (.lv (Qhe x16.1) λ(x19:Q01×Bool)=> .br x19.2 (.an (Qsq x19.1.A0 v0.2.1.A0) (.lv (Zfj x19.1.A0 v0.2.1.A0) λ(x20:Bool)=> .br x20 (.br ((x19.1.B4.length:Int)==(0:Int)) (.an Q5t (.lv Qcr λ(x21:Bool)=> .lf (Sum.inr x21))) (.lf (Sum.inr false))) (.lf (Sum.inr false)))) (.lf (Sum.inr false))))))))))))))
def Qcq kind l acts pace:=(Q70 kind l acts pace).m
abbrev Qe7 kind l acts pace:=(Q70 kind l acts pace).p
def Qne:LInv:={
 α:=(Int)×Q01×Q02×(List Q04)×(List Q04)
 F:=λst a=>([(2,(lk st 2)),(3,(lk st 3)),(10, .ptr 0 0 0),(11, .ptr 4 0 0),(12, .all 5),(13, .all 6),(14, .int i64 a.1)],[⟨true,96,52, .gen [[.int u32 a.2.1.A0.B1.X.a0, .int u32 a.2.1.A0.B1.X.a1, .int u32 a.2.1.A0.B1.X.a2, .int u32 a.2.1.A0.B1.X.a3, .int u32 a.2.1.A0.B1.X.a4, .int u32 a.2.1.A0.B1.X.a5, .int u32 a.2.1.A0.B1.X.a6, .int u32 a.2.1.A0.B1.X.a7, .int u32 a.2.1.A0.B1.X.a8, .int u32 a.2.1.A0.B1.X.a9, .int u32 a.2.1.A0.B1.X.a10, .int u32 a.2.1.A0.B1.X.a11, .int u32 a.2.1.A0.B1.X.a12, .int u32 a.2.1.A0.B1.X.a13, .int u32 a.2.1.A0.B1.X.a14, .int u32 a.2.1.A0.B1.X.a15, .int u32 a.2.1.A0.B1.Pc, .int u32 a.2.1.A0.B1.B5.a0, .int u32 a.2.1.A0.B1.B5.a1, .int u32 a.2.1.A0.B1.B5.a2, .int u32 a.2.1.A0.B1.B5.a3, .int u32 a.2.1.A0.B1.B5.a4, .int u32 a.2.1.A0.B1.B5.a5, .int u32 a.2.1.A0.B1.B5.a6, .int u32 a.2.1.A0.B1.B5.a7, .all 1, .str a.2.1.A0.A4.D3, .bool a.2.1.A0.B0.D2, .int u32 a.2.1.A0.B0.C8, .bool a.2.1.A0.B0.D5, .int u32 a.2.1.A0.B2.Blocks, .int u32 a.2.1.A0.B2.C2, .int u32 a.2.1.A0.B2.Frame, .int i64 a.2.1.A0.B2.C0, .int i64 a.2.1.A0.B2.D8, .int u32 a.2.1.A0.B2.B7, .int u32 a.2.1.A0.B2.B3, .str a.2.1.A0.B2.C4, .int u32 a.2.1.A0.C6.Frame, .int u32 a.2.1.A0.C6.E0, .bool a.2.1.A0.C6.C7, .int u32 a.2.1.A0.C6.B9, .bool a.2.1.A0.C6.B8, .int u32 a.2.1.A0.C6.F1, .int u32 a.2.1.A0.A2.D0, .int u32 a.2.1.A0.A2.C3, .int u64 a.2.1.A0.A1, .bool a.2.1.A0.A7, .bool a.2.1.A0.A9, .int u32 a.2.1.A3, .all 2, .all 3]]⟩,⟨false,25,1, .ints u32 a.2.1.A0.Mem⟩,⟨false,126,4, .recs RK.apiEntry a.2.1.B4⟩,⟨false,66,3, .recs RK.apiEvent a.2.1.A6⟩,⟨true,106,52, .gen [[.int u32 a.2.2.1.A0.B1.X.a0, .int u32 a.2.2.1.A0.B1.X.a1, .int u32 a.2.2.1.A0.B1.X.a2, .int u32 a.2.2.1.A0.B1.X.a3, .int u32 a.2.2.1.A0.B1.X.a4, .int u32 a.2.2.1.A0.B1.X.a5, .int u32 a.2.2.1.A0.B1.X.a6, .int u32 a.2.2.1.A0.B1.X.a7, .int u32 a.2.2.1.A0.B1.X.a8, .int u32 a.2.2.1.A0.B1.X.a9, .int u32 a.2.2.1.A0.B1.X.a10, .int u32 a.2.2.1.A0.B1.X.a11, .int u32 a.2.2.1.A0.B1.X.a12, .int u32 a.2.2.1.A0.B1.X.a13, .int u32 a.2.2.1.A0.B1.X.a14, .int u32 a.2.2.1.A0.B1.X.a15, .int u32 a.2.2.1.A0.B1.Pc, .int u32 a.2.2.1.A0.B1.B5.a0, .int u32 a.2.2.1.A0.B1.B5.a1, .int u32 a.2.2.1.A0.B1.B5.a2, .int u32 a.2.2.1.A0.B1.B5.a3, .int u32 a.2.2.1.A0.B1.B5.a4, .int u32 a.2.2.1.A0.B1.B5.a5, .int u32 a.2.2.1.A0.B1.B5.a6, .int u32 a.2.2.1.A0.B1.B5.a7, .sl 1 (.ints u32 a.2.2.1.A0.Mem) false, .str a.2.2.1.A0.A4.D3, .bool a.2.2.1.A0.B0.D2, .int u32 a.2.2.1.A0.B0.C8, .bool a.2.2.1.A0.B0.D5, .int u32 a.2.2.1.A0.B2.Blocks, .int u32 a.2.2.1.A0.B2.C2, .int u32 a.2.2.1.A0.B2.Frame, .int i64 a.2.2.1.A0.B2.C0, .int i64 a.2.2.1.A0.B2.D8, .int u32 a.2.2.1.A0.B2.B7, .int u32 a.2.2.1.A0.B2.B3, .str a.2.2.1.A0.B2.C4, .int u32 a.2.2.1.A0.C6.Frame, .int u32 a.2.2.1.A0.C6.E0, .bool a.2.2.1.A0.C6.C7, .int u32 a.2.2.1.A0.C6.B9, .bool a.2.2.1.A0.C6.B8, .int u32 a.2.2.1.A0.C6.F1, .int u32 a.2.2.1.A0.A2.D0, .int u32 a.2.2.1.A0.A2.C3, .int u64 a.2.2.1.A0.A1, .bool a.2.2.1.A0.A7, .bool a.2.2.1.A0.A9, .sl 4 (.recs RK.apiEntry a.2.2.1.B4) false, .int u64 a.2.2.1.C5, .int u32 a.2.2.1.A3]]⟩,⟨false,71,4, .recs RK.apiOutput a.2.2.2.1⟩,⟨false,71,4, .recs RK.apiOutput a.2.2.2.2⟩])
 a0:=λst=>((lk st 14).toInt,(⟨(mR (cT st 10) (Q7d st.rows (Q0x (cT st 10 25) 1000000))),(cT st 10 49).toInt,(Q5g RK.apiEntry st.rows (Q0x (cT st 10 50) 1000000)),(Q5g RK.apiEvent st.rows (Q0x (cT st 10 51) 1000000))⟩:Q01),(⟨(mR (cT st 11) (slI u32 (cT st 11 25))),(slR RK.apiEntry (cT st 11 49)),(cT st 11 50).toInt,(cT st 11 51).toInt⟩:Q02),(Q5g RK.apiOutput st.rows (rN st 12)),(Q5g RK.apiOutput st.rows (rN st 13)))
 ex0:=λst=>[]++[(rX st 10 0),(Q0x (cT st 10 25) (st.rows.length+1)),(Q0x (cT st 10 50) (st.rows.length+2)),(Q0x (cT st 10 51) (st.rows.length+3)),(rX st 11 4),(rX st 12 5),(rX st 13 6)]}
def Qlp:List (Nat×LInv):=[(8,Qne)]
def Qow:Q0e:=mT 13 [] true [.one (.int .i64), .one (.ints .i64), .one (.ints .i64), .one (.ints .i64)] [] (λa r=>Q70 (argI a 0) (argL .i64 a 1) (argL .i64 a 2) (argL .i64 a 3)) (λX=> .bool X) (λX=>[])
theorem Qni:Q06 pG Qow:=oT (.cons Zjb (.cons Z6b (.cons Z1t (.cons Quc (.cons Qto (.cons Qmi (.cons Qys (.cons Z9s (.cons Qv5 (.cons Qgz (.cons Z94 (.cons Qqk (.cons Qku (.cons Zm5 (.cons Qs2 (.cons Qur (.cons Qn0 (.cons Zgc (.nil))))))))))))))))))) Tryz.func13 Tryz.call13 [] Qlp 3

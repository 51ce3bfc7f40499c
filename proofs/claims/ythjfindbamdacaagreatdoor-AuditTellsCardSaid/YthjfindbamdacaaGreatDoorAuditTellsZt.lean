import Derived.Test.YthjfindbamdacaaGreatDoorAuditTellsZd
import Derived.Test.YthjfindbamdacaaGreatDoorAuditTellsZx
open Nat renaming beq->bT,blt->bJ,lt_succ_self->cO
open List renaming getD->aK,length->dJ,append->cQ,take->cZ,drop->dA
open Int renaming toNat->dE
open UInt8 renaming toNat->eV
set_option maxRecDepth 100000
set_option linter.all false
namespace Go.Proofs.YthjfindbamdacaaGreatDoor
open Go Go.GD Go.IntKind
noncomputable section
instance Sa {α β:Type} [Inhabited β]:Inhabited (α⊕β):=⟨.inr default⟩
def Qt8(src:List UInt8)(z:(Int)×(List Int)):Nat:=((Z2y src).2.1.length-z.1).toNat
def Qsp(src:List UInt8)(v0:Int×List Int)(z:(Int)×(List Int)):Nat:=(1024-z.1).toNat
def N5(src:List UInt8):Tree ((List Int)×tE):=
.an (Qmm src) (.lv (Z2y src) λ(x0:List Q2×List kC×tE)=>.br (x0.2.2.Ap !=0) (.lf ([],x0.2.2)) (.lp inferInstance (Qt8 src (0,[])+1) ((True/\rZ/\True/\True/\True/\rE (0:Int)/\True)/\(rE (0:Int)/\rE (0:Int)/\True)/\rE x0.1/\rE x0.2.1/\rE ([]:List Int)/\True) (0,[]) λ(v0:Int×List Int)=>.br (decide (v0.1<(x0.2.1.length:Int))) (.cn (bT 6 6&&bJ 0 6&&decide (0<=v0.1/\v0.1<(x0.2.1.length:Int))) (let E4:=x0.2.1.getD v0.1.toNat (RK.cg RK.aj);let T1:Tree ((Int×List Int)⊕(((List Int)×tE))):=.lp inferInstance (Qsp src v0 (0,v0.2)+1) ((True/\rZ/\True/\True/\True/\rE v0.1/\rZ/\rE (0:Int)/\True)/\(rE (0:Int)/\rE (0:Int)/\True)/\rE x0.1/\rE x0.2.1/\(rE ((x0.2.1.getD v0.1.toNat (RK.cg RK.aj)).ea:List UInt8)/\rE ((x0.2.1.getD v0.1.toNat (RK.cg RK.aj)).op:Int)/\((ai.Nil (D.toEs (aK (ai.get (ai.ba RK.aj x0.2.1) v0.1.toNat) ((0:Nat)+(1:Nat)+(1:Nat)) D.dead))\/rE (3:Nat))/\rE ((x0.2.1.getD v0.1.toNat (RK.cg RK.aj)).l:List (RK.T RK.ay)))/\rE ((x0.2.1.getD v0.1.toNat (RK.cg RK.aj)).D5:Int)/\rE ((x0.2.1.getD v0.1.toNat (RK.cg RK.aj)).at_:Int)/\rE ((x0.2.1.getD v0.1.toNat (RK.cg RK.aj)).size:Int)/\True)/\rE v0.2/\True) (0,v0.2) λ(v1:Int×List Int)=>.br (decide (v1.1<E4.size)) (.cn (decide (4*(v1.2.length+1)<=140737488355328)) (.nx ((True/\rZ/\True/\True/\True/\rE v0.1/\rZ/\rE ((wrap i64 (v1.1+1)):Int)/\True)/\(rE (0:Int)/\rE (0:Int)/\True)/\rE x0.1/\rE x0.2.1/\(rE ((x0.2.1.getD v0.1.toNat (RK.cg RK.aj)).ea:List UInt8)/\rE ((x0.2.1.getD v0.1.toNat (RK.cg RK.aj)).op:Int)/\((ai.Nil (ai.ba RK.ay (x0.2.1.getD v0.1.toNat (RK.cg RK.aj)).l)\/rE (3:Nat))/\rE ((x0.2.1.getD v0.1.toNat (RK.cg RK.aj)).l:List (RK.T RK.ay)))/\rE ((x0.2.1.getD v0.1.toNat (RK.cg RK.aj)).D5:Int)/\rE ((x0.2.1.getD v0.1.toNat (RK.cg RK.aj)).at_:Int)/\rE ((x0.2.1.getD v0.1.toNat (RK.cg RK.aj)).size:Int)/\True)/\rE ((v1.2++[0]):List Int)/\True) (Sum.inl (wrap i64 (v1.1+1),v1.2++[0])))) (.nx ((True/\rZ/\True/\True/\True/\rE ((wrap i64 (v0.1+1)):Int)/\True)/\(rE (0:Int)/\rE (0:Int)/\True)/\rE x0.1/\rE x0.2.1/\rE v1.2/\True) (Sum.inr (Sum.inl (wrap i64 (v0.1+1),v1.2))));let E5:=bT 3 3&&bJ 0 3&&decide ((0:Int)<=(0:Int)/\0<(↑(dJ E4.l):Int));let E7:=aK E4.l (dE 0) (RK.cg RK.ay);let E8:=decide (4*(v0.2.length+1)<=140737488355328);let T2:Tree ((Int×List Int)⊕(((List Int)×tE))):=.cn E5 (.cn (bT 3 3&&bJ 0 3&&decide ((0:Int)<=(1:Int)/\1<(↑(dJ E4.l):Int))) (.lv (oV {Op:=16,A:=E7.kJ,B:=(aK E4.l (dE 1) (RK.cg RK.ay)).kJ,C:=0,bo:=0}) λ(x4:Int×Bool)=>.cn E8 (.nx ((True/\rZ/\True/\True/\True/\rE ((wrap i64 (v0.1+1)):Int)/\True)/\(rE (0:Int)/\rE (0:Int)/\True)/\rE x0.1/\rE x0.2.1/\rE ((v0.2++[x4.1]):List Int)/\True) (Sum.inl (wrap i64 (v0.1+1),v0.2++[x4.1])))));let T3:Tree ((Int×List Int)⊕(((List Int)×tE))):=.lv (oV {Op:=16,A:=0,B:=0,C:=0,bo:=0}) λ(x5:Int×Bool)=>.cn E8 (.nx ((True/\rZ/\True/\True/\True/\rE ((wrap i64 (v0.1+1)):Int)/\True)/\(rE (0:Int)/\rE (0:Int)/\True)/\rE x0.1/\rE x0.2.1/\rE ((v0.2++[x5.1]):List Int)/\True) (Sum.inl (wrap i64 (v0.1+1),v0.2++[x5.1])));let E9:=decide (E4.ea=[(46:UInt8),115,112,97,99,101]);let me:=decide (E4.ea=[(46:UInt8),119,111,114,100]);let o7:=decide (E4.ea=[(110:UInt8),111,112]);let BJ:=decide (4*(v0.2.length+2)<=140737488355328);let Ic:=decide (E4.ea=[(108:UInt8),105]);let Ie:=decide (E4.ea=[(109:UInt8),118]);.br (decide ((↑(dJ E4.l):Int)>(0:Int))) (.cn (bT 3 3&&bJ 0 3&&decide (0<=wrap i64 ((↑(dJ E4.l):Int)-(1:Int))/\wrap i64 ((↑(dJ E4.l):Int)-(1:Int))<(↑(dJ E4.l):Int))) (let E6:=aK E4.l (dE (wrap i64 ((↑(dJ E4.l):Int)-(1:Int)))) (RK.cg RK.ay);.br (!decide (E6.label=[])) (.an (GC x0.1 E6.label) (.lv (Qpg x0.1 E6.label) λ(x1:Int×Bool)=>.br (!x1.2) (.lf (Sum.inr ([],{Ap:=302,nC:=E4.D5}))) (.br (decide (E4.op>0)) (let nZ:=wrap i64 (wrap i64 (Int.tdiv (wrap i64 x1.1) 4)-E4.at_);.br me (.cn E8 (.nx ((True/\rZ/\True/\True/\True/\rE ((wrap i64 (v0.1+1)):Int)/\True)/\(rE (0:Int)/\rE (0:Int)/\True)/\rE x0.1/\rE x0.2.1/\rE ((v0.2++[wrap u32 (wrap i64 (wrap i64 (Int.tdiv (wrap i64 x1.1) 4)-(x0.2.1.getD v0.1.toNat (RK.cg RK.aj)).at_))]):List Int)/\True) (Sum.inl (wrap i64 (v0.1+1),v0.2++[wrap u32 nZ])))) (.br E9 T1 (.br Ic (.cn E5 (.lv (oV {Op:=24,A:=E7.kJ,B:=0,C:=0,bo:=wrap i32 (bf u32 (wrap u32 nZ) 16)}) λ(x2:Int×Bool)=>.cn E5 (.cn E5 (.lv (oV {Op:=18,A:=E7.kJ,B:=E7.kJ,C:=0,bo:=wrap i32 (bc u32 (wrap u32 nZ) 65535)}) λ(x3:Int×Bool)=>.cn BJ (.nx ((True/\rZ/\True/\True/\True/\rE ((wrap i64 (v0.1+1)):Int)/\True)/\(rE (0:Int)/\rE (0:Int)/\True)/\rE x0.1/\rE x0.2.1/\rE ((v0.2++[x2.1,x3.1]):List Int)/\True) (Sum.inl (wrap i64 (v0.1+1),v0.2++[x2.1,x3.1]))))))) (.br Ie T2 (.br o7 T3 (.an (N3 E4 nZ) (.lv (VH E4 nZ) λ(x6:Int×Bool)=>.br (!x6.2) (.lf (Sum.inr ([],{Ap:=304,nC:=E4.D5}))) (.cn E8 (.nx ((True/\rZ/\True/\True/\True/\rE ((wrap i64 (v0.1+1)):Int)/\True)/\(rE (0:Int)/\rE (0:Int)/\True)/\rE x0.1/\rE x0.2.1/\rE ((v0.2++[x6.1]):List Int)/\True) (Sum.inl (wrap i64 (v0.1+1),v0.2++[x6.1]))))))))))) (.br me (.cn E8 (.nx ((True/\rZ/\True/\True/\True/\rE ((wrap i64 (v0.1+1)):Int)/\True)/\(rE (0:Int)/\rE (0:Int)/\True)/\rE x0.1/\rE x0.2.1/\rE ((v0.2++[wrap u32 (wrap i64 x1.1)]):List Int)/\True) (Sum.inl (wrap i64 (v0.1+1),v0.2++[wrap u32 (wrap i64 x1.1)])))) (.br E9 T1 (.br Ic (.cn E5 (.lv (oV {Op:=24,A:=E7.kJ,B:=0,C:=0,bo:=wrap i32 (bf u32 (wrap u32 (wrap i64 x1.1)) 16)}) λ(x7:Int×Bool)=>.cn E5 (.cn E5 (.lv (oV {Op:=18,A:=E7.kJ,B:=E7.kJ,C:=0,bo:=wrap i32 (bc u32 (wrap u32 (wrap i64 x1.1)) 65535)}) λ(x8:Int×Bool)=>.cn BJ (.nx ((True/\rZ/\True/\True/\True/\rE ((wrap i64 (v0.1+1)):Int)/\True)/\(rE (0:Int)/\rE (0:Int)/\True)/\rE x0.1/\rE x0.2.1/\rE ((v0.2++[x7.1,x8.1]):List Int)/\True) (Sum.inl (wrap i64 (v0.1+1),v0.2++[x7.1,x8.1]))))))) (.br Ie T2 (.br o7 T3 (.an (N3 E4 (wrap i64 x1.1)) (.lv (VH E4 (wrap i64 x1.1)) λ(jv:Int×Bool)=>.br (!jv.2) (.lf (Sum.inr ([],{Ap:=304,nC:=E4.D5}))) (.cn E8 (.nx ((True/\rZ/\True/\True/\True/\rE ((wrap i64 (v0.1+1)):Int)/\True)/\(rE (0:Int)/\rE (0:Int)/\True)/\rE x0.1/\rE x0.2.1/\rE ((v0.2++[jv.1]):List Int)/\True) (Sum.inl (wrap i64 (v0.1+1),v0.2++[jv.1])))))))))))))) (.br me (.cn E8 (.nx ((True/\rZ/\True/\True/\True/\rE ((wrap i64 (v0.1+1)):Int)/\True)/\(rE (0:Int)/\rE (0:Int)/\True)/\rE x0.1/\rE x0.2.1/\rE ((v0.2++[wrap u32 (aK (x0.2.1.getD v0.1.toNat (RK.cg RK.aj)).l (dE (wrap i64 ((↑(dJ (x0.2.1.getD v0.1.toNat (RK.cg RK.aj)).l):Int)-(1:Int)))) (RK.cg RK.ay)).num]):List Int)/\True) (Sum.inl (wrap i64 (v0.1+1),v0.2++[wrap u32 E6.num])))) (.br E9 T1 (.br Ic (.cn E5 (.lv (oV {Op:=24,A:=E7.kJ,B:=0,C:=0,bo:=wrap i32 (bf u32 (wrap u32 E6.num) 16)}) λ(jO:Int×Bool)=>.cn E5 (.cn E5 (.lv (oV {Op:=18,A:=E7.kJ,B:=E7.kJ,C:=0,bo:=wrap i32 (bc u32 (wrap u32 E6.num) 65535)}) λ(jW:Int×Bool)=>.cn BJ (.nx ((True/\rZ/\True/\True/\True/\rE ((wrap i64 (v0.1+1)):Int)/\True)/\(rE (0:Int)/\rE (0:Int)/\True)/\rE x0.1/\rE x0.2.1/\rE ((v0.2++[jO.1,jW.1]):List Int)/\True) (Sum.inl (wrap i64 (v0.1+1),v0.2++[jO.1,jW.1]))))))) (.br Ie T2 (.br o7 T3 (.an (N3 E4 E6.num) (.lv (VH E4 E6.num) λ(lB:Int×Bool)=>.br (!lB.2) (.lf (Sum.inr ([],{Ap:=304,nC:=E4.D5}))) (.cn E8 (.nx ((True/\rZ/\True/\True/\True/\rE ((wrap i64 (v0.1+1)):Int)/\True)/\(rE (0:Int)/\rE (0:Int)/\True)/\rE x0.1/\rE x0.2.1/\rE ((v0.2++[lB.1]):List Int)/\True) (Sum.inl (wrap i64 (v0.1+1),v0.2++[lB.1]))))))))))))) (.br me (.cn E8 (.nx ((True/\rZ/\True/\True/\True/\rE ((wrap i64 (v0.1+1)):Int)/\True)/\(rE (0:Int)/\rE (0:Int)/\True)/\rE x0.1/\rE x0.2.1/\rE ((v0.2++[wrap u32 0]):List Int)/\True) (Sum.inl (wrap i64 (v0.1+1),v0.2++[wrap u32 0])))) (.br E9 T1 (.br Ic (.cn E5 (.lv (oV {Op:=24,A:=E7.kJ,B:=0,C:=0,bo:=wrap i32 (bf u32 (wrap u32 0) 16)}) λ(mP:Int×Bool)=>.cn E5 (.cn E5 (.lv (oV {Op:=18,A:=E7.kJ,B:=E7.kJ,C:=0,bo:=wrap i32 (bc u32 (wrap u32 0) 65535)}) λ(nw:Int×Bool)=>.cn BJ (.nx ((True/\rZ/\True/\True/\True/\rE ((wrap i64 (v0.1+1)):Int)/\True)/\(rE (0:Int)/\rE (0:Int)/\True)/\rE x0.1/\rE x0.2.1/\rE ((v0.2++[mP.1,nw.1]):List Int)/\True) (Sum.inl (wrap i64 (v0.1+1),v0.2++[mP.1,nw.1]))))))) (.br Ie T2 (.br o7 T3 (.an (N3 E4 0) (.lv (VH E4 0) λ(pA:Int×Bool)=>.br (!pA.2) (.lf (Sum.inr ([],{Ap:=304,nC:=E4.D5}))) (.cn E8 (.nx ((True/\rZ/\True/\True/\True/\rE ((wrap i64 (v0.1+1)):Int)/\True)/\(rE (0:Int)/\rE (0:Int)/\True)/\rE x0.1/\rE x0.2.1/\rE ((v0.2++[pA.1]):List Int)/\True) (Sum.inl (wrap i64 (v0.1+1),v0.2++[pA.1]))))))))))))) (.lf (Sum.inr (v0.2,{Ap:=0,nC:=0})))))
def Lb src:=(N5 src).m
abbrev WZ src:=(N5 src).p
def Qzu:bm:={
 α:=(Int)×(List Int)
 F:=λst a=>([(2,(lk st 2)),(3,.ptr 0 0 0),(4,.all 1),(5,.all 2),(7,.all 3),(8,.int i64 a.1)],[⟨true,112,2,.gen [[(cT st 3 0),(cT st 3 1)]]⟩,⟨false,238,2,nH st.rows (rN st 4)⟩,⟨false,175,6,nH st.rows (rN st 5)⟩,⟨false,23,1,.ints u32 a.2⟩])
 a0:=λst=>((lk st 8).toInt,(nI st.rows (rN st 7)))
 iy:=λst=>[]++[(rX st 3 0),(rX st 4 1),(rX st 5 2),(rX st 7 3)]}
def Z14:bm:={
 α:=(Int)×(List Int)
 F:=λst a=>([(2,(lk st 2)),(3,.ptr 0 0 0),(4,.all 1),(5,.all 2),(7,.all 4),(8,(lk st 8)),(9,.ptr 3 0 0),(14,.int i64 a.1)],[⟨true,112,2,.gen [[(cT st 3 0),(cT st 3 1)]]⟩,⟨false,238,2,nH st.rows (rN st 4)⟩,⟨false,175,6,nH st.rows (rN st 5)⟩,⟨true,175,6,.gen [[(cT st 9 0),(cT st 9 1),(cT st 9 2),(cT st 9 3),(cT st 9 4),(cT st 9 5)]]⟩,⟨false,23,1,.ints u32 a.2⟩])
 a0:=λst=>((lk st 14).toInt,(nI st.rows (rN st 7)))
 iy:=λst=>[]++[(rX st 3 0),(rX st 4 1),(rX st 5 2),(rX st 9 3),(rX st 7 4)]}
def Quz:List (Nat×bm):=[(6,Qzu),(29,Z14)]
def Z4j:bb:=mT 49 [] true [.one (.str)] [] (λa r=>N5 (gh a 0)) (λX=>.dt [.all 0,.agg (tE.cells (X.2))]) (λX=>[⟨false,23,1,.ints .u32 (X.1)⟩])
theorem Z15:bj pG Z4j:=oT (.cons Zfm (.cons Qpz (.cons Qjy (.cons Zh1 (.nil))))) Tryz.func49 Tryz.call49 [.row 23 1 (.ints .u32)] Quz 3
end
noncomputable section
instance Sb {α β:Type} [Inhabited β]:Inhabited (α⊕β):=⟨.inr default⟩
end
noncomputable section
def Cp:List UInt8:=[(105:UInt8),32,114,49,44,32,104,97,110,100,108,101,114,10,99,115,114,119,32,114,49,44,32,49,10,108,105,32,114,49,44,32,51,49,10,99,115,114,119,32,114]
def KV:List UInt8:=[(49:UInt8),44,32,55,10,108,105,32,114,49,44,32,52,10,99,115,114,119,32,114,49,44,32,54,10,108,105,32,114,50,44,32,53,49,50,10,108,105,32,114,51,44]
def KW:List UInt8:=[(32:UInt8),48,10,108,105,32,114,52,44,32,56,10,109,97,112,58,32,115,104,108,105,32,114,53,44,32,114,51,44,32,56,10,111,114,105,32,114,53,44,32,114,53]
def KX:List UInt8:=[(44:UInt8),32,55,10,115,104,108,105,32,114,54,44,32,114,51,44,32,50,10,97,100,100,32,114,54,44,32,114,54,44,32,114,50,10,115,119,32,114,53,44,32,48,40]
def KY:List UInt8:=[(114:UInt8),54,41,10,97,100,100,105,32,114,51,44,32,114,51,44,32,49,10,98,108,116,32,114,51,44,32,114,52,44,32,109,97,112,10,108,105,32,114,49,44,32]
def KZ:List UInt8:=[(54:UInt8),10,111,117,116,32,114,49,44,32,55,10,108,105,32,114,49,44,32,50,10,111,117,116,32,114,49,44,32,57,10,108,105,32,114,49,44,32,49,48,48,10,111]
def K0:List UInt8:=[(117:UInt8),116,32,114,49,44,32,51,10,108,105,32,114,49,44,32,54,52,48,10,99,115,114,119,32,114,49,44,32,50,10,108,105,32,114,49,44,32,50,49,10,99]
def K1:List UInt8:=[(115:UInt8),114,119,32,114,49,44,32,48,10,101,114,101,116,10,104,97,110,100,108,101,114,58,32,99,115,114,119,32,114,49,44,32,53,10,99,115,114,114,32,114,49,44]
def K3:List UInt8:=[(32:UInt8),51,10,115,108,116,105,32,114,49,44,32,114,49,44,32,49,54,10,98,101,113,32,114,49,44,32,114,48,44,32,105,114,113,10,99,115,114,114,32,114,49]
def K4:List UInt8:=[(44:UInt8),32,50,10,97,100,100,105,32,114,49,44,32,114,49,44,32,52,10,99,115,114,119,32,114,49,44,32,50,10,105,110,32,114,51,44,32,50,10,111,117,116]
def K5:List UInt8:=[(32:UInt8),114,51,44,32,48,10,108,105,32,114,49,44,32,49,10,111,117,116,32,114,49,44,32,52,10,108,105,32,114,49,44,32,55,10,111,117,116,32,114,49,44]
def K6:List UInt8:=[(32:UInt8),53,10,97,110,100,105,32,114,49,44,32,114,50,44,32,49,10,97,100,100,105,32,114,49,44,32,114,49,44,32,49,10,111,117,116,32,114,49,44,32,54,10]
def K7:List UInt8:=[(99:UInt8),115,114,114,32,114,49,44,32,53,10,101,114,101,116,10,105,114,113,58,32,105,110,32,114,49,44,32,48,10,111,117,116,32,114,49,44,32,48,10,111,117]
def K8:List UInt8:=[(116:UInt8),32,114,48,44,32,54,10,111,117,116,32,114,48,44,32,57,10,108,105,32,114,49,44,32,54,10,111,117,116,32,114,49,44,32,55,10,108,105,32,114,49,44]
def K9:List UInt8:=[(32:UInt8),50,10,111,117,116,32,114,49,44,32,57,10,105,110,32,114,49,44,32,50,10,97,100,100,105,32,114,49,44,32,114,49,44,32,50,48,10,111,117,116,32]
def La:List UInt8:=[(114:UInt8),49,44,32,51,10,105,110,32,114,49,44,32,49,48,10,111,117,116,32,114,49,44,32,49,48,10,99,115,114,114,32,114,49,44,32,53,10,101,114,101,116,10]
def Tb:List UInt8:=[(108:UInt8),105,32,114,49,44,32,104,97,110,100,108,101,114,10,99,115,114,119,32,114,49,44,32,49,10,108,105,32,114,49,44,32,51,49,10,99,115,114,119,32,114]
instance Sc {α β:Type} [Inhabited β]:Inhabited (α⊕β):=⟨.inr default⟩
def Qku(l:List dr)(z:(Int)):Prop:=1<=z/\(z<=l.length\/z=1)
def Mn(l:List dr)(z:(Int)):Nat:=(l.length-z).toNat
def Mm(l:List dr):Tree Bool:=
.lp inferInstance (Mn l 1+1) ((nR RK.ae 4 l/\rE (1:Int)/\True)/\True) 1 λ(v0:Int)=>.br (decide (v0<(l.length:Int))) (let E4:=bT 4 4&&bJ 0 4&&decide (0<=v0/\v0<(l.length:Int));.cn E4 (let E2:=bT 4 4&&bJ 0 4&&decide (0<=wrap i64 (v0-1)/\wrap i64 (v0-1)<(l.length:Int));.cn E2 (let E3:=l.getD (dE (wrap i64 (v0-1))) (RK.cg RK.ae);let E5:=l.getD v0.toNat (RK.cg RK.ae);.br (decide (E5.At<E3.At)) (.lf (Sum.inr false)) (.cn E4 (.cn E2 (let T1:Tree ((Int)⊕(Bool)):=.nx ((nR RK.ae 4 l/\rE ((wrap i64 (v0+1)):Int)/\True)/\True) (Sum.inl (wrap i64 (v0+1)));.br (E5.At==E3.At) (.cn E2 (.br (E3.C5.C3==1) (.lf (Sum.inr false)) T1)) T1)))))) (.lf (Sum.inr true))
def Qp1 l:=(Mm l).m
def KT(l:List dr):Prop:=
l.length<=1000000000000
theorem Z0l(l:List dr)(hw:KT l):(Mm l).p:=by
 simp only[KT]at hw
 unfold Tree.p Mm
 repeat'(first|refine ej (inv:=Qku l) (μ:=Mn l) ?_ (cO _) (λ_ _=>?_)|exact trivial|refine ab (λ_=>?_) (λ_=>?_)|refine ar ?_ ?_|refine cu ?_ ?_|refine au (λ_ _=>?_)|refine dm ?_|refine bq ?_|refine And.intro ?_ ?_)
 all_goals((try simp only[Qku,Mn]at*);exact oM)
def Z4g:bm:={
 α:=(Int)
 F:=λst a=>([(0,(lk st 0)),(3,.int i64 a)],[])
 a0:=λst=>(lk st 3).toInt
 iy:=λst=>[]++[]}
def Qxu:List (Nat×bm):=[(2,Z4g)]
def Z7m:bb:=mU 102 [] true [.one (.ba .ae)] [] (λa r=>KT (ie .ae a 0)) (λa r=>Qp1 (ie .ae a 0)) (λX=>.bool X) (λX=>[])
theorem Qp9:bj pG Z7m:=wv drawn nj (.nil) Tryz.func102 Tryz.call102 (λa r=>Mm (ie .ae a 0)) [] Qxu 3 (hp:=λa r h=>Z0l (ie .ae a 0) h)
def S8(m:ao)(script:List dr)(bu:Int)(z:ao×(List fc)):Nat:=(bu-z.1.A0).toNat
def S9(m:ao)(script:List dr)(bu:Int)(v0:ao×List fc)(z:Unit):Nat:=0
def Fo(m:ao)(script:List dr)(bu:Int):Tree (ao×(List fc)×Int×Int):=
.lv (sd m) λ(x0:Bool)=>let E2:=({A7:={X:={a0:=0,a1:=0,a2:=0,a3:=0,a4:=0,a5:=0,a6:=0,a7:=0,a8:=0,a9:=0,kP:=0,kQ:=0,a12:=0,kR:=0,kS:=0,kT:=0},Pc:=0,B1:={a0:=0,a1:=0,a2:=0,a3:=0,a4:=0,a5:=0,a6:=0,a7:=0}},Mem:=[],A2:={C6:=[]},A9:={D0:=false,B8:=0,C9:=false},A4:={ag:=0,B9:=0,Frame:=0,B6:=0,D1:=0,B4:=0,B0:=0,B5:=[]},C1:={Frame:=0,D6:=0,C2:=false,B7:=0,B3:=false,D8:=0},A1:={C4:=0,C0:=0},A0:=0,A3:=false,A6:=false}:ao);let T1:Tree ((ao×(List fc)×Int×Int)):=.lf (E2,[],0,1300);.br (!x0) T1 (.br (decide (bu<m.A0)) T1 (.br (decide (wrap u64 (bu-m.A0)>4000)) T1 (.an (KT []) (.lv (Qp1 []) λ(x1:Bool)=>.br (!x1) (.lf (E2,[],0,1301)) (.an (VI m) (.lv (Mb m) λ(x2:ao)=>.lp inferInstance (S8 m script bu (x2,[])+1) ((((ai.Nil (ai.gen [])\/rE (0:Nat))/\rE ([]:List (List D)))/\rE (bu:Int)/\rZ/\rZ/\True/\rE (0:Int)/\True)/\(mE x2 True True)/\rE x2.Mem/\(mE zM True True)/\rE ([]:List (RK.T RK.bd))/\True) (x2,[]) λ(v0:ao×List fc)=>.br (decide (v0.1.A0<bu)) (.br (decide (v0.1.A0<1152921504606846976)) (.lp inferInstance (S9 m script bu v0 ()+1) ((((ai.Nil (ai.gen [])\/rE (0:Nat))/\rE ([]:List (List D)))/\rE (bu:Int)/\rZ/\rZ/\True/\rE (0:Int)/\(rE (0:Nat)/\rE (46:Nat))/\rE v0.1.A0/\rE ((decide (v0.1.A0<1152921504606846976)):Bool)/\True)/\(mE v0.1 True True)/\rE v0.1.Mem/\(mE zM True True)/\rE v0.2/\True) () λ(v1:PUnit)=>.br v0.1.A6 (.lf (Sum.inr (Sum.inr (v0.1,v0.2,0,0)))) (.an (Qg0 v0.1) (.lv (pz v0.1) λ(x3:Bool)=>.br x3 (.lf (Sum.inr (Sum.inr (v0.1,v0.2,0,0)))) (.an (VJ v0.1) (.lv (lR v0.1) λ(x4:Bool)=>.br (!false==x4) (.lf (Sum.inr (Sum.inr (E2,[],0,1302)))) (.an (Pz v0.1 0) (.lv (ez v0.1 0) λ(x5:List fc×ao)=>.cn (decide (40*(v0.2.length+x5.1.length)<=140737488355328)) (.nx ((((ai.Nil (ai.gen [])\/rE (0:Nat))/\rE ([]:List (List D)))/\rE (bu:Int)/\rZ/\rZ/\True/\rE (0:Int)/\True)/\(mE x5.2 True True)/\rE x5.2.Mem/\(mE zM True True)/\rE ((v0.2++x5.1):List (RK.T RK.bd))/\True) (Sum.inr (Sum.inl (x5.2,v0.2++x5.1))))))))))) (.lf (Sum.inr (v0.1,v0.2,0,0)))) (.lf (Sum.inr (v0.1,v0.2,0,0)))))))))
def IX m script bu:=(Fo m script bu).m
abbrev VK m script bu:=(Fo m script bu).p
def Zc4:bm:={
 α:=ao×(List fc)
 F:=λst a=>([(1,(lk st 1)),(2,(lk st 2)),(3,.ptr 0 0 0),(6,.ptr 2 0 0),(10,.all 3),(11,(lk st 11))],[⟨true,42,49,.gen [mD a.1 (.all 1)]⟩,⟨false,23,1,.ints u32 a.1.Mem⟩,⟨true,42,49,.gen [mB (cT st 6)]⟩,⟨false,137,4,.ba RK.bd a.2⟩])
 a0:=λst=>((mR (cT st 3) (nI st.rows (rr (cT st 3 25) 1000000))),(Ea RK.bd st.rows (rN st 10)))
 iy:=λst=>[]++[(rX st 3 0),(rr (cT st 3 25) (st.rows.length+1)),(rX st 6 2),(rX st 10 3)]}
def Zea:bm:={
 α:=Unit
 F:=λst a=>([(1,(lk st 1)),(2,(lk st 2)),(3,.ptr 0 0 0),(6,.ptr 2 0 0),(10,.all 3),(11,(lk st 11)),(61,.ptr 0 0 46),(62,(lk st 62)),(63,(lk st 63))],[⟨true,42,49,.gen [[(cT st 3 0),(cT st 3 1),(cT st 3 2),(cT st 3 3),(cT st 3 4),(cT st 3 5),(cT st 3 6),(cT st 3 7),(cT st 3 8),(cT st 3 9),(cT st 3 10),(cT st 3 11),(cT st 3 12),(cT st 3 13),(cT st 3 14),(cT st 3 15),(cT st 3 16),(cT st 3 17),(cT st 3 18),(cT st 3 19),(cT st 3 20),(cT st 3 21),(cT st 3 22),(cT st 3 23),(cT st 3 24),.all 1,(cT st 3 26),(cT st 3 27),(cT st 3 28),(cT st 3 29),(cT st 3 30),(cT st 3 31),(cT st 3 32),(cT st 3 33),(cT st 3 34),(cT st 3 35),(cT st 3 36),(cT st 3 37),(cT st 3 38),(cT st 3 39),(cT st 3 40),(cT st 3 41),(cT st 3 42),(cT st 3 43),(cT st 3 44),(cT st 3 45),(cT st 3 46),(cT st 3 47),(cT st 3 48)]]⟩,⟨false,23,1,nH st.rows (rr (cT st 3 25) 1000000)⟩,⟨true,42,49,.gen [mB (cT st 6)]⟩,⟨false,137,4,nH st.rows (rN st 10)⟩])
 a0:=λst=>()
 iy:=λst=>[]++[(rX st 3 0),(rr (cT st 3 25) (st.rows.length+1)),(rX st 6 2),(rX st 10 3)]}
def Z2q:List (Nat×bm):=[(8,Zc4),(9,Zea)]
def Zh0:bb:=mT 52 [] true [.agg ao.sig,.one .nil,.one (.int .u64)] [] (λa r=>Fo (ao.of (aC a 0)) (ie .ae a 1) (av a 2)) (λX=>.dt [.agg (ao.ia (X.1) (.all 0)),.all 1,.int .i64 (X.2.2.1),.int .i64 (X.2.2.2)]) (λX=>[⟨false,23,1,.ints .u32 (X.1).Mem⟩,⟨false,137,4,.ba .bd (X.2.1)⟩])
theorem Zcf:bj pG Zh0:=oT (.cons Z5s (.cons Qp9 (.cons Z20 (.cons Qvx (.cons Qzo (.cons Qvh (.cons Qoe (.nil)))))))) Tryz.func52 Tryz.call52 [.row 23 1 (.ints .u32),.row 137 4 (.ba .bd)] Z2q 3
def Td(kind:Int)(l z:List Int):Nat:=160-z.length
def Fs(kind:Int)(l:List Int):Tree ao:=
.an (Km kind 3) (.lv (Gc kind 3) λ(x0:Int)=>.br (decide (x0<2)) (.an (WZ ((108:UInt8)::(Cp++KV++(KW++KX)++(KY++KZ++(K0++K1))++(K3++K4++(K5++K6)++(K7++K8++(K9++La)))))) (.lv (Lb (cQ (cQ (cQ (cQ Tb KV) (cQ KW KX)) (cQ (cQ KY KZ) (cQ K0 K1))) (cQ (cQ (cQ K3 K4) (cQ K5 K6)) (cQ (cQ K7 K8) (cQ K9 La))))) λ(x1:List Int×tE)=>.lp inferInstance (Td kind l x1.1+1) ((rE (x0:Int)/\((ai.Nil (ai.ints i64 l)\/rE (1:Nat))/\rE (l:List Int))/\rZ/\True/\True)/\(mE zM True True)/\rE x1.1/\True) x1.1 λ(v0:List Int)=>.br (decide ((v0.length:Int)<(160:Int))) (.cn (decide (4*(v0.length+1)<=140737488355328)) (.nx ((rE (x0:Int)/\((ai.Nil (ai.ints i64 l)\/rE (1:Nat))/\rE (l:List Int))/\rZ/\True/\True)/\(mE zM True True)/\rE ((v0++[0]):List Int)/\True) (Sum.inl (v0++[0])))) (.an (Qmc l) (.lv (Mg l) λ(x2:List Int)=>.cn (decide (4*(v0.length+x2.length)<=140737488355328)) (.br (decide ((↑(dJ (v0++x2)):Int)>(256:Int))) (.cn (bT 1 1&&bJ 0 1&&decide ((0:Int)<=(0:Int)/\(0:Int)<=(256:Int)/\256<=(↑(dJ (v0++x2)):Int))) (let E1:=cZ (dE 256-dE 0) (dA (dE 0) (v0++x2));.an (VB 8 4 E1) (.lv (lz 8 4 E1) λ(x3:ao×Bool)=>.br (x0==1) (.an (VK x3.1 [] 87) (.lv (IX x3.1 [] 87) λ(x4:ao×List fc×Int×Int)=>.lf (Sum.inr x4.1))) (.lf (Sum.inr x3.1))))) (.an (VB 8 4 (v0++x2)) (.lv (lz 8 4 (v0++x2)) λ(x5:ao×Bool)=>.br (x0==1) (.an (VK x5.1 [] 87) (.lv (IX x5.1 [] 87) λ(x6:ao×List fc×Int×Int)=>.lf (Sum.inr x6.1))) (.lf (Sum.inr x5.1))))))))) (.an (Qmc l) (.lv (Mg l) λ(x7:List Int)=>.cn (decide (4*(0+x7.length)<=140737488355328)) (.br (decide ((x7.length:Int)>(256:Int))) (.cn (bT 1 1&&bJ 0 1&&decide ((0:Int)<=(0:Int)/\(0:Int)<=(256:Int)/\256<=(x7.length:Int))) (let E2:=cZ (dE 256-dE 0) (dA (dE 0) x7);.an (VB 8 4 E2) (.lv (lz 8 4 E2) λ(x8:ao×Bool)=>.br (x0==1) (.an (VK x8.1 [] 87) (.lv (IX x8.1 [] 87) λ(x9:ao×List fc×Int×Int)=>.lf x9.1)) (.lf x8.1)))) (.an (VB 8 4 x7) (.lv (lz 8 4 x7) λ(ja:ao×Bool)=>.br (x0==1) (.an (VK ja.1 [] 87) (.lv (IX ja.1 [] 87) λ(jv:ao×List fc×Int×Int)=>.lf jv.1)) (.lf ja.1)))))))
def Mf kind l:=(Fs kind l).m
abbrev Qni kind l:=(Fs kind l).p
def Z4k:bm:={
 α:=(List Int)
 F:=λst a=>([(0,(lk st 0)),(1,(lk st 1)),(4,.ptr 0 0 0),(5,.all 1)],[⟨true,42,49,.gen [mB (cT st 4)]⟩,⟨false,23,1,.ints u32 a⟩])
 a0:=λst=>(nI st.rows (rN st 5))
 iy:=λst=>[]++[(rX st 4 0),(rX st 5 1)]}
def Qxo:List (Nat×bm):=[(5,Z4k)]
def Z6z:bb:=mT 13 [] true [.one (.int .i64),.one (.ints .i64)] [] (λa r=>Fs (av a 0) (ek .i64 a 1)) (λX=>.agg (ao.ia X (.all 0))) (λX=>[⟨false,23,1,.ints .u32 X.Mem⟩])
theorem Z3u:bj pG Z6z:=oT (.cons Qu1 (.cons Z15 (.cons Zfw (.cons Zkt (.cons Zcf (.nil)))))) Tryz.func13 Tryz.call13 [.row 23 1 (.ints .u32)] Qxo 3
end
noncomputable section
def Z3p(m:ao)(clock:Int):Tree (ao×(List fc)):=
.an (VI m) (.lv (Mb m) λ(x0:ao)=>.an (Qrv x0) (.lv (rF x0) λ(x1:Bool)=>.br x1 (.lf (x0,[])) (.an (Pz x0 clock) (.lv (ez x0 clock) λ(x2:List fc×ao)=>.lf (x2.2,x2.1)))))
def Yg m clock:=(Z3p m clock).m
def T9(m:ao)(e:j9):Tree (ao×Bool):=
.an (VI m) (.lv (Mb m) λ(x0:ao)=>.lv (sd x0) λ(x1:Bool)=>.br (!x1) (.lf (x0,false)) (.an (Qjv x0 e) (.lv (pX x0 e) λ(x2:Bool×ao)=>.lf (x2.2,x2.1))))
def O0 m e:=(T9 m e).m
def W6(t:jk):Tree (jk×Bool):=
.br (!t.D0) (.lf (t,false)) (.lf ({D0:=false,B8:=t.B8,C9:=true},true))
def Tg t:=(W6 t).m
def Zgz:bb:=mS 74 [] true [.agg jk.sig] [] (λa r=>W6 (jk.of (aC a 0))) (λX=>.dt [.agg (jk.cells (X.1)),.bool (X.2)]) (λX=>[])
theorem Zaz:bj pG Zgz:=oS (.nil) Tryz.func74 Tryz.call74 [] [] 2
def Od(c:je)(b:Int):Tree (je×Bool):=
.br (decide ((c.C6.length:Int)>=(16:Int))) (.lf (c,false)) (.cn (decide (c.C6.length+1<=maxLen)) (.lf ({C6:=c.C6++[(λ(n:Int)=>UInt8.ofNat n.toNat) b]},true)))
def Qoh c b:=(Od c b).m
abbrev Qn9 c b:=(Od c b).p
def Z7z:bb:=mT 75 [] true [.agg je.sig,.one (.int .u8)] [] (λa r=>Od (je.of (aC a 0)) (av a 1)) (λX=>.dt [.agg (je.cells (X.1)),.bool (X.2)]) (λX=>[])
theorem Z25:bj pG Z7z:=oT (.nil) Tryz.func75 Tryz.call75 [] [] 2
def Lf(d0:fm)(m:List Int)(e:j9):Tree (fm×(List Int)×Bool):=
let T2:Tree ((fm×(List Int)×Bool)):=.an (mN m) (.lv (jK m) λ(x0:List Int)=>.lf (d0,x0,false));.br (d0.B6 !=1) T2 (.br (e.C3 !=4) T2 (.br (decide (e.N>1)) T2 (.an (mN m) (.lv (jK m) λ(x3:List Int)=>let E3:=({ag:=d0.ag,B9:=d0.B9,Frame:=d0.Frame,B6:=2,D1:=0,B4:=0,B0:=0,B5:=[]}:fm);let E4:=({ag:=d0.ag,B9:=d0.B9,Frame:=d0.Frame,B6:=3,D1:=0,B4:=0,B0:=0,B5:=[]}:fm);let T1:Tree ((fm×(List Int)×Bool)):=.br (!decide (e.D2=[])) (.lf (d0,x3,false)) (.br (e.N==1) (.lf (E3,x3,true)) (.lf (E4,x3,true)));.br (e.N==1) (.br (d0.D1==1) (.lv (I0 m d0.B0) λ(x4:Bool)=>.br (!x4) (.lf (d0,x3,false)) (.an (Q85 m (wrap i64 d0.B0) e.D2) (.lv (Ep m (wrap i64 d0.B0) e.D2) λ(x5:List Int×Bool)=>.br (!x5.2) (.lf (d0,x5.1,false)) (.br (e.N==1) (.lf (E3,x5.1,true)) (.lf (E4,x5.1,true)))))) T1) T1))))
def XX d0 m e:=(Lf d0 m e).m
abbrev Qla d0 m e:=(Lf d0 m e).p
def Z5:bb:=mT 76 [] true [.agg fm.sig,.one (.ints .u32),.agg j9.sig] [] (λa r=>Lf (fm.of (aC a 0)) (ek .u32 a 1) (j9.of (aC a 2))) (λX=>.dt [.agg (fm.cells (X.1)),.all 0,.bool (X.2.2)]) (λX=>[⟨false,23,1,.ints .u32 (X.2.1)⟩])
theorem Z0i:bj pG Z5:=oT (.cons EI (.cons Qrh (.cons Qd8 (.nil)))) Tryz.func76 Tryz.call76 [.row 23 1 (.ints .u32)] [] 2
def Lg(n:ij)(m:List Int)(frame:List UInt8):Tree (ij×(List Int)×Bool):=
let T1:Tree ((ij×(List Int)×Bool)):=.an (mN m) (.lv (jK m) λ(x0:List Int)=>.lf (n,x0,false));.br (!n.C2) T1 (.br (decide ((frame.length:Int)<(1:Int))) T1 (.br (decide ((frame.length:Int)>(128:Int))) T1 (.lv (GJ m n.B7) λ(x3:Bool)=>.br (!x3) T1 (.an (Qbn m (wrap i64 n.B7)) (.lv (Eo m (wrap i64 n.B7)) λ(x5:List UInt8×Bool)=>.cn (decide (0<=(frame.length:Int)/\(frame.length:Int)<=(x5.1.length:Int)/\(x5.1.length:Int)<=(x5.1.length:Int))) (let E2:=dE (x5.1.length:Int)-dE (frame.length:Int);let E3:=dA (dE (frame.length:Int)) x5.1;.cn (decide (frame.length+dJ (cZ E2 E3)<=maxLen)) (.an (Q85 m (wrap i64 n.B7) (frame++cZ E2 E3)) (.lv (Ep m (wrap i64 n.B7) (frame++cZ E2 E3)) λ(x6:List Int×Bool)=>.lf ({Frame:=n.Frame,D6:=n.D6,C2:=false,B7:=0,B3:=true,D8:=wrap u32 (frame.length:Int)},x6.1,true)))))))))
def XY n m frame:=(Lg n m frame).m
abbrev Qo8 n m frame:=(Lg n m frame).p
def Zb5:bb:=mT 77 [] true [.agg ij.sig,.one (.ints .u32),.one (.str)] [] (λa r=>Lg (ij.of (aC a 0)) (ek .u32 a 1) (gh a 2)) (λX=>.dt [.agg (ij.cells (X.1)),.all 0,.bool (X.2.2)]) (λX=>[⟨false,23,1,.ints .u32 (X.2.1)⟩])
theorem Z70:bj pG Zb5:=oT (.cons Qmv (.cons EI (.cons Qju (.cons Qd8 (.nil))))) Tryz.func77 Tryz.call77 [.row 23 1 (.ints .u32)] [] 2
def GU(m:ao)(e:j9):Tree (ao×Bool):=
.an (mN m.Mem) (.lv (jK m.Mem) λ(x0:List Int)=>let E2:=({A7:=m.A7,Mem:=x0,A2:=m.A2,A9:=m.A9,A4:=m.A4,C1:=m.C1,A1:=m.A1,A0:=m.A0,A3:=m.A3,A6:=m.A6}:ao);.an (RV E2) (.lv (mM E2) λ(x1:Bool)=>let T1:Tree ((ao×Bool)):=.lf (E2,false);.br (!x1) T1 (.br m.A6 T1 (.br (e.C3==2) (.br (e.N==0) (.br (decide (e.D2=[])) (.lv (Tg m.A9) λ(x2:jk×Bool)=>.lf ({A7:=m.A7,Mem:=x0,A2:=m.A2,A9:=x2.1,A4:=m.A4,C1:=m.C1,A1:=m.A1,A0:=m.A0,A3:=m.A3,A6:=m.A6},x2.2)) T1) T1) (.br (e.C3==3) (.br (decide (e.N<=255)) (.br (decide (e.D2=[])) (.an (Qn9 m.A2 (wrap u8 e.N)) (.lv (Qoh m.A2 (wrap u8 e.N)) λ(x3:je×Bool)=>.lf ({A7:=m.A7,Mem:=x0,A2:=x3.1,A9:=m.A9,A4:=m.A4,C1:=m.C1,A1:=m.A1,A0:=m.A0,A3:=m.A3,A6:=m.A6},x3.2))) T1) T1) (.br (e.C3==4) (.an (Qla m.A4 x0 e) (.lv (XX m.A4 x0 e) λ(x4:fm×List Int×Bool)=>.lf ({A7:=m.A7,Mem:=x4.2.1,A2:=m.A2,A9:=m.A9,A4:=x4.1,C1:=m.C1,A1:=m.A1,A0:=m.A0,A3:=m.A3,A6:=m.A6},x4.2.2))) (.br (e.C3==5) (.br (e.N==0) (.an (Qo8 m.C1 x0 e.D2) (.lv (XY m.C1 x0 e.D2) λ(x5:ij×List Int×Bool)=>.lf ({A7:=m.A7,Mem:=x5.2.1,A2:=m.A2,A9:=m.A9,A4:=m.A4,C1:=x5.1,A1:=m.A1,A0:=m.A0,A3:=m.A3,A6:=m.A6},x5.2.2))) T1) (.br (e.C3==6) (.br (decide (e.D2=[])) (.lf ({A7:=m.A7,Mem:=x0,A2:=m.A2,A9:=m.A9,A4:=m.A4,C1:=m.C1,A1:={C4:=e.N,C0:=m.A1.C0},A0:=m.A0,A3:=m.A3,A6:=m.A6},true)) T1) T1))))))))
def Md m e:=(GU m e).m
abbrev Qd0 m e:=(GU m e).p
def Z2v:bb:=mT 32 [] true [.agg ao.sig,.agg j9.sig] [] (λa r=>GU (ao.of (aC a 0)) (j9.of (aC a 1))) (λX=>.dt [.agg (ao.ia (X.1) (.all 0)),.bool (X.2)]) (λX=>[⟨false,23,1,.ints .u32 (X.1).Mem⟩])
theorem Z0z:bj pG Z2v:=oT (.cons EI (.cons Qjw (.cons Zaz (.cons Z25 (.cons Z0i (.cons Z70 (.nil))))))) Tryz.func32 Tryz.call32 [.row 23 1 (.ints .u32)] [] 2
end
noncomputable section
instance Sd {α β:Type} [Inhabited β]:Inhabited (α⊕β):=⟨.inr default⟩
def VL(b:List Int):(List Int):=
b
def Qb8(b:List Int):List D:=[.ptr 0 0 0]
def Qbh(b:List Int):List Row:=[⟨true,293,2,.gen [[.c8 0,.all 1]]⟩,⟨false,5,1,.ints .u8 b⟩]
def Q6y(X:List Int):D:=.dt []
def Q7d(X:List Int):List Row:=[⟨true,293,2,.gen [[.c8 0,.all 1]]⟩,⟨false,5,1,.ints .u8 X⟩]
def Qc5:List PT:=[.ptr 0]
def Qbj:List RT:=[.box 293 2 [.self 0,.row 1],.arr 5 1 (.ints .u8)]
def Qmu(args:List D)(rows:List Row):(List Int):=VL (ir .u8 rows 1)
def Qq0:bb:=EN 301 [true] true Qc5 Qbj Qmu Q6y Q7d
theorem Qjt(b:List Int):kq pG 301 (Qb8 b) (Qbh b) (Q6y (VL b)) (Q7d (VL b)):=by
 exact yF (ρ:=Tryz.jY) {Tryz.rO with} Tryz.jh.toX72 (by kernel_rfl) _
set_option maxRecDepth 100000 in
theorem Ql1(args:List D)(rows:List Row):mq Qc5 args 0=Qb8 (ir .u8 rows 1):=by kernel_rfl
set_option maxRecDepth 100000 in
theorem Qjx(args:List D)(rows:List Row):lG Qbj rows 0=Qbh (ir .u8 rows 1):=by kernel_rfl
set_option maxRecDepth 100000 in
theorem Qns(X:List Int):(wu (Q6y X)&&jP (Q7d X))=true:=by kernel_rfl
theorem Qo0:bj pG Qq0:=vZ Tryz.call301 (λa r=>by rw[Ql1 a r,Qjx a r];exact Qjt (ir .u8 r 1)) (λ_ X=>Qns X)
def Pf(b:List Int)(s:List UInt8):Tree (Int×Unit×(List Int)):=
.lv (VL b) λ(x0:List Int)=>.cn (decide (1*(x0.length+dJ (iX s))<=140737488355328)) (.lf ((s.length:Int),(),x0++iX s))
def Q8f b s:=(Pf b s).m
abbrev Q63 b s:=(Pf b s).p
def Qlt:bb:=mI 1 258 [true,false] [.ptr 0,.one (.str)] [.box 293 2 [.self 0,.row 1],.arr 5 1 (.ints .u8)] (λa r=>Q63 (ir .u8 r 1) (gh a 1)) (λa r=>Q8f (ir .u8 r 1) (gh a 1)) (λX=>.dt [.int .i64 (X.1),.jQ]) (λX=>[⟨true,293,2,.gen [[.c8 0,.all 1]]⟩,⟨false,5,1,.ints .u8 (X.2.2)⟩])
theorem Qb6:bj pG Qlt:=Gb drawn nj (.cons Qo0 (.nil)) Tryz.func258 Tryz.call258 (λa r=>Pf (ir .u8 r 1) (gh a 1)) [.row 5 1 (.ints .u8)] [] 2 (λ_ _ _=>by kernel_rfl) (λ_ _=>rfl) (λ_ _ h=>h)
def Qf0(x:Int)(z:(Int)×(List Int)):Nat:=z.1.toNat
def Pe(x:Int):Tree (List UInt8):=
.lp inferInstance (Qf0 x (x,[])+1) ((rE (x:Int)/\True/\True)/\rE ([]:List Int)/\True) (x,[]) λ(v0:Int×List Int)=>let E1:=decide (1*(v0.2.length+1)<=140737488355328);.br (decide (v0.1>=128)) (.cn E1 (.nx ((rE ((bf u64 v0.1 7):Int)/\True/\True)/\rE ((v0.2++[il u8 (wrap u8 v0.1) 128]):List Int)/\True) (Sum.inl (bf u64 v0.1 7,v0.2++[il u8 (wrap u8 v0.1) 128])))) (.cn E1 (.lf (Sum.inr (bytesOf (v0.2++[wrap u8 v0.1])))))
def Qov x:=(Pe x).m
abbrev Qid x:=(Pe x).p
def Qtu:bm:={
 α:=(Int)×(List Int)
 F:=λst a=>([(0,.int u64 a.1),(3,.all 0)],[⟨false,5,1,.ints u8 a.2⟩])
 a0:=λst=>((lk st 0).toInt,(nI st.rows (rN st 3)))
 iy:=λst=>[]++[(rX st 3 0)]}
def Qr1:List (Nat×bm):=[(2,Qtu)]
def Qxk:bb:=mT 286 [] true [.one (.int .u64)] [] (λa r=>Pe (av a 0)) (λX=>.str X) (λX=>[])
theorem Qw:bj pG Qxk:=oT (.nil) Tryz.func286 Tryz.call286 [] Qr1 3
def Q8c(c list:List Int)(z:(Int)×(List Int)):Nat:=(list.length-z.1).toNat
def Pj(c list:List Int):Tree (List Int):=
.lp inferInstance (Q8c c list (0,c)+1) ((rZ/\((ai.Nil (ai.ints u64 list)\/rE (1:Nat))/\rE (list:List Int))/\rE ((list.length:Int):Int)/\rE (0:Int)/\True)/\(True/\True/\True)/\rE (c:List Int)/\True) (0,c) λ(v0:Int×List Int)=>.br (decide (v0.1<(list.length:Int))) (.cn (bT 1 1&&bJ 0 1&&decide (0<=v0.1/\v0.1<(list.length:Int))) (.an (Qid (list.getD v0.1.toNat 0)) (.lv (Qov (list.getD v0.1.toNat 0)) λ(x0:List UInt8)=>.an (Q63 v0.2 x0) (.lv (Q8f v0.2 x0) λ(x1:Int×Unit×List Int)=>.nx ((rZ/\((ai.Nil (ai.ints u64 list)\/rE (1:Nat))/\rE (list:List Int))/\rE ((list.length:Int):Int)/\rE ((wrap i64 (v0.1+1)):Int)/\True)/\(True/\True/\True)/\rE x1.2.2/\True) (Sum.inl (wrap i64 (v0.1+1),x1.2.2)))))) (.lf (Sum.inr v0.2))
def Ig c list:=(Pj c list).m
abbrev Ih c list:=(Pj c list).p
def Qkr:bm:={
 α:=(Int)×(List Int)
 F:=λst a=>([(0,.ptr 0 0 0),(6,(lk st 6)),(7,(lk st 7)),(8,.int i64 a.1)],[⟨true,293,2,.gen [[.c8 0,.all 1]]⟩,⟨false,5,1,.ints u8 a.2⟩])
 a0:=λst=>((lk st 8).toInt,(nI st.rows (rr (iW st.rows 0 1) 1000000)))
 iy:=λst=>[0]++[(rr (iW st.rows 0 1) (st.rows.length+1))]}
def Qiv:List (Nat×bm):=[(1,Qkr)]
def Qmr:bb:=mI 1 227 [true,false] [.ptr 0,.one (.ints .u64)] [.box 293 2 [.self 0,.row 1],.arr 5 1 (.ints .u8)] (λa r=>Ih (ir .u8 r 1) (ek .u64 a 1)) (λa r=>Ig (ir .u8 r 1) (ek .u64 a 1)) (λX=>.dt []) (λX=>[⟨true,293,2,.gen [[.c8 0,.all 1]]⟩,⟨false,5,1,.ints .u8 X⟩])
theorem VM:bj pG Qmr:=Gb drawn nj (.cons Qb6 (.cons Qw (.nil))) Tryz.func227 Tryz.call227 (λa r=>Pj (ir .u8 r 1) (ek .u64 a 1)) [.row 5 1 (.ints .u8)] Qiv 3 (λ_ _ _=>by kernel_rfl) (λ_ _=>rfl) (λ_ _ h=>h)
def Qaf(c list:List Int)(z:(Int)×(List Int)):Nat:=(list.length-z.1).toNat
def Pk(c list:List Int):Tree (List Int):=
.lp inferInstance (Qaf c list (0,c)+1) ((rZ/\((ai.Nil (ai.ints u32 list)\/rE (1:Nat))/\rE (list:List Int))/\rE ((list.length:Int):Int)/\rE (0:Int)/\True)/\(True/\True/\True)/\rE (c:List Int)/\True) (0,c) λ(v0:Int×List Int)=>.br (decide (v0.1<(list.length:Int))) (.cn (bT 1 1&&bJ 0 1&&decide (0<=v0.1/\v0.1<(list.length:Int))) (.an (Ih v0.2 [wrap u64 (list.getD v0.1.toNat 0)]) (.lv (Ig v0.2 [wrap u64 (list.getD v0.1.toNat 0)]) λ(x0:List Int)=>.nx ((rZ/\((ai.Nil (ai.ints u32 list)\/rE (1:Nat))/\rE (list:List Int))/\rE ((list.length:Int):Int)/\rE ((wrap i64 (v0.1+1)):Int)/\True)/\(True/\True/\True)/\rE (x0:List Int)/\True) (Sum.inl (wrap i64 (v0.1+1),x0))))) (.lf (Sum.inr v0.2))
def BK c list:=(Pk c list).m
abbrev Q1 c list:=(Pk c list).p
def Qnu:bm:={
 α:=(Int)×(List Int)
 F:=λst a=>([(0,.ptr 0 0 0),(6,(lk st 6)),(7,(lk st 7)),(8,.int i64 a.1)],[⟨true,293,2,.gen [[.c8 0,.all 1]]⟩,⟨false,5,1,.ints u8 a.2⟩])
 a0:=λst=>((lk st 8).toInt,(nI st.rows (rr (iW st.rows 0 1) 1000000)))
 iy:=λst=>[0]++[(rr (iW st.rows 0 1) (st.rows.length+1))]}
def Qlr:List (Nat×bm):=[(1,Qnu)]
def Qo9:bb:=mI 1 226 [true,false] [.ptr 0,.one (.ints .u32)] [.box 293 2 [.self 0,.row 1],.arr 5 1 (.ints .u8)] (λa r=>Q1 (ir .u8 r 1) (ek .u32 a 1)) (λa r=>BK (ir .u8 r 1) (ek .u32 a 1)) (λX=>.dt []) (λX=>[⟨true,293,2,.gen [[.c8 0,.all 1]]⟩,⟨false,5,1,.ints .u8 X⟩])
theorem Qnz:bj pG Qo9:=Gb drawn nj (.cons VM (.nil)) Tryz.func226 Tryz.call226 (λa r=>Pk (ir .u8 r 1) (ek .u32 a 1)) [.row 5 1 (.ints .u8)] Qlr 3 (λ_ _ _=>by kernel_rfl) (λ_ _=>rfl) (λ_ _ h=>h)
def Pm(c:List Int)(s:List UInt8):Tree (List Int):=
.an (Ih c [wrap u64 (s.length:Int)]) (.lv (Ig c [wrap u64 (s.length:Int)]) λ(x0:List Int)=>.an (Q63 x0 s) (.lv (Q8f x0 s) λ(x1:Int×Unit×List Int)=>.lf x1.2.2))
def Qb4 c s:=(Pm c s).m
abbrev Q7f c s:=(Pm c s).p
def Qq1:bb:=mI 1 228 [true,false] [.ptr 0,.one (.str)] [.box 293 2 [.self 0,.row 1],.arr 5 1 (.ints .u8)] (λa r=>Q7f (ir .u8 r 1) (gh a 1)) (λa r=>Qb4 (ir .u8 r 1) (gh a 1)) (λX=>.dt []) (λX=>[⟨true,293,2,.gen [[.c8 0,.all 1]]⟩,⟨false,5,1,.ints .u8 X⟩])
theorem Qnv:bj pG Qq1:=Gb drawn nj (.cons VM (.cons Qb6 (.nil))) Tryz.func228 Tryz.call228 (λa r=>Pm (ir .u8 r 1) (gh a 1)) [.row 5 1 (.ints .u8)] [] 2 (λ_ _ _=>by kernel_rfl) (λ_ _=>rfl) (λ_ _ h=>h)
def Pl(c:List Int)(DR:Bool):Tree (List Int):=
.br DR (.an (Ih c [1]) (.lv (Ig c [1]) λ(x0:List Int)=>.lf x0)) (.an (Ih c [0]) (.lv (Ig c [0]) λ(x1:List Int)=>.lf x1))
def Q3 c DR:=(Pl c DR).m
abbrev Kt c DR:=(Pl c DR).p
def Qr8:bb:=mI 1 229 [true,false] [.ptr 0,.one (.bool)] [.box 293 2 [.self 0,.row 1],.arr 5 1 (.ints .u8)] (λa r=>Kt (ir .u8 r 1) (tz a 1)) (λa r=>Q3 (ir .u8 r 1) (tz a 1)) (λX=>.dt []) (λX=>[⟨true,293,2,.gen [[.c8 0,.all 1]]⟩,⟨false,5,1,.ints .u8 X⟩])
theorem Qob:bj pG Qr8:=Gb drawn nj (.cons VM (.nil)) Tryz.func229 Tryz.call229 (λa r=>Pl (ir .u8 r 1) (tz a 1)) [.row 5 1 (.ints .u8)] [] 2 (λ_ _ _=>by kernel_rfl) (λ_ _=>rfl) (λ_ _ h=>h)
def VN(b:List Int):((List UInt8)×(List Int)):=
(bytesOf b,b)
def Qel(b:List Int):List D:=[.ptr 0 0 0]
def Qej(b:List Int):List Row:=[⟨true,293,2,.gen [[.c8 0,.all 1]]⟩,⟨false,5,1,.ints .u8 b⟩]
def Qfw(X:((List UInt8)×(List Int))):D:=.str (X.1)
def Qfo(X:((List UInt8)×(List Int))):List Row:=[⟨true,293,2,.gen [[.c8 0,.sl 1 (.ints .u8 X.2) false]]⟩]
def Qfr:List PT:=[.ptr 0]
def Qem:List RT:=[.box 293 2 [.self 0,.row 1],.arr 5 1 (.ints .u8)]
def Qrc(args:List D)(rows:List Row):((List UInt8)×(List Int)):=VN (ir .u8 rows 1)
def Qtr:bb:=Vt 1 230 [true] Qfr Qem Qrc Qfw Qfo
theorem Qny(b:List Int):sN pG 230 1 (Qel b) (Qej b) (Qfw (VN b)) (Qfo (VN b)):=by
 exact ye (ρ:=Tryz.jY) (by decide) {Tryz.rO with} Tryz.jh _
set_option maxRecDepth 100000 in
theorem Qpl(args:List D)(rows:List Row):mq Qfr args 0=Qel (ir .u8 rows 1):=by kernel_rfl
set_option maxRecDepth 100000 in
theorem Qnw(args:List D)(rows:List Row):lG Qem rows 0=Qej (ir .u8 rows 1):=by kernel_rfl
theorem Qsj:bj pG Qtr:=xaF (λ_=>Tryz.call230) (λa r=>by rw[Qpl a r,Qnw a r];exact Qny (ir .u8 r 1))
def Pn(m:ao):Tree (List UInt8):=
.an (Q1 [] [m.A7.X.a0,m.A7.X.a1,m.A7.X.a2,m.A7.X.a3,m.A7.X.a4,m.A7.X.a5,m.A7.X.a6,m.A7.X.a7,m.A7.X.a8,m.A7.X.a9,m.A7.X.kP,m.A7.X.kQ,m.A7.X.a12,m.A7.X.kR,m.A7.X.kS,m.A7.X.kT]) (.lv (BK [] [m.A7.X.a0,m.A7.X.a1,m.A7.X.a2,m.A7.X.a3,m.A7.X.a4,m.A7.X.a5,m.A7.X.a6,m.A7.X.a7,m.A7.X.a8,m.A7.X.a9,m.A7.X.kP,m.A7.X.kQ,m.A7.X.a12,m.A7.X.kR,m.A7.X.kS,m.A7.X.kT]) λ(x0:List Int)=>.an (Q1 x0 [m.A7.Pc]) (.lv (BK x0 [m.A7.Pc]) λ(x1:List Int)=>.an (Q1 x1 [m.A7.B1.a0,m.A7.B1.a1,m.A7.B1.a2,m.A7.B1.a3,m.A7.B1.a4,m.A7.B1.a5,m.A7.B1.a6,m.A7.B1.a7]) (.lv (BK x1 [m.A7.B1.a0,m.A7.B1.a1,m.A7.B1.a2,m.A7.B1.a3,m.A7.B1.a4,m.A7.B1.a5,m.A7.B1.a6,m.A7.B1.a7]) λ(x2:List Int)=>.an (Ih x2 [wrap u64 (m.Mem.length:Int)]) (.lv (Ig x2 [wrap u64 (m.Mem.length:Int)]) λ(x3:List Int)=>.an (Q1 x3 m.Mem) (.lv (BK x3 m.Mem) λ(x4:List Int)=>.an (Q7f x4 m.A2.C6) (.lv (Qb4 x4 m.A2.C6) λ(x5:List Int)=>.an (Kt x5 m.A9.D0) (.lv (Q3 x5 m.A9.D0) λ(x6:List Int)=>.an (Q1 x6 [m.A9.B8]) (.lv (BK x6 [m.A9.B8]) λ(x7:List Int)=>.an (Kt x7 m.A9.C9) (.lv (Q3 x7 m.A9.C9) λ(x8:List Int)=>.an (Q1 x8 [m.A4.ag,m.A4.B9,m.A4.Frame]) (.lv (BK x8 [m.A4.ag,m.A4.B9,m.A4.Frame]) λ(x9:List Int)=>.an (Ih x9 [wrap u64 m.A4.B6,wrap u64 m.A4.D1]) (.lv (Ig x9 [wrap u64 m.A4.B6,wrap u64 m.A4.D1]) λ(ja:List Int)=>.an (Q1 ja [m.A4.B4,m.A4.B0]) (.lv (BK ja [m.A4.B4,m.A4.B0]) λ(jv:List Int)=>.an (Q7f jv m.A4.B5) (.lv (Qb4 jv m.A4.B5) λ(jO:List Int)=>.an (Q1 jO [m.C1.Frame,m.C1.D6]) (.lv (BK jO [m.C1.Frame,m.C1.D6]) λ(jW:List Int)=>.an (Kt jW m.C1.C2) (.lv (Q3 jW m.C1.C2) λ(kF:List Int)=>.an (Q1 kF [m.C1.B7]) (.lv (BK kF [m.C1.B7]) λ(mh:List Int)=>.an (Kt mh m.C1.B3) (.lv (Q3 mh m.C1.B3) λ(lB:List Int)=>.an (Q1 lB [m.C1.D8]) (.lv (BK lB [m.C1.D8]) λ(mP:List Int)=>.an (Q1 mP [m.A1.C4,m.A1.C0]) (.lv (BK mP [m.A1.C4,m.A1.C0]) λ(nw:List Int)=>.an (Ih nw [m.A0]) (.lv (Ig nw [m.A0]) λ(pY:List Int)=>.an (Kt pY m.A3) (.lv (Q3 pY m.A3) λ(sU:List Int)=>.an (Kt sU m.A6) (.lv (Q3 sU m.A6) λ(pA:List Int)=>.lv (VN pA) λ(pB:List UInt8×List Int)=>.lf pB.1))))))))))))))))))))))
def YH m:=(Pn m).m
abbrev Qiz m:=(Pn m).p
def Z04:bb:=mT 150 [] true [.agg ao.sig] [] (λa r=>Pn (ao.of (aC a 0))) (λX=>.str X) (λX=>[])
theorem Qy:bj pG Z04:=oT (.cons Qnz (.cons VM (.cons Qnv (.cons Qob (.cons Qsj (.nil)))))) Tryz.func150 Tryz.call150 [] [] 2
def Qs2(h0:Int)(s:List UInt8)(z:(Int)×(Int)):Prop:=0<=z.2/\z.2<=s.length
def Qho(h0:Int)(s:List UInt8)(z:(Int)×(Int)):Nat:=(s.length-z.2).toNat
def VO(h0:Int)(s:List UInt8):Tree Int:=
.lp inferInstance (Qho h0 s (h0,0)+1) ((rE (h0:Int)/\rE (s:List UInt8)/\rE ((s.length:Int):Int)/\rE (0:Int)/\True)/\True) (h0,0) λ(v0:Int×Int)=>.br (decide (v0.2<(s.length:Int))) (.cn (decide (0<=v0.2/\v0.2<(s.length:Int))) (.nx ((rE ((wrap u64 (nh u64 v0.1 (wrap u64 (↑(eV (s.getD v0.2.toNat (0:UInt8))):Int))*1099511628211)):Int)/\rE (s:List UInt8)/\rE ((s.length:Int):Int)/\rE ((wrap i64 (v0.2+1)):Int)/\True)/\True) (Sum.inl (wrap u64 (nh u64 v0.1 (wrap u64 (↑(eV (s.getD v0.2.toNat (0:UInt8))):Int))*1099511628211),wrap i64 (v0.2+1))))) (.lf (Sum.inr v0.1))
def Pt h0 s:=(VO h0 s).m
def VP(h0:Int)(s:List UInt8):Prop:=
s.length<=1000000000000
theorem Zeg(h0:Int)(s:List UInt8)(hw:VP h0 s):(VO h0 s).p:=by
 simp only[VP]at hw
 unfold Tree.p VO
 repeat'(first|refine ej (inv:=Qs2 h0 s) (μ:=Qho h0 s) ?_ (cO _) (λ_ _=>?_)|exact trivial|refine ab (λ_=>?_) (λ_=>?_)|refine ar ?_ ?_|refine cu ?_ ?_|refine au (λ_ _=>?_)|refine dm ?_|refine bq ?_|refine And.intro ?_ ?_)
 all_goals((try simp only[Qs2,Qho]at*);exact oM)
def Zfd:bm:={
 α:=(Int)×(Int)
 F:=λst a=>([(0,.int u64 a.1),(1,(lk st 1)),(7,(lk st 7)),(8,.int i64 a.2)],[])
 a0:=λst=>((lk st 0).toInt,(lk st 8).toInt)
 iy:=λst=>[]++[]}
def Z77:List (Nat×bm):=[(2,Zfd)]
def Zm2:bb:=mU 149 [] true [.one (.int .u64),.one (.str)] [] (λa r=>VP (av a 0) (gh a 1)) (λa r=>Pt (av a 0) (gh a 1)) (λX=>.int .u64 X) (λX=>[])
theorem Zg8:bj pG Zm2:=wv drawn nj (.nil) Tryz.func149 Tryz.call149 (λa r=>VO (av a 0) (gh a 1)) [] Z77 3 (hp:=λa r h=>Zeg (av a 0) (gh a 1) h)
def Px(m:ao):Tree Int:=
.an (Qiz m) (.lv (YH m) λ(x0:List UInt8)=>.an (VP 14695981039346656037 x0) (.lv (Pt 14695981039346656037 x0) λ(x1:Int)=>.lf x1))
def Hh m:=(Px m).m
abbrev Pw m:=(Px m).p
def Z5u:bb:=mT 93 [] true [.agg ao.sig] [] (λa r=>Px (ao.of (aC a 0))) (λX=>.int .u64 X) (λX=>[])
theorem Qh2:bj pG Z5u:=oT (.cons Zg8 (.cons Qy (.nil))) Tryz.func93 Tryz.call93 [] [] 2
end
noncomputable section
instance Se {α β:Type} [Inhabited β]:Inhabited (α⊕β):=⟨.inr default⟩
def Qew(x:Int)(z:(Int)×(List Int)):Nat:=z.1.toNat
def Pp(x:Int):Tree (List UInt8):=
.lp inferInstance (Qew x (x,[])+1) ((rE (x:Int)/\True/\True)/\rE ([]:List Int)/\True) (x,[]) λ(v0:Int×List Int)=>let E1:=decide (1*(v0.2.length+1)<=140737488355328);.br (decide (v0.1>=128)) (.cn E1 (.nx ((rE ((bf u64 v0.1 7):Int)/\True/\True)/\rE ((v0.2++[il u8 (wrap u8 (bc u64 v0.1 127)) 128]):List Int)/\True) (Sum.inl (bf u64 v0.1 7,v0.2++[il u8 (wrap u8 (bc u64 v0.1 127)) 128])))) (.cn E1 (.lf (Sum.inr (bytesOf (v0.2++[wrap u8 v0.1])))))
def Qbs x:=(Pp x).m
abbrev Q7 x:=(Pp x).p
def Qv:bm:={
 α:=(Int)×(List Int)
 F:=λst a=>([(0,.int u64 a.1),(3,.all 0)],[⟨false,5,1,.ints u8 a.2⟩])
 a0:=λst=>((lk st 0).toInt,(nI st.rows (rN st 3)))
 iy:=λst=>[]++[(rX st 3 0)]}
def Qqz:List (Nat×bm):=[(2,Qv)]
def Qwb:bb:=mT 204 [] true [.one (.int .u64)] [] (λa r=>Pp (av a 0)) (λX=>.str X) (λX=>[])
theorem Qbp:bj pG Qwb:=oT (.nil) Tryz.func204 Tryz.call204 [] Qqz 3
def Pr(s:List UInt8):Tree (List UInt8):=
.an (Q7 (wrap u64 (s.length:Int))) (.lv (Qbs (wrap u64 (s.length:Int))) λ(x0:List UInt8)=>.cn (decide (x0.length+s.length<=maxLen)) (.lf (x0++s)))
def Z30 s:=(Pr s).m
abbrev Qlz s:=(Pr s).p
def Zlx:bb:=mT 205 [] true [.one (.str)] [] (λa r=>Pr (gh a 0)) (λX=>.str X) (λX=>[])
theorem Zhz:bj pG Zlx:=oT (.cons Qbp (.nil)) Tryz.func205 Tryz.call205 [] [] 2
def Z26(b:Bool):Tree (List UInt8):=
.br b (.lf ([(1:UInt8)])) (.lf ([(0:UInt8)]))
def Ju b:=(Z26 b).m
def Zjo:bb:=mS 206 [] true [.one (.bool)] [] (λa r=>Z26 (tz a 0)) (λX=>.str X) (λX=>[])
theorem Zh9:bj pG Zjo:=oS (.nil) Tryz.func206 Tryz.call206 [] [] 2
def Pq(x:Int):Tree (List UInt8):=
.an (Q7 x) (.lv (Qbs x) λ(x0:List UInt8)=>.lf x0)
def wo x:=(Pq x).m
abbrev wq x:=(Pq x).p
def qT:bb:=mT 207 [] true [.one (.int .u64)] [] (λa r=>Pq (av a 0)) (λX=>.str X) (λX=>[])
theorem zB:bj pG qT:=oT (.cons Qbp (.nil)) Tryz.func207 Tryz.call207 [] [] 2
def Qkt(m:ao)(z:(Int)×(List Int)):Nat:=(16-z.1).toNat
def Qkf(m:ao)(z:(Int)×(List Int)):Nat:=(8-z.1).toNat
def Qkz(m:ao)(z:(Int)×(List Int)):Nat:=(m.Mem.length-z.1).toNat
def Qkh(m:ao)(z:(Int)×(List Int)):Nat:=(1000000000000-z.1).toNat
def Ps(m:ao):Tree (List UInt8):=
.lp inferInstance (Qkt m (0,[])+1) ((rZ/\True/\True/\rE (0:Int)/\True)/\(mE m (((ai.Nil (ai.ints u32 m.Mem)\/rE (1:Nat))/\rE m.Mem)) True)/\rE ([]:List Int)/\True) (0,[]) λ(v0:Int×List Int)=>let E1:=decide (8*(v0.2.length+1)<=140737488355328);.br (decide (v0.1<16)) (.cn (bJ 0 1&&decide (0<=v0.1/\v0.1<(↑16:Int))) (.cn E1 (.nx ((rZ/\True/\True/\rE ((wrap i64 (v0.1+1)):Int)/\True)/\(mE m (((ai.Nil (ai.ints u32 m.Mem)\/rE (1:Nat))/\rE m.Mem)) True)/\rE ((v0.2++[wrap u64 (aK (fu.l m.A7.X) v0.1.toNat 0)]):List Int)/\True) (Sum.inl (wrap i64 (v0.1+1),v0.2++[wrap u64 (aK (fu.l m.A7.X) v0.1.toNat 0)]))))) (.cn E1 (.lp inferInstance (Qkf m (0,v0.2++[wrap u64 m.A7.Pc])+1) ((rZ/\True/\True/\rE (0:Int)/\True)/\(mE m (((ai.Nil (ai.ints u32 m.Mem)\/rE (1:Nat))/\rE m.Mem)) True)/\rE ((v0.2++[wrap u64 m.A7.Pc]):List Int)/\True) (0,v0.2++[wrap u64 m.A7.Pc]) λ(v1:Int×List Int)=>let E2:=decide (8*(v1.2.length+1)<=140737488355328);.br (decide (v1.1<8)) (.cn (bJ 0 1&&decide (0<=v1.1/\v1.1<(↑8:Int))) (.cn E2 (.nx ((rZ/\True/\True/\rE ((wrap i64 (v1.1+1)):Int)/\True)/\(mE m (((ai.Nil (ai.ints u32 m.Mem)\/rE (1:Nat))/\rE m.Mem)) True)/\rE ((v1.2++[wrap u64 (aK (A8.l m.A7.B1) v1.1.toNat 0)]):List Int)/\True) (Sum.inl (wrap i64 (v1.1+1),v1.2++[wrap u64 (aK (A8.l m.A7.B1) v1.1.toNat 0)]))))) (.cn E2 (.lp inferInstance (Qkz m (0,v1.2++[wrap u64 (m.Mem.length:Int)])+1) ((rZ/\True/\True/\rE (0:Int)/\True)/\(mE m (((ai.Nil (ai.ints u32 m.Mem)\/rE (1:Nat))/\rE m.Mem)) True)/\rE ((v1.2++[wrap u64 (m.Mem.length:Int)]):List Int)/\True) (0,v1.2++[wrap u64 (m.Mem.length:Int)]) λ(v2:Int×List Int)=>.br (decide (v2.1<(m.Mem.length:Int))) (.cn (bT 1 1&&bJ 0 1&&decide (0<=v2.1/\v2.1<(m.Mem.length:Int))) (.cn (decide (8*(v2.2.length+1)<=140737488355328)) (.nx ((rZ/\True/\True/\rE ((wrap i64 (v2.1+1)):Int)/\True)/\(mE m (((ai.Nil (ai.ints u32 m.Mem)\/rE (1:Nat))/\rE m.Mem)) True)/\rE ((v2.2++[wrap u64 (m.Mem.getD v2.1.toNat 0)]):List Int)/\True) (Sum.inl (wrap i64 (v2.1+1),v2.2++[wrap u64 (m.Mem.getD v2.1.toNat 0)]))))) (.lp inferInstance (Qkh m (0,[])+1) ((rZ/\True/\True/\rE (0:Int)/\True)/\(mE m (((ai.Nil (ai.ints u32 m.Mem)\/rE (1:Nat))/\rE m.Mem)) True)/\rE v2.2/\rE ([]:List Int)/\True) (0,[]) λ(v3:Int×List Int)=>.br (decide (v3.1<(v2.2.length:Int))) (.cn (bT 1 1&&bJ 0 1&&decide (0<=v3.1/\v3.1<(v2.2.length:Int))) (let E3:=v2.2.getD v3.1.toNat 0;.an (Q7 E3) (.lv (Qbs E3) λ(x0:List UInt8)=>.cn (decide (1*(v3.2.length+dJ (iX x0))<=140737488355328)) (.nx ((rZ/\True/\True/\rE ((wrap i64 (v3.1+1)):Int)/\True)/\(mE m (((ai.Nil (ai.ints u32 m.Mem)\/rE (1:Nat))/\rE m.Mem)) True)/\rE v2.2/\rE ((v3.2++iX x0):List Int)/\True) (Sum.inl (wrap i64 (v3.1+1),v3.2++iX x0)))))) (.an (Qlz m.A2.C6) (.lv (Z30 m.A2.C6) λ(x1:List UInt8)=>.lv (Ju m.A9.D0) λ(x2:List UInt8)=>.cn (decide (x1.length+x2.length<=maxLen)) (.an (wq (wrap u64 m.A9.B8)) (.lv (wo (wrap u64 m.A9.B8)) λ(x3:List UInt8)=>.cn (decide (dJ (x1++x2)+x3.length<=maxLen)) (.lv (Ju m.A9.C9) λ(x4:List UInt8)=>.cn (decide (dJ (x1++x2++x3)+x4.length<=maxLen)) (.an (wq (wrap u64 m.A4.ag)) (.lv (wo (wrap u64 m.A4.ag)) λ(x5:List UInt8)=>.cn (decide (dJ (x1++x2++x3++x4)+x5.length<=maxLen)) (.an (wq (wrap u64 m.A4.B9)) (.lv (wo (wrap u64 m.A4.B9)) λ(x6:List UInt8)=>.cn (decide (dJ (x1++x2++x3++x4++x5)+x6.length<=maxLen)) (.an (wq (wrap u64 m.A4.Frame)) (.lv (wo (wrap u64 m.A4.Frame)) λ(x7:List UInt8)=>.cn (decide (dJ (x1++x2++x3++x4++x5++x6)+x7.length<=maxLen)) (.an (wq (wrap u64 m.A4.B6)) (.lv (wo (wrap u64 m.A4.B6)) λ(x8:List UInt8)=>.cn (decide (dJ (x1++x2++x3++x4++x5++x6++x7)+x8.length<=maxLen)) (.an (wq (wrap u64 m.A4.D1)) (.lv (wo (wrap u64 m.A4.D1)) λ(x9:List UInt8)=>.cn (decide (dJ (x1++x2++x3++x4++x5++x6++x7++x8)+x9.length<=maxLen)) (.an (wq (wrap u64 m.A4.B4)) (.lv (wo (wrap u64 m.A4.B4)) λ(ja:List UInt8)=>.cn (decide (dJ (x1++x2++x3++x4++x5++x6++x7++x8++x9)+ja.length<=maxLen)) (.an (wq (wrap u64 m.A4.B0)) (.lv (wo (wrap u64 m.A4.B0)) λ(jv:List UInt8)=>.cn (decide (dJ (x1++x2++x3++x4++x5++x6++x7++x8++x9++ja)+jv.length<=maxLen)) (.an (Qlz m.A4.B5) (.lv (Z30 m.A4.B5) λ(jO:List UInt8)=>.cn (decide (dJ (x1++x2++x3++x4++x5++x6++x7++x8++x9++ja++jv)+jO.length<=maxLen)) (.an (wq (wrap u64 m.C1.Frame)) (.lv (wo (wrap u64 m.C1.Frame)) λ(jW:List UInt8)=>.cn (decide (dJ (x1++x2++x3++x4++x5++x6++x7++x8++x9++ja++jv++jO)+jW.length<=maxLen)) (.an (wq (wrap u64 m.C1.D6)) (.lv (wo (wrap u64 m.C1.D6)) λ(kF:List UInt8)=>.cn (decide (dJ (x1++x2++x3++x4++x5++x6++x7++x8++x9++ja++jv++jO++jW)+kF.length<=maxLen)) (.lv (Ju m.C1.C2) λ(mh:List UInt8)=>.cn (decide (dJ (x1++x2++x3++x4++x5++x6++x7++x8++x9++ja++jv++jO++jW++kF)+mh.length<=maxLen)) (.an (wq (wrap u64 m.C1.B7)) (.lv (wo (wrap u64 m.C1.B7)) λ(lB:List UInt8)=>.cn (decide (dJ (x1++x2++x3++x4++x5++x6++x7++x8++x9++ja++jv++jO++jW++kF++mh)+lB.length<=maxLen)) (.lv (Ju m.C1.B3) λ(mP:List UInt8)=>.cn (decide (dJ (x1++x2++x3++x4++x5++x6++x7++x8++x9++ja++jv++jO++jW++kF++mh++lB)+mP.length<=maxLen)) (.an (wq (wrap u64 m.C1.D8)) (.lv (wo (wrap u64 m.C1.D8)) λ(nw:List UInt8)=>.cn (decide (dJ (x1++x2++x3++x4++x5++x6++x7++x8++x9++ja++jv++jO++jW++kF++mh++lB++mP)+nw.length<=maxLen)) (.an (wq (wrap u64 m.A1.C4)) (.lv (wo (wrap u64 m.A1.C4)) λ(pY:List UInt8)=>.cn (decide (dJ (x1++x2++x3++x4++x5++x6++x7++x8++x9++ja++jv++jO++jW++kF++mh++lB++mP++nw)+pY.length<=maxLen)) (.an (wq (wrap u64 m.A1.C0)) (.lv (wo (wrap u64 m.A1.C0)) λ(sU:List UInt8)=>.cn (decide (dJ (x1++x2++x3++x4++x5++x6++x7++x8++x9++ja++jv++jO++jW++kF++mh++lB++mP++nw++pY)+sU.length<=maxLen)) (.an (wq m.A0) (.lv (wo m.A0) λ(pA:List UInt8)=>.cn (decide (dJ (x1++x2++x3++x4++x5++x6++x7++x8++x9++ja++jv++jO++jW++kF++mh++lB++mP++nw++pY++sU)+pA.length<=maxLen)) (.lv (Ju m.A3) λ(pB:List UInt8)=>.cn (decide (dJ (x1++x2++x3++x4++x5++x6++x7++x8++x9++ja++jv++jO++jW++kF++mh++lB++mP++nw++pY++sU++pA)+pB.length<=maxLen)) (.lv (Ju m.A6) λ(tQ:List UInt8)=>.cn (decide (dJ (x1++x2++x3++x4++x5++x6++x7++x8++x9++ja++jv++jO++jW++kF++mh++lB++mP++nw++pY++sU++pA++pB)+tQ.length<=maxLen)) (.cn (decide (dJ (bytesOf v3.2)+dJ (x1++x2++x3++x4++x5++x6++x7++x8++x9++ja++jv++jO++jW++kF++mh++lB++mP++nw++pY++sU++pA++pB++tQ)<=maxLen)) (.lf (Sum.inr (Sum.inr (Sum.inr (Sum.inr (bytesOf v3.2++(x1++x2++x3++x4++x5++x6++x7++x8++x9++ja++jv++jO++jW++kF++mh++lB++mP++nw++pY++sU++pA++pB++tQ))))))))))))))))))))))))))))))))))))))))))))))))))))
def Z36 m:=(Ps m).m
abbrev Qol m:=(Ps m).p
def Z6i:bm:={
 α:=(Int)×(List Int)
 F:=λst a=>([(1,.ptr 0 0 0),(3,(lk st 3)),(4,.all 1),(5,.int i64 a.1)],[⟨true,42,49,.gen [mB (cT st 1)]⟩,⟨false,40,1,.ints u64 a.2⟩])
 a0:=λst=>((lk st 5).toInt,(nI st.rows (rN st 4)))
 iy:=λst=>[]++[(rX st 1 0),(rX st 4 1)]}
def Z5x:bm:={
 α:=(Int)×(List Int)
 F:=λst a=>([(1,.ptr 0 0 0),(3,(lk st 3)),(4,.all 1),(6,.int i64 a.1)],[⟨true,42,49,.gen [mB (cT st 1)]⟩,⟨false,40,1,.ints u64 a.2⟩])
 a0:=λst=>((lk st 6).toInt,(nI st.rows (rN st 4)))
 iy:=λst=>[]++[(rX st 1 0),(rX st 4 1)]}
def Z6o:bm:={
 α:=(Int)×(List Int)
 F:=λst a=>([(1,.ptr 0 0 0),(3,(lk st 3)),(4,.all 1),(7,.int i64 a.1)],[⟨true,42,49,.gen [mB (cT st 1)]⟩,⟨false,40,1,.ints u64 a.2⟩])
 a0:=λst=>((lk st 7).toInt,(nI st.rows (rN st 4)))
 iy:=λst=>[]++[(rX st 1 0),(rX st 4 1)]}
def Z7x:bm:={
 α:=(Int)×(List Int)
 F:=λst a=>([(1,.ptr 0 0 0),(3,.all 2),(4,.all 1),(8,.int i64 a.1)],[⟨true,42,49,.gen [mB (cT st 1)]⟩,⟨false,40,1,nH st.rows (rN st 4)⟩,⟨false,5,1,.ints u8 a.2⟩])
 a0:=λst=>((lk st 8).toInt,(nI st.rows (rN st 3)))
 iy:=λst=>[]++[(rX st 1 0),(rX st 4 1),(rX st 3 2)]}
def Z1:List (Nat×bm):=[(4,Z6i),(9,Z5x),(14,Z6o),(18,Z7x)]
def Zd9:bb:=mT 140 [] true [.agg ao.sig] [] (λa r=>Ps (ao.of (aC a 0))) (λX=>.str X) (λX=>[])
theorem Z7:bj pG Zd9:=oT (.cons Qbp (.cons Zhz (.cons Zh9 (.cons zB (.nil))))) Tryz.func140 Tryz.call140 [] Z1 3
def Qrf(h0:Int)(s:List UInt8)(z:(Int)×(Int)):Prop:=0<=z.2/\z.2<=s.length
def Uk(h0:Int)(s:List UInt8)(z:(Int)×(Int)):Nat:=(s.length-z.2).toNat
def Mq(h0:Int)(s:List UInt8):Tree Int:=
.lp inferInstance (Uk h0 s (h0,0)+1) ((rE (h0:Int)/\rE (s:List UInt8)/\rE (0:Int)/\True)/\True) (h0,0) λ(v0:Int×Int)=>.br (decide (v0.2<(s.length:Int))) (.cn (decide (0<=v0.2/\v0.2<(s.length:Int))) (.nx ((rE ((wrap u64 (nh u64 v0.1 (wrap u64 (↑(eV (s.getD v0.2.toNat (0:UInt8))):Int))*1099511628211)):Int)/\rE (s:List UInt8)/\rE ((wrap i64 (v0.2+1)):Int)/\True)/\True) (Sum.inl (wrap u64 (nh u64 v0.1 (wrap u64 (↑(eV (s.getD v0.2.toNat (0:UInt8))):Int))*1099511628211),wrap i64 (v0.2+1))))) (.lf (Sum.inr v0.1))
def FI h0 s:=(Mq h0 s).m
def VQ(h0:Int)(s:List UInt8):Prop:=
s.length<=1000000000000
theorem Zci(h0:Int)(s:List UInt8)(hw:VQ h0 s):(Mq h0 s).p:=by
 simp only[VQ]at hw
 unfold Tree.p Mq
 repeat'(first|refine ej (inv:=Qrf h0 s) (μ:=Uk h0 s) ?_ (cO _) (λ_ _=>?_)|exact trivial|refine ab (λ_=>?_) (λ_=>?_)|refine ar ?_ ?_|refine cu ?_ ?_|refine au (λ_ _=>?_)|refine dm ?_|refine bq ?_|refine And.intro ?_ ?_)
 all_goals((try simp only[Qrf,Uk]at*);exact oM)
def Zgs:bm:={
 α:=(Int)×(Int)
 F:=λst a=>([(0,.int u64 a.1),(1,(lk st 1)),(5,.int i64 a.2)],[])
 a0:=λst=>((lk st 0).toInt,(lk st 5).toInt)
 iy:=λst=>[]++[]}
def Z7g:List (Nat×bm):=[(2,Zgs)]
def Zj4:bb:=mU 139 [] true [.one (.int .u64),.one (.str)] [] (λa r=>VQ (av a 0) (gh a 1)) (λa r=>FI (av a 0) (gh a 1)) (λX=>.int .u64 X) (λX=>[])
theorem Zit:bj pG Zj4:=wv drawn nj (.nil) Tryz.func139 Tryz.call139 (λa r=>Mq (av a 0) (gh a 1)) [] Z7g 3 (hp:=λa r h=>Zci (av a 0) (gh a 1) h)
def Pv(m:ao):Tree Int:=
.an (Qol m) (.lv (Z36 m) λ(x0:List UInt8)=>.an (VQ 14695981039346656037 x0) (.lv (FI 14695981039346656037 x0) λ(x1:Int)=>.lf x1))
def Ml m:=(Pv m).m
abbrev Pu m:=(Pv m).p
def Zjm:bb:=mT 85 [] true [.agg ao.sig] [] (λa r=>Pv (ao.of (aC a 0))) (λX=>.int .u64 X) (λX=>[])
theorem Qq2:bj pG Zjm:=oT (.cons Zit (.cons Z7 (.nil))) Tryz.func85 Tryz.call85 [] [] 2
end
noncomputable section
instance Sf {α β:Type} [Inhabited β]:Inhabited (α⊕β):=⟨.inr default⟩
def Qky(script:List dr)(z:(Int)):Prop:=1<=z/\(z<=script.length\/z=1)
def Mp(script:List dr)(z:(Int)):Nat:=(script.length-z).toNat
def Mo(script:List dr):Tree Bool:=
.lp inferInstance (Mp script 1+1) ((nR RK.ae 4 script/\rE (1:Int)/\True)/\True) 1 λ(v0:Int)=>.br (decide (v0<(script.length:Int))) (.cn (bT 4 4&&bJ 0 4&&decide (0<=wrap i64 (v0-1)/\wrap i64 (v0-1)<(script.length:Int))) (.cn (bT 4 4&&bJ 0 4&&decide (0<=v0/\v0<(script.length:Int))) (let E2:=script.getD (dE (wrap i64 (v0-1))) (RK.cg RK.ae);let E3:=script.getD v0.toNat (RK.cg RK.ae);.br (decide (E3.At<E2.At)) (.lf (Sum.inr false)) (let T1:Tree ((Int)⊕(Bool)):=.nx ((nR RK.ae 4 script/\rE ((wrap i64 (v0+1)):Int)/\True)/\True) (Sum.inl (wrap i64 (v0+1)));.br (E3.At==E2.At) (.br (E2.C5.C3==1) (.lf (Sum.inr false)) T1) T1)))) (.lf (Sum.inr true))
def Qz5 script:=(Mo script).m
def VR(script:List dr):Prop:=
script.length<=1000000000000
theorem Z0(script:List dr)(hw:VR script):(Mo script).p:=by
 simp only[VR]at hw
 unfold Tree.p Mo
 repeat'(first|refine ej (inv:=Qky script) (μ:=Mp script) ?_ (cO _) (λ_ _=>?_)|exact trivial|refine ab (λ_=>?_) (λ_=>?_)|refine ar ?_ ?_|refine cu ?_ ?_|refine au (λ_ _=>?_)|refine dm ?_|refine bq ?_|refine And.intro ?_ ?_)
 all_goals((try simp only[Qky,Mp]at*);exact oM)
def Z59:bm:={
 α:=(Int)
 F:=λst a=>([(0,(lk st 0)),(3,.int i64 a)],[])
 a0:=λst=>(lk st 3).toInt
 iy:=λst=>[]++[]}
def Qy2:List (Nat×bm):=[(2,Z59)]
def Z78:bb:=mU 268 [] true [.one (.ba .ae)] [] (λa r=>VR (ie .ae a 0)) (λa r=>Qz5 (ie .ae a 0)) (λX=>.bool X) (λX=>[])
theorem Z4:bj pG Z78:=wv drawn nj (.nil) Tryz.func268 Tryz.call268 (λa r=>Mo (ie .ae a 0)) [] Qy2 3 (hp:=λa r h=>Z0 (ie .ae a 0) h)
def Qn1(m:ao)(script:List dr)(bu:Int)(z:(Int)):Nat:=(script.length-z).toNat
def PB(m:ao)(script:List dr)(bu:Int):Tree Int:=
.an (RV m) (.lv (mM m) λ(x0:Bool)=>.br (!x0) (.lf 1300) (.br (decide (bu<m.A0)) (.lf 1300) (.br (decide (wrap u64 (bu-m.A0)>4000)) (.lf 1300) (.br (decide ((script.length:Int)>(400:Int))) (.lf 1300) (.an (VR script) (.lv (Qz5 script) λ(x1:Bool)=>.br (!x1) (.lf 1301) (.lp inferInstance (Qn1 m script bu 0+1) ((rZ/\nR RK.ae 4 script/\rE ((script.length:Int):Int)/\rE (0:Int)/\True)/\(mE m (((ai.Nil (ai.ints u32 m.Mem)\/rE (1:Nat))/\rE m.Mem)) True)/\True) 0 λ(v0:Int)=>.br (decide (v0<(script.length:Int))) (.cn (bT 4 4&&bJ 0 4&&decide (0<=v0/\v0<(script.length:Int))) (.br (decide ((script.getD v0.toNat (RK.cg RK.ae)).At<m.A0)) (.lf (Sum.inr 1301)) (.nx ((rZ/\nR RK.ae 4 script/\rE ((script.length:Int):Int)/\rE ((wrap i64 (v0+1)):Int)/\True)/\(mE m (((ai.Nil (ai.ints u32 m.Mem)\/rE (1:Nat))/\rE m.Mem)) True)/\True) (Sum.inl (wrap i64 (v0+1)))))) (.lf (Sum.inr 0)))))))))
def Z90 m script bu:=(PB m script bu).m
abbrev Qrp m script bu:=(PB m script bu).p
def Zbx:bm:={
 α:=(Int)
 F:=λst a=>([(3,.ptr 0 0 0),(33,(lk st 33)),(34,(lk st 34)),(35,.int i64 a)],[⟨true,42,49,.gen [mB (cT st 3)]⟩])
 a0:=λst=>(lk st 35).toInt
 iy:=λst=>[]++[(rX st 3 0)]}
def Z5q:List (Nat×bm):=[(6,Zbx)]
def Zgy:bb:=mT 202 [] true [.agg ao.sig,.one (.ba .ae),.one (.int .u64)] [] (λa r=>PB (ao.of (aC a 0)) (ie .ae a 1) (av a 2)) (λX=>.int .i64 X) (λX=>[])
theorem Zan:bj pG Zgy:=oT (.cons Qjw (.cons Z4 (.nil))) Tryz.func202 Tryz.call202 [] Z5q 3
def Qs(m:ao)(script:List dr)(bu:Int)(z:(Int)×ao×(List fc)):Nat:=(bu-z.2.1.A0).toNat
def Qs7(m:ao)(script:List dr)(bu:Int)(v0:Int×ao×List fc)(z:(Int)×ao):Nat:=(script.length-z.1).toNat
def PC(m:ao)(script:List dr)(bu:Int):Tree (ao×(List fc)×Int×Int):=
.an (Qrp m script bu) (.lv (Z90 m script bu) λ(x0:Int)=>let E4:=({A7:={X:={a0:=0,a1:=0,a2:=0,a3:=0,a4:=0,a5:=0,a6:=0,a7:=0,a8:=0,a9:=0,kP:=0,kQ:=0,a12:=0,kR:=0,kS:=0,kT:=0},Pc:=0,B1:={a0:=0,a1:=0,a2:=0,a3:=0,a4:=0,a5:=0,a6:=0,a7:=0}},Mem:=[],A2:={C6:=[]},A9:={D0:=false,B8:=0,C9:=false},A4:={ag:=0,B9:=0,Frame:=0,B6:=0,D1:=0,B4:=0,B0:=0,B5:=[]},C1:={Frame:=0,D6:=0,C2:=false,B7:=0,B3:=false,D8:=0},A1:={C4:=0,C0:=0},A0:=0,A3:=false,A6:=false}:ao);.br (x0 !=0) (.lf (E4,[],0,x0)) (.an (mN m.Mem) (.lv (jK m.Mem) λ(x1:List Int)=>let E7:=({A7:=m.A7,Mem:=x1,A2:=m.A2,A9:=m.A9,A4:=m.A4,C1:=m.C1,A1:=m.A1,A0:=m.A0,A3:=m.A3,A6:=m.A6}:ao);.lp inferInstance (Qs m script bu (0,E7,[])+1) ((nR RK.ae 4 script/\rE (bu:Int)/\rZ/\rZ/\True/\rE (0:Int)/\rE (0:Int)/\True)/\(mE m (rE (x1:List Int)) True)/\(mE zM True True)/\rE ([]:List (RK.T RK.bd))/\True) (0,E7,[]) λ(v0:Int×ao×List fc)=>.br (decide (v0.2.1.A0<bu)) (.br (decide (v0.2.1.A0<1152921504606846976)) (.lp inferInstance (Qs7 m script bu v0 (v0.1,v0.2.1)+1) ((nR RK.ae 4 script/\rE (bu:Int)/\rZ/\rZ/\True/\rE (0:Int)/\rE v0.1/\(rE (0:Nat)/\rE (46:Nat))/\rE v0.2.1.A0/\rE ((decide (v0.2.1.A0<1152921504606846976)):Bool)/\True)/\(mE v0.2.1 (((ai.Nil (ai.ints u32 v0.2.1.Mem)\/mc Nat 1 1)/\rE v0.2.1.Mem)) True)/\(mE zM True True)/\rE v0.2.2/\True) (v0.1,v0.2.1) λ(v1:Int×ao)=>let E5:=bT 4 4&&bJ 0 4&&decide (0<=v1.1/\v1.1<(script.length:Int));let E6:=script.getD v1.1.toNat (RK.cg RK.ae);let E8:=decide (v1.1<(script.length:Int));let T1:Tree ((Int×ao)⊕((Int×ao×List fc)⊕((ao×(List fc)×Int×Int)))):=.br v1.2.A6 (.lf (Sum.inr (Sum.inr (v1.2,v0.2.2,v1.1,0)))) (.an (Yn v1.2) (.lv (Lw v1.2) λ(x3:Bool)=>.br x3 (.br E8 (.lf (Sum.inr (Sum.inr (E4,[],0,1303)))) (.lf (Sum.inr (Sum.inr (v1.2,v0.2.2,v1.1,0))))) (let T2:Tree ((Int×ao)⊕((Int×ao×List fc)⊕((ao×(List fc)×Int×Int)))):=.an (O1 v1.2 0) (.lv (AT v1.2 0) λ(x6:ao×List fc)=>.cn (decide (40*(v0.2.2.length+x6.2.length)<=140737488355328)) (.nx ((nR RK.ae 4 script/\rE (bu:Int)/\rZ/\rZ/\True/\rE (0:Int)/\rE v1.1/\True)/\(mE x6.1 (((ai.Nil (ai.ints u32 x6.1.Mem)\/rE (1:Nat))/\rE x6.1.Mem)) True)/\(mE zM True True)/\rE ((v0.2.2++x6.2):List (RK.T RK.bd))/\True) (Sum.inr (Sum.inl (v1.1,x6.1,v0.2.2++x6.2)))));let T3:Tree ((Int×ao)⊕((Int×ao×List fc)⊕((ao×(List fc)×Int×Int)))):=.lf (Sum.inr (Sum.inr (E4,[],0,1302)));.br E8 (.cn E5 (.an (Q82 v1.2) (.lv (O3 v1.2) λ(x4:Bool)=>.br (!x4==(E6.At==v1.2.A0)) T3 (.br (E6.At==v1.2.A0) (.cn E5 (.an (O1 v1.2 E6.C5.N) (.lv (AT v1.2 E6.C5.N) λ(x5:ao×List fc)=>.cn (decide (40*(v0.2.2.length+x5.2.length)<=140737488355328)) (.nx ((nR RK.ae 4 script/\rE (bu:Int)/\rZ/\rZ/\True/\rE (0:Int)/\rE ((wrap i64 (v1.1+1)):Int)/\True)/\(mE x5.1 (((ai.Nil (ai.ints u32 x5.1.Mem)\/rE (1:Nat))/\rE x5.1.Mem)) True)/\(mE zM True True)/\rE ((v0.2.2++x5.2):List (RK.T RK.bd))/\True) (Sum.inr (Sum.inl (wrap i64 (v1.1+1),x5.1,v0.2.2++x5.2))))))) T2)))) (.an (Q82 v1.2) (.lv (O3 v1.2) λ(x7:Bool)=>.br (!x7==false) T3 T2)))));.br E8 (.cn E5 (.br (E6.At==v1.2.A0) (.cn E5 (.br (E6.C5.C3 !=1) (.cn E5 (.an (Qd0 v1.2 E6.C5) (.lv (Md v1.2 E6.C5) λ(x2:ao×Bool)=>.nx ((nR RK.ae 4 script/\rE (bu:Int)/\rZ/\rZ/\True/\rE (0:Int)/\rE ((wrap i64 (v1.1+1)):Int)/\(rE (0:Nat)/\rE (46:Nat))/\rE v0.2.1.A0/\rE ((decide (v0.2.1.A0<1152921504606846976)):Bool)/\True)/\(mE x2.1 (rE x2.1.Mem) True)/\(mE zM True True)/\rE v0.2.2/\True) (Sum.inl (wrap i64 (v1.1+1),x2.1))))) T1)) T1)) T1) (.lf (Sum.inr (v0.2.1,v0.2.2,v0.1,0)))) (.lf (Sum.inr (v0.2.1,v0.2.2,v0.1,0))))))
def VS m script bu:=(PC m script bu).m
abbrev Qf m script bu:=(PC m script bu).p
def Zkb:bm:={
 α:=(Int)×ao×(List fc)
 F:=λst a=>([(1,(lk st 1)),(2,(lk st 2)),(3,.ptr 0 0 0),(6,.ptr 1 0 0),(11,.all 2),(12,(lk st 12)),(13,.int i64 a.1)],[⟨true,42,49,.gen [mD a.2.1 (.sl 1 (.ints u32 a.2.1.Mem) false)]⟩,⟨true,42,49,.gen [mB (cT st 6)]⟩,⟨false,137,4,.ba RK.bd a.2.2⟩])
 a0:=λst=>((lk st 13).toInt,(mR (cT st 3) (Ff u32 st.rows (cT st 3 25))),(Ea RK.bd st.rows (rN st 11)))
 iy:=λst=>[]++[(rX st 3 0),(rX st 6 1),(rX st 11 2)]}
def Zju:bm:={
 α:=(Int)×ao
 F:=λst a=>([(1,(lk st 1)),(2,(lk st 2)),(3,.ptr 0 0 0),(6,.ptr 1 0 0),(11,.all 2),(12,(lk st 12)),(13,.int i64 a.1),(34,.ptr 0 0 46),(35,(lk st 35)),(36,(lk st 36))],[⟨true,42,49,.gen [mD a.2 (.sl 1 (.ints u32 a.2.Mem) false)]⟩,⟨true,42,49,.gen [mB (cT st 6)]⟩,⟨false,137,4,nH st.rows (rN st 11)⟩])
 a0:=λst=>((lk st 13).toInt,(mR (cT st 3) (Ff u32 st.rows (cT st 3 25))))
 iy:=λst=>[]++[(rX st 3 0),(rX st 6 1),(rX st 11 2)]}
def Zb9:List (Nat×bm):=[(8,Zkb),(9,Zju)]
def Zqs:bb:=bb.fz<|mU 138 [] false [.agg ao.sig,.one (.ba .ae),.one (.int .u64)] [] (λa r=>Qf (ao.of (aC a 0)) (ie .ae a 1) (av a 2)) (λa r=>VS (ao.of (aC a 0)) (ie .ae a 1) (av a 2)) (λX=>.dt [.agg (ao.cells (X.1)),.all 0,.int .i64 (X.2.2.1),.int .i64 (X.2.2.2)]) (λX=>[⟨false,137,4,.ba .bd (X.2.1)⟩])
theorem Qt2:bj pG Zqs:=MY<|wv drawn nj (.cons Zan (.cons EI (.cons Z0z (.cons Qpi (.cons Qpc (.cons Z5j (.nil))))))) Tryz.func138 Tryz.call138 (λa r=>PC (ao.of (aC a 0)) (ie .ae a 1) (av a 2)) [.sl (.ints .u32) false,.row 137 4 (.ba .bd)] Zb9 3 (λ_ _ _=>by kernel_rfl) (λ_ _=>rfl) (λ_ _ h=>h) (λh=>by cases h)
end
noncomputable section
def Ut(m:ao):Tree fe:=
.an (Pw m) (.lv (Hh m) λ(x0:Int)=>.lf ({At:=m.A0,C8:=x0}))
def Zaf m:=(Ut m).m
abbrev Qrm m:=(Ut m).p
def Zf8:bb:=mT 47 [] true [.agg ao.sig] [] (λa r=>Ut (ao.of (aC a 0))) (λX=>.agg (fe.cells X)) (λX=>[])
theorem Zed:bj pG Zf8:=oT (.cons Qh2 (.nil)) Tryz.func47 Tryz.call47 [] [] 2
def Qlm(m:ao)(script:List dr)(bn:List Int)(z:(Int)×(Int)):Nat:=(bn.length-z.2).toNat
def PG(m:ao)(script:List dr)(bn:List Int):Tree Int:=
.br (decide ((bn.length:Int)>(400:Int))) (.lf 4300) (.lp inferInstance (Qlm m script bn (m.A0,0)+1) ((nR RK.ae 4 script/\rZ/\rE m.A0/\((ai.Nil (ai.ints u64 bn)\/rE (1:Nat))/\rE (bn:List Int))/\rE ((bn.length:Int):Int)/\rE (0:Int)/\True)/\(mE m (((ai.Nil (ai.ints u32 m.Mem)\/rE (1:Nat))/\rE m.Mem)) True)/\True) (m.A0,0) λ(v0:Int×Int)=>.br (decide (v0.2<(bn.length:Int))) (.cn (bT 1 1&&bJ 0 1&&decide (0<=v0.2/\v0.2<(bn.length:Int))) (.br (decide (bn.getD v0.2.toNat 0<v0.1)) (.lf (Sum.inr 4300)) (.br (decide (wrap u64 (bn.getD v0.2.toNat 0-v0.1)>4000)) (.lf (Sum.inr 4300)) (.nx ((nR RK.ae 4 script/\rZ/\rE ((bn.getD v0.2.toNat 0):Int)/\((ai.Nil (ai.ints u64 bn)\/rE (1:Nat))/\rE (bn:List Int))/\rE ((bn.length:Int):Int)/\rE ((wrap i64 (v0.2+1)):Int)/\True)/\(mE m (((ai.Nil (ai.ints u32 m.Mem)\/rE (1:Nat))/\rE m.Mem)) True)/\True) (Sum.inl (bn.getD v0.2.toNat 0,wrap i64 (v0.2+1))))))) (.an (Qf m script m.A0) (.lv (VS m script m.A0) λ(x0:ao×List fc×Int×Int)=>.lf (Sum.inr x0.2.2.2))))
def Qtf m script bn:=(PG m script bn).m
abbrev Qgq m script bn:=(PG m script bn).p
def Z6l:bm:={
 α:=(Int)×(Int)
 F:=λst a=>([(1,(lk st 1)),(3,.ptr 0 0 0),(7,.int u64 a.1),(19,(lk st 19)),(20,(lk st 20)),(21,.int i64 a.2)],[⟨true,42,49,.gen [mB (cT st 3)]⟩])
 a0:=λst=>((lk st 7).toInt,(lk st 21).toInt)
 iy:=λst=>[]++[(rX st 3 0)]}
def Qzz:List (Nat×bm):=[(5,Z6l)]
def Zbr:bb:=mT 80 [] true [.agg ao.sig,.one (.ba .ae),.one (.ints .u64)] [] (λa r=>PG (ao.of (aC a 0)) (ie .ae a 1) (ek .u64 a 2)) (λX=>.int .i64 X) (λX=>[])
theorem Qrw:bj pG Zbr:=oT (.cons Qt2 (.nil)) Tryz.func80 Tryz.call80 [] Qzz 3
def Uu(m:ao):Tree fe:=
.an (Pu m) (.lv (Ml m) λ(x0:Int)=>.lf ({At:=m.A0,C8:=x0}))
def Qzg m:=(Uu m).m
abbrev Qnn m:=(Uu m).p
def Z6x:bb:=mT 48 [] true [.agg ao.sig] [] (λa r=>Uu (ao.of (aC a 0))) (λX=>.agg (fe.cells X)) (λX=>[])
theorem Z5l:bj pG Z6x:=oT (.cons Qq2 (.nil)) Tryz.func48 Tryz.call48 [] [] 2
def Qes(m:ao)(bn:List Int)(z:(Int)×(Int)):Nat:=(bn.length-z.2).toNat
def PH(m:ao)(bn:List Int):Tree Bool:=
.br (decide ((bn.length:Int)>(400:Int))) (.lf false) (.lp inferInstance (Qes m bn (m.A0,0)+1) ((((ai.Nil (ai.ints u64 bn)\/rE (1:Nat))/\rE (bn:List Int))/\rE m.A0/\rE (0:Int)/\True)/\True) (m.A0,0) λ(v0:Int×Int)=>.br (decide (v0.2<(bn.length:Int))) (let E1:=bT 1 1&&bJ 0 1&&decide (0<=v0.2/\v0.2<(bn.length:Int));.cn E1 (.br (decide (bn.getD v0.2.toNat 0<v0.1)) (.lf (Sum.inr false)) (.cn E1 (.br (decide (wrap u64 (bn.getD v0.2.toNat 0-v0.1)>4000)) (.lf (Sum.inr false)) (.cn E1 (.nx ((((ai.Nil (ai.ints u64 bn)\/rE (1:Nat))/\rE (bn:List Int))/\rE ((bn.getD v0.2.toNat 0):Int)/\rE ((wrap i64 (v0.2+1)):Int)/\True)/\True) (Sum.inl (bn.getD v0.2.toNat 0,wrap i64 (v0.2+1))))))))) (.lf (Sum.inr true)))
def Qhd m bn:=(PH m bn).m
abbrev Qau m bn:=(PH m bn).p
def Qv7:bm:={
 α:=(Int)×(Int)
 F:=λst a=>([(1,(lk st 1)),(5,.int u64 a.1),(6,.int i64 a.2)],[])
 a0:=λst=>((lk st 5).toInt,(lk st 6).toInt)
 iy:=λst=>[]++[]}
def Qqy:List (Nat×bm):=[(5,Qv7)]
def Qxa:bb:=mT 83 [] true [.agg ao.sig,.one (.ints .u64)] [] (λa r=>PH (ao.of (aC a 0)) (ek .u64 a 1)) (λX=>.bool X) (λX=>[])
theorem Qja:bj pG Qxa:=oT (.nil) Tryz.func83 Tryz.call83 [] Qqy 3
def Ur(m:ao):Tree Bool:=
.br (decide ((m.Mem.length:Int)<=(1100:Int))) (.br (decide ((m.A2.C6.length:Int)<=(100:Int))) (.lf (decide ((m.A4.B5.length:Int)<=(300:Int)))) (.lf false)) (.lf false)
def Uq m:=(Ur m).m
def Zdf:bb:=mS 45 [] true [.agg ao.sig] [] (λa r=>Ur (ao.of (aC a 0))) (λX=>.bool X) (λX=>[])
theorem Z7q:bj pG Zdf:=oS (.nil) Tryz.func45 Tryz.call45 [] [] 2
def Qn2(a b:List fe)(z:(Int)):Nat:=(a.length-z).toNat
def PU(a b:List fe):Tree Bool:=
.br ((a.length:Int) !=(b.length:Int)) (.lf false) (.lp inferInstance (Qn2 a b 0+1) ((nR RK.aa 2 a/\nR RK.aa 2 b/\rE (0:Int)/\True)/\True) 0 λ(v0:Int)=>.br (decide (v0<(a.length:Int))) (.cn (bT 2 2&&bJ 0 2&&decide (0<=v0/\v0<(a.length:Int))) (.cn (bT 2 2&&bJ 0 2&&decide (0<=v0/\v0<(b.length:Int))) (let E1:=a.getD v0.toNat (RK.cg RK.aa);let E2:=b.getD v0.toNat (RK.cg RK.aa);.br (!eqs [D.int u64 E1.At,D.int u64 E1.C8] [D.int u64 E2.At,D.int u64 E2.C8]) (.lf (Sum.inr false)) (.nx ((nR RK.aa 2 a/\nR RK.aa 2 b/\rE ((wrap i64 (v0+1)):Int)/\True)/\True) (Sum.inl (wrap i64 (v0+1))))))) (.lf (Sum.inr true)))
def Z8c a b:=(PU a b).m
abbrev Qs9 a b:=(PU a b).p
def Zbl:bm:={
 α:=(Int)
 F:=λst a=>([(0,(lk st 0)),(1,(lk st 1)),(5,.int i64 a)],[])
 a0:=λst=>(lk st 5).toInt
 iy:=λst=>[]++[]}
def Z2d:List (Nat×bm):=[(4,Zbl)]
def Zic:bb:=mT 40 [] true [.one (.ba .aa),.one (.ba .aa)] [] (λa r=>PU (ie .aa a 0) (ie .aa a 1)) (λX=>.bool X) (λX=>[])
theorem Zcg:bj pG Zic:=oT (.nil) Tryz.func40 Tryz.call40 [] Z2d 3
end
noncomputable section
def Qrq(m:ao)(script:List dr)(bu:Int)(z:(Int)×ao×(List fc)):Nat:=(bu-z.2.1.A0).toNat
def Qsa(m:ao)(script:List dr)(bu:Int)(v0:Int×ao×List fc)(z:(Int)×ao):Nat:=(script.length-z.1).toNat
def Py(m:ao)(script:List dr)(bu:Int):Tree (ao×(List fc)×Int×Int):=
.lv (sd m) λ(x0:Bool)=>let E7:=({A7:={X:={a0:=0,a1:=0,a2:=0,a3:=0,a4:=0,a5:=0,a6:=0,a7:=0,a8:=0,a9:=0,kP:=0,kQ:=0,a12:=0,kR:=0,kS:=0,kT:=0},Pc:=0,B1:={a0:=0,a1:=0,a2:=0,a3:=0,a4:=0,a5:=0,a6:=0,a7:=0}},Mem:=[],A2:={C6:=[]},A9:={D0:=false,B8:=0,C9:=false},A4:={ag:=0,B9:=0,Frame:=0,B6:=0,D1:=0,B4:=0,B0:=0,B5:=[]},C1:={Frame:=0,D6:=0,C2:=false,B7:=0,B3:=false,D8:=0},A1:={C4:=0,C0:=0},A0:=0,A3:=false,A6:=false}:ao);let T4:Tree ((ao×(List fc)×Int×Int)):=.lf (E7,[],0,1300);.br (!x0) T4 (.br (decide (bu<m.A0)) T4 (.br (decide (wrap u64 (bu-m.A0)>4000)) T4 (.br (decide ((script.length:Int)>(400:Int))) T4 (.an (KT script) (.lv (Qp1 script) λ(x1:Bool)=>let T5:Tree ((ao×(List fc)×Int×Int)):=.lf (E7,[],0,1301);.br (!x1) T5 (let T1:Tree ((ao×(List fc)×Int×Int)):=.an (VI m) (.lv (Mb m) λ(x2:ao)=>.lp inferInstance (Qrq m script bu (0,x2,[])+1) ((nR RK.ae 4 script/\rE (bu:Int)/\rZ/\rZ/\True/\rE (0:Int)/\True)/\(mE x2 True True)/\rE x2.Mem/\(mE zM True True)/\rE ([]:List (RK.T RK.bd))/\True) (0,x2,[]) λ(v0:Int×ao×List fc)=>.br (decide (v0.2.1.A0<bu)) (.br (decide (v0.2.1.A0<1152921504606846976)) (.lp inferInstance (Qsa m script bu v0 (v0.1,v0.2.1)+1) ((nR RK.ae 4 script/\rE (bu:Int)/\rZ/\rZ/\True/\rE v0.1/\(rE (0:Nat)/\rE (46:Nat))/\rE v0.2.1.A0/\rE ((decide (v0.2.1.A0<1152921504606846976)):Bool)/\True)/\(mE v0.2.1 True True)/\rE v0.2.1.Mem/\(mE zM True True)/\rE v0.2.2/\True) (v0.1,v0.2.1) λ(v1:Int×ao)=>let E8:=bT 4 4&&bJ 0 4&&decide (0<=v1.1/\v1.1<(script.length:Int));let E9:=script.getD v1.1.toNat (RK.cg RK.ae);let me:=decide (v1.1<(script.length:Int));let T2:Tree ((Int×ao)⊕((Int×ao×List fc)⊕((ao×(List fc)×Int×Int)))):=.br v1.2.A6 (.lf (Sum.inr (Sum.inr (v1.2,v0.2.2,v1.1,0)))) (.an (Qg0 v1.2) (.lv (pz v1.2) λ(x4:Bool)=>.br x4 (.br me (.lf (Sum.inr (Sum.inr (E7,[],0,1303)))) (.lf (Sum.inr (Sum.inr (v1.2,v0.2.2,v1.1,0))))) (let T3:Tree ((Int×ao)⊕((Int×ao×List fc)⊕((ao×(List fc)×Int×Int)))):=.an (Pz v1.2 0) (.lv (ez v1.2 0) λ(x7:List fc×ao)=>.cn (decide (40*(v0.2.2.length+x7.1.length)<=140737488355328)) (.nx ((nR RK.ae 4 script/\rE (bu:Int)/\rZ/\rZ/\True/\rE v1.1/\True)/\(mE x7.2 True True)/\rE x7.2.Mem/\(mE zM True True)/\rE ((v0.2.2++x7.1):List (RK.T RK.bd))/\True) (Sum.inr (Sum.inl (v1.1,x7.2,v0.2.2++x7.1)))));let T6:Tree ((Int×ao)⊕((Int×ao×List fc)⊕((ao×(List fc)×Int×Int)))):=.lf (Sum.inr (Sum.inr (E7,[],0,1302)));.br me (.cn E8 (.an (VJ v1.2) (.lv (lR v1.2) λ(x5:Bool)=>.br (!(E9.At==v1.2.A0)==x5) T6 (.br (E9.At==v1.2.A0) (.cn E8 (.an (Pz v1.2 E9.C5.N) (.lv (ez v1.2 E9.C5.N) λ(x6:List fc×ao)=>.cn (decide (40*(v0.2.2.length+x6.1.length)<=140737488355328)) (.nx ((nR RK.ae 4 script/\rE (bu:Int)/\rZ/\rZ/\True/\rE ((wrap i64 (v1.1+1)):Int)/\True)/\(mE x6.2 True True)/\rE x6.2.Mem/\(mE zM True True)/\rE ((v0.2.2++x6.1):List (RK.T RK.bd))/\True) (Sum.inr (Sum.inl (wrap i64 (v1.1+1),x6.2,v0.2.2++x6.1))))))) T3)))) (.an (VJ v1.2) (.lv (lR v1.2) λ(x8:Bool)=>.br (!false==x8) T6 T3)))));.br me (.cn E8 (.br (E9.At==v1.2.A0) (.cn E8 (.br (E9.C5.C3 !=1) (.cn E8 (.an (Qjv v1.2 E9.C5) (.lv (pX v1.2 E9.C5) λ(x3:Bool×ao)=>.nx ((nR RK.ae 4 script/\rE (bu:Int)/\rZ/\rZ/\True/\rE ((wrap i64 (v1.1+1)):Int)/\(rE (0:Nat)/\rE (46:Nat))/\rE v0.2.1.A0/\rE ((decide (v0.2.1.A0<1152921504606846976)):Bool)/\True)/\(mE x3.2 True True)/\rE x3.2.Mem/\(mE zM True True)/\rE v0.2.2/\True) (Sum.inl (wrap i64 (v1.1+1),x3.2))))) T2)) T2)) T2) (.lf (Sum.inr (v0.2.1,v0.2.2,v0.1,0)))) (.lf (Sum.inr (v0.2.1,v0.2.2,v0.1,0))));.br (decide ((script.length:Int)>(0:Int))) (.cn (bT 4 4&&bJ 0 4&&decide ((0:Int)<=(0:Int)/\0<(script.length:Int))) (.br (decide ((script.getD (dE 0) (RK.cg RK.ae)).At<m.A0)) T5 T1)) T1))))))
def Z1m m script bu:=(Py m script bu).m
abbrev Qjn m script bu:=(Py m script bu).p
def Zli:bm:={
 α:=(Int)×ao×(List fc)
 F:=λst a=>([(1,(lk st 1)),(2,(lk st 2)),(3,.ptr 0 0 0),(6,.ptr 2 0 0),(10,.all 3),(11,.int i64 a.1)],[⟨true,42,49,.gen [mD a.2.1 (.all 1)]⟩,⟨false,23,1,.ints u32 a.2.1.Mem⟩,⟨true,42,49,.gen [mB (cT st 6)]⟩,⟨false,137,4,.ba RK.bd a.2.2⟩])
 a0:=λst=>((lk st 11).toInt,(mR (cT st 3) (nI st.rows (rr (cT st 3 25) 1000000))),(Ea RK.bd st.rows (rN st 10)))
 iy:=λst=>[]++[(rX st 3 0),(rr (cT st 3 25) (st.rows.length+1)),(rX st 6 2),(rX st 10 3)]}
def Zlw:bm:={
 α:=(Int)×ao
 F:=λst a=>([(1,(lk st 1)),(2,(lk st 2)),(3,.ptr 0 0 0),(6,.ptr 2 0 0),(10,.all 3),(11,.int i64 a.1),(61,.ptr 0 0 46),(62,(lk st 62)),(63,(lk st 63))],[⟨true,42,49,.gen [mD a.2 (.all 1)]⟩,⟨false,23,1,.ints u32 a.2.Mem⟩,⟨true,42,49,.gen [mB (cT st 6)]⟩,⟨false,137,4,nH st.rows (rN st 10)⟩])
 a0:=λst=>((lk st 11).toInt,(mR (cT st 3) (nI st.rows (rr (cT st 3 25) 1000000))))
 iy:=λst=>[]++[(rX st 3 0),(rr (cT st 3 25) (st.rows.length+1)),(rX st 6 2),(rX st 10 3)]}
def Zb2:List (Nat×bm):=[(8,Zli),(9,Zlw)]
def Zqo:bb:=mT 52 [] true [.agg ao.sig,.one (.ba .ae),.one (.int .u64)] [] (λa r=>Py (ao.of (aC a 0)) (ie .ae a 1) (av a 2)) (λX=>.dt [.agg (ao.ia (X.1) (.all 0)),.all 1,.int .i64 (X.2.2.1),.int .i64 (X.2.2.2)]) (λX=>[⟨false,23,1,.ints .u32 (X.1).Mem⟩,⟨false,137,4,.ba .bd (X.2.1)⟩])
theorem Qtc:bj pG Zqo:=oT (.cons Z5s (.cons Qp9 (.cons Z20 (.cons Qvx (.cons Qzo (.cons Qvh (.cons Qoe (.nil)))))))) Tryz.func52 Tryz.call52 [.row 23 1 (.ints .u32),.row 137 4 (.ba .bd)] Zb2 3
end
noncomputable section
def PM(m:ao)(script:List dr)(bn:Int):Tree (ao×Int×Int):=
.an (Qjn m script bn) (.lv (Z1m m script bn) λ(x0:ao×List fc×Int×Int)=>.lf (x0.1,x0.2.2.1,x0.2.2.2))
def Qmf m script bn:=(PM m script bn).m
abbrev Qdd m script bn:=(PM m script bn).p
def Z2z:bb:=mT 84 [] true [.agg ao.sig,.one (.ba .ae),.one (.int .u64)] [] (λa r=>PM (ao.of (aC a 0)) (ie .ae a 1) (av a 2)) (λX=>.dt [.agg (ao.ia (X.1) (.all 0)),.int .i64 (X.2.1),.int .i64 (X.2.2)]) (λX=>[⟨false,23,1,.ints .u32 (X.1).Mem⟩])
theorem Qn0:bj pG Z2z:=oT (.cons Qtc (.nil)) Tryz.func84 Tryz.call84 [.row 23 1 (.ints .u32)] [] 2
def Qhh(m:ao)(script:List dr)(bn:List Int)(z:(List dr)×(Int)×ao×(List fe)):Nat:=(bn.length-z.2.1).toNat
def PN(m:ao)(script:List dr)(bn:List Int):Tree ((List fe)×Int):=
.an (Qau m bn) (.lv (Qhd m bn) λ(x0:Bool)=>.br (!x0) (.lf ([],4300)) (.an (Qjn m script m.A0) (.lv (Z1m m script m.A0) λ(x1:ao×List fc×Int×Int)=>.br (x1.2.2.2 !=0) (.lf ([],x1.2.2.2)) (.lp inferInstance (Qhh m script bn (script,0,m,[])+1) ((nR RK.ae 4 script/\((ai.Nil (ai.ints u64 bn)\/rE (1:Nat))/\rE (bn:List Int))/\rZ/\True/\rE (0:Int)/\True)/\(mE m (((ai.Nil (ai.ints u32 m.Mem)\/rE (1:Nat))/\rE m.Mem)) True)/\rE ([]:List (RK.T RK.aa))/\True) (script,0,m,[]) λ(v0:List dr×Int×ao×List fe)=>.br (decide (v0.2.1<(bn.length:Int))) (let E1:=bT 1 1&&bJ 0 1&&decide (0<=v0.2.1/\v0.2.1<(bn.length:Int));.cn E1 (let E2:=bn.getD v0.2.1.toNat 0;.an (Qdd v0.2.2.1 v0.1 E2) (.lv (Qmf v0.2.2.1 v0.1 E2) λ(x2:ao×Int×Int)=>.br (x2.2.2 !=0) (.lf (Sum.inr ([],x2.2.2))) (.cn (bT 4 4&&bJ 0 4&&decide (0<=x2.2.1/\x2.2.1<=(v0.1.length:Int)/\(v0.1.length:Int)<=(v0.1.length:Int))) (.cn E1 (.an (Pu x2.1) (.lv (Ml x2.1) λ(x3:Int)=>.cn (decide (16*(v0.2.2.2.length+1)<=140737488355328)) (.nx ((((ai.Nil (ai.ba RK.ae (cZ (dE (v0.1.length:Int)-dE x2.2.1) (dA x2.2.1.toNat v0.1)))\/mc Nat 4 4)/\rE ((cZ (dE (v0.1.length:Int)-dE x2.2.1) (dA x2.2.1.toNat v0.1)):List (RK.T RK.ae)))/\((ai.Nil (ai.ints u64 bn)\/rE (1:Nat))/\rE (bn:List Int))/\rZ/\True/\rE ((wrap i64 (v0.2.1+1)):Int)/\True)/\(mE x2.1 (rE x2.1.Mem) True)/\rE ((v0.2.2.2++[{At:=bn.getD v0.2.1.toNat 0,C8:=x3}]):List (RK.T RK.aa))/\True) (Sum.inl (cZ (dE (v0.1.length:Int)-dE x2.2.1) (dA x2.2.1.toNat v0.1),wrap i64 (v0.2.1+1),x2.1,v0.2.2.2++[{At:=bn.getD v0.2.1.toNat 0,C8:=x3}])))))))))) (.lf (Sum.inr (v0.2.2.2,0)))))))
def Qug m script bn:=(PN m script bn).m
abbrev Qlp m script bn:=(PN m script bn).p
def Z0e:bm:={
 α:=(List dr)×(Int)×ao×(List fe)
 F:=λst a=>([(1,.sl 4 (.ba RK.ae a.1) false),(2,(lk st 2)),(3,.ptr 0 0 0),(12,.all 1),(13,.int i64 a.2.1)],[⟨true,42,49,.gen [mD a.2.2.1 (.sl 1 (.ints u32 a.2.2.1.Mem) false)]⟩,⟨false,100,2,.ba RK.aa a.2.2.2⟩])
 a0:=λst=>((rT RK.ae (lk st 1)),(lk st 13).toInt,(mR (cT st 3) (Ff u32 st.rows (cT st 3 25))),(Ea RK.aa st.rows (rN st 12)))
 iy:=λst=>[]++[(rX st 3 0),(rX st 12 1)]}
def Qv6:List (Nat×bm):=[(8,Z0e)]
def Z38:bb:=mT 39 [] true [.agg ao.sig,.one (.ba .ae),.one (.ints .u64)] [] (λa r=>PN (ao.of (aC a 0)) (ie .ae a 1) (ek .u64 a 2)) (λX=>.dt [.all 0,.int .i64 (X.2)]) (λX=>[⟨false,100,2,.ba .aa (X.1)⟩])
theorem Z0a:bj pG Z38:=oT (.cons Qja (.cons Qtc (.cons Qn0 (.cons Qq2 (.nil))))) Tryz.func39 Tryz.call39 [.row 100 2 (.ba .aa)] Qv6 3
def Qlg(m:ao)(script:List dr)(l:List fe)(z:(Int)×(List Int)):Nat:=(l.length-z.1).toNat
def Qlq(m:ao)(script:List dr)(l:List fe)(z:(List dr)×(Int)×(Int)×ao):Nat:=(l.length-z.2.2.1).toNat
def PS(m:ao)(script:List dr)(l:List fe):Tree (jH×Int):=
.lp inferInstance (Qlg m script l (0,[])+1) ((nR RK.ae 4 script/\nR RK.aa 2 l/\rZ/\rZ/\True/\rE (0:Int)/\True)/\(mE m (((ai.Nil (ai.ints u32 m.Mem)\/rE (1:Nat))/\rE m.Mem)) True)/\(rE (false:Bool)/\rE (0:Int)/\rE (0:Int)/\True)/\rE ([]:List Int)/\True) (0,[]) λ(v0:Int×List Int)=>let T1:Tree ((Int×List Int)⊕((jH×Int))):=.an (Qau m v0.2) (.lv (Qhd m v0.2) λ(x0:Bool)=>.br (!x0) (.lf (Sum.inr ({Good:=false,D4:=0,At:=0},4300))) (.an (Qjn m script m.A0) (.lv (Z1m m script m.A0) λ(x1:ao×List fc×Int×Int)=>.br (x1.2.2.2 !=0) (.lf (Sum.inr ({Good:=false,D4:=0,At:=0},x1.2.2.2))) (.lp inferInstance (Qlq m script l (script,m.A0,0,m)+1) ((((ai.Nil (ai.ba RK.ae script)\/mc Nat 4 4)/\rE (script:List (RK.T RK.ae)))/\nR RK.aa 2 l/\rZ/\rZ/\rE m.A0/\rE (0:Int)/\True)/\(mE m (((ai.Nil (ai.ints u32 m.Mem)\/mc Nat 1 1)/\rE m.Mem)) True)/\(rE (false:Bool)/\rE (0:Int)/\rE (0:Int)/\True)/\True) (script,m.A0,0,m) λ(v1:List dr×Int×Int×ao)=>.br (decide (v1.2.2.1<(l.length:Int))) (let E2:=bT 2 2&&bJ 0 2&&decide (0<=v1.2.2.1/\v1.2.2.1<(l.length:Int));.cn E2 (let E3:=l.getD v1.2.2.1.toNat (RK.cg RK.aa);.an (Qdd v1.2.2.2 v1.1 E3.At) (.lv (Qmf v1.2.2.2 v1.1 E3.At) λ(x2:ao×Int×Int)=>let E4:=({Good:=false,D4:=v1.2.2.1,At:=v1.2.1}:jH);.br (x2.2.2 !=0) (.lf (Sum.inr (Sum.inr (E4,0)))) (.an (Pu x2.1) (.lv (Ml x2.1) λ(x3:Int)=>.cn E2 (.br (x3 !=E3.C8) (.lf (Sum.inr (Sum.inr (E4,0)))) (.cn (bT 4 4&&bJ 0 4&&decide (0<=x2.2.1/\x2.2.1<=(v1.1.length:Int)/\(v1.1.length:Int)<=(v1.1.length:Int))) (.cn E2 (.nx ((((ai.Nil (ai.ba RK.ae (cZ (dE (v1.1.length:Int)-dE x2.2.1) (dA x2.2.1.toNat v1.1)))\/mc Nat 4 4)/\rE ((cZ (dE (v1.1.length:Int)-dE x2.2.1) (dA x2.2.1.toNat v1.1)):List (RK.T RK.ae)))/\nR RK.aa 2 l/\rZ/\rZ/\rE ((l.getD v1.2.2.1.toNat (RK.cg RK.aa)).At:Int)/\rE ((wrap i64 (v1.2.2.1+1)):Int)/\True)/\(mE x2.1 (rE x2.1.Mem) True)/\(rE (false:Bool)/\rE (0:Int)/\rE (0:Int)/\True)/\True) (Sum.inl (cZ (dE (v1.1.length:Int)-dE x2.2.1) (dA x2.2.1.toNat v1.1),E3.At,wrap i64 (v1.2.2.1+1),x2.1))))))))))) (.lf (Sum.inr (Sum.inr ({Good:=true,D4:=0,At:=0},0))))))));.br (decide (v0.1<(l.length:Int))) (.br (decide (v0.1<=400)) (.cn (bT 2 2&&bJ 0 2&&decide (0<=v0.1/\v0.1<(l.length:Int))) (.cn (decide (8*(v0.2.length+1)<=140737488355328)) (.nx ((nR RK.ae 4 script/\nR RK.aa 2 l/\rZ/\rZ/\True/\rE ((wrap i64 (v0.1+1)):Int)/\True)/\(mE m (((ai.Nil (ai.ints u32 m.Mem)\/rE (1:Nat))/\rE m.Mem)) True)/\(rE (false:Bool)/\rE (0:Int)/\rE (0:Int)/\True)/\rE ((v0.2++[(l.getD v0.1.toNat (RK.cg RK.aa)).At]):List Int)/\True) (Sum.inl (wrap i64 (v0.1+1),v0.2++[(l.getD v0.1.toNat (RK.cg RK.aa)).At]))))) T1) T1
def Z52 m script l:=(PS m script l).m
abbrev Qq m script l:=(PS m script l).p
def Z5w:bm:={
 α:=(Int)×(List Int)
 F:=λst a=>([(1,(lk st 1)),(2,(lk st 2)),(3,.ptr 0 0 0),(6,.ptr 1 0 0),(8,.all 2),(9,.int i64 a.1)],[⟨true,42,49,.gen [mB (cT st 3)]⟩,⟨true,95,3,.gen [[(cT st 6 0),(cT st 6 1),(cT st 6 2)]]⟩,⟨false,40,1,.ints u64 a.2⟩])
 a0:=λst=>((lk st 9).toInt,(nI st.rows (rN st 8)))
 iy:=λst=>[]++[(rX st 3 0),(rX st 6 1),(rX st 8 2)]}
def Z84:bm:={
 α:=(List dr)×(Int)×(Int)×ao
 F:=λst a=>([(1,.sl 4 (.ba RK.ae a.1) false),(2,(lk st 2)),(3,.ptr 0 0 0),(6,.ptr 1 0 0),(14,.int u64 a.2.1),(15,.int i64 a.2.2.1)],[⟨true,42,49,.gen [mD a.2.2.2 (.sl 1 (.ints u32 a.2.2.2.Mem) false)]⟩,⟨true,95,3,.gen [[(cT st 6 0),(cT st 6 1),(cT st 6 2)]]⟩])
 a0:=λst=>((rT RK.ae (lk st 1)),(lk st 14).toInt,(lk st 15).toInt,(mR (cT st 3) (Ff u32 st.rows (cT st 3 25))))
 iy:=λst=>[]++[(rX st 3 0),(rX st 6 1)]}
def Z0h:List (Nat×bm):=[(3,Z5w),(13,Z84)]
def Zef:bb:=mT 46 [] true [.agg ao.sig,.one (.ba .ae),.one (.ba .aa)] [] (λa r=>PS (ao.of (aC a 0)) (ie .ae a 1) (ie .aa a 2)) (λX=>.dt [.agg (jH.cells (X.1)),.int .i64 (X.2)]) (λX=>[])
theorem Z6a:bj pG Zef:=oT (.cons Qja (.cons Qtc (.cons Qn0 (.cons Qq2 (.nil))))) Tryz.func46 Tryz.call46 [] Z0h 3
def PY(s:List UInt8)(n:Int):Tree (List UInt8):=
.cn (decide (s.length+1<=maxLen)) (.an (WX n) (.lv (Qjl n) λ(x0:List UInt8)=>.cn (decide (dJ (s++[(32:UInt8)])+x0.length<=maxLen)) (.lf (s++[(32:UInt8)]++x0))))
def Qdz s n:=(PY s n).m
abbrev Q8b s n:=(PY s n).p
def Z0v:bb:=mT 92 [] true [.one (.str),.one (.int .i64)] [] (λa r=>PY (gh a 0) (av a 1)) (λX=>.str X) (λX=>[])
theorem Qxp:bj pG Z0v:=oT (.cons Qoi (.nil)) Tryz.func92 Tryz.call92 [] [] 2
def Qgy(a b:ao)(z:(Int)):Nat:=(16-z).toNat
def Qig(a b:ao)(z:(Int)):Nat:=(8-z).toNat
def Qi0(a b:ao)(z:(Int)):Nat:=(a.Mem.length-z).toNat
def PZ(a b:ao):Tree (List UInt8):=
.lp inferInstance (Qgy a b 0+1) ((rZ/\rZ/\rE (0:Int)/\True)/\(mE a (((ai.Nil (ai.ints u32 a.Mem)\/rE (1:Nat))/\rE a.Mem)) True)/\(mE b (((ai.Nil (ai.ints u32 b.Mem)\/rE (1:Nat))/\rE b.Mem)) True)/\True) 0 λ(v0:Int)=>.br (decide (v0<16)) (let E1:=bJ 0 1&&decide (0<=v0/\v0<(↑16:Int));.cn E1 (.cn E1 (.br (aK (fu.l a.A7.X) v0.toNat 0 !=aK (fu.l b.A7.X) v0.toNat 0) (.an (Q8b [(120:UInt8)] v0) (.lv (Qdz [(120:UInt8)] v0) λ(x0:List UInt8)=>.lf (Sum.inr x0))) (.nx ((rZ/\rZ/\rE ((wrap i64 (v0+1)):Int)/\True)/\(mE a (((ai.Nil (ai.ints u32 a.Mem)\/rE (1:Nat))/\rE a.Mem)) True)/\(mE b (((ai.Nil (ai.ints u32 b.Mem)\/rE (1:Nat))/\rE b.Mem)) True)/\True) (Sum.inl (wrap i64 (v0+1))))))) (.br (a.A7.Pc !=b.A7.Pc) (.lf (Sum.inr [(112:UInt8),99])) (.lp inferInstance (Qig a b 0+1) ((rZ/\rZ/\rE (0:Int)/\True)/\(mE a (((ai.Nil (ai.ints u32 a.Mem)\/rE (1:Nat))/\rE a.Mem)) True)/\(mE b (((ai.Nil (ai.ints u32 b.Mem)\/rE (1:Nat))/\rE b.Mem)) True)/\True) 0 λ(v1:Int)=>.br (decide (v1<8)) (let E2:=bJ 0 1&&decide (0<=v1/\v1<(↑8:Int));.cn E2 (.cn E2 (.br (aK (A8.l a.A7.B1) v1.toNat 0 !=aK (A8.l b.A7.B1) v1.toNat 0) (.an (Q8b [(99:UInt8),115,114] v1) (.lv (Qdz [(99:UInt8),115,114] v1) λ(x1:List UInt8)=>.lf (Sum.inr (Sum.inr x1)))) (.nx ((rZ/\rZ/\rE ((wrap i64 (v1+1)):Int)/\True)/\(mE a (((ai.Nil (ai.ints u32 a.Mem)\/rE (1:Nat))/\rE a.Mem)) True)/\(mE b (((ai.Nil (ai.ints u32 b.Mem)\/rE (1:Nat))/\rE b.Mem)) True)/\True) (Sum.inl (wrap i64 (v1+1))))))) (.br ((a.Mem.length:Int) !=(b.Mem.length:Int)) (.lf (Sum.inr (Sum.inr [(109:UInt8),101,109]))) (.lp inferInstance (Qi0 a b 0+1) ((rZ/\rZ/\rE (0:Int)/\True)/\(mE a (((ai.Nil (ai.ints u32 a.Mem)\/rE (1:Nat))/\rE a.Mem)) True)/\(mE b (((ai.Nil (ai.ints u32 b.Mem)\/rE (1:Nat))/\rE b.Mem)) True)/\True) 0 λ(v2:Int)=>.br (decide (v2<(a.Mem.length:Int))) (.cn (bT 1 1&&bJ 0 1&&decide (0<=v2/\v2<(a.Mem.length:Int))) (.cn (bT 1 1&&bJ 0 1&&decide (0<=v2/\v2<(b.Mem.length:Int))) (.br (a.Mem.getD v2.toNat 0 !=b.Mem.getD v2.toNat 0) (.an (Q8b [(109:UInt8),101,109] v2) (.lv (Qdz [(109:UInt8),101,109] v2) λ(x2:List UInt8)=>.lf (Sum.inr (Sum.inr (Sum.inr x2))))) (.nx ((rZ/\rZ/\rE ((wrap i64 (v2+1)):Int)/\True)/\(mE a (((ai.Nil (ai.ints u32 a.Mem)\/rE (1:Nat))/\rE a.Mem)) True)/\(mE b (((ai.Nil (ai.ints u32 b.Mem)\/rE (1:Nat))/\rE b.Mem)) True)/\True) (Sum.inl (wrap i64 (v2+1))))))) (.br (!eqs [D.str a.A2.C6] [D.str b.A2.C6]) (.lf (Sum.inr (Sum.inr (Sum.inr [(99:UInt8),111,110,115,111,108,101])))) (.br (!eqs [D.bool a.A9.D0,D.int u32 a.A9.B8,D.bool a.A9.C9] [D.bool b.A9.D0,D.int u32 b.A9.B8,D.bool b.A9.C9]) (.lf (Sum.inr (Sum.inr (Sum.inr [(116:UInt8),105,109,101,114])))) (.br (!eqs [D.int u32 a.A4.ag,D.int u32 a.A4.B9,D.int u32 a.A4.Frame,D.int i64 a.A4.B6,D.int i64 a.A4.D1,D.int u32 a.A4.B4,D.int u32 a.A4.B0,D.str a.A4.B5] [D.int u32 b.A4.ag,D.int u32 b.A4.B9,D.int u32 b.A4.Frame,D.int i64 b.A4.B6,D.int i64 b.A4.D1,D.int u32 b.A4.B4,D.int u32 b.A4.B0,D.str b.A4.B5]) (.lf (Sum.inr (Sum.inr (Sum.inr [(100:UInt8),105,115,107])))) (.br (!eqs [D.int u32 a.C1.Frame,D.int u32 a.C1.D6,D.bool a.C1.C2,D.int u32 a.C1.B7,D.bool a.C1.B3,D.int u32 a.C1.D8] [D.int u32 b.C1.Frame,D.int u32 b.C1.D6,D.bool b.C1.C2,D.int u32 b.C1.B7,D.bool b.C1.B3,D.int u32 b.C1.D8]) (.lf (Sum.inr (Sum.inr (Sum.inr [(110:UInt8),105,99])))) (.br (!eqs [D.int u32 a.A1.C4,D.int u32 a.A1.C0] [D.int u32 b.A1.C4,D.int u32 b.A1.C0]) (.lf (Sum.inr (Sum.inr (Sum.inr [(98:UInt8),97,108,108,111,111,110])))) (.br (a.A0 !=b.A0) (.lf (Sum.inr (Sum.inr (Sum.inr [(99:UInt8),111,117,110,116])))) (.br (!a.A3==b.A3) (.lf (Sum.inr (Sum.inr (Sum.inr [(119:UInt8),97,105,116,105,110,103])))) (.br (!a.A6==b.A6) (.lf (Sum.inr (Sum.inr (Sum.inr [(104:UInt8),97,108,116,101,100])))) (.lf (Sum.inr (Sum.inr (Sum.inr []))))))))))))))))
def Qts a b:=(PZ a b).m
abbrev Ql9 a b:=(PZ a b).p
def Z0o:bm:={
 α:=(Int)
 F:=λst a=>([(2,.ptr 0 0 0),(3,.ptr 1 0 0),(5,.int i64 a)],[⟨true,42,49,.gen [mB (cT st 2)]⟩,⟨true,42,49,.gen [mB (cT st 3)]⟩])
 a0:=λst=>(lk st 5).toInt
 iy:=λst=>[]++[(rX st 2 0),(rX st 3 1)]}
def Z0m:bm:={
 α:=(Int)
 F:=λst a=>([(2,.ptr 0 0 0),(3,.ptr 1 0 0),(6,.int i64 a)],[⟨true,42,49,.gen [mB (cT st 2)]⟩,⟨true,42,49,.gen [mB (cT st 3)]⟩])
 a0:=λst=>(lk st 6).toInt
 iy:=λst=>[]++[(rX st 2 0),(rX st 3 1)]}
def Qzw:bm:={
 α:=(Int)
 F:=λst a=>([(2,.ptr 0 0 0),(3,.ptr 1 0 0),(7,.int i64 a)],[⟨true,42,49,.gen [mB (cT st 2)]⟩,⟨true,42,49,.gen [mB (cT st 3)]⟩])
 a0:=λst=>(lk st 7).toInt
 iy:=λst=>[]++[(rX st 2 0),(rX st 3 1)]}
def Qul:List (Nat×bm):=[(2,Z0o),(9,Z0m),(16,Qzw)]
def Z2w:bb:=mT 44 [] true [.agg ao.sig,.agg ao.sig] [] (λa r=>PZ (ao.of (aC a 0)) (ao.of (aC a 1))) (λX=>.str X) (λX=>[])
theorem Z09:bj pG Z2w:=oT (.cons Qxp (.nil)) Tryz.func44 Tryz.call44 [] Qul 3
end
noncomputable section
def PJ(i hash err:Int)(lh:List fe)(lC:List Int)(tS:Int):Tree (Bool×(List fe)×(List Int)×Int):=
.cn (bT 1 1&&bJ 0 1&&decide (0<=i/\i<(lC.length:Int))) (.cn (decide (16*(lh.length+1)<=140737488355328)) (.lf (true,lh++[{At:=lC.getD i.toNat 0,C8:=hash}],lC,err)))
def Qm6 i hash err lh lC tS:=(PJ i hash err lh lC tS).m
abbrev Qd6 i hash err lh lC tS:=(PJ i hash err lh lC tS).p
def Z33:bb:=mI 3 82 [false,false,false,true,true,true] [.one (.int .i64),.one (.int .u64),.one (.int .i64),.ptr 0,.ptr 1,.ptr 2] [.box 87 1 [.row 3],.box 91 1 [.ints .u64],.box 88 1 [.int .i64],.arr 100 2 (.ba .aa)] (λa r=>Qd6 (av a 0) (av a 1) (av a 2) (Bo .aa r 3) (nE .u64 (nY r 1 0)) (nY r 2 0).toInt) (λa r=>Qm6 (av a 0) (av a 1) (av a 2) (Bo .aa r 3) (nE .u64 (nY r 1 0)) (nY r 2 0).toInt) (λX=>.bool (X.1)) (λX=>[⟨true,87,1,.gen [[.all 3]]⟩,⟨true,91,1,.gen [[.sl 1 (.ints .u64 X.2.2.1) false]]⟩,⟨true,88,1,.gen [[.int .i64 X.2.2.2]]⟩,⟨false,100,2,.ba .aa (X.2.1)⟩])
theorem Qng:bj pG Z33:=Gb drawn nj (.nil) Tryz.func82 Tryz.call82 (λa r=>PJ (av a 0) (av a 1) (av a 2) (Bo .aa r 3) (nE .u64 (nY r 1 0)) (nY r 2 0).toInt) [.row 100 2 (.ba .aa),.sl (.ints .u64) false] [] 2 (λ_ _ _=>by kernel_rfl) (λ_ _=>rfl) (λ_ _ h=>h)
def Qfq(m:ao)(script:List dr)(bn:List Int)(vl:List fe)(va:List Int)(vf:Int)(z:(List dr)×(Int)×(List Int)×(Int)×(List fe)×ao):Nat:=(bn.length-z.2.1).toNat
def PK(m:ao)(script:List dr)(bn:List Int)(vl:List fe)(va:List Int)(vf:Int):Tree ((List fe)×(List Int)×Int):=
.lp inferInstance (Qfq m script bn vl va vf (script,0,va,vf,vl,m)+1) ((nR RK.ae 4 script/\True/\rZ/\((ai.Nil (ai.ints u64 bn)\/rE (1:Nat))/\rE (bn:List Int))/\rE ((bn.length:Int):Int)/\rE (0:Int)/\True)/\(True/\True)/\(((ai.Nil (ai.ints u64 va)\/rE (1:Nat))/\rE (va:List Int))/\True)/\(rE (vf:Int)/\True)/\rE (vl:List (RK.T RK.aa))/\(mE m (((ai.Nil (ai.ints u32 m.Mem)\/rE (1:Nat))/\rE m.Mem)) True)/\True) (script,0,va,vf,vl,m) λ(v0:List dr×Int×List Int×Int×List fe×ao)=>.br (decide (v0.2.1<(bn.length:Int))) (.cn (bT 1 1&&bJ 0 1&&decide (0<=v0.2.1/\v0.2.1<(bn.length:Int))) (let E1:=bn.getD v0.2.1.toNat 0;.an (Qf v0.2.2.2.2.2 v0.1 E1) (.lv (VS v0.2.2.2.2.2 v0.1 E1) λ(x0:ao×List fc×Int×Int)=>.br (x0.2.2.2 !=0) (.an (Qd6 v0.2.1 0 x0.2.2.2 v0.2.2.2.2.1 v0.2.2.1 v0.2.2.2.1) (.lv (Qm6 v0.2.1 0 x0.2.2.2 v0.2.2.2.2.1 v0.2.2.1 v0.2.2.2.1) λ(x1:Bool×List fe×List Int×Int)=>.lf (Sum.inr (x1.2.1,x1.2.2.1,x1.2.2.2)))) (.cn (bT 4 4&&bJ 0 4&&decide (0<=x0.2.2.1/\x0.2.2.1<=(v0.1.length:Int)/\(v0.1.length:Int)<=(v0.1.length:Int))) (.an (Pw x0.1) (.lv (Hh x0.1) λ(x2:Int)=>.an (Qd6 v0.2.1 x2 0 v0.2.2.2.2.1 v0.2.2.1 v0.2.2.2.1) (.lv (Qm6 v0.2.1 x2 0 v0.2.2.2.2.1 v0.2.2.1 v0.2.2.2.1) λ(x3:Bool×List fe×List Int×Int)=>.br (!x3.1) (.lf (Sum.inr (x3.2.1,x3.2.2.1,x3.2.2.2))) (.nx ((((ai.Nil (ai.ba RK.ae (cZ (dE (v0.1.length:Int)-dE x0.2.2.1) (dA x0.2.2.1.toNat v0.1)))\/mc Nat 4 4)/\rE ((cZ (dE (v0.1.length:Int)-dE x0.2.2.1) (dA x0.2.2.1.toNat v0.1)):List (RK.T RK.ae)))/\True/\rZ/\((ai.Nil (ai.ints u64 bn)\/rE (1:Nat))/\rE (bn:List Int))/\rE ((bn.length:Int):Int)/\rE ((wrap i64 (v0.2.1+1)):Int)/\True)/\(True/\True)/\(((ai.Nil (ai.ints u64 x3.2.2.1)\/mc Nat 1 1)/\rE x3.2.2.1)/\True)/\(rE x3.2.2.2/\True)/\rE x3.2.1/\(mE x0.1 (((ai.Nil (ai.ints u32 x0.1.Mem)\/mc Nat 1 1)/\rE x0.1.Mem)) True)/\True) (Sum.inl (cZ (dE (v0.1.length:Int)-dE x0.2.2.1) (dA x0.2.2.1.toNat v0.1),wrap i64 (v0.2.1+1),x3.2.2.1,x3.2.2.2,x3.2.1,x0.1)))))))))) (.lf (Sum.inr (v0.2.2.2.2.1,v0.2.2.1,v0.2.2.2.1)))
def Qrd m script bn vl va vf:=(PK m script bn vl va vf).m
abbrev Qjg m script bn vl va vf:=(PK m script bn vl va vf).p
def Qx6:bm:={
 α:=(List dr)×(Int)×(List Int)×(Int)×(List fe)×ao
 F:=λst a=>([(1,.sl 4 (.ba RK.ae a.1) false),(3,.gj 82 [.ptr 0 0 0,.ptr 1 0 0,.ptr 2 0 0]),(4,.ptr 4 0 0),(14,(lk st 14)),(15,(lk st 15)),(16,.int i64 a.2.1)],[⟨true,87,1,.gen [[.all 3]]⟩,⟨true,91,1,.gen [[.sl 1 (.ints u64 a.2.2.1) false]]⟩,⟨true,88,1,.gen [[.int i64 a.2.2.2.1]]⟩,⟨false,100,2,.ba RK.aa a.2.2.2.2.1⟩,⟨true,42,49,.gen [mD a.2.2.2.2.2 (.sl 1 (.ints u32 a.2.2.2.2.2.Mem) false)]⟩])
 a0:=λst=>((rT RK.ae (lk st 1)),(lk st 16).toInt,(nE u64 (iW st.rows 1 0)),(iW st.rows 2 0).toInt,(Ea RK.aa st.rows (rr (iW st.rows 0 0) 1000000)),(mR (cT st 4) (nE u32 (cT st 4 25))))
 iy:=λst=>[0,1,2]++[(rr (iW st.rows 0 0) (st.rows.length+3)),(rX st 4 4)]}
def Qsf:List (Nat×bm):=[(2,Qx6)]
def Z0r:bb:=mI 3 81 [false,false,false,true] [.agg ao.sig,.one (.ba .ae),.one (.ints .u64),.gj 82 [.ptr 0 0 0,.ptr 1 0 0,.ptr 2 0 0]] [.box 87 1 [.row 3],.box 91 1 [.ints .u64],.box 88 1 [.int .i64],.arr 100 2 (.ba .aa)] (λa r=>Qjg (ao.of (aC a 0)) (ie .ae a 1) (ek .u64 a 2) (Bo .aa r 3) (nE .u64 (nY r 1 0)) (nY r 2 0).toInt) (λa r=>Qrd (ao.of (aC a 0)) (ie .ae a 1) (ek .u64 a 2) (Bo .aa r 3) (nE .u64 (nY r 1 0)) (nY r 2 0).toInt) (λX=>.dt []) (λX=>[⟨true,87,1,.gen [[.all 3]]⟩,⟨true,91,1,.gen [[.sl 1 (.ints .u64 X.2.1) false]]⟩,⟨true,88,1,.gen [[.int .i64 X.2.2]]⟩,⟨false,100,2,.ba .aa (X.1)⟩])
theorem Qlh:bj pG Z0r:=Gb drawn nj (.cons Qt2 (.cons Qh2 (.cons Qng (.nil)))) Tryz.func81 Tryz.call81 (λa r=>PK (ao.of (aC a 0)) (ie .ae a 1) (ek .u64 a 2) (Bo .aa r 3) (nE .u64 (nY r 1 0)) (nY r 2 0).toInt) [.row 100 2 (.ba .aa),.sl (.ints .u64) false] Qsf 3 (λ_ _ _=>by kernel_rfl) (λ_ _=>rfl) (λ_ _ h=>h)
def PL(m:ao)(script:List dr)(bn:List Int):Tree ((List fe)×Int):=
.an (Qgq m script bn) (.lv (Qtf m script bn) λ(x0:Int)=>.br (x0 !=0) (.lf ([],x0)) (.an (Qjg m script bn [] bn 0) (.lv (Qrd m script bn [] bn 0) λ(x1:List fe×List Int×Int)=>.br (x1.2.2 !=0) (.lf ([],x1.2.2)) (.lf (x1.1,0)))))
def Qsq m script bn:=(PL m script bn).m
abbrev Qgv m script bn:=(PL m script bn).p
def Zd6:bb:=mT 37 [] true [.agg ao.sig,.one (.ba .ae),.one (.ints .u64)] [] (λa r=>PL (ao.of (aC a 0)) (ie .ae a 1) (ek .u64 a 2)) (λX=>.dt [.all 0,.int .i64 (X.2)]) (λX=>[⟨false,100,2,.ba .aa (X.1)⟩])
theorem Qs3:bj pG Zd6:=oT (.cons Qrw (.cons Qlh (.cons Qng (.cons Qlh (.nil))))) Tryz.func37 Tryz.call37 [.row 100 2 (.ba .aa)] [] 2
def PO(i hash err:Int)(lh:List fe)(lC:ao)(tS:jH)(nW:List Int):Tree (Bool×(List fe)×ao×jH×(List Int)):=
let T1:Tree ((Bool×(List fe)×ao×jH×(List Int))):=.br (decide (i>0)) (.cn (bT 1 1&&bJ 0 1&&decide (0<=wrap i64 (i-1)/\wrap i64 (i-1)<(nW.length:Int))) (.lf (false,lh,lC,{Good:=false,D4:=i,At:=nW.getD (dE (wrap i64 (i-1))) 0},nW))) (.lf (false,lh,lC,{Good:=false,D4:=i,At:=lC.A0},nW));.br (err==0) (.cn (bT 2 2&&bJ 0 2&&decide (0<=i/\i<(lh.length:Int))) (.br (hash==(lh.getD i.toNat (RK.cg RK.aa)).C8) (.lf (true,lh,lC,tS,nW)) T1)) T1
def Qmg i hash err lh lC tS nW:=(PO i hash err lh lC tS nW).m
abbrev Qdf i hash err lh lC tS nW:=(PO i hash err lh lC tS nW).p
def Z24:bb:=mI 4 86 [false,false,false,true,true,true,true] [.one (.int .i64),.one (.int .u64),.one (.int .i64),.ptr 0,.ptr 1,.ptr 2,.ptr 3] [.box 87 1 [.ba .aa],.box 42 49 ao.sig,.box 95 3 jH.sig,.box 91 1 [.ints .u64]] (λa r=>Qdf (av a 0) (av a 1) (av a 2) (rT .aa (nY r 0 0)) (ao.of (r.getD 1 default).cs) (jH.of (r.getD 2 default).cs) (nE .u64 (nY r 3 0))) (λa r=>Qmg (av a 0) (av a 1) (av a 2) (rT .aa (nY r 0 0)) (ao.of (r.getD 1 default).cs) (jH.of (r.getD 2 default).cs) (nE .u64 (nY r 3 0))) (λX=>.bool (X.1)) (λX=>[⟨true,87,1,.gen [[.sl 2 (.ba .aa X.2.1) false]]⟩,⟨true,42,49,.gen [(ao.cells (X.2.2.1))]⟩,⟨true,95,3,.gen [(jH.cells (X.2.2.2.1))]⟩,⟨true,91,1,.gen [[.sl 1 (.ints .u64 X.2.2.2.2) false]]⟩])
theorem Qnk:bj pG Z24:=Gb drawn nj (.nil) Tryz.func86 Tryz.call86 (λa r=>PO (av a 0) (av a 1) (av a 2) (rT .aa (nY r 0 0)) (ao.of (r.getD 1 default).cs) (jH.of (r.getD 2 default).cs) (nE .u64 (nY r 3 0))) [.sl (.ba .aa) false,.sl (.ints .u32) false,.sl (.ints .u64) false] [] 2 (λ_ _ _=>by kernel_rfl) (λ_ _=>rfl) (λ_ _ h=>h)
def Qft(m:ao)(script:List dr)(bn:List Int)(vl:List fe)(vm:ao)(vv:jH)(va:List Int)(z:(List dr)×(Int)×(List fe)×ao×jH×(List Int)×ao):Nat:=(bn.length-z.2.1).toNat
def PQ(m:ao)(script:List dr)(bn:List Int)(vl:List fe)(vm:ao)(vv:jH)(va:List Int):Tree ((List fe)×ao×jH×(List Int)):=
.lp inferInstance (Qft m script bn vl vm vv va (script,0,vl,vm,vv,va,m)+1) ((nR RK.ae 4 script/\True/\rZ/\((ai.Nil (ai.ints u64 bn)\/rE (1:Nat))/\rE (bn:List Int))/\rE ((bn.length:Int):Int)/\rE (0:Int)/\True)/\(nR RK.aa 2 vl/\True)/\(mE vm (((ai.Nil (ai.ints u32 vm.Mem)\/rE (1:Nat))/\rE vm.Mem)) True)/\(rE vv.Good/\rE vv.D4/\rE vv.At/\True)/\(((ai.Nil (ai.ints u64 va)\/rE (1:Nat))/\rE (va:List Int))/\True)/\(mE m (((ai.Nil (ai.ints u32 m.Mem)\/rE (1:Nat))/\rE m.Mem)) True)/\True) (script,0,vl,vm,vv,va,m) λ(v0:List dr×Int×List fe×ao×jH×List Int×ao)=>.br (decide (v0.2.1<(bn.length:Int))) (.cn (bT 1 1&&bJ 0 1&&decide (0<=v0.2.1/\v0.2.1<(bn.length:Int))) (let E1:=bn.getD v0.2.1.toNat 0;.an (Qf v0.2.2.2.2.2.2 v0.1 E1) (.lv (VS v0.2.2.2.2.2.2 v0.1 E1) λ(x0:ao×List fc×Int×Int)=>.br (x0.2.2.2 !=0) (.an (Qdf v0.2.1 0 x0.2.2.2 v0.2.2.1 v0.2.2.2.1 v0.2.2.2.2.1 v0.2.2.2.2.2.1) (.lv (Qmg v0.2.1 0 x0.2.2.2 v0.2.2.1 v0.2.2.2.1 v0.2.2.2.2.1 v0.2.2.2.2.2.1) λ(x1:Bool×List fe×ao×jH×List Int)=>.lf (Sum.inr (x1.2.1,x1.2.2.1,x1.2.2.2.1,x1.2.2.2.2)))) (.cn (bT 4 4&&bJ 0 4&&decide (0<=x0.2.2.1/\x0.2.2.1<=(v0.1.length:Int)/\(v0.1.length:Int)<=(v0.1.length:Int))) (.an (Pw x0.1) (.lv (Hh x0.1) λ(x2:Int)=>.an (Qdf v0.2.1 x2 0 v0.2.2.1 v0.2.2.2.1 v0.2.2.2.2.1 v0.2.2.2.2.2.1) (.lv (Qmg v0.2.1 x2 0 v0.2.2.1 v0.2.2.2.1 v0.2.2.2.2.1 v0.2.2.2.2.2.1) λ(x3:Bool×List fe×ao×jH×List Int)=>.br (!x3.1) (.lf (Sum.inr (x3.2.1,x3.2.2.1,x3.2.2.2.1,x3.2.2.2.2))) (.nx ((((ai.Nil (ai.ba RK.ae (cZ (dE (v0.1.length:Int)-dE x0.2.2.1) (dA x0.2.2.1.toNat v0.1)))\/mc Nat 4 4)/\rE ((cZ (dE (v0.1.length:Int)-dE x0.2.2.1) (dA x0.2.2.1.toNat v0.1)):List (RK.T RK.ae)))/\True/\rZ/\((ai.Nil (ai.ints u64 bn)\/rE (1:Nat))/\rE (bn:List Int))/\rE ((bn.length:Int):Int)/\rE ((wrap i64 (v0.2.1+1)):Int)/\True)/\(((ai.Nil (ai.ba RK.aa x3.2.1)\/mc Nat 2 2)/\rE x3.2.1)/\True)/\(mE x3.2.2.1 (((ai.Nil (ai.ints u32 x3.2.2.1.Mem)\/mc Nat 1 1)/\rE x3.2.2.1.Mem)) True)/\(rE x3.2.2.2.1.Good/\rE x3.2.2.2.1.D4/\rE x3.2.2.2.1.At/\True)/\(((ai.Nil (ai.ints u64 x3.2.2.2.2)\/mc Nat 1 1)/\rE x3.2.2.2.2)/\True)/\(mE x0.1 (((ai.Nil (ai.ints u32 x0.1.Mem)\/mc Nat 1 1)/\rE x0.1.Mem)) True)/\True) (Sum.inl (cZ (dE (v0.1.length:Int)-dE x0.2.2.1) (dA x0.2.2.1.toNat v0.1),wrap i64 (v0.2.1+1),x3.2.1,x3.2.2.1,x3.2.2.2.1,x3.2.2.2.2,x0.1)))))))))) (.lf (Sum.inr (v0.2.2.1,v0.2.2.2.1,v0.2.2.2.2.1,v0.2.2.2.2.2.1)))
def Qry m script bn vl vm vv va:=(PQ m script bn vl vm vv va).m
abbrev Qjj m script bn vl vm vv va:=(PQ m script bn vl vm vv va).p
def Qxe:bm:={
 α:=(List dr)×(Int)×(List fe)×ao×jH×(List Int)×ao
 F:=λst a=>([(1,.sl 4 (.ba RK.ae a.1) false),(3,.gj 86 [.ptr 0 0 0,.ptr 1 0 0,.ptr 2 0 0,.ptr 3 0 0]),(4,.ptr 4 0 0),(14,(lk st 14)),(15,(lk st 15)),(16,.int i64 a.2.1)],[⟨true,87,1,.gen [[.sl 2 (.ba RK.aa a.2.2.1) false]]⟩,⟨true,42,49,.gen [mD a.2.2.2.1 (.sl 1 (.ints u32 a.2.2.2.1.Mem) false)]⟩,⟨true,95,3,.gen [[.bool a.2.2.2.2.1.Good,.int i64 a.2.2.2.2.1.D4,.int u64 a.2.2.2.2.1.At]]⟩,⟨true,91,1,.gen [[.sl 1 (.ints u64 a.2.2.2.2.2.1) false]]⟩,⟨true,42,49,.gen [mD a.2.2.2.2.2.2 (.sl 1 (.ints u32 a.2.2.2.2.2.2.Mem) false)]⟩])
 a0:=λst=>((rT RK.ae (lk st 1)),(lk st 16).toInt,(rT RK.aa (iW st.rows 0 0)),(⟨(⟨(⟨(iW st.rows 1 0).toInt,(iW st.rows 1 1).toInt,(iW st.rows 1 2).toInt,(iW st.rows 1 3).toInt,(iW st.rows 1 4).toInt,(iW st.rows 1 5).toInt,(iW st.rows 1 6).toInt,(iW st.rows 1 7).toInt,(iW st.rows 1 8).toInt,(iW st.rows 1 9).toInt,(iW st.rows 1 10).toInt,(iW st.rows 1 11).toInt,(iW st.rows 1 12).toInt,(iW st.rows 1 13).toInt,(iW st.rows 1 14).toInt,(iW st.rows 1 15).toInt⟩:(fu Int)),(iW st.rows 1 16).toInt,(⟨(iW st.rows 1 17).toInt,(iW st.rows 1 18).toInt,(iW st.rows 1 19).toInt,(iW st.rows 1 20).toInt,(iW st.rows 1 21).toInt,(iW st.rows 1 22).toInt,(iW st.rows 1 23).toInt,(iW st.rows 1 24).toInt⟩:(A8 Int))⟩:bg),(nE u32 (iW st.rows 1 25)),(⟨(iW st.rows 1 26).toStr⟩:je),(⟨(iW st.rows 1 27).toBool,(iW st.rows 1 28).toInt,(iW st.rows 1 29).toBool⟩:jk),(⟨(iW st.rows 1 30).toInt,(iW st.rows 1 31).toInt,(iW st.rows 1 32).toInt,(iW st.rows 1 33).toInt,(iW st.rows 1 34).toInt,(iW st.rows 1 35).toInt,(iW st.rows 1 36).toInt,(iW st.rows 1 37).toStr⟩:fm),(⟨(iW st.rows 1 38).toInt,(iW st.rows 1 39).toInt,(iW st.rows 1 40).toBool,(iW st.rows 1 41).toInt,(iW st.rows 1 42).toBool,(iW st.rows 1 43).toInt⟩:ij),(⟨(iW st.rows 1 44).toInt,(iW st.rows 1 45).toInt⟩:gr),(iW st.rows 1 46).toInt,(iW st.rows 1 47).toBool,(iW st.rows 1 48).toBool⟩:ao),(⟨(iW st.rows 2 0).toBool,(iW st.rows 2 1).toInt,(iW st.rows 2 2).toInt⟩:jH),(nE u64 (iW st.rows 3 0)),(mR (cT st 4) (nE u32 (cT st 4 25))))
 iy:=λst=>[0,1,2,3]++[(rX st 4 4)]}
def Qsy:List (Nat×bm):=[(2,Qxe)]
def Z0t:bb:=bb.fz<|mI 4 81 [false,false,false,true] [.agg ao.sig,.one (.ba .ae),.one (.ints .u64),.gj 86 [.ptr 0 0 0,.ptr 1 0 0,.ptr 2 0 0,.ptr 3 0 0]] [.box 87 1 [.ba .aa],.box 42 49 ao.sig,.box 95 3 jH.sig,.box 91 1 [.ints .u64]] (λa r=>Qjj (ao.of (aC a 0)) (ie .ae a 1) (ek .u64 a 2) (rT .aa (nY r 0 0)) (ao.of (r.getD 1 default).cs) (jH.of (r.getD 2 default).cs) (nE .u64 (nY r 3 0))) (λa r=>Qry (ao.of (aC a 0)) (ie .ae a 1) (ek .u64 a 2) (rT .aa (nY r 0 0)) (ao.of (r.getD 1 default).cs) (jH.of (r.getD 2 default).cs) (nE .u64 (nY r 3 0))) (λX=>.dt []) (λX=>[⟨true,87,1,.gen [[.sl 2 (.ba .aa X.1) false]]⟩,⟨true,42,49,.gen [(ao.cells (X.2.1))]⟩,⟨true,95,3,.gen [(jH.cells (X.2.2.1))]⟩,⟨true,91,1,.gen [[.sl 1 (.ints .u64 X.2.2.2) false]]⟩])
theorem Qxs:bj pG Z0t:=MY<|Gb drawn nj (.cons Qt2 (.cons Qh2 (.cons Qnk (.nil)))) Tryz.func81 Tryz.call81 (λa r=>PQ (ao.of (aC a 0)) (ie .ae a 1) (ek .u64 a 2) (rT .aa (nY r 0 0)) (ao.of (r.getD 1 default).cs) (jH.of (r.getD 2 default).cs) (nE .u64 (nY r 3 0))) [.sl (.ba .aa) false,.sl (.ints .u32) false,.sl (.ints .u64) false] Qsy 3 (λ_ _ _=>by kernel_rfl) (λ_ _=>rfl) (λ_ _ h=>h)
def Qk8(m:ao)(script:List dr)(l:List fe)(z:(Int)×(List Int)):Nat:=(l.length-z.1).toNat
def PR(m:ao)(script:List dr)(l:List fe):Tree (jH×Int):=
.lp inferInstance (Qk8 m script l (0,[])+1) ((nR RK.ae 4 script/\rZ/\rZ/\rZ/\rZ/\nR RK.aa 2 l/\rE ((l.length:Int):Int)/\rE (0:Int)/\True)/\(mE m (((ai.Nil (ai.ints u32 m.Mem)\/rE (1:Nat))/\rE m.Mem)) True)/\(nR RK.aa 2 l/\True)/\(rE (false:Bool)/\rE (0:Int)/\rE (0:Int)/\True)/\(True/\True)/\rE ([]:List Int)/\True) (0,[]) λ(v0:Int×List Int)=>.br (decide (v0.1<(l.length:Int))) (.cn (bT 2 2&&bJ 0 2&&decide (0<=v0.1/\v0.1<(l.length:Int))) (.cn (decide (8*(v0.2.length+1)<=140737488355328)) (.nx ((nR RK.ae 4 script/\rZ/\rZ/\rZ/\rZ/\nR RK.aa 2 l/\rE ((l.length:Int):Int)/\rE ((wrap i64 (v0.1+1)):Int)/\True)/\(mE m (((ai.Nil (ai.ints u32 m.Mem)\/rE (1:Nat))/\rE m.Mem)) True)/\(nR RK.aa 2 l/\True)/\(rE (false:Bool)/\rE (0:Int)/\rE (0:Int)/\True)/\(True/\True)/\rE ((v0.2++[(l.getD v0.1.toNat (RK.cg RK.aa)).At]):List Int)/\True) (Sum.inl (wrap i64 (v0.1+1),v0.2++[(l.getD v0.1.toNat (RK.cg RK.aa)).At]))))) (.an (Qgq m script v0.2) (.lv (Qtf m script v0.2) λ(x0:Int)=>.br (x0 !=0) (.lf (Sum.inr ({Good:=false,D4:=0,At:=0},x0))) (.an (Qjj m script v0.2 l m {Good:=true,D4:=0,At:=0} v0.2) (.lv (Qry m script v0.2 l m {Good:=true,D4:=0,At:=0} v0.2) λ(x1:List fe×ao×jH×List Int)=>.lf (Sum.inr (x1.2.2.1,0))))))
def Qml m script l:=(PR m script l).m
abbrev Qcl m script l:=(PR m script l).p
def Z6v:bm:={
 α:=(Int)×(List Int)
 F:=λst a=>([(1,(lk st 1)),(3,.ptr 0 0 0),(5,.ptr 1 0 0),(6,.ptr 2 0 0),(8,.ptr 3 0 0),(13,(lk st 13)),(14,(lk st 14)),(15,.int i64 a.1)],[⟨true,42,49,.gen [mB (cT st 3)]⟩,⟨true,87,1,.gen [[(cT st 5 0)]]⟩,⟨true,95,3,.gen [[(cT st 6 0),(cT st 6 1),(cT st 6 2)]]⟩,⟨true,91,1,.gen [[.all 4]]⟩,⟨false,40,1,.ints u64 a.2⟩])
 a0:=λst=>((lk st 15).toInt,(nI st.rows (rr (cT st 8 0) 1000000)))
 iy:=λst=>[]++[(rX st 3 0),(rX st 5 1),(rX st 6 2),(rX st 8 3),(rr (cT st 8 0) (st.rows.length+4))]}
def Z03:List (Nat×bm):=[(3,Z6v)]
def Zec:bb:=mT 41 [] true [.agg ao.sig,.one (.ba .ae),.one (.ba .aa)] [] (λa r=>PR (ao.of (aC a 0)) (ie .ae a 1) (ie .aa a 2)) (λX=>.dt [.agg (jH.cells (X.1)),.int .i64 (X.2)]) (λX=>[])
theorem Qs1:bj pG Zec:=oT (.cons Qrw (.cons Qnk (.cons Qxs (.nil)))) Tryz.func41 Tryz.call41 [] Z03 3
end
noncomputable section
def strconv_Itoa(i:Int):(List UInt8):=
Lib.decDigits i.toNat
def Hn(i:Int):Prop:=
0<=i/\i<=9223372036854775807
def Qk5(i:Int):List D:=[.int .i64 i]
def Qk9(i:Int):List Row:=[]
def Qfg(X:List UInt8):D:=.str X
def Qfd(X:List UInt8):List Row:=[]
def Qn6:List PT:=[.one (.int .i64)]
def Qkw:List RT:=[]
def Z0u(args:List D)(rows:List Row):(List UInt8):=strconv_Itoa (av args 0)
def Z0q(args:List D)(rows:List Row):Prop:=Hn (av args 0)
def Z7f:bb:=mU 147 [] true Qn6 Qkw Z0q Z0u Qfg Qfd
theorem Quw(i:Int)(hw:Hn i):kq pG 147 (Qk5 i) (Qk9 i) (Qfg (strconv_Itoa i)) (Qfd (strconv_Itoa i)):=by
 exact xaa Tryz.strconv_Itoa (by kernel_rfl) Zq7 hw.1 hw.2
set_option maxRecDepth 100000 in
theorem Qyf(args:List D)(rows:List Row):mq Qn6 args 0=Qk5 (av args 0):=by kernel_rfl
set_option maxRecDepth 100000 in
theorem Qui(args:List D)(rows:List Row):lG Qkw rows 0=Qk9 (av args 0):=by kernel_rfl
set_option maxRecDepth 100000 in
theorem Z5m(X:List UInt8):(wu (Qfg X)&&jP (Qfd X))=true:=by kernel_rfl
theorem Qo1:bj pG Z7f:=MZ Tryz.call147 (λargs rows hp=>by rw[Qyf args rows,Qui args rows];exact Quw (av args 0) hp) (λ_ X=>Z5m X)
def Qcu(a b:bg)(z:(Int)):Nat:=(16-z).toNat
def Qct(a b:bg)(z:(Int)):Nat:=(8-z).toNat
def JA(a b:bg):Tree (List UInt8):=
.lp inferInstance (Qcu a b 0+1) ((rZ/\rZ/\rE (0:Int)/\True)/\(rE a.X.a0/\rE a.X.a1/\rE a.X.a2/\rE a.X.a3/\rE a.X.a4/\rE a.X.a5/\rE a.X.a6/\rE a.X.a7/\rE a.X.a8/\rE a.X.a9/\rE a.X.kP/\rE a.X.kQ/\rE a.X.a12/\rE a.X.kR/\rE a.X.kS/\rE a.X.kT/\rE a.Pc/\rE a.B1.a0/\rE a.B1.a1/\rE a.B1.a2/\rE a.B1.a3/\rE a.B1.a4/\rE a.B1.a5/\rE a.B1.a6/\rE a.B1.a7/\True)/\(rE b.X.a0/\rE b.X.a1/\rE b.X.a2/\rE b.X.a3/\rE b.X.a4/\rE b.X.a5/\rE b.X.a6/\rE b.X.a7/\rE b.X.a8/\rE b.X.a9/\rE b.X.kP/\rE b.X.kQ/\rE b.X.a12/\rE b.X.kR/\rE b.X.kS/\rE b.X.kT/\rE b.Pc/\rE b.B1.a0/\rE b.B1.a1/\rE b.B1.a2/\rE b.B1.a3/\rE b.B1.a4/\rE b.B1.a5/\rE b.B1.a6/\rE b.B1.a7/\True)/\True) 0 λ(v0:Int)=>.br (decide (v0<16)) (let E1:=bJ 0 1&&decide (0<=v0/\v0<(↑16:Int));.cn E1 (.cn E1 (.br (aK (fu.l a.X) v0.toNat 0 !=aK (fu.l b.X) v0.toNat 0) (.an (Hn v0) (.lv (strconv_Itoa v0) λ(x0:List UInt8)=>.cn (decide (2+x0.length<=maxLen)) (.lf (Sum.inr ((120:UInt8)::([(32:UInt8)]++x0)))))) (.nx ((rZ/\rZ/\rE ((wrap i64 (v0+1)):Int)/\True)/\(rE a.X.a0/\rE a.X.a1/\rE a.X.a2/\rE a.X.a3/\rE a.X.a4/\rE a.X.a5/\rE a.X.a6/\rE a.X.a7/\rE a.X.a8/\rE a.X.a9/\rE a.X.kP/\rE a.X.kQ/\rE a.X.a12/\rE a.X.kR/\rE a.X.kS/\rE a.X.kT/\rE a.Pc/\rE a.B1.a0/\rE a.B1.a1/\rE a.B1.a2/\rE a.B1.a3/\rE a.B1.a4/\rE a.B1.a5/\rE a.B1.a6/\rE a.B1.a7/\True)/\(rE b.X.a0/\rE b.X.a1/\rE b.X.a2/\rE b.X.a3/\rE b.X.a4/\rE b.X.a5/\rE b.X.a6/\rE b.X.a7/\rE b.X.a8/\rE b.X.a9/\rE b.X.kP/\rE b.X.kQ/\rE b.X.a12/\rE b.X.kR/\rE b.X.kS/\rE b.X.kT/\rE b.Pc/\rE b.B1.a0/\rE b.B1.a1/\rE b.B1.a2/\rE b.B1.a3/\rE b.B1.a4/\rE b.B1.a5/\rE b.B1.a6/\rE b.B1.a7/\True)/\True) (Sum.inl (wrap i64 (v0+1))))))) (.br (a.Pc !=b.Pc) (.lf (Sum.inr [(112:UInt8),99])) (.lp inferInstance (Qct a b 0+1) ((rZ/\rZ/\rE (0:Int)/\True)/\(rE a.X.a0/\rE a.X.a1/\rE a.X.a2/\rE a.X.a3/\rE a.X.a4/\rE a.X.a5/\rE a.X.a6/\rE a.X.a7/\rE a.X.a8/\rE a.X.a9/\rE a.X.kP/\rE a.X.kQ/\rE a.X.a12/\rE a.X.kR/\rE a.X.kS/\rE a.X.kT/\rE a.Pc/\rE a.B1.a0/\rE a.B1.a1/\rE a.B1.a2/\rE a.B1.a3/\rE a.B1.a4/\rE a.B1.a5/\rE a.B1.a6/\rE a.B1.a7/\True)/\(rE b.X.a0/\rE b.X.a1/\rE b.X.a2/\rE b.X.a3/\rE b.X.a4/\rE b.X.a5/\rE b.X.a6/\rE b.X.a7/\rE b.X.a8/\rE b.X.a9/\rE b.X.kP/\rE b.X.kQ/\rE b.X.a12/\rE b.X.kR/\rE b.X.kS/\rE b.X.kT/\rE b.Pc/\rE b.B1.a0/\rE b.B1.a1/\rE b.B1.a2/\rE b.B1.a3/\rE b.B1.a4/\rE b.B1.a5/\rE b.B1.a6/\rE b.B1.a7/\True)/\True) 0 λ(v1:Int)=>.br (decide (v1<8)) (let E2:=bJ 0 1&&decide (0<=v1/\v1<(↑8:Int));.cn E2 (.cn E2 (.br (aK (A8.l a.B1) v1.toNat 0 !=aK (A8.l b.B1) v1.toNat 0) (.an (Hn v1) (.lv (strconv_Itoa v1) λ(x1:List UInt8)=>.cn (decide (4+x1.length<=maxLen)) (.lf (Sum.inr (Sum.inr ((99:UInt8)::([(115:UInt8),114,32]++x1))))))) (.nx ((rZ/\rZ/\rE ((wrap i64 (v1+1)):Int)/\True)/\(rE a.X.a0/\rE a.X.a1/\rE a.X.a2/\rE a.X.a3/\rE a.X.a4/\rE a.X.a5/\rE a.X.a6/\rE a.X.a7/\rE a.X.a8/\rE a.X.a9/\rE a.X.kP/\rE a.X.kQ/\rE a.X.a12/\rE a.X.kR/\rE a.X.kS/\rE a.X.kT/\rE a.Pc/\rE a.B1.a0/\rE a.B1.a1/\rE a.B1.a2/\rE a.B1.a3/\rE a.B1.a4/\rE a.B1.a5/\rE a.B1.a6/\rE a.B1.a7/\True)/\(rE b.X.a0/\rE b.X.a1/\rE b.X.a2/\rE b.X.a3/\rE b.X.a4/\rE b.X.a5/\rE b.X.a6/\rE b.X.a7/\rE b.X.a8/\rE b.X.a9/\rE b.X.kP/\rE b.X.kQ/\rE b.X.a12/\rE b.X.kR/\rE b.X.kS/\rE b.X.kT/\rE b.Pc/\rE b.B1.a0/\rE b.B1.a1/\rE b.B1.a2/\rE b.B1.a3/\rE b.B1.a4/\rE b.B1.a5/\rE b.B1.a6/\rE b.B1.a7/\True)/\True) (Sum.inl (wrap i64 (v1+1))))))) (.lf (Sum.inr (Sum.inr [])))))
def Qnq a b:=(JA a b).m
abbrev Q9z a b:=(JA a b).p
def Qta:bm:={
 α:=(Int)
 F:=λst a=>([(2,.ptr 0 0 0),(3,.ptr 1 0 0),(7,.int i64 a)],[⟨true,28,25,.gen [[(cT st 2 0),(cT st 2 1),(cT st 2 2),(cT st 2 3),(cT st 2 4),(cT st 2 5),(cT st 2 6),(cT st 2 7),(cT st 2 8),(cT st 2 9),(cT st 2 10),(cT st 2 11),(cT st 2 12),(cT st 2 13),(cT st 2 14),(cT st 2 15),(cT st 2 16),(cT st 2 17),(cT st 2 18),(cT st 2 19),(cT st 2 20),(cT st 2 21),(cT st 2 22),(cT st 2 23),(cT st 2 24)]]⟩,⟨true,28,25,.gen [[(cT st 3 0),(cT st 3 1),(cT st 3 2),(cT st 3 3),(cT st 3 4),(cT st 3 5),(cT st 3 6),(cT st 3 7),(cT st 3 8),(cT st 3 9),(cT st 3 10),(cT st 3 11),(cT st 3 12),(cT st 3 13),(cT st 3 14),(cT st 3 15),(cT st 3 16),(cT st 3 17),(cT st 3 18),(cT st 3 19),(cT st 3 20),(cT st 3 21),(cT st 3 22),(cT st 3 23),(cT st 3 24)]]⟩])
 a0:=λst=>(lk st 7).toInt
 iy:=λst=>[]++[(rX st 2 0),(rX st 3 1)]}
def Qsd:bm:={
 α:=(Int)
 F:=λst a=>([(2,.ptr 0 0 0),(3,.ptr 1 0 0),(28,.int i64 a)],[⟨true,28,25,.gen [[(cT st 2 0),(cT st 2 1),(cT st 2 2),(cT st 2 3),(cT st 2 4),(cT st 2 5),(cT st 2 6),(cT st 2 7),(cT st 2 8),(cT st 2 9),(cT st 2 10),(cT st 2 11),(cT st 2 12),(cT st 2 13),(cT st 2 14),(cT st 2 15),(cT st 2 16),(cT st 2 17),(cT st 2 18),(cT st 2 19),(cT st 2 20),(cT st 2 21),(cT st 2 22),(cT st 2 23),(cT st 2 24)]]⟩,⟨true,28,25,.gen [[(cT st 3 0),(cT st 3 1),(cT st 3 2),(cT st 3 3),(cT st 3 4),(cT st 3 5),(cT st 3 6),(cT st 3 7),(cT st 3 8),(cT st 3 9),(cT st 3 10),(cT st 3 11),(cT st 3 12),(cT st 3 13),(cT st 3 14),(cT st 3 15),(cT st 3 16),(cT st 3 17),(cT st 3 18),(cT st 3 19),(cT st 3 20),(cT st 3 21),(cT st 3 22),(cT st 3 23),(cT st 3 24)]]⟩])
 a0:=λst=>(lk st 28).toInt
 iy:=λst=>[]++[(rX st 2 0),(rX st 3 1)]}
def Qos:List (Nat×bm):=[(2,Qta),(10,Qsd)]
def Qu8:bb:=mT 90 [] true [.agg bg.sig,.agg bg.sig] [] (λa r=>JA (bg.of (aC a 0)) (bg.of (aC a 1))) (λX=>.str X) (λX=>[])
theorem Qsg:bj pG Qu8:=oT (.cons Qo1 (.nil)) Tryz.func90 Tryz.call90 [] Qos 3
def Qcy(a b:List Int)(z:(Int)):Nat:=(a.length-z).toNat
def JB(a b:List Int):Tree (List UInt8):=
.br ((a.length:Int) !=(b.length:Int)) (.lf ([(109:UInt8),101,109])) (.lp inferInstance (Qcy a b 0+1) ((((ai.Nil (ai.ints u32 a)\/rE (1:Nat))/\rE (a:List Int))/\((ai.Nil (ai.ints u32 b)\/rE (1:Nat))/\rE (b:List Int))/\rE ((a.length:Int):Int)/\rE (0:Int)/\True)/\True) 0 λ(v0:Int)=>.br (decide (v0<(a.length:Int))) (.cn (bT 1 1&&bJ 0 1&&decide (0<=v0/\v0<(a.length:Int))) (.cn (bT 1 1&&bJ 0 1&&decide (0<=v0/\v0<(b.length:Int))) (.br (a.getD v0.toNat 0 !=b.getD v0.toNat 0) (.an (Hn v0) (.lv (strconv_Itoa v0) λ(x0:List UInt8)=>.cn (decide (4+x0.length<=maxLen)) (.lf (Sum.inr ((109:UInt8)::([(101:UInt8),109,32]++x0)))))) (.nx ((((ai.Nil (ai.ints u32 a)\/rE (1:Nat))/\rE (a:List Int))/\((ai.Nil (ai.ints u32 b)\/rE (1:Nat))/\rE (b:List Int))/\rE ((a.length:Int):Int)/\rE ((wrap i64 (v0+1)):Int)/\True)/\True) (Sum.inl (wrap i64 (v0+1))))))) (.lf (Sum.inr [])))
def Qn8 a b:=(JB a b).m
abbrev Qa a b:=(JB a b).p
def Qsx:bm:={
 α:=(Int)
 F:=λst a=>([(0,(lk st 0)),(1,(lk st 1)),(12,(lk st 12)),(13,.int i64 a)],[])
 a0:=λst=>(lk st 13).toInt
 iy:=λst=>[]++[]}
def Qpq:List (Nat×bm):=[(4,Qsx)]
def Qvs:bb:=mT 91 [] true [.one (.ints .u32),.one (.ints .u32)] [] (λa r=>JB (ek .u32 a 0) (ek .u32 a 1)) (λX=>.str X) (λX=>[])
theorem Qtd:bj pG Qvs:=oT (.cons Qo1 (.nil)) Tryz.func91 Tryz.call91 [] Qpq 3
def JC(a b:ao):Tree (List UInt8):=
.an (Q9z a.A7 b.A7) (.lv (Qnq a.A7 b.A7) λ(x0:List UInt8)=>.br (!decide (x0=[])) (.lf x0) (.an (Qa a.Mem b.Mem) (.lv (Qn8 a.Mem b.Mem) λ(x1:List UInt8)=>.br (!decide (x1=[])) (.lf x1) (.br (!eqs [D.str a.A2.C6] [D.str b.A2.C6]) (.lf ([(99:UInt8),111,110,115,111,108,101])) (.br (!eqs [D.bool a.A9.D0,D.int u32 a.A9.B8,D.bool a.A9.C9] [D.bool b.A9.D0,D.int u32 b.A9.B8,D.bool b.A9.C9]) (.lf ([(116:UInt8),105,109,101,114])) (.br (!eqs [D.int u32 a.A4.ag,D.int u32 a.A4.B9,D.int u32 a.A4.Frame,D.int i64 a.A4.B6,D.int i64 a.A4.D1,D.int u32 a.A4.B4,D.int u32 a.A4.B0,D.str a.A4.B5] [D.int u32 b.A4.ag,D.int u32 b.A4.B9,D.int u32 b.A4.Frame,D.int i64 b.A4.B6,D.int i64 b.A4.D1,D.int u32 b.A4.B4,D.int u32 b.A4.B0,D.str b.A4.B5]) (.lf ([(100:UInt8),105,115,107])) (.br (!eqs [D.int u32 a.C1.Frame,D.int u32 a.C1.D6,D.bool a.C1.C2,D.int u32 a.C1.B7,D.bool a.C1.B3,D.int u32 a.C1.D8] [D.int u32 b.C1.Frame,D.int u32 b.C1.D6,D.bool b.C1.C2,D.int u32 b.C1.B7,D.bool b.C1.B3,D.int u32 b.C1.D8]) (.lf ([(110:UInt8),105,99])) (.br (!eqs [D.int u32 a.A1.C4,D.int u32 a.A1.C0] [D.int u32 b.A1.C4,D.int u32 b.A1.C0]) (.lf ([(98:UInt8),97,108,108,111,111,110])) (.br (a.A0 !=b.A0) (.lf ([(99:UInt8),111,117,110,116])) (.br (!a.A3==b.A3) (.lf ([(119:UInt8),97,105,116,105,110,103])) (.br (!a.A6==b.A6) (.lf ([(104:UInt8),97,108,116,101,100])) (.lf ([])))))))))))))
def PV a b:=(JC a b).m
abbrev Ms a b:=(JC a b).p
def Z3y:bb:=mT 43 [] true [.agg ao.sig,.agg ao.sig] [] (λa r=>JC (ao.of (aC a 0)) (ao.of (aC a 1))) (λX=>.str X) (λX=>[])
theorem Qn7:bj pG Z3y:=oT (.cons Qsg (.cons Qtd (.nil))) Tryz.func43 Tryz.call43 [] [] 2
def PW:Tree Bool:=
.an (Qni 2 [0]) (.lv (Mf 2 [0]) λ(x0:ao)=>.an (Qgv x0 [] [1,3]) (.lv (Qsq x0 [] [1,3]) λ(x1:List fe×Int)=>.br (x1.2 !=0) (.lf false) (.br ((x1.1.length:Int) !=(2:Int)) (.lf false) (.an (Qcl x0 [] x1.1) (.lv (Qml x0 [] x1.1) λ(x2:jH×Int)=>let E3:=bT 2 2&&bJ 0 2&&decide ((0:Int)<=(1:Int)/\1<(x1.1.length:Int));.cn E3 (.cn E3 (let E2:=x1.1.getD (dE 1) (RK.cg RK.aa);.an (Qcl x0 [] (List.set x1.1 (dE 1) {At:=E2.At,C8:=wrap u64 (E2.C8+1)})) (.lv (Qml x0 [] (List.set x1.1 (dE 1) {At:=E2.At,C8:=wrap u64 (E2.C8+1)})) λ(x3:jH×Int)=>.br (x2.2==0) (.br x2.1.Good (.br (x3.2==0) (.br (!x3.1.Good) (.br (x3.1.D4==1) (.br (x3.1.At==1) (let E1:=({A7:={X:={a0:=x0.A7.X.a0,a1:=x0.A7.X.a1,a2:=x0.A7.X.a2,a3:=x0.A7.X.a3,a4:=x0.A7.X.a4,a5:=7,a6:=x0.A7.X.a6,a7:=x0.A7.X.a7,a8:=x0.A7.X.a8,a9:=x0.A7.X.a9,kP:=x0.A7.X.kP,kQ:=x0.A7.X.kQ,a12:=x0.A7.X.a12,kR:=x0.A7.X.kR,kS:=x0.A7.X.kS,kT:=x0.A7.X.kT},Pc:=x0.A7.Pc,B1:=x0.A7.B1},Mem:=x0.Mem,A2:=x0.A2,A9:=x0.A9,A4:=x0.A4,C1:=x0.C1,A1:=x0.A1,A0:=x0.A0,A3:=x0.A3,A6:=x0.A6}:ao);.an (Ms x0 E1) (.lv (PV x0 E1) λ(x4:List UInt8)=>.br (decide (x4=[(120:UInt8),32,53])) (.an (Ms x0 x0) (.lv (PV x0 x0) λ(x5:List UInt8)=>.lf (decide (x5=[])))) (.lf false))) (.lf false)) (.lf false)) (.lf false)) (.lf false)) (.lf false)) (.lf false)))))))))
def AY:Bool:=(PW).m
abbrev CU:Prop:=(PW).p
def Zbd:bb:=mT 35 [] true [] [] (λa r=>PW) (λX=>.bool X) (λX=>[])
theorem Z63:bj pG Zbd:=oT (.cons Z3u (.cons Qs3 (.cons Qs1 (.cons Qn7 (.nil))))) Tryz.func35 Tryz.call35 [] [] 2
end
noncomputable section
def Qcw(m n:ao)(script:List dr)(bn:List Int)(l:List fe)(z:(Int)):Nat:=(script.length-z).toNat
def Qcx(m n:ao)(script:List dr)(bn:List Int)(l:List fe)(z:(Int)):Nat:=(bn.length-z).toNat
def Qcv(m n:ao)(script:List dr)(bn:List Int)(l:List fe)(z:(Int)):Nat:=(l.length-z).toNat
def Us(m n:ao)(script:List dr)(bn:List Int)(l:List fe):Tree Bool:=
.lv (Uq m) λ(x0:Bool)=>.br (!x0) (.an CU (.lv AY λ(x1:Bool)=>.lf x1)) (.lv (Uq n) λ(x2:Bool)=>.br (!x2) (.an CU (.lv AY λ(x3:Bool)=>.lf x3)) (.br (decide ((script.length:Int)>(30:Int))) (.an CU (.lv AY λ(x4:Bool)=>.lf x4)) (.br (decide ((bn.length:Int)>(10:Int))) (.an CU (.lv AY λ(x5:Bool)=>.lf x5)) (.br (decide ((l.length:Int)>(10:Int))) (.an CU (.lv AY λ(x6:Bool)=>.lf x6)) (.lp inferInstance (Qcw m n script bn l 0+1) ((nR RK.ae 4 script/\((ai.Nil (ai.ints u64 bn)\/rE (1:Nat))/\rE (bn:List Int))/\nR RK.aa 2 l/\rZ/\rZ/\rE (false:Bool)/\rE (0:Int)/\True)/\(mE m (((ai.Nil (ai.ints u32 m.Mem)\/rE (1:Nat))/\rE m.Mem)) True)/\(mE n (((ai.Nil (ai.ints u32 n.Mem)\/rE (1:Nat))/\rE n.Mem)) True)/\True) 0 λ(v0:Int)=>.br (decide (v0<(script.length:Int))) (.cn (bT 4 4&&bJ 0 4&&decide (0<=v0/\v0<(script.length:Int))) (.br (decide ((↑(dJ (script.getD v0.toNat (RK.cg RK.ae)).C5.D2):Int)>(300:Int))) (.an CU (.lv AY λ(x7:Bool)=>.lf (Sum.inr x7))) (.nx ((nR RK.ae 4 script/\((ai.Nil (ai.ints u64 bn)\/rE (1:Nat))/\rE (bn:List Int))/\nR RK.aa 2 l/\rZ/\rZ/\rE (false:Bool)/\rE ((wrap i64 (v0+1)):Int)/\True)/\(mE m (((ai.Nil (ai.ints u32 m.Mem)\/rE (1:Nat))/\rE m.Mem)) True)/\(mE n (((ai.Nil (ai.ints u32 n.Mem)\/rE (1:Nat))/\rE n.Mem)) True)/\True) (Sum.inl (wrap i64 (v0+1)))))) (.lp inferInstance (Qcx m n script bn l 0+1) ((nR RK.ae 4 script/\((ai.Nil (ai.ints u64 bn)\/rE (1:Nat))/\rE (bn:List Int))/\nR RK.aa 2 l/\rZ/\rZ/\rE (false:Bool)/\rE (0:Int)/\True)/\(mE m (((ai.Nil (ai.ints u32 m.Mem)\/rE (1:Nat))/\rE m.Mem)) True)/\(mE n (((ai.Nil (ai.ints u32 n.Mem)\/rE (1:Nat))/\rE n.Mem)) True)/\True) 0 λ(v1:Int)=>.br (decide (v1<(bn.length:Int))) (let E3:=bT 1 1&&bJ 0 1&&decide (0<=v1/\v1<(bn.length:Int));.cn E3 (let T1:Tree ((Int)⊕((Int)⊕(Bool))):=.nx ((nR RK.ae 4 script/\((ai.Nil (ai.ints u64 bn)\/rE (1:Nat))/\rE (bn:List Int))/\nR RK.aa 2 l/\rZ/\rZ/\rE (false:Bool)/\rE ((wrap i64 (v1+1)):Int)/\True)/\(mE m (((ai.Nil (ai.ints u32 m.Mem)\/rE (1:Nat))/\rE m.Mem)) True)/\(mE n (((ai.Nil (ai.ints u32 n.Mem)\/rE (1:Nat))/\rE n.Mem)) True)/\True) (Sum.inl (wrap i64 (v1+1)));.br (decide (bn.getD v1.toNat 0>m.A0)) (.cn E3 (.br (decide (wrap u64 (bn.getD v1.toNat 0-m.A0)>60)) (.an CU (.lv AY λ(x8:Bool)=>.lf (Sum.inr (Sum.inr x8)))) T1)) T1)) (.lp inferInstance (Qcv m n script bn l 0+1) ((nR RK.ae 4 script/\((ai.Nil (ai.ints u64 bn)\/rE (1:Nat))/\rE (bn:List Int))/\nR RK.aa 2 l/\rZ/\rZ/\rE (false:Bool)/\rE (0:Int)/\True)/\(mE m (((ai.Nil (ai.ints u32 m.Mem)\/rE (1:Nat))/\rE m.Mem)) True)/\(mE n (((ai.Nil (ai.ints u32 n.Mem)\/rE (1:Nat))/\rE n.Mem)) True)/\True) 0 λ(v2:Int)=>.br (decide (v2<(l.length:Int))) (let E4:=bT 2 2&&bJ 0 2&&decide (0<=v2/\v2<(l.length:Int));.cn E4 (let T2:Tree ((Int)⊕((Int)⊕((Int)⊕(Bool)))):=.nx ((nR RK.ae 4 script/\((ai.Nil (ai.ints u64 bn)\/rE (1:Nat))/\rE (bn:List Int))/\nR RK.aa 2 l/\rZ/\rZ/\rE (false:Bool)/\rE ((wrap i64 (v2+1)):Int)/\True)/\(mE m (((ai.Nil (ai.ints u32 m.Mem)\/rE (1:Nat))/\rE m.Mem)) True)/\(mE n (((ai.Nil (ai.ints u32 n.Mem)\/rE (1:Nat))/\rE n.Mem)) True)/\True) (Sum.inl (wrap i64 (v2+1)));let E5:=l.getD v2.toNat (RK.cg RK.aa);.br (decide (E5.At>m.A0)) (.cn E4 (.br (decide (wrap u64 (E5.At-m.A0)>60)) (.an CU (.lv AY λ(x9:Bool)=>.lf (Sum.inr (Sum.inr (Sum.inr x9))))) T2)) T2)) (.an (Qgv m script bn) (.lv (Qsq m script bn) λ(ja:List fe×Int)=>.an (Qlp m script bn) (.lv (Qug m script bn) λ(jv:List fe×Int)=>.an (Qcl m script l) (.lv (Qml m script l) λ(jO:jH×Int)=>.an (Qq m script l) (.lv (Z52 m script l) λ(jW:jH×Int)=>.an (Qrm m) (.lv (Zaf m) λ(kF:fe)=>.an (Qnn m) (.lv (Qzg m) λ(mh:fe)=>.br (eqs (fe.cells kF) (fe.cells mh)) (.an (Qs9 ja.1 jv.1) (.lv (Z8c ja.1 jv.1) λ(lB:Bool)=>.br lB (.br (ja.2==jv.2) (.br (eqs [D.bool jO.1.Good,D.int i64 jO.1.D4,D.int u64 jO.1.At] [D.bool jW.1.Good,D.int i64 jW.1.D4,D.int u64 jW.1.At]) (.br (jO.2==jW.2) (.an (Ms m n) (.lv (PV m n) λ(mP:List UInt8)=>.an (Ql9 m n) (.lv (Qts m n) λ(nw:List UInt8)=>.br (decide (mP=nw)) (.an CU (.lv AY λ(pY:Bool)=>.lf (Sum.inr (Sum.inr (Sum.inr pY))))) (.lf (Sum.inr (Sum.inr (Sum.inr false))))))) (.lf (Sum.inr (Sum.inr (Sum.inr false))))) (.lf (Sum.inr (Sum.inr (Sum.inr false))))) (.lf (Sum.inr (Sum.inr (Sum.inr false))))) (.lf (Sum.inr (Sum.inr (Sum.inr false)))))) (.lf (Sum.inr (Sum.inr (Sum.inr false))))))))))))))))))
def Qfh m n script bn l:=(Us m n script bn l).m
abbrev Qfn m n script bn l:=(Us m n script bn l).p
def Qte:bm:={
 α:=(Int)
 F:=λst a=>([(2,(lk st 2)),(3,(lk st 3)),(4,(lk st 4)),(5,.ptr 0 0 0),(6,.ptr 1 0 0),(10,(lk st 10)),(11,.int i64 a)],[⟨true,42,49,.gen [mB (cT st 5)]⟩,⟨true,42,49,.gen [mB (cT st 6)]⟩])
 a0:=λst=>(lk st 11).toInt
 iy:=λst=>[]++[(rX st 5 0),(rX st 6 1)]}
def Qt9:bm:={
 α:=(Int)
 F:=λst a=>([(2,(lk st 2)),(3,(lk st 3)),(4,(lk st 4)),(5,.ptr 0 0 0),(6,.ptr 1 0 0),(10,(lk st 10)),(12,.int i64 a)],[⟨true,42,49,.gen [mB (cT st 5)]⟩,⟨true,42,49,.gen [mB (cT st 6)]⟩])
 a0:=λst=>(lk st 12).toInt
 iy:=λst=>[]++[(rX st 5 0),(rX st 6 1)]}
def Qss:bm:={
 α:=(Int)
 F:=λst a=>([(2,(lk st 2)),(3,(lk st 3)),(4,(lk st 4)),(5,.ptr 0 0 0),(6,.ptr 1 0 0),(10,(lk st 10)),(13,.int i64 a)],[⟨true,42,49,.gen [mB (cT st 5)]⟩,⟨true,42,49,.gen [mB (cT st 6)]⟩])
 a0:=λst=>(lk st 13).toInt
 iy:=λst=>[]++[(rX st 5 0),(rX st 6 1)]}
def Qpa:List (Nat×bm):=[(4,Qte),(9,Qt9),(14,Qss)]
def Qtp:bb:=mT 11 [] true [.agg ao.sig,.agg ao.sig,.one (.ba .ae),.one (.ints .u64),.one (.ba .aa)] [] (λa r=>Us (ao.of (aC a 0)) (ao.of (aC a 1)) (ie .ae a 2) (ek .u64 a 3) (ie .aa a 4)) (λX=>.bool X) (λX=>[])
theorem Qt5:bj pG Qtp:=oT (.cons Z7q (.cons Z63 (.cons Qs3 (.cons Z0a (.cons Qs1 (.cons Z6a (.cons Zed (.cons Z5l (.cons Zcg (.cons Qn7 (.cons Z09 (.nil)))))))))))) Tryz.func11 Tryz.call11 [] Qpa 3

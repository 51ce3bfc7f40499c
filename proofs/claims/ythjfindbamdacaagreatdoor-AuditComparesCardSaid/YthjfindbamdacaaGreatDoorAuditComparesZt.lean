import Derived.Test.YthjfindbamdacaaGreatDoorAuditComparesZd
import Derived.Test.YthjfindbamdacaaGreatDoorAuditComparesZx
open Nat renaming beq->bT,blt->bJ,lt_succ_self->cO
open List renaming getD->aK,length->dK,append->cQ,take->cZ,drop->dA
open Int renaming toNat->dF
open UInt8 renaming toNat->eW
set_option maxRecDepth 100000
set_option linter.all false
namespace Go.Proofs.YthjfindbamdacaaGreatDoor
open Go Go.GD Go.IntKind
noncomputable section
instance Rf {α β:Type} [Inhabited β]:Inhabited (α⊕β):=⟨.inr default⟩
def Qqv(src:List UInt8)(z:(Int)×(List Int)):Nat:=((Z3n src).2.1.length-z.1).toNat
def Qrg(src:List UInt8)(v0:Int×List Int)(z:(Int)×(List Int)):Nat:=(1024-z.1).toNat
def Ng(src:List UInt8):Tree ((List Int)×sU):=
.an (Ql8 src) (.lv (Z3n src) λ(x0:List nM×List j8×sU)=>.br (x0.2.2.wR !=0) (.lf ([],x0.2.2)) (.lp inferInstance (Qqv src (0,[])+1) ((True/\rZ/\True/\True/\True/\rE (0:Int)/\True)/\(rE (0:Int)/\rE (0:Int)/\True)/\rE x0.1/\rE x0.2.1/\rE ([]:List Int)/\True) (0,[]) λ(v0:Int×List Int)=>.br (decide (v0.1<(x0.2.1.length:Int))) (.cn (bT 6 6&&bJ 0 6&&decide (0<=v0.1/\v0.1<(x0.2.1.length:Int))) (let E4:=x0.2.1.getD v0.1.toNat (RK.cz RK.ag);let T1:Tree ((Int×List Int)⊕(((List Int)×sU))):=.lp inferInstance (Qrg src v0 (0,v0.2)+1) ((True/\rZ/\True/\True/\True/\rE v0.1/\rZ/\rE (0:Int)/\True)/\(rE (0:Int)/\rE (0:Int)/\True)/\rE x0.1/\rE x0.2.1/\(rE ((x0.2.1.getD v0.1.toNat (RK.cz RK.ag)).dz:List UInt8)/\rE ((x0.2.1.getD v0.1.toNat (RK.cz RK.ag)).op:Int)/\((ak.Nil (D.toEs (aK (ak.get (ak.bc RK.ag x0.2.1) v0.1.toNat) ((0:Nat)+(1:Nat)+(1:Nat)) D.dead))\/rE (3:Nat))/\rE ((x0.2.1.getD v0.1.toNat (RK.cz RK.ag)).l:List (RK.T RK.ay)))/\rE ((x0.2.1.getD v0.1.toNat (RK.cz RK.ag)).D4:Int)/\rE ((x0.2.1.getD v0.1.toNat (RK.cz RK.ag)).at_:Int)/\rE ((x0.2.1.getD v0.1.toNat (RK.cz RK.ag)).size:Int)/\True)/\rE v0.2/\True) (0,v0.2) λ(v1:Int×List Int)=>.br (decide (v1.1<E4.size)) (.cn (decide (4*(v1.2.length+1)<=140737488355328)) (.nx ((True/\rZ/\True/\True/\True/\rE v0.1/\rZ/\rE ((wrap i64 (v1.1+1)):Int)/\True)/\(rE (0:Int)/\rE (0:Int)/\True)/\rE x0.1/\rE x0.2.1/\(rE ((x0.2.1.getD v0.1.toNat (RK.cz RK.ag)).dz:List UInt8)/\rE ((x0.2.1.getD v0.1.toNat (RK.cz RK.ag)).op:Int)/\((ak.Nil (ak.bc RK.ay (x0.2.1.getD v0.1.toNat (RK.cz RK.ag)).l)\/rE (3:Nat))/\rE ((x0.2.1.getD v0.1.toNat (RK.cz RK.ag)).l:List (RK.T RK.ay)))/\rE ((x0.2.1.getD v0.1.toNat (RK.cz RK.ag)).D4:Int)/\rE ((x0.2.1.getD v0.1.toNat (RK.cz RK.ag)).at_:Int)/\rE ((x0.2.1.getD v0.1.toNat (RK.cz RK.ag)).size:Int)/\True)/\rE ((v1.2++[0]):List Int)/\True) (Sum.inl (wrap i64 (v1.1+1),v1.2++[0])))) (.nx ((True/\rZ/\True/\True/\True/\rE ((wrap i64 (v0.1+1)):Int)/\True)/\(rE (0:Int)/\rE (0:Int)/\True)/\rE x0.1/\rE x0.2.1/\rE v1.2/\True) (Sum.inr (Sum.inl (wrap i64 (v0.1+1),v1.2))));let E5:=bT 3 3&&bJ 0 3&&decide ((0:Int)<=(0:Int)/\0<(↑(dK E4.l):Int));let E7:=aK E4.l (dF 0) (RK.cz RK.ay);let E8:=decide (4*(v0.2.length+1)<=140737488355328);let T2:Tree ((Int×List Int)⊕(((List Int)×sU))):=.cn E5 (.cn (bT 3 3&&bJ 0 3&&decide ((0:Int)<=(1:Int)/\1<(↑(dK E4.l):Int))) (.lv (oB {Op:=16,A:=E7.ku,B:=(aK E4.l (dF 1) (RK.cz RK.ay)).ku,C:=0,bh:=0}) λ(x4:Int×Bool)=>.cn E8 (.nx ((True/\rZ/\True/\True/\True/\rE ((wrap i64 (v0.1+1)):Int)/\True)/\(rE (0:Int)/\rE (0:Int)/\True)/\rE x0.1/\rE x0.2.1/\rE ((v0.2++[x4.1]):List Int)/\True) (Sum.inl (wrap i64 (v0.1+1),v0.2++[x4.1])))));let T3:Tree ((Int×List Int)⊕(((List Int)×sU))):=.lv (oB {Op:=16,A:=0,B:=0,C:=0,bh:=0}) λ(x5:Int×Bool)=>.cn E8 (.nx ((True/\rZ/\True/\True/\True/\rE ((wrap i64 (v0.1+1)):Int)/\True)/\(rE (0:Int)/\rE (0:Int)/\True)/\rE x0.1/\rE x0.2.1/\rE ((v0.2++[x5.1]):List Int)/\True) (Sum.inl (wrap i64 (v0.1+1),v0.2++[x5.1])));let E9:=decide (E4.dz=[(46:UInt8),115,112,97,99,101]);let mL:=decide (E4.dz=[(46:UInt8),119,111,114,100]);let oF:=decide (E4.dz=[(110:UInt8),111,112]);let Bc:=decide (4*(v0.2.length+2)<=140737488355328);let Ht:=decide (E4.dz=[(108:UInt8),105]);let Hu:=decide (E4.dz=[(109:UInt8),118]);.br (decide ((↑(dK E4.l):Int)>(0:Int))) (.cn (bT 3 3&&bJ 0 3&&decide (0<=wrap i64 ((↑(dK E4.l):Int)-(1:Int))/\wrap i64 ((↑(dK E4.l):Int)-(1:Int))<(↑(dK E4.l):Int))) (let E6:=aK E4.l (dF (wrap i64 ((↑(dK E4.l):Int)-(1:Int)))) (RK.cz RK.ay);.br (!decide (E6.label=[])) (.an (FY x0.1 E6.label) (.lv (Qnm x0.1 E6.label) λ(x1:Int×Bool)=>.br (!x1.2) (.lf (Sum.inr ([],{wR:=302,nd:=E4.D4}))) (.br (decide (E4.op>0)) (let nH:=wrap i64 (wrap i64 (Int.tdiv (wrap i64 x1.1) 4)-E4.at_);.br mL (.cn E8 (.nx ((True/\rZ/\True/\True/\True/\rE ((wrap i64 (v0.1+1)):Int)/\True)/\(rE (0:Int)/\rE (0:Int)/\True)/\rE x0.1/\rE x0.2.1/\rE ((v0.2++[wrap u32 (wrap i64 (wrap i64 (Int.tdiv (wrap i64 x1.1) 4)-(x0.2.1.getD v0.1.toNat (RK.cz RK.ag)).at_))]):List Int)/\True) (Sum.inl (wrap i64 (v0.1+1),v0.2++[wrap u32 nH])))) (.br E9 T1 (.br Ht (.cn E5 (.lv (oB {Op:=24,A:=E7.ku,B:=0,C:=0,bh:=wrap i32 (bf u32 (wrap u32 nH) 16)}) λ(x2:Int×Bool)=>.cn E5 (.cn E5 (.lv (oB {Op:=18,A:=E7.ku,B:=E7.ku,C:=0,bh:=wrap i32 (bb u32 (wrap u32 nH) 65535)}) λ(x3:Int×Bool)=>.cn Bc (.nx ((True/\rZ/\True/\True/\True/\rE ((wrap i64 (v0.1+1)):Int)/\True)/\(rE (0:Int)/\rE (0:Int)/\True)/\rE x0.1/\rE x0.2.1/\rE ((v0.2++[x2.1,x3.1]):List Int)/\True) (Sum.inl (wrap i64 (v0.1+1),v0.2++[x2.1,x3.1]))))))) (.br Hu T2 (.br oF T3 (.an (Nd E4 nH) (.lv (UN E4 nH) λ(x6:Int×Bool)=>.br (!x6.2) (.lf (Sum.inr ([],{wR:=304,nd:=E4.D4}))) (.cn E8 (.nx ((True/\rZ/\True/\True/\True/\rE ((wrap i64 (v0.1+1)):Int)/\True)/\(rE (0:Int)/\rE (0:Int)/\True)/\rE x0.1/\rE x0.2.1/\rE ((v0.2++[x6.1]):List Int)/\True) (Sum.inl (wrap i64 (v0.1+1),v0.2++[x6.1]))))))))))) (.br mL (.cn E8 (.nx ((True/\rZ/\True/\True/\True/\rE ((wrap i64 (v0.1+1)):Int)/\True)/\(rE (0:Int)/\rE (0:Int)/\True)/\rE x0.1/\rE x0.2.1/\rE ((v0.2++[wrap u32 (wrap i64 x1.1)]):List Int)/\True) (Sum.inl (wrap i64 (v0.1+1),v0.2++[wrap u32 (wrap i64 x1.1)])))) (.br E9 T1 (.br Ht (.cn E5 (.lv (oB {Op:=24,A:=E7.ku,B:=0,C:=0,bh:=wrap i32 (bf u32 (wrap u32 (wrap i64 x1.1)) 16)}) λ(x7:Int×Bool)=>.cn E5 (.cn E5 (.lv (oB {Op:=18,A:=E7.ku,B:=E7.ku,C:=0,bh:=wrap i32 (bb u32 (wrap u32 (wrap i64 x1.1)) 65535)}) λ(x8:Int×Bool)=>.cn Bc (.nx ((True/\rZ/\True/\True/\True/\rE ((wrap i64 (v0.1+1)):Int)/\True)/\(rE (0:Int)/\rE (0:Int)/\True)/\rE x0.1/\rE x0.2.1/\rE ((v0.2++[x7.1,x8.1]):List Int)/\True) (Sum.inl (wrap i64 (v0.1+1),v0.2++[x7.1,x8.1]))))))) (.br Hu T2 (.br oF T3 (.an (Nd E4 (wrap i64 x1.1)) (.lv (UN E4 (wrap i64 x1.1)) λ(nq:Int×Bool)=>.br (!nq.2) (.lf (Sum.inr ([],{wR:=304,nd:=E4.D4}))) (.cn E8 (.nx ((True/\rZ/\True/\True/\True/\rE ((wrap i64 (v0.1+1)):Int)/\True)/\(rE (0:Int)/\rE (0:Int)/\True)/\rE x0.1/\rE x0.2.1/\rE ((v0.2++[nq.1]):List Int)/\True) (Sum.inl (wrap i64 (v0.1+1),v0.2++[nq.1])))))))))))))) (.br mL (.cn E8 (.nx ((True/\rZ/\True/\True/\True/\rE ((wrap i64 (v0.1+1)):Int)/\True)/\(rE (0:Int)/\rE (0:Int)/\True)/\rE x0.1/\rE x0.2.1/\rE ((v0.2++[wrap u32 (aK (x0.2.1.getD v0.1.toNat (RK.cz RK.ag)).l (dF (wrap i64 ((↑(dK (x0.2.1.getD v0.1.toNat (RK.cz RK.ag)).l):Int)-(1:Int)))) (RK.cz RK.ay)).num]):List Int)/\True) (Sum.inl (wrap i64 (v0.1+1),v0.2++[wrap u32 E6.num])))) (.br E9 T1 (.br Ht (.cn E5 (.lv (oB {Op:=24,A:=E7.ku,B:=0,C:=0,bh:=wrap i32 (bf u32 (wrap u32 E6.num) 16)}) λ(pz:Int×Bool)=>.cn E5 (.cn E5 (.lv (oB {Op:=18,A:=E7.ku,B:=E7.ku,C:=0,bh:=wrap i32 (bb u32 (wrap u32 E6.num) 65535)}) λ(ry:Int×Bool)=>.cn Bc (.nx ((True/\rZ/\True/\True/\True/\rE ((wrap i64 (v0.1+1)):Int)/\True)/\(rE (0:Int)/\rE (0:Int)/\True)/\rE x0.1/\rE x0.2.1/\rE ((v0.2++[pz.1,ry.1]):List Int)/\True) (Sum.inl (wrap i64 (v0.1+1),v0.2++[pz.1,ry.1]))))))) (.br Hu T2 (.br oF T3 (.an (Nd E4 E6.num) (.lv (UN E4 E6.num) λ(ug:Int×Bool)=>.br (!ug.2) (.lf (Sum.inr ([],{wR:=304,nd:=E4.D4}))) (.cn E8 (.nx ((True/\rZ/\True/\True/\True/\rE ((wrap i64 (v0.1+1)):Int)/\True)/\(rE (0:Int)/\rE (0:Int)/\True)/\rE x0.1/\rE x0.2.1/\rE ((v0.2++[ug.1]):List Int)/\True) (Sum.inl (wrap i64 (v0.1+1),v0.2++[ug.1]))))))))))))) (.br mL (.cn E8 (.nx ((True/\rZ/\True/\True/\True/\rE ((wrap i64 (v0.1+1)):Int)/\True)/\(rE (0:Int)/\rE (0:Int)/\True)/\rE x0.1/\rE x0.2.1/\rE ((v0.2++[wrap u32 0]):List Int)/\True) (Sum.inl (wrap i64 (v0.1+1),v0.2++[wrap u32 0])))) (.br E9 T1 (.br Ht (.cn E5 (.lv (oB {Op:=24,A:=E7.ku,B:=0,C:=0,bh:=wrap i32 (bf u32 (wrap u32 0) 16)}) λ(GC:Int×Bool)=>.cn E5 (.cn E5 (.lv (oB {Op:=18,A:=E7.ku,B:=E7.ku,C:=0,bh:=wrap i32 (bb u32 (wrap u32 0) 65535)}) λ(GF:Int×Bool)=>.cn Bc (.nx ((True/\rZ/\True/\True/\True/\rE ((wrap i64 (v0.1+1)):Int)/\True)/\(rE (0:Int)/\rE (0:Int)/\True)/\rE x0.1/\rE x0.2.1/\rE ((v0.2++[GC.1,GF.1]):List Int)/\True) (Sum.inl (wrap i64 (v0.1+1),v0.2++[GC.1,GF.1]))))))) (.br Hu T2 (.br oF T3 (.an (Nd E4 0) (.lv (UN E4 0) λ(EK:Int×Bool)=>.br (!EK.2) (.lf (Sum.inr ([],{wR:=304,nd:=E4.D4}))) (.cn E8 (.nx ((True/\rZ/\True/\True/\True/\rE ((wrap i64 (v0.1+1)):Int)/\True)/\(rE (0:Int)/\rE (0:Int)/\True)/\rE x0.1/\rE x0.2.1/\rE ((v0.2++[EK.1]):List Int)/\True) (Sum.inl (wrap i64 (v0.1+1),v0.2++[EK.1]))))))))))))) (.lf (Sum.inr (v0.2,{wR:=0,nd:=0})))))
def Kp src:=(Ng src).m
abbrev V2 src:=(Ng src).p
def Qz4:bw:={
 α:=(Int)×(List Int)
 F:=λst a=>([(2,(lk st 2)),(3,.ptr 0 0 0),(4,.all 1),(5,.all 2),(7,.all 3),(8,.int i64 a.1)],[⟨true,112,2,.gen [[(cT st 3 0),(cT st 3 1)]]⟩,⟨false,238,2,nW st.rows (rN st 4)⟩,⟨false,175,6,nW st.rows (rN st 5)⟩,⟨false,23,1,.ints u32 a.2⟩])
 a0:=λst=>((lk st 8).toInt,(rY st.rows (rN st 7)))
 ji:=λst=>[]++[(rX st 3 0),(rX st 4 1),(rX st 5 2),(rX st 7 3)]}
def Qyg:bw:={
 α:=(Int)×(List Int)
 F:=λst a=>([(2,(lk st 2)),(3,.ptr 0 0 0),(4,.all 1),(5,.all 2),(7,.all 4),(8,(lk st 8)),(9,.ptr 3 0 0),(14,.int i64 a.1)],[⟨true,112,2,.gen [[(cT st 3 0),(cT st 3 1)]]⟩,⟨false,238,2,nW st.rows (rN st 4)⟩,⟨false,175,6,nW st.rows (rN st 5)⟩,⟨true,175,6,.gen [[(cT st 9 0),(cT st 9 1),(cT st 9 2),(cT st 9 3),(cT st 9 4),(cT st 9 5)]]⟩,⟨false,23,1,.ints u32 a.2⟩])
 a0:=λst=>((lk st 14).toInt,(rY st.rows (rN st 7)))
 ji:=λst=>[]++[(rX st 3 0),(rX st 4 1),(rX st 5 2),(rX st 9 3),(rX st 7 4)]}
def Qs9:List (Nat×bw):=[(6,Qz4),(29,Qyg)]
def Z2b:ba:=mT 49 [] true [.one (.str)] [] (λa r=>Ng (gw a 0)) (λX=>.dt [.all 0,.agg (sU.cells (X.2))]) (λX=>[⟨false,23,1,.ints .u32 (X.1)⟩])
theorem Qy5:bj pG Z2b:=oT (.cons Zfv (.cons Qmz (.cons ZO (.cons Zc5 (.nil))))) Tryz.func49 Tryz.call49 [.row 23 1 (.ints .u32)] Qs9 3
end
noncomputable section
instance Rg {α β:Type} [Inhabited β]:Inhabited (α⊕β):=⟨.inr default⟩
end
noncomputable section
def BH:List UInt8:=[(105:UInt8),32,114,49,44,32,104,97,110,100,108,101,114,10,99,115,114,119,32,114,49,44,32,49,10,108,105,32,114,49,44,32,51,49,10,99,115,114,119,32,114]
def Kb:List UInt8:=[(49:UInt8),44,32,55,10,108,105,32,114,49,44,32,52,10,99,115,114,119,32,114,49,44,32,54,10,108,105,32,114,50,44,32,53,49,50,10,108,105,32,114,51,44]
def Kc:List UInt8:=[(32:UInt8),48,10,108,105,32,114,52,44,32,56,10,109,97,112,58,32,115,104,108,105,32,114,53,44,32,114,51,44,32,56,10,111,114,105,32,114,53,44,32,114,53]
def Kd:List UInt8:=[(44:UInt8),32,55,10,115,104,108,105,32,114,54,44,32,114,51,44,32,50,10,97,100,100,32,114,54,44,32,114,54,44,32,114,50,10,115,119,32,114,53,44,32,48,40]
def Ke:List UInt8:=[(114:UInt8),54,41,10,97,100,100,105,32,114,51,44,32,114,51,44,32,49,10,98,108,116,32,114,51,44,32,114,52,44,32,109,97,112,10,108,105,32,114,49,44,32]
def Z6:List UInt8:=[(54:UInt8),10,111,117,116,32,114,49,44,32,55,10,108,105,32,114,49,44,32,50,10,111,117,116,32,114,49,44,32,57,10,108,105,32,114,49,44,32,49,48,48,10,111]
def Kf:List UInt8:=[(117:UInt8),116,32,114,49,44,32,51,10,108,105,32,114,49,44,32,54,52,48,10,99,115,114,119,32,114,49,44,32,50,10,108,105,32,114,49,44,32,50,49,10,99]
def Kg:List UInt8:=[(115:UInt8),114,119,32,114,49,44,32,48,10,101,114,101,116,10,104,97,110,100,108,101,114,58,32,99,115,114,119,32,114,49,44,32,53,10,99,115,114,114,32,114,49,44]
def Kh:List UInt8:=[(32:UInt8),51,10,115,108,116,105,32,114,49,44,32,114,49,44,32,49,54,10,98,101,113,32,114,49,44,32,114,48,44,32,105,114,113,10,99,115,114,114,32,114,49]
def Ki:List UInt8:=[(44:UInt8),32,50,10,97,100,100,105,32,114,49,44,32,114,49,44,32,52,10,99,115,114,119,32,114,49,44,32,50,10,105,110,32,114,51,44,32,50,10,111,117,116]
def Kj:List UInt8:=[(32:UInt8),114,51,44,32,48,10,108,105,32,114,49,44,32,49,10,111,117,116,32,114,49,44,32,52,10,108,105,32,114,49,44,32,55,10,111,117,116,32,114,49,44]
def Kk:List UInt8:=[(32:UInt8),53,10,97,110,100,105,32,114,49,44,32,114,50,44,32,49,10,97,100,100,105,32,114,49,44,32,114,49,44,32,49,10,111,117,116,32,114,49,44,32,54,10]
def Kl:List UInt8:=[(99:UInt8),115,114,114,32,114,49,44,32,53,10,101,114,101,116,10,105,114,113,58,32,105,110,32,114,49,44,32,48,10,111,117,116,32,114,49,44,32,48,10,111,117]
def Km:List UInt8:=[(116:UInt8),32,114,48,44,32,54,10,111,117,116,32,114,48,44,32,57,10,108,105,32,114,49,44,32,54,10,111,117,116,32,114,49,44,32,55,10,108,105,32,114,49,44]
def Kn:List UInt8:=[(32:UInt8),50,10,111,117,116,32,114,49,44,32,57,10,105,110,32,114,49,44,32,50,10,97,100,100,105,32,114,49,44,32,114,49,44,32,50,48,10,111,117,116,32]
def Ko:List UInt8:=[(114:UInt8),49,44,32,51,10,105,110,32,114,49,44,32,49,48,10,111,117,116,32,114,49,44,32,49,48,10,99,115,114,114,32,114,49,44,32,53,10,101,114,101,116,10]
def Si:List UInt8:=[(108:UInt8),105,32,114,49,44,32,104,97,110,100,108,101,114,10,99,115,114,119,32,114,49,44,32,49,10,108,105,32,114,49,44,32,51,49,10,99,115,114,119,32,114]
instance Rh {α β:Type} [Inhabited β]:Inhabited (α⊕β):=⟨.inr default⟩
def Qjq(l:List ep)(z:(Int)):Prop:=1<=z/\(z<=l.length\/z=1)
def Qbl(l:List ep)(z:(Int)):Nat:=(l.length-z).toNat
def UO(l:List ep):Tree Bool:=
.lp inferInstance (Qbl l 1+1) ((nR RK.aj 4 l/\rE (1:Int)/\True)/\True) 1 λ(v0:Int)=>.br (decide (v0<(l.length:Int))) (let E4:=bT 4 4&&bJ 0 4&&decide (0<=v0/\v0<(l.length:Int));.cn E4 (let E2:=bT 4 4&&bJ 0 4&&decide (0<=wrap i64 (v0-1)/\wrap i64 (v0-1)<(l.length:Int));.cn E2 (let E3:=l.getD (dF (wrap i64 (v0-1))) (RK.cz RK.aj);let E5:=l.getD v0.toNat (RK.cz RK.aj);.br (decide (E5.At<E3.At)) (.lf (Sum.inr false)) (.cn E4 (.cn E2 (let T1:Tree ((Int)⊕(Bool)):=.nx ((nR RK.aj 4 l/\rE ((wrap i64 (v0+1)):Int)/\True)/\True) (Sum.inl (wrap i64 (v0+1)));.br (E5.At==E3.At) (.cn E2 (.br (E3.C7.C4==1) (.lf (Sum.inr false)) T1)) T1)))))) (.lf (Sum.inr true))
def Qxj l:=(UO l).m
def J9(l:List ep):Prop:=
l.length<=1000000000000
theorem Qz0(l:List ep)(hw:J9 l):(UO l).p:=by
 simp only[J9]at hw
 unfold Tree.p UO
 repeat'(first|refine fg (inv:=Qjq l) (μ:=Qbl l) ?_ (cO _) (λ_ _=>?_)|exact trivial|refine aa (λ_=>?_) (λ_=>?_)|refine ax ?_ ?_|refine cr ?_ ?_|refine aq (λ_ _=>?_)|refine ek ?_|refine bu ?_|refine And.intro ?_ ?_)
 all_goals((try simp only[Qjq,Qbl]at*);exact ou)
def Z0n:bw:={
 α:=(Int)
 F:=λst a=>([(0,(lk st 0)),(3,.int i64 a)],[])
 a0:=λst=>(lk st 3).toInt
 ji:=λst=>[]++[]}
def Qvo:List (Nat×bw):=[(2,Z0n)]
def Z5v:ba:=mo 102 [] true [.one (.bc .aj)] [] (λa r=>J9 (jc .aj a 0)) (λa r=>Qxj (jc .aj a 0)) (λX=>.bool X) (λX=>[])
theorem Z1h:bj pG Z5v:=uK drawn mM (.nil) Tryz.func102 Tryz.call102 (λa r=>UO (jc .aj a 0)) [] Qvo 3 (hp:=λa r h=>Qz0 (jc .aj a 0) h)
def MY(m:au)(script:List ep)(db:Int)(z:au×(List fm)):Nat:=(db-z.1.A0).toNat
def MZ(m:au)(script:List ep)(db:Int)(v0:au×List fm)(z:Unit):Nat:=0
def Q4(m:au)(script:List ep)(db:Int):Tree (au×(List fm)×Int×Int):=
.lv (tj m) λ(x0:Bool)=>let E2:=({A9:={X:={a0:=0,a1:=0,a2:=0,a3:=0,a4:=0,a5:=0,a6:=0,a7:=0,a8:=0,a9:=0,kj:=0,ko:=0,a12:=0,kp:=0,kq:=0,kr:=0},Pc:=0,B2:={a0:=0,a1:=0,a2:=0,a3:=0,a4:=0,a5:=0,a6:=0,a7:=0}},Mem:=[],A2:={C5:=[]},A7:={C9:=false,B8:=0,C8:=false},A6:={ab:=0,B9:=0,Frame:=0,B5:=0,D1:=0,B4:=0,B0:=0,B6:=[]},C1:={Frame:=0,D6:=0,C2:=false,B7:=0,B3:=false,D8:=0},A1:={C3:=0,C0:=0},A0:=0,A3:=false,A4:=false}:au);let T1:Tree ((au×(List fm)×Int×Int)):=.lf (E2,[],0,1300);.br (!x0) T1 (.br (decide (db<m.A0)) T1 (.br (decide (wrap u64 (db-m.A0)>4000)) T1 (.an (J9 []) (.lv (Qxj []) λ(x1:Bool)=>.br (!x1) (.lf (E2,[],0,1301)) (.an (Qin m) (.lv (N9 m) λ(x2:au)=>.lp inferInstance (MY m script db (x2,[])+1) ((((ak.Nil (ak.gen [])\/rE (0:Nat))/\rE ([]:List (List D)))/\rE (db:Int)/\rZ/\rZ/\True/\rE (0:Int)/\True)/\(mE x2 True True)/\rE x2.Mem/\(mE zM True True)/\rE ([]:List (RK.T RK.bd))/\True) (x2,[]) λ(v0:au×List fm)=>.br (decide (v0.1.A0<db)) (.br (decide (v0.1.A0<1152921504606846976)) (.lp inferInstance (MZ m script db v0 ()+1) ((((ak.Nil (ak.gen [])\/rE (0:Nat))/\rE ([]:List (List D)))/\rE (db:Int)/\rZ/\rZ/\True/\rE (0:Int)/\(rE (0:Nat)/\rE (46:Nat))/\rE v0.1.A0/\rE ((decide (v0.1.A0<1152921504606846976)):Bool)/\True)/\(mE v0.1 True True)/\rE v0.1.Mem/\(mE zM True True)/\rE v0.2/\True) () λ(v1:PUnit)=>.br v0.1.A4 (.lf (Sum.inr (Sum.inr (v0.1,v0.2,0,0)))) (.an (Qkr v0.1) (.lv (tl v0.1) λ(x3:Bool)=>.br x3 (.lf (Sum.inr (Sum.inr (v0.1,v0.2,0,0)))) (.an (Qiv v0.1) (.lv (py v0.1) λ(x4:Bool)=>.br (!false==x4) (.lf (Sum.inr (Sum.inr (E2,[],0,1302)))) (.an (Qer v0.1 0) (.lv (ga v0.1 0) λ(x5:List fm×au)=>.cn (decide (40*(v0.2.length+x5.1.length)<=140737488355328)) (.nx ((((ak.Nil (ak.gen [])\/rE (0:Nat))/\rE ([]:List (List D)))/\rE (db:Int)/\rZ/\rZ/\True/\rE (0:Int)/\True)/\(mE x5.2 True True)/\rE x5.2.Mem/\(mE zM True True)/\rE ((v0.2++x5.1):List (RK.T RK.bd))/\True) (Sum.inr (Sum.inl (x5.2,v0.2++x5.1))))))))))) (.lf (Sum.inr (v0.1,v0.2,0,0)))) (.lf (Sum.inr (v0.1,v0.2,0,0)))))))))
def Ie m script db:=(Q4 m script db).m
abbrev UP m script db:=(Q4 m script db).p
def Zbo:bw:={
 α:=au×(List fm)
 F:=λst a=>([(1,(lk st 1)),(2,(lk st 2)),(3,.ptr 0 0 0),(6,.ptr 2 0 0),(10,.all 3),(11,(lk st 11))],[⟨true,42,49,.gen [mD a.1 (.all 1)]⟩,⟨false,23,1,.ints u32 a.1.Mem⟩,⟨true,42,49,.gen [mB (cT st 6)]⟩,⟨false,137,4,.bc RK.bd a.2⟩])
 a0:=λst=>((mR (cT st 3) (rY st.rows (sZ (cT st 3 25) 1000000))),(Qf RK.bd st.rows (rN st 10)))
 ji:=λst=>[]++[(rX st 3 0),(sZ (cT st 3 25) (st.rows.length+1)),(rX st 6 2),(rX st 10 3)]}
def Z9l:bw:={
 α:=Unit
 F:=λst a=>([(1,(lk st 1)),(2,(lk st 2)),(3,.ptr 0 0 0),(6,.ptr 2 0 0),(10,.all 3),(11,(lk st 11)),(61,.ptr 0 0 46),(62,(lk st 62)),(63,(lk st 63))],[⟨true,42,49,.gen [[(cT st 3 0),(cT st 3 1),(cT st 3 2),(cT st 3 3),(cT st 3 4),(cT st 3 5),(cT st 3 6),(cT st 3 7),(cT st 3 8),(cT st 3 9),(cT st 3 10),(cT st 3 11),(cT st 3 12),(cT st 3 13),(cT st 3 14),(cT st 3 15),(cT st 3 16),(cT st 3 17),(cT st 3 18),(cT st 3 19),(cT st 3 20),(cT st 3 21),(cT st 3 22),(cT st 3 23),(cT st 3 24),.all 1,(cT st 3 26),(cT st 3 27),(cT st 3 28),(cT st 3 29),(cT st 3 30),(cT st 3 31),(cT st 3 32),(cT st 3 33),(cT st 3 34),(cT st 3 35),(cT st 3 36),(cT st 3 37),(cT st 3 38),(cT st 3 39),(cT st 3 40),(cT st 3 41),(cT st 3 42),(cT st 3 43),(cT st 3 44),(cT st 3 45),(cT st 3 46),(cT st 3 47),(cT st 3 48)]]⟩,⟨false,23,1,nW st.rows (sZ (cT st 3 25) 1000000)⟩,⟨true,42,49,.gen [mB (cT st 6)]⟩,⟨false,137,4,nW st.rows (rN st 10)⟩])
 a0:=λst=>()
 ji:=λst=>[]++[(rX st 3 0),(sZ (cT st 3 25) (st.rows.length+1)),(rX st 6 2),(rX st 10 3)]}
def Z2w:List (Nat×bw):=[(8,Zbo),(9,Z9l)]
def Zdn:ba:=mT 52 [] true [.agg au.sig,.one .nil,.one (.int .u64)] [] (λa r=>Q4 (au.of (aC a 0)) (jc .aj a 1) (ar a 2)) (λX=>.dt [.agg (au.gy (X.1) (.all 0)),.all 1,.int .i64 (X.2.2.1),.int .i64 (X.2.2.2)]) (λX=>[⟨false,23,1,.ints .u32 (X.1).Mem⟩,⟨false,137,4,.bc .bd (X.2.1)⟩])
theorem Zb3:bj pG Zdn:=oT (.cons Z0b (.cons Z1h (.cons Z2q (.cons Z9v (.cons Qx4 (.cons Zbk (.cons Qn4 (.nil)))))))) Tryz.func52 Tryz.call52 [.row 23 1 (.ints .u32),.row 137 4 (.bc .bd)] Z2w 3
def Ni(kind:Int)(l z:List Int):Nat:=160-z.length
def BI(kind:Int)(l:List Int):Tree au:=
.an (JF kind 3) (.lv (Fv kind 3) λ(x0:Int)=>.br (decide (x0<2)) (.an (V2 ((108:UInt8)::(BH++Kb++(Kc++Kd)++(Ke++Z6++(Kf++Kg))++(Kh++Ki++(Kj++Kk)++(Kl++Km++(Kn++Ko)))))) (.lv (Kp (cQ (cQ (cQ (cQ Si Kb) (cQ Kc Kd)) (cQ (cQ Ke Z6) (cQ Kf Kg))) (cQ (cQ (cQ Kh Ki) (cQ Kj Kk)) (cQ (cQ Kl Km) (cQ Kn Ko))))) λ(x1:List Int×sU)=>.lp inferInstance (Ni kind l x1.1+1) ((rE (x0:Int)/\((ak.Nil (ak.ints i64 l)\/rE (1:Nat))/\rE (l:List Int))/\rZ/\True/\True)/\(mE zM True True)/\rE x1.1/\True) x1.1 λ(v0:List Int)=>.br (decide ((v0.length:Int)<(160:Int))) (.cn (decide (4*(v0.length+1)<=140737488355328)) (.nx ((rE (x0:Int)/\((ak.Nil (ak.ints i64 l)\/rE (1:Nat))/\rE (l:List Int))/\rZ/\True/\True)/\(mE zM True True)/\rE ((v0++[0]):List Int)/\True) (Sum.inl (v0++[0])))) (.an (Qlh l) (.lv (Ls l) λ(x2:List Int)=>.cn (decide (4*(v0.length+x2.length)<=140737488355328)) (.br (decide ((↑(dK (v0++x2)):Int)>(256:Int))) (.cn (bT 1 1&&bJ 0 1&&decide ((0:Int)<=(0:Int)/\(0:Int)<=(256:Int)/\256<=(↑(dK (v0++x2)):Int))) (let E1:=cZ (dF 256-dF 0) (dA (dF 0) (v0++x2));.an (UG 8 4 E1) (.lv (kI 8 4 E1) λ(x3:au×Bool)=>.br (x0==1) (.an (UP x3.1 [] 87) (.lv (Ie x3.1 [] 87) λ(x4:au×List fm×Int×Int)=>.lf (Sum.inr x4.1))) (.lf (Sum.inr x3.1))))) (.an (UG 8 4 (v0++x2)) (.lv (kI 8 4 (v0++x2)) λ(x5:au×Bool)=>.br (x0==1) (.an (UP x5.1 [] 87) (.lv (Ie x5.1 [] 87) λ(x6:au×List fm×Int×Int)=>.lf (Sum.inr x6.1))) (.lf (Sum.inr x5.1))))))))) (.an (Qlh l) (.lv (Ls l) λ(x7:List Int)=>.cn (decide (4*(0+x7.length)<=140737488355328)) (.br (decide ((x7.length:Int)>(256:Int))) (.cn (bT 1 1&&bJ 0 1&&decide ((0:Int)<=(0:Int)/\(0:Int)<=(256:Int)/\256<=(x7.length:Int))) (let E2:=cZ (dF 256-dF 0) (dA (dF 0) x7);.an (UG 8 4 E2) (.lv (kI 8 4 E2) λ(x8:au×Bool)=>.br (x0==1) (.an (UP x8.1 [] 87) (.lv (Ie x8.1 [] 87) λ(x9:au×List fm×Int×Int)=>.lf x9.1)) (.lf x8.1)))) (.an (UG 8 4 x7) (.lv (kI 8 4 x7) λ(kZ:au×Bool)=>.br (x0==1) (.an (UP kZ.1 [] 87) (.lv (Ie kZ.1 [] 87) λ(nq:au×List fm×Int×Int)=>.lf nq.1)) (.lf kZ.1)))))))
def IH kind l:=(BI kind l).m
abbrev Qet kind l:=(BI kind l).p
def Z0z:bw:={
 α:=(List Int)
 F:=λst a=>([(0,(lk st 0)),(1,(lk st 1)),(4,.ptr 0 0 0),(5,.all 1)],[⟨true,42,49,.gen [mB (cT st 4)]⟩,⟨false,23,1,.ints u32 a⟩])
 a0:=λst=>(rY st.rows (rN st 5))
 ji:=λst=>[]++[(rX st 4 0),(rX st 5 1)]}
def Qv0:List (Nat×bw):=[(5,Z0z)]
def Z4h:ba:=mT 13 [] true [.one (.int .i64),.one (.ints .i64)] [] (λa r=>BI (ar a 0) (du .i64 a 1)) (λX=>.agg (au.gy X (.all 0))) (λX=>[⟨false,23,1,.ints .u32 X.Mem⟩])
theorem Qog:bj pG Z4h:=oT (.cons Qsf (.cons Qy5 (.cons Zew (.cons Zgg (.cons Zb3 (.nil)))))) Tryz.func13 Tryz.call13 [.row 23 1 (.ints .u32)] Qv0 3
end
noncomputable section
def Lo(m:au)(clock:Int):Tree (au×(List fm)):=
.an (Qin m) (.lv (N9 m) λ(x0:au)=>.an (Qiy x0) (.lv (sr x0) λ(x1:Bool)=>.br x1 (.lf (x0,[])) (.an (Qer x0 clock) (.lv (ga x0 clock) λ(x2:List fm×au)=>.lf (x2.2,x2.1)))))
def S3 m clock:=(Lo m clock).m
abbrev Qtp m clock:=(Lo m clock).p
def Zhm:ba:=mT 42 [] true [.agg au.sig,.one (.int .u32)] [] (λa r=>Lo (au.of (aC a 0)) (ar a 1)) (λX=>.dt [.agg (au.gy (X.1) (.all 0)),.sl 4 (.bc .bd (X.2)) true]) (λX=>[⟨false,23,1,.ints .u32 (X.1).Mem⟩])
theorem Zg4:bj pG Zhm:=oT (.cons Z2q (.cons Zax (.cons Qn4 (.nil)))) Tryz.func42 Tryz.call42 [.row 23 1 (.ints .u32),.sl (.bc .bd) true] [] 2
def S5(m:au)(e:jX):Tree (au×Bool):=
.an (Qin m) (.lv (N9 m) λ(x0:au)=>.lv (tj x0) λ(x1:Bool)=>.br (!x1) (.lf (x0,false)) (.an (Qqj x0 e) (.lv (tn x0 e) λ(x2:Bool×au)=>.lf (x2.2,x2.1))))
def Oa m e:=(S5 m e).m
def V8(t:iS):Tree (iS×Bool):=
.br (!t.C9) (.lf (t,false)) (.lf ({C9:=false,B8:=t.B8,C8:=true},true))
def Sm t:=(V8 t).m
def Zen:ba:=mS 74 [] true [.agg iS.sig] [] (λa r=>V8 (iS.of (aC a 0))) (λX=>.dt [.agg (iS.cells (X.1)),.bool (X.2)]) (λX=>[])
theorem Z8w:bj pG Zen:=oS (.nil) Tryz.func74 Tryz.call74 [] [] 2
def Nr(c:iO)(b:Int):Tree (iO×Bool):=
.br (decide ((c.C5.length:Int)>=(16:Int))) (.lf (c,false)) (.cn (decide (c.C5.length+1<=maxLen)) (.lf ({C5:=c.C5++[(λ(n:Int)=>UInt8.ofNat n.toNat) b]},true)))
def Qo5 c b:=(Nr c b).m
abbrev Qlw c b:=(Nr c b).p
def Z4t:ba:=mT 75 [] true [.agg iO.sig,.one (.int .u8)] [] (λa r=>Nr (iO.of (aC a 0)) (ar a 1)) (λX=>.dt [.agg (iO.cells (X.1)),.bool (X.2)]) (λX=>[])
theorem Z30:bj pG Z4t:=oT (.nil) Tryz.func75 Tryz.call75 [] [] 2
def Ks(d0:fe)(m:List Int)(e:jX):Tree (fe×(List Int)×Bool):=
let T2:Tree ((fe×(List Int)×Bool)):=.an (mh m) (.lv (jy m) λ(x0:List Int)=>.lf (d0,x0,false));.br (d0.B5 !=1) T2 (.br (e.C4 !=4) T2 (.br (decide (e.N>1)) T2 (.an (mh m) (.lv (jy m) λ(x3:List Int)=>let E3:=({ab:=d0.ab,B9:=d0.B9,Frame:=d0.Frame,B5:=2,D1:=0,B4:=0,B0:=0,B6:=[]}:fe);let E4:=({ab:=d0.ab,B9:=d0.B9,Frame:=d0.Frame,B5:=3,D1:=0,B4:=0,B0:=0,B6:=[]}:fe);let T1:Tree ((fe×(List Int)×Bool)):=.br (!decide (e.D2=[])) (.lf (d0,x3,false)) (.br (e.N==1) (.lf (E3,x3,true)) (.lf (E4,x3,true)));.br (e.N==1) (.br (d0.D1==1) (.lv (Ij m d0.B0) λ(x4:Bool)=>.br (!x4) (.lf (d0,x3,false)) (.an (ZK m (wrap i64 d0.B0) e.D2) (.lv (Dz m (wrap i64 d0.B0) e.D2) λ(x5:List Int×Bool)=>.br (!x5.2) (.lf (d0,x5.1,false)) (.br (e.N==1) (.lf (E3,x5.1,true)) (.lf (E4,x5.1,true)))))) T1) T1))))
def WZ d0 m e:=(Ks d0 m e).m
abbrev Qkd d0 m e:=(Ks d0 m e).p
def Z18:ba:=mT 76 [] true [.agg fe.sig,.one (.ints .u32),.agg jX.sig] [] (λa r=>Ks (fe.of (aC a 0)) (du .u32 a 1) (jX.of (aC a 2))) (λX=>.dt [.agg (fe.cells (X.1)),.all 0,.bool (X.2.2)]) (λX=>[⟨false,23,1,.ints .u32 (X.2.1)⟩])
theorem Qyx:bj pG Z18:=oT (.cons DQ (.cons Qqg (.cons ZL (.nil)))) Tryz.func76 Tryz.call76 [.row 23 1 (.ints .u32)] [] 2
def Kt(n:gq)(m:List Int)(frame:List UInt8):Tree (gq×(List Int)×Bool):=
let T1:Tree ((gq×(List Int)×Bool)):=.an (mh m) (.lv (jy m) λ(x0:List Int)=>.lf (n,x0,false));.br (!n.C2) T1 (.br (decide ((frame.length:Int)<(1:Int))) T1 (.br (decide ((frame.length:Int)>(128:Int))) T1 (.lv (F4 m n.B7) λ(x3:Bool)=>.br (!x3) T1 (.an (ZH m (wrap i64 n.B7)) (.lv (Dy m (wrap i64 n.B7)) λ(x5:List UInt8×Bool)=>.cn (decide (0<=(frame.length:Int)/\(frame.length:Int)<=(x5.1.length:Int)/\(x5.1.length:Int)<=(x5.1.length:Int))) (let E2:=dF (x5.1.length:Int)-dF (frame.length:Int);let E3:=dA (dF (frame.length:Int)) x5.1;.cn (decide (frame.length+dK (cZ E2 E3)<=maxLen)) (.an (ZK m (wrap i64 n.B7) (frame++cZ E2 E3)) (.lv (Dz m (wrap i64 n.B7) (frame++cZ E2 E3)) λ(x6:List Int×Bool)=>.lf ({Frame:=n.Frame,D6:=n.D6,C2:=false,B7:=0,B3:=true,D8:=wrap u32 (frame.length:Int)},x6.1,true)))))))))
def W0 n m frame:=(Kt n m frame).m
abbrev Qod n m frame:=(Kt n m frame).p
def Z9g:ba:=mT 77 [] true [.agg gq.sig,.one (.ints .u32),.one (.str)] [] (λa r=>Kt (gq.of (aC a 0)) (du .u32 a 1) (gw a 2)) (λX=>.dt [.agg (gq.cells (X.1)),.all 0,.bool (X.2.2)]) (λX=>[⟨false,23,1,.ints .u32 (X.2.1)⟩])
theorem Z5s:bj pG Z9g:=oT (.cons ZJ (.cons DQ (.cons ZI (.cons ZL (.nil))))) Tryz.func77 Tryz.call77 [.row 23 1 (.ints .u32)] [] 2
def Ge(m:au)(e:jX):Tree (au×Bool):=
.an (mh m.Mem) (.lv (jy m.Mem) λ(x0:List Int)=>let E2:=({A9:=m.A9,Mem:=x0,A2:=m.A2,A7:=m.A7,A6:=m.A6,C1:=m.C1,A1:=m.A1,A0:=m.A0,A3:=m.A3,A4:=m.A4}:au);.an (QR E2) (.lv (mF E2) λ(x1:Bool)=>let T1:Tree ((au×Bool)):=.lf (E2,false);.br (!x1) T1 (.br m.A4 T1 (.br (e.C4==2) (.br (e.N==0) (.br (decide (e.D2=[])) (.lv (Sm m.A7) λ(x2:iS×Bool)=>.lf ({A9:=m.A9,Mem:=x0,A2:=m.A2,A7:=x2.1,A6:=m.A6,C1:=m.C1,A1:=m.A1,A0:=m.A0,A3:=m.A3,A4:=m.A4},x2.2)) T1) T1) (.br (e.C4==3) (.br (decide (e.N<=255)) (.br (decide (e.D2=[])) (.an (Qlw m.A2 (wrap u8 e.N)) (.lv (Qo5 m.A2 (wrap u8 e.N)) λ(x3:iO×Bool)=>.lf ({A9:=m.A9,Mem:=x0,A2:=x3.1,A7:=m.A7,A6:=m.A6,C1:=m.C1,A1:=m.A1,A0:=m.A0,A3:=m.A3,A4:=m.A4},x3.2))) T1) T1) (.br (e.C4==4) (.an (Qkd m.A6 x0 e) (.lv (WZ m.A6 x0 e) λ(x4:fe×List Int×Bool)=>.lf ({A9:=m.A9,Mem:=x4.2.1,A2:=m.A2,A7:=m.A7,A6:=x4.1,C1:=m.C1,A1:=m.A1,A0:=m.A0,A3:=m.A3,A4:=m.A4},x4.2.2))) (.br (e.C4==5) (.br (e.N==0) (.an (Qod m.C1 x0 e.D2) (.lv (W0 m.C1 x0 e.D2) λ(x5:gq×List Int×Bool)=>.lf ({A9:=m.A9,Mem:=x5.2.1,A2:=m.A2,A7:=m.A7,A6:=m.A6,C1:=x5.1,A1:=m.A1,A0:=m.A0,A3:=m.A3,A4:=m.A4},x5.2.2))) T1) (.br (e.C4==6) (.br (decide (e.D2=[])) (.lf ({A9:=m.A9,Mem:=x0,A2:=m.A2,A7:=m.A7,A6:=m.A6,C1:=m.C1,A1:={C3:=e.N,C0:=m.A1.C0},A0:=m.A0,A3:=m.A3,A4:=m.A4},true)) T1) T1))))))))
def Lq m e:=(Ge m e).m
abbrev Qd6 m e:=(Ge m e).p
def Z2k:ba:=mT 32 [] true [.agg au.sig,.agg jX.sig] [] (λa r=>Ge (au.of (aC a 0)) (jX.of (aC a 1))) (λX=>.dt [.agg (au.gy (X.1) (.all 0)),.bool (X.2)]) (λX=>[⟨false,23,1,.ints .u32 (X.1).Mem⟩])
theorem Qzc:bj pG Z2k:=oT (.cons DQ (.cons ZF (.cons Z8w (.cons Z30 (.cons Qyx (.cons Z5s (.nil))))))) Tryz.func32 Tryz.call32 [.row 23 1 (.ints .u32)] [] 2
end
noncomputable section
instance Ri {α β:Type} [Inhabited β]:Inhabited (α⊕β):=⟨.inr default⟩
def UQ(b:List Int):(List Int):=
b
def Qay(b:List Int):List D:=[.ptr 0 0 0]
def Qax(b:List Int):List Row:=[⟨true,293,2,.gen [[.cy 0,.all 1]]⟩,⟨false,5,1,.ints .u8 b⟩]
def Q76(X:List Int):D:=.dt []
def Q6u(X:List Int):List Row:=[⟨true,293,2,.gen [[.cy 0,.all 1]]⟩,⟨false,5,1,.ints .u8 X⟩]
def Qbr:List PT:=[.ptr 0]
def Qb0:List RT:=[.box 293 2 [.self 0,.row 1],.arr 5 1 (.ints .u8)]
def Qkv(args:List D)(rows:List Row):(List Int):=UQ (gx .u8 rows 1)
def Qmv:ba:=DV 301 [true] true Qbr Qb0 Qkv Q76 Q6u
theorem Qj0(b:List Int):jZ pG 301 (Qay b) (Qax b) (Q76 (UQ b)) (Q6u (UQ b)):=by
 exact xG (ρ:=Tryz.jI) {Tryz.pY with} Tryz.iV.toX72 (by kernel_rfl) _
set_option maxRecDepth 100000 in
theorem Qj9(args:List D)(rows:List Row):lL Qbr args 0=Qay (gx .u8 rows 1):=by kernel_rfl
set_option maxRecDepth 100000 in
theorem Qiw(args:List D)(rows:List Row):kU Qb0 rows 0=Qax (gx .u8 rows 1):=by kernel_rfl
set_option maxRecDepth 100000 in
theorem Qmi(X:List Int):(uJ (Q76 X)&&jE (Q6u X))=true:=by kernel_rfl
theorem Qmk:bj pG Qmv:=zaa Tryz.call301 (λa r=>by rw[Qj9 a r,Qiw a r];exact Qj0 (gx .u8 r 1)) (λ_ X=>Qmi X)
def Ok(b:List Int)(s:List UInt8):Tree (Int×Unit×(List Int)):=
.lv (UQ b) λ(x0:List Int)=>.cn (decide (1*(x0.length+dK (jq s))<=140737488355328)) (.lf ((s.length:Int),(),x0++jq s))
def Q89 b s:=(Ok b s).m
abbrev Q5y b s:=(Ok b s).p
def Qkk:ba:=mc 1 258 [true,false] [.ptr 0,.one (.str)] [.box 293 2 [.self 0,.row 1],.arr 5 1 (.ints .u8)] (λa r=>Q5y (gx .u8 r 1) (gw a 1)) (λa r=>Q89 (gx .u8 r 1) (gw a 1)) (λX=>.dt [.int .i64 (X.1),.jF]) (λX=>[⟨true,293,2,.gen [[.cy 0,.all 1]]⟩,⟨false,5,1,.ints .u8 (X.2.2)⟩])
theorem Qb5:bj pG Qkk:=Fu drawn mM (.cons Qmk (.nil)) Tryz.func258 Tryz.call258 (λa r=>Ok (gx .u8 r 1) (gw a 1)) [.row 5 1 (.ints .u8)] [] 2 (λ_ _ _=>by kernel_rfl) (λ_ _=>rfl) (λ_ _ h=>h)
def Qed(x:Int)(z:(Int)×(List Int)):Nat:=z.1.toNat
def Oi(x:Int):Tree (List UInt8):=
.lp inferInstance (Qed x (x,[])+1) ((rE (x:Int)/\True/\True)/\rE ([]:List Int)/\True) (x,[]) λ(v0:Int×List Int)=>let E1:=decide (1*(v0.2.length+1)<=140737488355328);.br (decide (v0.1>=128)) (.cn E1 (.nx ((rE ((bf u64 v0.1 7):Int)/\True/\True)/\rE ((v0.2++[ie u8 (wrap u8 v0.1) 128]):List Int)/\True) (Sum.inl (bf u64 v0.1 7,v0.2++[ie u8 (wrap u8 v0.1) 128])))) (.cn E1 (.lf (Sum.inr (bytesOf (v0.2++[wrap u8 v0.1])))))
def Qnr x:=(Oi x).m
abbrev Qgs x:=(Oi x).p
def Qrt:bw:={
 α:=(Int)×(List Int)
 F:=λst a=>([(0,.int u64 a.1),(3,.all 0)],[⟨false,5,1,.ints u8 a.2⟩])
 a0:=λst=>((lk st 0).toInt,(rY st.rows (rN st 3)))
 ji:=λst=>[]++[(rX st 3 0)]}
def Qpt:List (Nat×bw):=[(2,Qrt)]
def Qvf:ba:=mT 286 [] true [.one (.int .u64)] [] (λa r=>Oi (ar a 0)) (λX=>.str X) (λX=>[])
theorem Qu9:bj pG Qvf:=oT (.nil) Tryz.func286 Tryz.call286 [] Qpt 3
def Q8s(c list:List Int)(z:(Int)×(List Int)):Nat:=(list.length-z.1).toNat
def Ol(c list:List Int):Tree (List Int):=
.lp inferInstance (Q8s c list (0,c)+1) ((rZ/\((ak.Nil (ak.ints u64 list)\/rE (1:Nat))/\rE (list:List Int))/\rE ((list.length:Int):Int)/\rE (0:Int)/\True)/\(True/\True/\True)/\rE (c:List Int)/\True) (0,c) λ(v0:Int×List Int)=>.br (decide (v0.1<(list.length:Int))) (.cn (bT 1 1&&bJ 0 1&&decide (0<=v0.1/\v0.1<(list.length:Int))) (.an (Qgs (list.getD v0.1.toNat 0)) (.lv (Qnr (list.getD v0.1.toNat 0)) λ(x0:List UInt8)=>.an (Q5y v0.2 x0) (.lv (Q89 v0.2 x0) λ(x1:Int×Unit×List Int)=>.nx ((rZ/\((ak.Nil (ak.ints u64 list)\/rE (1:Nat))/\rE (list:List Int))/\rE ((list.length:Int):Int)/\rE ((wrap i64 (v0.1+1)):Int)/\True)/\(True/\True/\True)/\rE x1.2.2/\True) (Sum.inl (wrap i64 (v0.1+1),x1.2.2)))))) (.lf (Sum.inr v0.2))
def Hv c list:=(Ol c list).m
abbrev Hw c list:=(Ol c list).p
def Qk5:bw:={
 α:=(Int)×(List Int)
 F:=λst a=>([(0,.ptr 0 0 0),(6,(lk st 6)),(7,(lk st 7)),(8,.int i64 a.1)],[⟨true,293,2,.gen [[.cy 0,.all 1]]⟩,⟨false,5,1,.ints u8 a.2⟩])
 a0:=λst=>((lk st 8).toInt,(rY st.rows (sZ (iM st.rows 0 1) 1000000)))
 ji:=λst=>[0]++[(sZ (iM st.rows 0 1) (st.rows.length+1))]}
def Qi1:List (Nat×bw):=[(1,Qk5)]
def Ql:ba:=mc 1 227 [true,false] [.ptr 0,.one (.ints .u64)] [.box 293 2 [.self 0,.row 1],.arr 5 1 (.ints .u8)] (λa r=>Hw (gx .u8 r 1) (du .u64 a 1)) (λa r=>Hv (gx .u8 r 1) (du .u64 a 1)) (λX=>.dt []) (λX=>[⟨true,293,2,.gen [[.cy 0,.all 1]]⟩,⟨false,5,1,.ints .u8 X⟩])
theorem UR:bj pG Ql:=Fu drawn mM (.cons Qb5 (.cons Qu9 (.nil))) Tryz.func227 Tryz.call227 (λa r=>Ol (gx .u8 r 1) (du .u64 a 1)) [.row 5 1 (.ints .u8)] Qi1 3 (λ_ _ _=>by kernel_rfl) (λ_ _=>rfl) (λ_ _ h=>h)
def Qa4(c list:List Int)(z:(Int)×(List Int)):Nat:=(list.length-z.1).toNat
def Om(c list:List Int):Tree (List Int):=
.lp inferInstance (Qa4 c list (0,c)+1) ((rZ/\((ak.Nil (ak.ints u32 list)\/rE (1:Nat))/\rE (list:List Int))/\rE ((list.length:Int):Int)/\rE (0:Int)/\True)/\(True/\True/\True)/\rE (c:List Int)/\True) (0,c) λ(v0:Int×List Int)=>.br (decide (v0.1<(list.length:Int))) (.cn (bT 1 1&&bJ 0 1&&decide (0<=v0.1/\v0.1<(list.length:Int))) (.an (Hw v0.2 [wrap u64 (list.getD v0.1.toNat 0)]) (.lv (Hv v0.2 [wrap u64 (list.getD v0.1.toNat 0)]) λ(x0:List Int)=>.nx ((rZ/\((ak.Nil (ak.ints u32 list)\/rE (1:Nat))/\rE (list:List Int))/\rE ((list.length:Int):Int)/\rE ((wrap i64 (v0.1+1)):Int)/\True)/\(True/\True/\True)/\rE (x0:List Int)/\True) (Sum.inl (wrap i64 (v0.1+1),x0))))) (.lf (Sum.inr v0.2))
def Bd c list:=(Om c list).m
abbrev Be c list:=(Om c list).p
def Qme:bw:={
 α:=(Int)×(List Int)
 F:=λst a=>([(0,.ptr 0 0 0),(6,(lk st 6)),(7,(lk st 7)),(8,.int i64 a.1)],[⟨true,293,2,.gen [[.cy 0,.all 1]]⟩,⟨false,5,1,.ints u8 a.2⟩])
 a0:=λst=>((lk st 8).toInt,(rY st.rows (sZ (iM st.rows 0 1) 1000000)))
 ji:=λst=>[0]++[(sZ (iM st.rows 0 1) (st.rows.length+1))]}
def Qka:List (Nat×bw):=[(1,Qme)]
def Qnj:ba:=mc 1 226 [true,false] [.ptr 0,.one (.ints .u32)] [.box 293 2 [.self 0,.row 1],.arr 5 1 (.ints .u8)] (λa r=>Be (gx .u8 r 1) (du .u32 a 1)) (λa r=>Bd (gx .u8 r 1) (du .u32 a 1)) (λX=>.dt []) (λX=>[⟨true,293,2,.gen [[.cy 0,.all 1]]⟩,⟨false,5,1,.ints .u8 X⟩])
theorem Qmd:bj pG Qnj:=Fu drawn mM (.cons UR (.nil)) Tryz.func226 Tryz.call226 (λa r=>Om (gx .u8 r 1) (du .u32 a 1)) [.row 5 1 (.ints .u8)] Qka 3 (λ_ _ _=>by kernel_rfl) (λ_ _=>rfl) (λ_ _ h=>h)
def Oo(c:List Int)(s:List UInt8):Tree (List Int):=
.an (Hw c [wrap u64 (s.length:Int)]) (.lv (Hv c [wrap u64 (s.length:Int)]) λ(x0:List Int)=>.an (Q5y x0 s) (.lv (Q89 x0 s) λ(x1:Int×Unit×List Int)=>.lf x1.2.2))
def Qak c s:=(Oo c s).m
abbrev Q77 c s:=(Oo c s).p
def Qnv:ba:=mc 1 228 [true,false] [.ptr 0,.one (.str)] [.box 293 2 [.self 0,.row 1],.arr 5 1 (.ints .u8)] (λa r=>Q77 (gx .u8 r 1) (gw a 1)) (λa r=>Qak (gx .u8 r 1) (gw a 1)) (λX=>.dt []) (λX=>[⟨true,293,2,.gen [[.cy 0,.all 1]]⟩,⟨false,5,1,.ints .u8 X⟩])
theorem Qmj:bj pG Qnv:=Fu drawn mM (.cons UR (.cons Qb5 (.nil))) Tryz.func228 Tryz.call228 (λa r=>Oo (gx .u8 r 1) (gw a 1)) [.row 5 1 (.ints .u8)] [] 2 (λ_ _ _=>by kernel_rfl) (λ_ _=>rfl) (λ_ _ h=>h)
def On(c:List Int)(Dc:Bool):Tree (List Int):=
.br Dc (.an (Hw c [1]) (.lv (Hv c [1]) λ(x0:List Int)=>.lf x0)) (.an (Hw c [0]) (.lv (Hv c [0]) λ(x1:List Int)=>.lf x1))
def Q3 c Dc:=(On c Dc).m
abbrev Q2 c Dc:=(On c Dc).p
def Qpw:ba:=mc 1 229 [true,false] [.ptr 0,.one (.bool)] [.box 293 2 [.self 0,.row 1],.arr 5 1 (.ints .u8)] (λa r=>Q2 (gx .u8 r 1) (uB a 1)) (λa r=>Q3 (gx .u8 r 1) (uB a 1)) (λX=>.dt []) (λX=>[⟨true,293,2,.gen [[.cy 0,.all 1]]⟩,⟨false,5,1,.ints .u8 X⟩])
theorem Qol:bj pG Qpw:=Fu drawn mM (.cons UR (.nil)) Tryz.func229 Tryz.call229 (λa r=>On (gx .u8 r 1) (uB a 1)) [.row 5 1 (.ints .u8)] [] 2 (λ_ _ _=>by kernel_rfl) (λ_ _=>rfl) (λ_ _ h=>h)
def US(b:List Int):((List UInt8)×(List Int)):=
(bytesOf b,b)
def Qe9(b:List Int):List D:=[.ptr 0 0 0]
def Qdu(b:List Int):List Row:=[⟨true,293,2,.gen [[.cy 0,.all 1]]⟩,⟨false,5,1,.ints .u8 b⟩]
def Qf0(X:((List UInt8)×(List Int))):D:=.str (X.1)
def Qf2(X:((List UInt8)×(List Int))):List Row:=[⟨true,293,2,.gen [[.cy 0,.sl 1 (.ints .u8 X.2) false]]⟩]
def Qf5:List PT:=[.ptr 0]
def Qec:List RT:=[.box 293 2 [.self 0,.row 1],.arr 5 1 (.ints .u8)]
def Qpu(args:List D)(rows:List Row):((List UInt8)×(List Int)):=US (gx .u8 rows 1)
def Qsb:ba:=Uv 1 230 [true] Qf5 Qec Qpu Qf0 Qf2
theorem Qmg(b:List Int):r9 pG 230 1 (Qe9 b) (Qdu b) (Qf0 (US b)) (Qf2 (US b)):=by
 exact ze (ρ:=Tryz.jI) (by decide) {Tryz.pY with} Tryz.iV _
set_option maxRecDepth 100000 in
theorem Qny(args:List D)(rows:List Row):lL Qf5 args 0=Qe9 (gx .u8 rows 1):=by kernel_rfl
set_option maxRecDepth 100000 in
theorem Qmb(args:List D)(rows:List Row):kU Qec rows 0=Qdu (gx .u8 rows 1):=by kernel_rfl
theorem Qrc:bj pG Qsb:=zaL (λ_=>Tryz.call230) (λa r=>by rw[Qny a r,Qmb a r];exact Qmg (gx .u8 r 1))
def Ov(m:au):Tree (List UInt8):=
.an (Be [] [m.A9.X.a0,m.A9.X.a1,m.A9.X.a2,m.A9.X.a3,m.A9.X.a4,m.A9.X.a5,m.A9.X.a6,m.A9.X.a7,m.A9.X.a8,m.A9.X.a9,m.A9.X.kj,m.A9.X.ko,m.A9.X.a12,m.A9.X.kp,m.A9.X.kq,m.A9.X.kr]) (.lv (Bd [] [m.A9.X.a0,m.A9.X.a1,m.A9.X.a2,m.A9.X.a3,m.A9.X.a4,m.A9.X.a5,m.A9.X.a6,m.A9.X.a7,m.A9.X.a8,m.A9.X.a9,m.A9.X.kj,m.A9.X.ko,m.A9.X.a12,m.A9.X.kp,m.A9.X.kq,m.A9.X.kr]) λ(x0:List Int)=>.an (Be x0 [m.A9.Pc]) (.lv (Bd x0 [m.A9.Pc]) λ(x1:List Int)=>.an (Be x1 [m.A9.B2.a0,m.A9.B2.a1,m.A9.B2.a2,m.A9.B2.a3,m.A9.B2.a4,m.A9.B2.a5,m.A9.B2.a6,m.A9.B2.a7]) (.lv (Bd x1 [m.A9.B2.a0,m.A9.B2.a1,m.A9.B2.a2,m.A9.B2.a3,m.A9.B2.a4,m.A9.B2.a5,m.A9.B2.a6,m.A9.B2.a7]) λ(x2:List Int)=>.an (Hw x2 [wrap u64 (m.Mem.length:Int)]) (.lv (Hv x2 [wrap u64 (m.Mem.length:Int)]) λ(x3:List Int)=>.an (Be x3 m.Mem) (.lv (Bd x3 m.Mem) λ(x4:List Int)=>.an (Q77 x4 m.A2.C5) (.lv (Qak x4 m.A2.C5) λ(x5:List Int)=>.an (Q2 x5 m.A7.C9) (.lv (Q3 x5 m.A7.C9) λ(x6:List Int)=>.an (Be x6 [m.A7.B8]) (.lv (Bd x6 [m.A7.B8]) λ(x7:List Int)=>.an (Q2 x7 m.A7.C8) (.lv (Q3 x7 m.A7.C8) λ(x8:List Int)=>.an (Be x8 [m.A6.ab,m.A6.B9,m.A6.Frame]) (.lv (Bd x8 [m.A6.ab,m.A6.B9,m.A6.Frame]) λ(x9:List Int)=>.an (Hw x9 [wrap u64 m.A6.B5,wrap u64 m.A6.D1]) (.lv (Hv x9 [wrap u64 m.A6.B5,wrap u64 m.A6.D1]) λ(kZ:List Int)=>.an (Be kZ [m.A6.B4,m.A6.B0]) (.lv (Bd kZ [m.A6.B4,m.A6.B0]) λ(nq:List Int)=>.an (Q77 nq m.A6.B6) (.lv (Qak nq m.A6.B6) λ(pz:List Int)=>.an (Be pz [m.C1.Frame,m.C1.D6]) (.lv (Bd pz [m.C1.Frame,m.C1.D6]) λ(ry:List Int)=>.an (Q2 ry m.C1.C2) (.lv (Q3 ry m.C1.C2) λ(uf:List Int)=>.an (Be uf [m.C1.B7]) (.lv (Bd uf [m.C1.B7]) λ(IK:List Int)=>.an (Q2 IK m.C1.B3) (.lv (Q3 IK m.C1.B3) λ(ug:List Int)=>.an (Be ug [m.C1.D8]) (.lv (Bd ug [m.C1.D8]) λ(GC:List Int)=>.an (Be GC [m.A1.C3,m.A1.C0]) (.lv (Bd GC [m.A1.C3,m.A1.C0]) λ(GF:List Int)=>.an (Hw GF [m.A0]) (.lv (Hv GF [m.A0]) λ(S8:List Int)=>.an (Q2 S8 m.A3) (.lv (Q3 S8 m.A3) λ(S9:List Int)=>.an (Q2 S9 m.A4) (.lv (Q3 S9 m.A4) λ(EK:List Int)=>.lv (US EK) λ(EL:List UInt8×List Int)=>.lf EL.1))))))))))))))))))))))
def XA m:=(Ov m).m
abbrev Qie m:=(Ov m).p
def Qyz:ba:=mT 150 [] true [.agg au.sig] [] (λa r=>Ov (au.of (aC a 0))) (λX=>.str X) (λX=>[])
theorem Qvp:bj pG Qyz:=oT (.cons Qmd (.cons UR (.cons Qmj (.cons Qol (.cons Qrc (.nil)))))) Tryz.func150 Tryz.call150 [] [] 2
def Qq(h0:Int)(s:List UInt8)(z:(Int)×(Int)):Prop:=0<=z.2/\z.2<=s.length
def Qh(h0:Int)(s:List UInt8)(z:(Int)×(Int)):Nat:=(s.length-z.2).toNat
def UT(h0:Int)(s:List UInt8):Tree Int:=
.lp inferInstance (Qh h0 s (h0,0)+1) ((rE (h0:Int)/\rE (s:List UInt8)/\rE ((s.length:Int):Int)/\rE (0:Int)/\True)/\True) (h0,0) λ(v0:Int×Int)=>.br (decide (v0.2<(s.length:Int))) (.cn (decide (0<=v0.2/\v0.2<(s.length:Int))) (.nx ((rE ((wrap u64 (mK u64 v0.1 (wrap u64 (↑(eW (s.getD v0.2.toNat (0:UInt8))):Int))*1099511628211)):Int)/\rE (s:List UInt8)/\rE ((s.length:Int):Int)/\rE ((wrap i64 (v0.2+1)):Int)/\True)/\True) (Sum.inl (wrap u64 (mK u64 v0.1 (wrap u64 (↑(eW (s.getD v0.2.toNat (0:UInt8))):Int))*1099511628211),wrap i64 (v0.2+1))))) (.lf (Sum.inr v0.1))
def Qo h0 s:=(UT h0 s).m
def UU(h0:Int)(s:List UInt8):Prop:=
s.length<=1000000000000
theorem Zbv(h0:Int)(s:List UInt8)(hw:UU h0 s):(UT h0 s).p:=by
 simp only[UU]at hw
 unfold Tree.p UT
 repeat'(first|refine fg (inv:=Qq h0 s) (μ:=Qh h0 s) ?_ (cO _) (λ_ _=>?_)|exact trivial|refine aa (λ_=>?_) (λ_=>?_)|refine ax ?_ ?_|refine cr ?_ ?_|refine aq (λ_ _=>?_)|refine ek ?_|refine bu ?_|refine And.intro ?_ ?_)
 all_goals((try simp only[Qq,Qh]at*);exact ou)
def Zdy:bw:={
 α:=(Int)×(Int)
 F:=λst a=>([(0,.int u64 a.1),(1,(lk st 1)),(7,(lk st 7)),(8,.int i64 a.2)],[])
 a0:=λst=>((lk st 0).toInt,(lk st 8).toInt)
 ji:=λst=>[]++[]}
def Z4s:List (Nat×bw):=[(2,Zdy)]
def Zhx:ba:=mo 149 [] true [.one (.int .u64),.one (.str)] [] (λa r=>UU (ar a 0) (gw a 1)) (λa r=>Qo (ar a 0) (gw a 1)) (λX=>.int .u64 X) (λX=>[])
theorem Ze3:bj pG Zhx:=uK drawn mM (.nil) Tryz.func149 Tryz.call149 (λa r=>UT (ar a 0) (gw a 1)) [] Z4s 3 (hp:=λa r h=>Zbv (ar a 0) (gw a 1) h)
def Oy(m:au):Tree Int:=
.an (Qie m) (.lv (XA m) λ(x0:List UInt8)=>.an (UU 14695981039346656037 x0) (.lv (Qo 14695981039346656037 x0) λ(x1:Int)=>.lf x1))
def Tc m:=(Oy m).m
abbrev Tb m:=(Oy m).p
def Z3v:ba:=mT 93 [] true [.agg au.sig] [] (λa r=>Oy (au.of (aC a 0))) (λX=>.int .u64 X) (λX=>[])
theorem Qmp:bj pG Z3v:=oT (.cons Ze3 (.cons Qvp (.nil))) Tryz.func93 Tryz.call93 [] [] 2
end
noncomputable section
instance Rj {α β:Type} [Inhabited β]:Inhabited (α⊕β):=⟨.inr default⟩
def Qnf(h0:Int)(s:List UInt8)(z:(Int)×(Int)):Nat:=(s.length-z.2).toNat
def Xz(h0:Int)(s:List UInt8):Tree Int:=
.lp inferInstance (Qnf h0 s (h0,0)+1) ((rE (h0:Int)/\rE (s:List UInt8)/\rE (0:Int)/\True)/\True) (h0,0) λ(v0:Int×Int)=>.br (decide (v0.2<(s.length:Int))) (.cn (decide (0<=v0.2/\v0.2<(s.length:Int))) (.nx ((rE ((wrap u64 (mK u64 v0.1 (wrap u64 (↑(eW (s.getD v0.2.toNat (0:UInt8))):Int))*1099511628211)):Int)/\rE (s:List UInt8)/\rE ((wrap i64 (v0.2+1)):Int)/\True)/\True) (Sum.inl (wrap u64 (mK u64 v0.1 (wrap u64 (↑(eW (s.getD v0.2.toNat (0:UInt8))):Int))*1099511628211),wrap i64 (v0.2+1))))) (.lf (Sum.inr v0.1))
def Ox h0 s:=(Xz h0 s).m
end
noncomputable section
instance Rk {α β:Type} [Inhabited β]:Inhabited (α⊕β):=⟨.inr default⟩
def Qjl(script:List ep)(z:(Int)):Prop:=1<=z/\(z<=script.length\/z=1)
def Lw(script:List ep)(z:(Int)):Nat:=(script.length-z).toNat
def Lv(script:List ep):Tree Bool:=
.lp inferInstance (Lw script 1+1) ((nR RK.aj 4 script/\rE (1:Int)/\True)/\True) 1 λ(v0:Int)=>.br (decide (v0<(script.length:Int))) (.cn (bT 4 4&&bJ 0 4&&decide (0<=wrap i64 (v0-1)/\wrap i64 (v0-1)<(script.length:Int))) (.cn (bT 4 4&&bJ 0 4&&decide (0<=v0/\v0<(script.length:Int))) (let E2:=script.getD (dF (wrap i64 (v0-1))) (RK.cz RK.aj);let E3:=script.getD v0.toNat (RK.cz RK.aj);.br (decide (E3.At<E2.At)) (.lf (Sum.inr false)) (let T1:Tree ((Int)⊕(Bool)):=.nx ((nR RK.aj 4 script/\rE ((wrap i64 (v0+1)):Int)/\True)/\True) (Sum.inl (wrap i64 (v0+1)));.br (E3.At==E2.At) (.br (E2.C7.C4==1) (.lf (Sum.inr false)) T1) T1)))) (.lf (Sum.inr true))
def Qxx script:=(Lv script).m
def UW(script:List ep):Prop:=
script.length<=1000000000000
theorem Qym(script:List ep)(hw:UW script):(Lv script).p:=by
 simp only[UW]at hw
 unfold Tree.p Lv
 repeat'(first|refine fg (inv:=Qjl script) (μ:=Lw script) ?_ (cO _) (λ_ _=>?_)|exact trivial|refine aa (λ_=>?_) (λ_=>?_)|refine ax ?_ ?_|refine cr ?_ ?_|refine aq (λ_ _=>?_)|refine ek ?_|refine bu ?_|refine And.intro ?_ ?_)
 all_goals((try simp only[Qjl,Lw]at*);exact ou)
def Z0e:bw:={
 α:=(Int)
 F:=λst a=>([(0,(lk st 0)),(3,.int i64 a)],[])
 a0:=λst=>(lk st 3).toInt
 ji:=λst=>[]++[]}
def Qwm:List (Nat×bw):=[(2,Z0e)]
def Z54:ba:=mo 268 [] true [.one (.bc .aj)] [] (λa r=>UW (jc .aj a 0)) (λa r=>Qxx (jc .aj a 0)) (λX=>.bool X) (λX=>[])
theorem Z35:bj pG Z54:=uK drawn mM (.nil) Tryz.func268 Tryz.call268 (λa r=>Lv (jc .aj a 0)) [] Qwm 3 (hp:=λa r h=>Qym (jc .aj a 0) h)
def Qm(m:au)(script:List ep)(db:Int)(z:(Int)):Nat:=(script.length-z).toNat
def OB(m:au)(script:List ep)(db:Int):Tree Int:=
.an (QR m) (.lv (mF m) λ(x0:Bool)=>.br (!x0) (.lf 1300) (.br (decide (db<m.A0)) (.lf 1300) (.br (decide (wrap u64 (db-m.A0)>4000)) (.lf 1300) (.br (decide ((script.length:Int)>(400:Int))) (.lf 1300) (.an (UW script) (.lv (Qxx script) λ(x1:Bool)=>.br (!x1) (.lf 1301) (.lp inferInstance (Qm m script db 0+1) ((rZ/\nR RK.aj 4 script/\rE ((script.length:Int):Int)/\rE (0:Int)/\True)/\(mE m (((ak.Nil (ak.ints u32 m.Mem)\/rE (1:Nat))/\rE m.Mem)) True)/\True) 0 λ(v0:Int)=>.br (decide (v0<(script.length:Int))) (.cn (bT 4 4&&bJ 0 4&&decide (0<=v0/\v0<(script.length:Int))) (.br (decide ((script.getD v0.toNat (RK.cz RK.aj)).At<m.A0)) (.lf (Sum.inr 1301)) (.nx ((rZ/\nR RK.aj 4 script/\rE ((script.length:Int):Int)/\rE ((wrap i64 (v0+1)):Int)/\True)/\(mE m (((ak.Nil (ak.ints u32 m.Mem)\/rE (1:Nat))/\rE m.Mem)) True)/\True) (Sum.inl (wrap i64 (v0+1)))))) (.lf (Sum.inr 0)))))))))
def Z6q m script db:=(OB m script db).m
abbrev Qpz m script db:=(OB m script db).p
def Z8h:bw:={
 α:=(Int)
 F:=λst a=>([(3,.ptr 0 0 0),(33,(lk st 33)),(34,(lk st 34)),(35,.int i64 a)],[⟨true,42,49,.gen [mB (cT st 3)]⟩])
 a0:=λst=>(lk st 35).toInt
 ji:=λst=>[]++[(rX st 3 0)]}
def Z1a:List (Nat×bw):=[(6,Z8h)]
def Zcu:ba:=mT 202 [] true [.agg au.sig,.one (.bc .aj),.one (.int .u64)] [] (λa r=>OB (au.of (aC a 0)) (jc .aj a 1) (ar a 2)) (λX=>.int .i64 X) (λX=>[])
theorem Z91:bj pG Zcu:=oT (.cons ZF (.cons Z35 (.nil))) Tryz.func202 Tryz.call202 [] Z1a 3
def Qqc(m:au)(script:List ep)(db:Int)(z:(Int)×au×(List fm)):Nat:=(db-z.2.1.A0).toNat
def Qqo(m:au)(script:List ep)(db:Int)(v0:Int×au×List fm)(z:(Int)×au):Nat:=(script.length-z.1).toNat
def OC(m:au)(script:List ep)(db:Int):Tree (au×(List fm)×Int×Int):=
.an (Qpz m script db) (.lv (Z6q m script db) λ(x0:Int)=>let E4:=({A9:={X:={a0:=0,a1:=0,a2:=0,a3:=0,a4:=0,a5:=0,a6:=0,a7:=0,a8:=0,a9:=0,kj:=0,ko:=0,a12:=0,kp:=0,kq:=0,kr:=0},Pc:=0,B2:={a0:=0,a1:=0,a2:=0,a3:=0,a4:=0,a5:=0,a6:=0,a7:=0}},Mem:=[],A2:={C5:=[]},A7:={C9:=false,B8:=0,C8:=false},A6:={ab:=0,B9:=0,Frame:=0,B5:=0,D1:=0,B4:=0,B0:=0,B6:=[]},C1:={Frame:=0,D6:=0,C2:=false,B7:=0,B3:=false,D8:=0},A1:={C3:=0,C0:=0},A0:=0,A3:=false,A4:=false}:au);.br (x0 !=0) (.lf (E4,[],0,x0)) (.an (mh m.Mem) (.lv (jy m.Mem) λ(x1:List Int)=>let E7:=({A9:=m.A9,Mem:=x1,A2:=m.A2,A7:=m.A7,A6:=m.A6,C1:=m.C1,A1:=m.A1,A0:=m.A0,A3:=m.A3,A4:=m.A4}:au);.lp inferInstance (Qqc m script db (0,E7,[])+1) ((nR RK.aj 4 script/\rE (db:Int)/\rZ/\rZ/\True/\rE (0:Int)/\rE (0:Int)/\True)/\(mE m (rE (x1:List Int)) True)/\(mE zM True True)/\rE ([]:List (RK.T RK.bd))/\True) (0,E7,[]) λ(v0:Int×au×List fm)=>.br (decide (v0.2.1.A0<db)) (.br (decide (v0.2.1.A0<1152921504606846976)) (.lp inferInstance (Qqo m script db v0 (v0.1,v0.2.1)+1) ((nR RK.aj 4 script/\rE (db:Int)/\rZ/\rZ/\True/\rE (0:Int)/\rE v0.1/\(rE (0:Nat)/\rE (46:Nat))/\rE v0.2.1.A0/\rE ((decide (v0.2.1.A0<1152921504606846976)):Bool)/\True)/\(mE v0.2.1 (((ak.Nil (ak.ints u32 v0.2.1.Mem)\/nA Nat 1 1)/\rE v0.2.1.Mem)) True)/\(mE zM True True)/\rE v0.2.2/\True) (v0.1,v0.2.1) λ(v1:Int×au)=>let E5:=bT 4 4&&bJ 0 4&&decide (0<=v1.1/\v1.1<(script.length:Int));let E6:=script.getD v1.1.toNat (RK.cz RK.aj);let E8:=decide (v1.1<(script.length:Int));let T1:Tree ((Int×au)⊕((Int×au×List fm)⊕((au×(List fm)×Int×Int)))):=.br v1.2.A4 (.lf (Sum.inr (Sum.inr (v1.2,v0.2.2,v1.1,0)))) (.an (Xp v1.2) (.lv (KJ v1.2) λ(x3:Bool)=>.br x3 (.br E8 (.lf (Sum.inr (Sum.inr (E4,[],0,1303)))) (.lf (Sum.inr (Sum.inr (v1.2,v0.2.2,v1.1,0))))) (let T2:Tree ((Int×au)⊕((Int×au×List fm)⊕((au×(List fm)×Int×Int)))):=.an (Ob v1.2 0) (.lv (Am v1.2 0) λ(x6:au×List fm)=>.cn (decide (40*(v0.2.2.length+x6.2.length)<=140737488355328)) (.nx ((nR RK.aj 4 script/\rE (db:Int)/\rZ/\rZ/\True/\rE (0:Int)/\rE v1.1/\True)/\(mE x6.1 (((ak.Nil (ak.ints u32 x6.1.Mem)\/rE (1:Nat))/\rE x6.1.Mem)) True)/\(mE zM True True)/\rE ((v0.2.2++x6.2):List (RK.T RK.bd))/\True) (Sum.inr (Sum.inl (v1.1,x6.1,v0.2.2++x6.2)))));let T3:Tree ((Int×au)⊕((Int×au×List fm)⊕((au×(List fm)×Int×Int)))):=.lf (Sum.inr (Sum.inr (E4,[],0,1302)));.br E8 (.cn E5 (.an (Q8 v1.2) (.lv (Oe v1.2) λ(x4:Bool)=>.br (!x4==(E6.At==v1.2.A0)) T3 (.br (E6.At==v1.2.A0) (.cn E5 (.an (Ob v1.2 E6.C7.N) (.lv (Am v1.2 E6.C7.N) λ(x5:au×List fm)=>.cn (decide (40*(v0.2.2.length+x5.2.length)<=140737488355328)) (.nx ((nR RK.aj 4 script/\rE (db:Int)/\rZ/\rZ/\True/\rE (0:Int)/\rE ((wrap i64 (v1.1+1)):Int)/\True)/\(mE x5.1 (((ak.Nil (ak.ints u32 x5.1.Mem)\/rE (1:Nat))/\rE x5.1.Mem)) True)/\(mE zM True True)/\rE ((v0.2.2++x5.2):List (RK.T RK.bd))/\True) (Sum.inr (Sum.inl (wrap i64 (v1.1+1),x5.1,v0.2.2++x5.2))))))) T2)))) (.an (Q8 v1.2) (.lv (Oe v1.2) λ(x7:Bool)=>.br (!x7==false) T3 T2)))));.br E8 (.cn E5 (.br (E6.At==v1.2.A0) (.cn E5 (.br (E6.C7.C4 !=1) (.cn E5 (.an (Qd6 v1.2 E6.C7) (.lv (Lq v1.2 E6.C7) λ(x2:au×Bool)=>.nx ((nR RK.aj 4 script/\rE (db:Int)/\rZ/\rZ/\True/\rE (0:Int)/\rE ((wrap i64 (v1.1+1)):Int)/\(rE (0:Nat)/\rE (46:Nat))/\rE v0.2.1.A0/\rE ((decide (v0.2.1.A0<1152921504606846976)):Bool)/\True)/\(mE x2.1 (rE x2.1.Mem) True)/\(mE zM True True)/\rE v0.2.2/\True) (Sum.inl (wrap i64 (v1.1+1),x2.1))))) T1)) T1)) T1) (.lf (Sum.inr (v0.2.1,v0.2.2,v0.1,0)))) (.lf (Sum.inr (v0.2.1,v0.2.2,v0.1,0))))))
def UX m script db:=(OC m script db).m
abbrev OR m script db:=(OC m script db).p
def Zgx:bw:={
 α:=(Int)×au×(List fm)
 F:=λst a=>([(1,(lk st 1)),(2,(lk st 2)),(3,.ptr 0 0 0),(6,.ptr 1 0 0),(11,.all 2),(12,(lk st 12)),(13,.int i64 a.1)],[⟨true,42,49,.gen [mD a.2.1 (.sl 1 (.ints u32 a.2.1.Mem) false)]⟩,⟨true,42,49,.gen [mB (cT st 6)]⟩,⟨false,137,4,.bc RK.bd a.2.2⟩])
 a0:=λst=>((lk st 13).toInt,(mR (cT st 3) (H0 u32 st.rows (cT st 3 25))),(Qf RK.bd st.rows (rN st 11)))
 ji:=λst=>[]++[(rX st 3 0),(rX st 6 1),(rX st 11 2)]}
def Zin:bw:={
 α:=(Int)×au
 F:=λst a=>([(1,(lk st 1)),(2,(lk st 2)),(3,.ptr 0 0 0),(6,.ptr 1 0 0),(11,.all 2),(12,(lk st 12)),(13,.int i64 a.1),(34,.ptr 0 0 46),(35,(lk st 35)),(36,(lk st 36))],[⟨true,42,49,.gen [mD a.2 (.sl 1 (.ints u32 a.2.Mem) false)]⟩,⟨true,42,49,.gen [mB (cT st 6)]⟩,⟨false,137,4,nW st.rows (rN st 11)⟩])
 a0:=λst=>((lk st 13).toInt,(mR (cT st 3) (H0 u32 st.rows (cT st 3 25))))
 ji:=λst=>[]++[(rX st 3 0),(rX st 6 1),(rX st 11 2)]}
def Zbq:List (Nat×bw):=[(8,Zgx),(9,Zin)]
def Zny:ba:=ba.fz<|mo 138 [] false [.agg au.sig,.one (.bc .aj),.one (.int .u64)] [] (λa r=>OR (au.of (aC a 0)) (jc .aj a 1) (ar a 2)) (λa r=>UX (au.of (aC a 0)) (jc .aj a 1) (ar a 2)) (λX=>.dt [.agg (au.cells (X.1)),.all 0,.int .i64 (X.2.2.1),.int .i64 (X.2.2.2)]) (λX=>[⟨false,137,4,.bc .bd (X.2.1)⟩])
theorem Qqs:bj pG Zny:=L7<|uK drawn mM (.cons Z91 (.cons DQ (.cons Qzc (.cons Qo7 (.cons Qnx (.cons Z16 (.nil))))))) Tryz.func138 Tryz.call138 (λa r=>OC (au.of (aC a 0)) (jc .aj a 1) (ar a 2)) [.sl (.ints .u32) false,.row 137 4 (.bc .bd)] Zbq 3 (λ_ _ _=>by kernel_rfl) (λ_ _=>rfl) (λ_ _ h=>h) (λh=>by cases h)
end
noncomputable section
def Qjf(m:au)(script:List ep)(dk:List Int)(z:(Int)×(Int)):Nat:=(dk.length-z.2).toNat
def OL(m:au)(script:List ep)(dk:List Int):Tree Int:=
.br (decide ((dk.length:Int)>(400:Int))) (.lf 4300) (.lp inferInstance (Qjf m script dk (m.A0,0)+1) ((nR RK.aj 4 script/\rZ/\rE m.A0/\((ak.Nil (ak.ints u64 dk)\/rE (1:Nat))/\rE (dk:List Int))/\rE ((dk.length:Int):Int)/\rE (0:Int)/\True)/\(mE m (((ak.Nil (ak.ints u32 m.Mem)\/rE (1:Nat))/\rE m.Mem)) True)/\True) (m.A0,0) λ(v0:Int×Int)=>.br (decide (v0.2<(dk.length:Int))) (.cn (bT 1 1&&bJ 0 1&&decide (0<=v0.2/\v0.2<(dk.length:Int))) (.br (decide (dk.getD v0.2.toNat 0<v0.1)) (.lf (Sum.inr 4300)) (.br (decide (wrap u64 (dk.getD v0.2.toNat 0-v0.1)>4000)) (.lf (Sum.inr 4300)) (.nx ((nR RK.aj 4 script/\rZ/\rE ((dk.getD v0.2.toNat 0):Int)/\((ak.Nil (ak.ints u64 dk)\/rE (1:Nat))/\rE (dk:List Int))/\rE ((dk.length:Int):Int)/\rE ((wrap i64 (v0.2+1)):Int)/\True)/\(mE m (((ak.Nil (ak.ints u32 m.Mem)\/rE (1:Nat))/\rE m.Mem)) True)/\True) (Sum.inl (dk.getD v0.2.toNat 0,wrap i64 (v0.2+1))))))) (.an (OR m script m.A0) (.lv (UX m script m.A0) λ(x0:au×List fm×Int×Int)=>.lf (Sum.inr x0.2.2.2))))
def Qr3 m script dk:=(OL m script dk).m
abbrev Qgg m script dk:=(OL m script dk).p
def Z4:bw:={
 α:=(Int)×(Int)
 F:=λst a=>([(1,(lk st 1)),(3,.ptr 0 0 0),(7,.int u64 a.1),(19,(lk st 19)),(20,(lk st 20)),(21,.int i64 a.2)],[⟨true,42,49,.gen [mB (cT st 3)]⟩])
 a0:=λst=>((lk st 7).toInt,(lk st 21).toInt)
 ji:=λst=>[]++[(rX st 3 0)]}
def Qzb:List (Nat×bw):=[(5,Z4)]
def Z8d:ba:=mT 80 [] true [.agg au.sig,.one (.bc .aj),.one (.ints .u64)] [] (λa r=>OL (au.of (aC a 0)) (jc .aj a 1) (du .u64 a 2)) (λX=>.int .i64 X) (λX=>[])
theorem Qq0:bj pG Z8d:=oT (.cons Qqs (.nil)) Tryz.func80 Tryz.call80 [] Qzb 3
end
noncomputable section
end
noncomputable section
def O1(s:List UInt8)(n:Int):Tree (List UInt8):=
.cn (decide (s.length+1<=maxLen)) (.an (V0 n) (.lv (ZS n) λ(x0:List UInt8)=>.cn (decide (dK (s++[(32:UInt8)])+x0.length<=maxLen)) (.lf (s++[(32:UInt8)]++x0))))
def Qdg s n:=(O1 s n).m
abbrev Q81 s n:=(O1 s n).p
def Qz1:ba:=mT 92 [] true [.one (.str),.one (.int .i64)] [] (λa r=>O1 (gw a 0) (ar a 1)) (λX=>.str X) (λX=>[])
theorem Qvm:bj pG Qz1:=oT (.cons Qop (.nil)) Tryz.func92 Tryz.call92 [] [] 2
def Qgk(a b:au)(z:(Int)):Nat:=(16-z).toNat
def Qhn(a b:au)(z:(Int)):Nat:=(8-z).toNat
def Qhm(a b:au)(z:(Int)):Nat:=(a.Mem.length-z).toNat
def O2(a b:au):Tree (List UInt8):=
.lp inferInstance (Qgk a b 0+1) ((rZ/\rZ/\rE (0:Int)/\True)/\(mE a (((ak.Nil (ak.ints u32 a.Mem)\/rE (1:Nat))/\rE a.Mem)) True)/\(mE b (((ak.Nil (ak.ints u32 b.Mem)\/rE (1:Nat))/\rE b.Mem)) True)/\True) 0 λ(v0:Int)=>.br (decide (v0<16)) (let E1:=bJ 0 1&&decide (0<=v0/\v0<(↑16:Int));.cn E1 (.cn E1 (.br (aK (fv.l a.A9.X) v0.toNat 0 !=aK (fv.l b.A9.X) v0.toNat 0) (.an (Q81 [(120:UInt8)] v0) (.lv (Qdg [(120:UInt8)] v0) λ(x0:List UInt8)=>.lf (Sum.inr x0))) (.nx ((rZ/\rZ/\rE ((wrap i64 (v0+1)):Int)/\True)/\(mE a (((ak.Nil (ak.ints u32 a.Mem)\/rE (1:Nat))/\rE a.Mem)) True)/\(mE b (((ak.Nil (ak.ints u32 b.Mem)\/rE (1:Nat))/\rE b.Mem)) True)/\True) (Sum.inl (wrap i64 (v0+1))))))) (.br (a.A9.Pc !=b.A9.Pc) (.lf (Sum.inr [(112:UInt8),99])) (.lp inferInstance (Qhn a b 0+1) ((rZ/\rZ/\rE (0:Int)/\True)/\(mE a (((ak.Nil (ak.ints u32 a.Mem)\/rE (1:Nat))/\rE a.Mem)) True)/\(mE b (((ak.Nil (ak.ints u32 b.Mem)\/rE (1:Nat))/\rE b.Mem)) True)/\True) 0 λ(v1:Int)=>.br (decide (v1<8)) (let E2:=bJ 0 1&&decide (0<=v1/\v1<(↑8:Int));.cn E2 (.cn E2 (.br (aK (A8.l a.A9.B2) v1.toNat 0 !=aK (A8.l b.A9.B2) v1.toNat 0) (.an (Q81 [(99:UInt8),115,114] v1) (.lv (Qdg [(99:UInt8),115,114] v1) λ(x1:List UInt8)=>.lf (Sum.inr (Sum.inr x1)))) (.nx ((rZ/\rZ/\rE ((wrap i64 (v1+1)):Int)/\True)/\(mE a (((ak.Nil (ak.ints u32 a.Mem)\/rE (1:Nat))/\rE a.Mem)) True)/\(mE b (((ak.Nil (ak.ints u32 b.Mem)\/rE (1:Nat))/\rE b.Mem)) True)/\True) (Sum.inl (wrap i64 (v1+1))))))) (.br ((a.Mem.length:Int) !=(b.Mem.length:Int)) (.lf (Sum.inr (Sum.inr [(109:UInt8),101,109]))) (.lp inferInstance (Qhm a b 0+1) ((rZ/\rZ/\rE (0:Int)/\True)/\(mE a (((ak.Nil (ak.ints u32 a.Mem)\/rE (1:Nat))/\rE a.Mem)) True)/\(mE b (((ak.Nil (ak.ints u32 b.Mem)\/rE (1:Nat))/\rE b.Mem)) True)/\True) 0 λ(v2:Int)=>.br (decide (v2<(a.Mem.length:Int))) (.cn (bT 1 1&&bJ 0 1&&decide (0<=v2/\v2<(a.Mem.length:Int))) (.cn (bT 1 1&&bJ 0 1&&decide (0<=v2/\v2<(b.Mem.length:Int))) (.br (a.Mem.getD v2.toNat 0 !=b.Mem.getD v2.toNat 0) (.an (Q81 [(109:UInt8),101,109] v2) (.lv (Qdg [(109:UInt8),101,109] v2) λ(x2:List UInt8)=>.lf (Sum.inr (Sum.inr (Sum.inr x2))))) (.nx ((rZ/\rZ/\rE ((wrap i64 (v2+1)):Int)/\True)/\(mE a (((ak.Nil (ak.ints u32 a.Mem)\/rE (1:Nat))/\rE a.Mem)) True)/\(mE b (((ak.Nil (ak.ints u32 b.Mem)\/rE (1:Nat))/\rE b.Mem)) True)/\True) (Sum.inl (wrap i64 (v2+1))))))) (.br (!eqs [D.str a.A2.C5] [D.str b.A2.C5]) (.lf (Sum.inr (Sum.inr (Sum.inr [(99:UInt8),111,110,115,111,108,101])))) (.br (!eqs [D.bool a.A7.C9,D.int u32 a.A7.B8,D.bool a.A7.C8] [D.bool b.A7.C9,D.int u32 b.A7.B8,D.bool b.A7.C8]) (.lf (Sum.inr (Sum.inr (Sum.inr [(116:UInt8),105,109,101,114])))) (.br (!eqs [D.int u32 a.A6.ab,D.int u32 a.A6.B9,D.int u32 a.A6.Frame,D.int i64 a.A6.B5,D.int i64 a.A6.D1,D.int u32 a.A6.B4,D.int u32 a.A6.B0,D.str a.A6.B6] [D.int u32 b.A6.ab,D.int u32 b.A6.B9,D.int u32 b.A6.Frame,D.int i64 b.A6.B5,D.int i64 b.A6.D1,D.int u32 b.A6.B4,D.int u32 b.A6.B0,D.str b.A6.B6]) (.lf (Sum.inr (Sum.inr (Sum.inr [(100:UInt8),105,115,107])))) (.br (!eqs [D.int u32 a.C1.Frame,D.int u32 a.C1.D6,D.bool a.C1.C2,D.int u32 a.C1.B7,D.bool a.C1.B3,D.int u32 a.C1.D8] [D.int u32 b.C1.Frame,D.int u32 b.C1.D6,D.bool b.C1.C2,D.int u32 b.C1.B7,D.bool b.C1.B3,D.int u32 b.C1.D8]) (.lf (Sum.inr (Sum.inr (Sum.inr [(110:UInt8),105,99])))) (.br (!eqs [D.int u32 a.A1.C3,D.int u32 a.A1.C0] [D.int u32 b.A1.C3,D.int u32 b.A1.C0]) (.lf (Sum.inr (Sum.inr (Sum.inr [(98:UInt8),97,108,108,111,111,110])))) (.br (a.A0 !=b.A0) (.lf (Sum.inr (Sum.inr (Sum.inr [(99:UInt8),111,117,110,116])))) (.br (!a.A3==b.A3) (.lf (Sum.inr (Sum.inr (Sum.inr [(119:UInt8),97,105,116,105,110,103])))) (.br (!a.A4==b.A4) (.lf (Sum.inr (Sum.inr (Sum.inr [(104:UInt8),97,108,116,101,100])))) (.lf (Sum.inr (Sum.inr (Sum.inr []))))))))))))))))
def Qt1 a b:=(O2 a b).m
abbrev Qjr a b:=(O2 a b).p
def Qz6:bw:={
 α:=(Int)
 F:=λst a=>([(2,.ptr 0 0 0),(3,.ptr 1 0 0),(5,.int i64 a)],[⟨true,42,49,.gen [mB (cT st 2)]⟩,⟨true,42,49,.gen [mB (cT st 3)]⟩])
 a0:=λst=>(lk st 5).toInt
 ji:=λst=>[]++[(rX st 2 0),(rX st 3 1)]}
def Qyh:bw:={
 α:=(Int)
 F:=λst a=>([(2,.ptr 0 0 0),(3,.ptr 1 0 0),(6,.int i64 a)],[⟨true,42,49,.gen [mB (cT st 2)]⟩,⟨true,42,49,.gen [mB (cT st 3)]⟩])
 a0:=λst=>(lk st 6).toInt
 ji:=λst=>[]++[(rX st 2 0),(rX st 3 1)]}
def Qyk:bw:={
 α:=(Int)
 F:=λst a=>([(2,.ptr 0 0 0),(3,.ptr 1 0 0),(7,.int i64 a)],[⟨true,42,49,.gen [mB (cT st 2)]⟩,⟨true,42,49,.gen [mB (cT st 3)]⟩])
 a0:=λst=>(lk st 7).toInt
 ji:=λst=>[]++[(rX st 2 0),(rX st 3 1)]}
def Qu5:List (Nat×bw):=[(2,Qz6),(9,Qyh),(16,Qyk)]
def Z1c:ba:=mT 44 [] true [.agg au.sig,.agg au.sig] [] (λa r=>O2 (au.of (aC a 0)) (au.of (aC a 1))) (λX=>.str X) (λX=>[])
theorem Qyl:bj pG Z1c:=oT (.cons Qvm (.nil)) Tryz.func44 Tryz.call44 [] Qu5 3
end
noncomputable section
def OM(i hash err:Int)(kK:List fy)(kQ:List Int)(tp:Int):Tree (Bool×(List fy)×(List Int)×Int):=
.cn (bT 1 1&&bJ 0 1&&decide (0<=i/\i<(kQ.length:Int))) (.cn (decide (16*(kK.length+1)<=140737488355328)) (.lf (true,kK++[{At:=kQ.getD i.toNat 0,D0:=hash}],kQ,err)))
def Qkt i hash err kK kQ tp:=(OM i hash err kK kQ tp).m
abbrev Qd0 i hash err kK kQ tp:=(OM i hash err kK kQ tp).p
def Z12:ba:=mc 3 82 [false,false,false,true,true,true] [.one (.int .i64),.one (.int .u64),.one (.int .i64),.ptr 0,.ptr 1,.ptr 2] [.box 87 1 [.row 3],.box 91 1 [.ints .u64],.box 88 1 [.int .i64],.arr 100 2 (.bc .ae)] (λa r=>Qd0 (ar a 0) (ar a 1) (ar a 2) (AI .ae r 3) (ng .u64 (nG r 1 0)) (nG r 2 0).toInt) (λa r=>Qkt (ar a 0) (ar a 1) (ar a 2) (AI .ae r 3) (ng .u64 (nG r 1 0)) (nG r 2 0).toInt) (λX=>.bool (X.1)) (λX=>[⟨true,87,1,.gen [[.all 3]]⟩,⟨true,91,1,.gen [[.sl 1 (.ints .u64 X.2.2.1) false]]⟩,⟨true,88,1,.gen [[.int .i64 X.2.2.2]]⟩,⟨false,100,2,.bc .ae (X.2.1)⟩])
theorem Qly:bj pG Z12:=Fu drawn mM (.nil) Tryz.func82 Tryz.call82 (λa r=>OM (ar a 0) (ar a 1) (ar a 2) (AI .ae r 3) (ng .u64 (nG r 1 0)) (nG r 2 0).toInt) [.row 100 2 (.bc .ae),.sl (.ints .u64) false] [] 2 (λ_ _ _=>by kernel_rfl) (λ_ _=>rfl) (λ_ _ h=>h)
def Qf1(m:au)(script:List ep)(dk:List Int)(vl:List fy)(va:List Int)(vf:Int)(z:(List ep)×(Int)×(List Int)×(Int)×(List fy)×au):Nat:=(dk.length-z.2.1).toNat
def ON(m:au)(script:List ep)(dk:List Int)(vl:List fy)(va:List Int)(vf:Int):Tree ((List fy)×(List Int)×Int):=
.lp inferInstance (Qf1 m script dk vl va vf (script,0,va,vf,vl,m)+1) ((nR RK.aj 4 script/\True/\rZ/\((ak.Nil (ak.ints u64 dk)\/rE (1:Nat))/\rE (dk:List Int))/\rE ((dk.length:Int):Int)/\rE (0:Int)/\True)/\(True/\True)/\(((ak.Nil (ak.ints u64 va)\/rE (1:Nat))/\rE (va:List Int))/\True)/\(rE (vf:Int)/\True)/\rE (vl:List (RK.T RK.ae))/\(mE m (((ak.Nil (ak.ints u32 m.Mem)\/rE (1:Nat))/\rE m.Mem)) True)/\True) (script,0,va,vf,vl,m) λ(v0:List ep×Int×List Int×Int×List fy×au)=>.br (decide (v0.2.1<(dk.length:Int))) (.cn (bT 1 1&&bJ 0 1&&decide (0<=v0.2.1/\v0.2.1<(dk.length:Int))) (let E1:=dk.getD v0.2.1.toNat 0;.an (OR v0.2.2.2.2.2 v0.1 E1) (.lv (UX v0.2.2.2.2.2 v0.1 E1) λ(x0:au×List fm×Int×Int)=>.br (x0.2.2.2 !=0) (.an (Qd0 v0.2.1 0 x0.2.2.2 v0.2.2.2.2.1 v0.2.2.1 v0.2.2.2.1) (.lv (Qkt v0.2.1 0 x0.2.2.2 v0.2.2.2.2.1 v0.2.2.1 v0.2.2.2.1) λ(x1:Bool×List fy×List Int×Int)=>.lf (Sum.inr (x1.2.1,x1.2.2.1,x1.2.2.2)))) (.cn (bT 4 4&&bJ 0 4&&decide (0<=x0.2.2.1/\x0.2.2.1<=(v0.1.length:Int)/\(v0.1.length:Int)<=(v0.1.length:Int))) (.an (Tb x0.1) (.lv (Tc x0.1) λ(x2:Int)=>.an (Qd0 v0.2.1 x2 0 v0.2.2.2.2.1 v0.2.2.1 v0.2.2.2.1) (.lv (Qkt v0.2.1 x2 0 v0.2.2.2.2.1 v0.2.2.1 v0.2.2.2.1) λ(x3:Bool×List fy×List Int×Int)=>.br (!x3.1) (.lf (Sum.inr (x3.2.1,x3.2.2.1,x3.2.2.2))) (.nx ((((ak.Nil (ak.bc RK.aj (cZ (dF (v0.1.length:Int)-dF x0.2.2.1) (dA x0.2.2.1.toNat v0.1)))\/nA Nat 4 4)/\rE ((cZ (dF (v0.1.length:Int)-dF x0.2.2.1) (dA x0.2.2.1.toNat v0.1)):List (RK.T RK.aj)))/\True/\rZ/\((ak.Nil (ak.ints u64 dk)\/rE (1:Nat))/\rE (dk:List Int))/\rE ((dk.length:Int):Int)/\rE ((wrap i64 (v0.2.1+1)):Int)/\True)/\(True/\True)/\(((ak.Nil (ak.ints u64 x3.2.2.1)\/nA Nat 1 1)/\rE x3.2.2.1)/\True)/\(rE x3.2.2.2/\True)/\rE x3.2.1/\(mE x0.1 (((ak.Nil (ak.ints u32 x0.1.Mem)\/nA Nat 1 1)/\rE x0.1.Mem)) True)/\True) (Sum.inl (cZ (dF (v0.1.length:Int)-dF x0.2.2.1) (dA x0.2.2.1.toNat v0.1),wrap i64 (v0.2.1+1),x3.2.2.1,x3.2.2.2,x3.2.1,x0.1)))))))))) (.lf (Sum.inr (v0.2.2.2.2.1,v0.2.2.1,v0.2.2.2.1)))
def Qqh m script dk vl va vf:=(ON m script dk vl va vf).m
abbrev Qi4 m script dk vl va vf:=(ON m script dk vl va vf).p
def Qvj:bw:={
 α:=(List ep)×(Int)×(List Int)×(Int)×(List fy)×au
 F:=λst a=>([(1,.sl 4 (.bc RK.aj a.1) false),(3,.gb 82 [.ptr 0 0 0,.ptr 1 0 0,.ptr 2 0 0]),(4,.ptr 4 0 0),(14,(lk st 14)),(15,(lk st 15)),(16,.int i64 a.2.1)],[⟨true,87,1,.gen [[.all 3]]⟩,⟨true,91,1,.gen [[.sl 1 (.ints u64 a.2.2.1) false]]⟩,⟨true,88,1,.gen [[.int i64 a.2.2.2.1]]⟩,⟨false,100,2,.bc RK.ae a.2.2.2.2.1⟩,⟨true,42,49,.gen [mD a.2.2.2.2.2 (.sl 1 (.ints u32 a.2.2.2.2.2.Mem) false)]⟩])
 a0:=λst=>((sV RK.aj (lk st 1)),(lk st 16).toInt,(ng u64 (iM st.rows 1 0)),(iM st.rows 2 0).toInt,(Qf RK.ae st.rows (sZ (iM st.rows 0 0) 1000000)),(mR (cT st 4) (ng u32 (cT st 4 25))))
 ji:=λst=>[0,1,2]++[(sZ (iM st.rows 0 0) (st.rows.length+3)),(rX st 4 4)]}
def Qrm:List (Nat×bw):=[(2,Qvj)]
def Qyn:ba:=mc 3 81 [false,false,false,true] [.agg au.sig,.one (.bc .aj),.one (.ints .u64),.gb 82 [.ptr 0 0 0,.ptr 1 0 0,.ptr 2 0 0]] [.box 87 1 [.row 3],.box 91 1 [.ints .u64],.box 88 1 [.int .i64],.arr 100 2 (.bc .ae)] (λa r=>Qi4 (au.of (aC a 0)) (jc .aj a 1) (du .u64 a 2) (AI .ae r 3) (ng .u64 (nG r 1 0)) (nG r 2 0).toInt) (λa r=>Qqh (au.of (aC a 0)) (jc .aj a 1) (du .u64 a 2) (AI .ae r 3) (ng .u64 (nG r 1 0)) (nG r 2 0).toInt) (λX=>.dt []) (λX=>[⟨true,87,1,.gen [[.all 3]]⟩,⟨true,91,1,.gen [[.sl 1 (.ints .u64 X.2.1) false]]⟩,⟨true,88,1,.gen [[.int .i64 X.2.2]]⟩,⟨false,100,2,.bc .ae (X.1)⟩])
theorem Qk8:bj pG Qyn:=Fu drawn mM (.cons Qqs (.cons Qmp (.cons Qly (.nil)))) Tryz.func81 Tryz.call81 (λa r=>ON (au.of (aC a 0)) (jc .aj a 1) (du .u64 a 2) (AI .ae r 3) (ng .u64 (nG r 1 0)) (nG r 2 0).toInt) [.row 100 2 (.bc .ae),.sl (.ints .u64) false] Qrm 3 (λ_ _ _=>by kernel_rfl) (λ_ _=>rfl) (λ_ _ h=>h)
def OO(m:au)(script:List ep)(dk:List Int):Tree ((List fy)×Int):=
.an (Qgg m script dk) (.lv (Qr3 m script dk) λ(x0:Int)=>.br (x0 !=0) (.lf ([],x0)) (.an (Qi4 m script dk [] dk 0) (.lv (Qqh m script dk [] dk 0) λ(x1:List fy×List Int×Int)=>.br (x1.2.2 !=0) (.lf ([],x1.2.2)) (.lf (x1.1,0)))))
def Z2d m script dk:=(OO m script dk).m
abbrev Qna m script dk:=(OO m script dk).p
def Z8n:ba:=mT 37 [] true [.agg au.sig,.one (.bc .aj),.one (.ints .u64)] [] (λa r=>OO (au.of (aC a 0)) (jc .aj a 1) (du .u64 a 2)) (λX=>.dt [.all 0,.int .i64 (X.2)]) (λX=>[⟨false,100,2,.bc .ae (X.1)⟩])
theorem Z5g:bj pG Z8n:=oT (.cons Qq0 (.cons Qk8 (.cons Qly (.cons Qk8 (.nil))))) Tryz.func37 Tryz.call37 [.row 100 2 (.bc .ae)] [] 2
def OP(i hash err:Int)(kK:List fy)(kQ:au)(tp:jK)(nE:List Int):Tree (Bool×(List fy)×au×jK×(List Int)):=
let T1:Tree ((Bool×(List fy)×au×jK×(List Int))):=.br (decide (i>0)) (.cn (bT 1 1&&bJ 0 1&&decide (0<=wrap i64 (i-1)/\wrap i64 (i-1)<(nE.length:Int))) (.lf (false,kK,kQ,{Good:=false,D5:=i,At:=nE.getD (dF (wrap i64 (i-1))) 0},nE))) (.lf (false,kK,kQ,{Good:=false,D5:=i,At:=kQ.A0},nE));.br (err==0) (.cn (bT 2 2&&bJ 0 2&&decide (0<=i/\i<(kK.length:Int))) (.br (hash==(kK.getD i.toNat (RK.cz RK.ae)).D0) (.lf (true,kK,kQ,tp,nE)) T1)) T1
def Ql1 i hash err kK kQ tp nE:=(OP i hash err kK kQ tp nE).m
abbrev Qd9 i hash err kK kQ tp nE:=(OP i hash err kK kQ tp nE).p
def Z2p:ba:=mc 4 86 [false,false,false,true,true,true,true] [.one (.int .i64),.one (.int .u64),.one (.int .i64),.ptr 0,.ptr 1,.ptr 2,.ptr 3] [.box 87 1 [.bc .ae],.box 42 49 au.sig,.box 95 3 jK.sig,.box 91 1 [.ints .u64]] (λa r=>Qd9 (ar a 0) (ar a 1) (ar a 2) (sV .ae (nG r 0 0)) (au.of (r.getD 1 default).cs) (jK.of (r.getD 2 default).cs) (ng .u64 (nG r 3 0))) (λa r=>Ql1 (ar a 0) (ar a 1) (ar a 2) (sV .ae (nG r 0 0)) (au.of (r.getD 1 default).cs) (jK.of (r.getD 2 default).cs) (ng .u64 (nG r 3 0))) (λX=>.bool (X.1)) (λX=>[⟨true,87,1,.gen [[.sl 2 (.bc .ae X.2.1) false]]⟩,⟨true,42,49,.gen [(au.cells (X.2.2.1))]⟩,⟨true,95,3,.gen [(jK.cells (X.2.2.2.1))]⟩,⟨true,91,1,.gen [[.sl 1 (.ints .u64 X.2.2.2.2) false]]⟩])
theorem Qm0:bj pG Z2p:=Fu drawn mM (.nil) Tryz.func86 Tryz.call86 (λa r=>OP (ar a 0) (ar a 1) (ar a 2) (sV .ae (nG r 0 0)) (au.of (r.getD 1 default).cs) (jK.of (r.getD 2 default).cs) (ng .u64 (nG r 3 0))) [.sl (.bc .ae) false,.sl (.ints .u32) false,.sl (.ints .u64) false] [] 2 (λ_ _ _=>by kernel_rfl) (λ_ _=>rfl) (λ_ _ h=>h)
def Qf3(m:au)(script:List ep)(dk:List Int)(vl:List fy)(vm:au)(vv:jK)(va:List Int)(z:(List ep)×(Int)×(List fy)×au×jK×(List Int)×au):Nat:=(dk.length-z.2.1).toNat
def OQ(m:au)(script:List ep)(dk:List Int)(vl:List fy)(vm:au)(vv:jK)(va:List Int):Tree ((List fy)×au×jK×(List Int)):=
.lp inferInstance (Qf3 m script dk vl vm vv va (script,0,vl,vm,vv,va,m)+1) ((nR RK.aj 4 script/\True/\rZ/\((ak.Nil (ak.ints u64 dk)\/rE (1:Nat))/\rE (dk:List Int))/\rE ((dk.length:Int):Int)/\rE (0:Int)/\True)/\(nR RK.ae 2 vl/\True)/\(mE vm (((ak.Nil (ak.ints u32 vm.Mem)\/rE (1:Nat))/\rE vm.Mem)) True)/\(rE vv.Good/\rE vv.D5/\rE vv.At/\True)/\(((ak.Nil (ak.ints u64 va)\/rE (1:Nat))/\rE (va:List Int))/\True)/\(mE m (((ak.Nil (ak.ints u32 m.Mem)\/rE (1:Nat))/\rE m.Mem)) True)/\True) (script,0,vl,vm,vv,va,m) λ(v0:List ep×Int×List fy×au×jK×List Int×au)=>.br (decide (v0.2.1<(dk.length:Int))) (.cn (bT 1 1&&bJ 0 1&&decide (0<=v0.2.1/\v0.2.1<(dk.length:Int))) (let E1:=dk.getD v0.2.1.toNat 0;.an (OR v0.2.2.2.2.2.2 v0.1 E1) (.lv (UX v0.2.2.2.2.2.2 v0.1 E1) λ(x0:au×List fm×Int×Int)=>.br (x0.2.2.2 !=0) (.an (Qd9 v0.2.1 0 x0.2.2.2 v0.2.2.1 v0.2.2.2.1 v0.2.2.2.2.1 v0.2.2.2.2.2.1) (.lv (Ql1 v0.2.1 0 x0.2.2.2 v0.2.2.1 v0.2.2.2.1 v0.2.2.2.2.1 v0.2.2.2.2.2.1) λ(x1:Bool×List fy×au×jK×List Int)=>.lf (Sum.inr (x1.2.1,x1.2.2.1,x1.2.2.2.1,x1.2.2.2.2)))) (.cn (bT 4 4&&bJ 0 4&&decide (0<=x0.2.2.1/\x0.2.2.1<=(v0.1.length:Int)/\(v0.1.length:Int)<=(v0.1.length:Int))) (.an (Tb x0.1) (.lv (Tc x0.1) λ(x2:Int)=>.an (Qd9 v0.2.1 x2 0 v0.2.2.1 v0.2.2.2.1 v0.2.2.2.2.1 v0.2.2.2.2.2.1) (.lv (Ql1 v0.2.1 x2 0 v0.2.2.1 v0.2.2.2.1 v0.2.2.2.2.1 v0.2.2.2.2.2.1) λ(x3:Bool×List fy×au×jK×List Int)=>.br (!x3.1) (.lf (Sum.inr (x3.2.1,x3.2.2.1,x3.2.2.2.1,x3.2.2.2.2))) (.nx ((((ak.Nil (ak.bc RK.aj (cZ (dF (v0.1.length:Int)-dF x0.2.2.1) (dA x0.2.2.1.toNat v0.1)))\/nA Nat 4 4)/\rE ((cZ (dF (v0.1.length:Int)-dF x0.2.2.1) (dA x0.2.2.1.toNat v0.1)):List (RK.T RK.aj)))/\True/\rZ/\((ak.Nil (ak.ints u64 dk)\/rE (1:Nat))/\rE (dk:List Int))/\rE ((dk.length:Int):Int)/\rE ((wrap i64 (v0.2.1+1)):Int)/\True)/\(((ak.Nil (ak.bc RK.ae x3.2.1)\/nA Nat 2 2)/\rE x3.2.1)/\True)/\(mE x3.2.2.1 (((ak.Nil (ak.ints u32 x3.2.2.1.Mem)\/nA Nat 1 1)/\rE x3.2.2.1.Mem)) True)/\(rE x3.2.2.2.1.Good/\rE x3.2.2.2.1.D5/\rE x3.2.2.2.1.At/\True)/\(((ak.Nil (ak.ints u64 x3.2.2.2.2)\/nA Nat 1 1)/\rE x3.2.2.2.2)/\True)/\(mE x0.1 (((ak.Nil (ak.ints u32 x0.1.Mem)\/nA Nat 1 1)/\rE x0.1.Mem)) True)/\True) (Sum.inl (cZ (dF (v0.1.length:Int)-dF x0.2.2.1) (dA x0.2.2.1.toNat v0.1),wrap i64 (v0.2.1+1),x3.2.1,x3.2.2.1,x3.2.2.2.1,x3.2.2.2.2,x0.1)))))))))) (.lf (Sum.inr (v0.2.2.1,v0.2.2.2.1,v0.2.2.2.2.1,v0.2.2.2.2.2.1)))
def Qqm m script dk vl vm vv va:=(OQ m script dk vl vm vv va).m
abbrev Qih m script dk vl vm vv va:=(OQ m script dk vl vm vv va).p
def Qun:bw:={
 α:=(List ep)×(Int)×(List fy)×au×jK×(List Int)×au
 F:=λst a=>([(1,.sl 4 (.bc RK.aj a.1) false),(3,.gb 86 [.ptr 0 0 0,.ptr 1 0 0,.ptr 2 0 0,.ptr 3 0 0]),(4,.ptr 4 0 0),(14,(lk st 14)),(15,(lk st 15)),(16,.int i64 a.2.1)],[⟨true,87,1,.gen [[.sl 2 (.bc RK.ae a.2.2.1) false]]⟩,⟨true,42,49,.gen [mD a.2.2.2.1 (.sl 1 (.ints u32 a.2.2.2.1.Mem) false)]⟩,⟨true,95,3,.gen [[.bool a.2.2.2.2.1.Good,.int i64 a.2.2.2.2.1.D5,.int u64 a.2.2.2.2.1.At]]⟩,⟨true,91,1,.gen [[.sl 1 (.ints u64 a.2.2.2.2.2.1) false]]⟩,⟨true,42,49,.gen [mD a.2.2.2.2.2.2 (.sl 1 (.ints u32 a.2.2.2.2.2.2.Mem) false)]⟩])
 a0:=λst=>((sV RK.aj (lk st 1)),(lk st 16).toInt,(sV RK.ae (iM st.rows 0 0)),(⟨(⟨(⟨(iM st.rows 1 0).toInt,(iM st.rows 1 1).toInt,(iM st.rows 1 2).toInt,(iM st.rows 1 3).toInt,(iM st.rows 1 4).toInt,(iM st.rows 1 5).toInt,(iM st.rows 1 6).toInt,(iM st.rows 1 7).toInt,(iM st.rows 1 8).toInt,(iM st.rows 1 9).toInt,(iM st.rows 1 10).toInt,(iM st.rows 1 11).toInt,(iM st.rows 1 12).toInt,(iM st.rows 1 13).toInt,(iM st.rows 1 14).toInt,(iM st.rows 1 15).toInt⟩:(fv Int)),(iM st.rows 1 16).toInt,(⟨(iM st.rows 1 17).toInt,(iM st.rows 1 18).toInt,(iM st.rows 1 19).toInt,(iM st.rows 1 20).toInt,(iM st.rows 1 21).toInt,(iM st.rows 1 22).toInt,(iM st.rows 1 23).toInt,(iM st.rows 1 24).toInt⟩:(A8 Int))⟩:bg),(ng u32 (iM st.rows 1 25)),(⟨(iM st.rows 1 26).toStr⟩:iO),(⟨(iM st.rows 1 27).toBool,(iM st.rows 1 28).toInt,(iM st.rows 1 29).toBool⟩:iS),(⟨(iM st.rows 1 30).toInt,(iM st.rows 1 31).toInt,(iM st.rows 1 32).toInt,(iM st.rows 1 33).toInt,(iM st.rows 1 34).toInt,(iM st.rows 1 35).toInt,(iM st.rows 1 36).toInt,(iM st.rows 1 37).toStr⟩:fe),(⟨(iM st.rows 1 38).toInt,(iM st.rows 1 39).toInt,(iM st.rows 1 40).toBool,(iM st.rows 1 41).toInt,(iM st.rows 1 42).toBool,(iM st.rows 1 43).toInt⟩:gq),(⟨(iM st.rows 1 44).toInt,(iM st.rows 1 45).toInt⟩:gh),(iM st.rows 1 46).toInt,(iM st.rows 1 47).toBool,(iM st.rows 1 48).toBool⟩:au),(⟨(iM st.rows 2 0).toBool,(iM st.rows 2 1).toInt,(iM st.rows 2 2).toInt⟩:jK),(ng u64 (iM st.rows 3 0)),(mR (cT st 4) (ng u32 (cT st 4 25))))
 ji:=λst=>[0,1,2,3]++[(rX st 4 4)]}
def Qrr:List (Nat×bw):=[(2,Qun)]
def Qys:ba:=ba.fz<|mc 4 81 [false,false,false,true] [.agg au.sig,.one (.bc .aj),.one (.ints .u64),.gb 86 [.ptr 0 0 0,.ptr 1 0 0,.ptr 2 0 0,.ptr 3 0 0]] [.box 87 1 [.bc .ae],.box 42 49 au.sig,.box 95 3 jK.sig,.box 91 1 [.ints .u64]] (λa r=>Qih (au.of (aC a 0)) (jc .aj a 1) (du .u64 a 2) (sV .ae (nG r 0 0)) (au.of (r.getD 1 default).cs) (jK.of (r.getD 2 default).cs) (ng .u64 (nG r 3 0))) (λa r=>Qqm (au.of (aC a 0)) (jc .aj a 1) (du .u64 a 2) (sV .ae (nG r 0 0)) (au.of (r.getD 1 default).cs) (jK.of (r.getD 2 default).cs) (ng .u64 (nG r 3 0))) (λX=>.dt []) (λX=>[⟨true,87,1,.gen [[.sl 2 (.bc .ae X.1) false]]⟩,⟨true,42,49,.gen [(au.cells (X.2.1))]⟩,⟨true,95,3,.gen [(jK.cells (X.2.2.1))]⟩,⟨true,91,1,.gen [[.sl 1 (.ints .u64 X.2.2.2) false]]⟩])
theorem Qw2:bj pG Qys:=L7<|Fu drawn mM (.cons Qqs (.cons Qmp (.cons Qm0 (.nil)))) Tryz.func81 Tryz.call81 (λa r=>OQ (au.of (aC a 0)) (jc .aj a 1) (du .u64 a 2) (sV .ae (nG r 0 0)) (au.of (r.getD 1 default).cs) (jK.of (r.getD 2 default).cs) (ng .u64 (nG r 3 0))) [.sl (.bc .ae) false,.sl (.ints .u32) false,.sl (.ints .u64) false] Qrr 3 (λ_ _ _=>by kernel_rfl) (λ_ _=>rfl) (λ_ _ h=>h)
def Qjw(m:au)(script:List ep)(l:List fy)(z:(Int)×(List Int)):Nat:=(l.length-z.1).toNat
def OS(m:au)(script:List ep)(l:List fy):Tree (jK×Int):=
.lp inferInstance (Qjw m script l (0,[])+1) ((nR RK.aj 4 script/\rZ/\rZ/\rZ/\rZ/\nR RK.ae 2 l/\rE ((l.length:Int):Int)/\rE (0:Int)/\True)/\(mE m (((ak.Nil (ak.ints u32 m.Mem)\/rE (1:Nat))/\rE m.Mem)) True)/\(nR RK.ae 2 l/\True)/\(rE (false:Bool)/\rE (0:Int)/\rE (0:Int)/\True)/\(True/\True)/\rE ([]:List Int)/\True) (0,[]) λ(v0:Int×List Int)=>.br (decide (v0.1<(l.length:Int))) (.cn (bT 2 2&&bJ 0 2&&decide (0<=v0.1/\v0.1<(l.length:Int))) (.cn (decide (8*(v0.2.length+1)<=140737488355328)) (.nx ((nR RK.aj 4 script/\rZ/\rZ/\rZ/\rZ/\nR RK.ae 2 l/\rE ((l.length:Int):Int)/\rE ((wrap i64 (v0.1+1)):Int)/\True)/\(mE m (((ak.Nil (ak.ints u32 m.Mem)\/rE (1:Nat))/\rE m.Mem)) True)/\(nR RK.ae 2 l/\True)/\(rE (false:Bool)/\rE (0:Int)/\rE (0:Int)/\True)/\(True/\True)/\rE ((v0.2++[(l.getD v0.1.toNat (RK.cz RK.ae)).At]):List Int)/\True) (Sum.inl (wrap i64 (v0.1+1),v0.2++[(l.getD v0.1.toNat (RK.cz RK.ae)).At]))))) (.an (Qgg m script v0.2) (.lv (Qr3 m script v0.2) λ(x0:Int)=>.br (x0 !=0) (.lf (Sum.inr ({Good:=false,D5:=0,At:=0},x0))) (.an (Qih m script v0.2 l m {Good:=true,D5:=0,At:=0} v0.2) (.lv (Qqm m script v0.2 l m {Good:=true,D5:=0,At:=0} v0.2) λ(x1:List fy×au×jK×List Int)=>.lf (Sum.inr (x1.2.2.1,0))))))
def Qra m script l:=(OS m script l).m
abbrev Qh0 m script l:=(OS m script l).p
def Z5e:bw:={
 α:=(Int)×(List Int)
 F:=λst a=>([(1,(lk st 1)),(3,.ptr 0 0 0),(5,.ptr 1 0 0),(6,.ptr 2 0 0),(8,.ptr 3 0 0),(13,(lk st 13)),(14,(lk st 14)),(15,.int i64 a.1)],[⟨true,42,49,.gen [mB (cT st 3)]⟩,⟨true,87,1,.gen [[(cT st 5 0)]]⟩,⟨true,95,3,.gen [[(cT st 6 0),(cT st 6 1),(cT st 6 2)]]⟩,⟨true,91,1,.gen [[.all 4]]⟩,⟨false,40,1,.ints u64 a.2⟩])
 a0:=λst=>((lk st 15).toInt,(rY st.rows (sZ (cT st 8 0) 1000000)))
 ji:=λst=>[]++[(rX st 3 0),(rX st 5 1),(rX st 6 2),(rX st 8 3),(sZ (cT st 8 0) (st.rows.length+4))]}
def Qyo:List (Nat×bw):=[(3,Z5e)]
def Za1:ba:=mT 41 [] true [.agg au.sig,.one (.bc .aj),.one (.bc .ae)] [] (λa r=>OS (au.of (aC a 0)) (jc .aj a 1) (jc .ae a 2)) (λX=>.dt [.agg (jK.cells (X.1)),.int .i64 (X.2)]) (λX=>[])
theorem Z4w:bj pG Za1:=oT (.cons Qq0 (.cons Qm0 (.cons Qw2 (.nil)))) Tryz.func41 Tryz.call41 [] Qyo 3
end
noncomputable section
def strconv_Itoa(i:Int):(List UInt8):=
Lib.decDigits i.toNat
def GM(i:Int):Prop:=
0<=i/\i<=9223372036854775807
def Qk4(i:Int):List D:=[.int .i64 i]
def Qkh(i:Int):List Row:=[]
def Qem(X:List UInt8):D:=.str X
def Qen(X:List UInt8):List Row:=[]
def Qlv:List PT:=[.one (.int .i64)]
def Qjc:List RT:=[]
def Qz5(args:List D)(rows:List Row):(List UInt8):=strconv_Itoa (ar args 0)
def Qyt(args:List D)(rows:List Row):Prop:=GM (ar args 0)
def Z4k:ba:=mo 147 [] true Qlv Qjc Qyt Qz5 Qem Qen
theorem Qtq(i:Int)(hw:GM i):jZ pG 147 (Qk4 i) (Qkh i) (Qem (strconv_Itoa i)) (Qen (strconv_Itoa i)):=by
 exact qaf Tryz.strconv_Itoa (by kernel_rfl) Zmi hw.1 hw.2
set_option maxRecDepth 100000 in
theorem Qwb(args:List D)(rows:List Row):lL Qlv args 0=Qk4 (ar args 0):=by kernel_rfl
set_option maxRecDepth 100000 in
theorem Qt3(args:List D)(rows:List Row):kU Qjc rows 0=Qkh (ar args 0):=by kernel_rfl
set_option maxRecDepth 100000 in
theorem Z1r(X:List UInt8):(uJ (Qem X)&&jE (Qen X))=true:=by kernel_rfl
theorem Qmm:bj pG Z4k:=L9 Tryz.call147 (λargs rows hp=>by rw[Qwb args rows,Qt3 args rows];exact Qtq (ar args 0) hp) (λ_ X=>Z1r X)
def Qcg(a b:bg)(z:(Int)):Nat:=(16-z).toNat
def Qce(a b:bg)(z:(Int)):Nat:=(8-z).toNat
def IQ(a b:bg):Tree (List UInt8):=
.lp inferInstance (Qcg a b 0+1) ((rZ/\rZ/\rE (0:Int)/\True)/\(rE a.X.a0/\rE a.X.a1/\rE a.X.a2/\rE a.X.a3/\rE a.X.a4/\rE a.X.a5/\rE a.X.a6/\rE a.X.a7/\rE a.X.a8/\rE a.X.a9/\rE a.X.kj/\rE a.X.ko/\rE a.X.a12/\rE a.X.kp/\rE a.X.kq/\rE a.X.kr/\rE a.Pc/\rE a.B2.a0/\rE a.B2.a1/\rE a.B2.a2/\rE a.B2.a3/\rE a.B2.a4/\rE a.B2.a5/\rE a.B2.a6/\rE a.B2.a7/\True)/\(rE b.X.a0/\rE b.X.a1/\rE b.X.a2/\rE b.X.a3/\rE b.X.a4/\rE b.X.a5/\rE b.X.a6/\rE b.X.a7/\rE b.X.a8/\rE b.X.a9/\rE b.X.kj/\rE b.X.ko/\rE b.X.a12/\rE b.X.kp/\rE b.X.kq/\rE b.X.kr/\rE b.Pc/\rE b.B2.a0/\rE b.B2.a1/\rE b.B2.a2/\rE b.B2.a3/\rE b.B2.a4/\rE b.B2.a5/\rE b.B2.a6/\rE b.B2.a7/\True)/\True) 0 λ(v0:Int)=>.br (decide (v0<16)) (let E1:=bJ 0 1&&decide (0<=v0/\v0<(↑16:Int));.cn E1 (.cn E1 (.br (aK (fv.l a.X) v0.toNat 0 !=aK (fv.l b.X) v0.toNat 0) (.an (GM v0) (.lv (strconv_Itoa v0) λ(x0:List UInt8)=>.cn (decide (2+x0.length<=maxLen)) (.lf (Sum.inr ((120:UInt8)::([(32:UInt8)]++x0)))))) (.nx ((rZ/\rZ/\rE ((wrap i64 (v0+1)):Int)/\True)/\(rE a.X.a0/\rE a.X.a1/\rE a.X.a2/\rE a.X.a3/\rE a.X.a4/\rE a.X.a5/\rE a.X.a6/\rE a.X.a7/\rE a.X.a8/\rE a.X.a9/\rE a.X.kj/\rE a.X.ko/\rE a.X.a12/\rE a.X.kp/\rE a.X.kq/\rE a.X.kr/\rE a.Pc/\rE a.B2.a0/\rE a.B2.a1/\rE a.B2.a2/\rE a.B2.a3/\rE a.B2.a4/\rE a.B2.a5/\rE a.B2.a6/\rE a.B2.a7/\True)/\(rE b.X.a0/\rE b.X.a1/\rE b.X.a2/\rE b.X.a3/\rE b.X.a4/\rE b.X.a5/\rE b.X.a6/\rE b.X.a7/\rE b.X.a8/\rE b.X.a9/\rE b.X.kj/\rE b.X.ko/\rE b.X.a12/\rE b.X.kp/\rE b.X.kq/\rE b.X.kr/\rE b.Pc/\rE b.B2.a0/\rE b.B2.a1/\rE b.B2.a2/\rE b.B2.a3/\rE b.B2.a4/\rE b.B2.a5/\rE b.B2.a6/\rE b.B2.a7/\True)/\True) (Sum.inl (wrap i64 (v0+1))))))) (.br (a.Pc !=b.Pc) (.lf (Sum.inr [(112:UInt8),99])) (.lp inferInstance (Qce a b 0+1) ((rZ/\rZ/\rE (0:Int)/\True)/\(rE a.X.a0/\rE a.X.a1/\rE a.X.a2/\rE a.X.a3/\rE a.X.a4/\rE a.X.a5/\rE a.X.a6/\rE a.X.a7/\rE a.X.a8/\rE a.X.a9/\rE a.X.kj/\rE a.X.ko/\rE a.X.a12/\rE a.X.kp/\rE a.X.kq/\rE a.X.kr/\rE a.Pc/\rE a.B2.a0/\rE a.B2.a1/\rE a.B2.a2/\rE a.B2.a3/\rE a.B2.a4/\rE a.B2.a5/\rE a.B2.a6/\rE a.B2.a7/\True)/\(rE b.X.a0/\rE b.X.a1/\rE b.X.a2/\rE b.X.a3/\rE b.X.a4/\rE b.X.a5/\rE b.X.a6/\rE b.X.a7/\rE b.X.a8/\rE b.X.a9/\rE b.X.kj/\rE b.X.ko/\rE b.X.a12/\rE b.X.kp/\rE b.X.kq/\rE b.X.kr/\rE b.Pc/\rE b.B2.a0/\rE b.B2.a1/\rE b.B2.a2/\rE b.B2.a3/\rE b.B2.a4/\rE b.B2.a5/\rE b.B2.a6/\rE b.B2.a7/\True)/\True) 0 λ(v1:Int)=>.br (decide (v1<8)) (let E2:=bJ 0 1&&decide (0<=v1/\v1<(↑8:Int));.cn E2 (.cn E2 (.br (aK (A8.l a.B2) v1.toNat 0 !=aK (A8.l b.B2) v1.toNat 0) (.an (GM v1) (.lv (strconv_Itoa v1) λ(x1:List UInt8)=>.cn (decide (4+x1.length<=maxLen)) (.lf (Sum.inr (Sum.inr ((99:UInt8)::([(115:UInt8),114,32]++x1))))))) (.nx ((rZ/\rZ/\rE ((wrap i64 (v1+1)):Int)/\True)/\(rE a.X.a0/\rE a.X.a1/\rE a.X.a2/\rE a.X.a3/\rE a.X.a4/\rE a.X.a5/\rE a.X.a6/\rE a.X.a7/\rE a.X.a8/\rE a.X.a9/\rE a.X.kj/\rE a.X.ko/\rE a.X.a12/\rE a.X.kp/\rE a.X.kq/\rE a.X.kr/\rE a.Pc/\rE a.B2.a0/\rE a.B2.a1/\rE a.B2.a2/\rE a.B2.a3/\rE a.B2.a4/\rE a.B2.a5/\rE a.B2.a6/\rE a.B2.a7/\True)/\(rE b.X.a0/\rE b.X.a1/\rE b.X.a2/\rE b.X.a3/\rE b.X.a4/\rE b.X.a5/\rE b.X.a6/\rE b.X.a7/\rE b.X.a8/\rE b.X.a9/\rE b.X.kj/\rE b.X.ko/\rE b.X.a12/\rE b.X.kp/\rE b.X.kq/\rE b.X.kr/\rE b.Pc/\rE b.B2.a0/\rE b.B2.a1/\rE b.B2.a2/\rE b.B2.a3/\rE b.B2.a4/\rE b.B2.a5/\rE b.B2.a6/\rE b.B2.a7/\True)/\True) (Sum.inl (wrap i64 (v1+1))))))) (.lf (Sum.inr (Sum.inr [])))))
def Qm8 a b:=(IQ a b).m
abbrev Q9t a b:=(IQ a b).p
def Qqz:bw:={
 α:=(Int)
 F:=λst a=>([(2,.ptr 0 0 0),(3,.ptr 1 0 0),(7,.int i64 a)],[⟨true,28,25,.gen [[(cT st 2 0),(cT st 2 1),(cT st 2 2),(cT st 2 3),(cT st 2 4),(cT st 2 5),(cT st 2 6),(cT st 2 7),(cT st 2 8),(cT st 2 9),(cT st 2 10),(cT st 2 11),(cT st 2 12),(cT st 2 13),(cT st 2 14),(cT st 2 15),(cT st 2 16),(cT st 2 17),(cT st 2 18),(cT st 2 19),(cT st 2 20),(cT st 2 21),(cT st 2 22),(cT st 2 23),(cT st 2 24)]]⟩,⟨true,28,25,.gen [[(cT st 3 0),(cT st 3 1),(cT st 3 2),(cT st 3 3),(cT st 3 4),(cT st 3 5),(cT st 3 6),(cT st 3 7),(cT st 3 8),(cT st 3 9),(cT st 3 10),(cT st 3 11),(cT st 3 12),(cT st 3 13),(cT st 3 14),(cT st 3 15),(cT st 3 16),(cT st 3 17),(cT st 3 18),(cT st 3 19),(cT st 3 20),(cT st 3 21),(cT st 3 22),(cT st 3 23),(cT st 3 24)]]⟩])
 a0:=λst=>(lk st 7).toInt
 ji:=λst=>[]++[(rX st 2 0),(rX st 3 1)]}
def Qr1:bw:={
 α:=(Int)
 F:=λst a=>([(2,.ptr 0 0 0),(3,.ptr 1 0 0),(28,.int i64 a)],[⟨true,28,25,.gen [[(cT st 2 0),(cT st 2 1),(cT st 2 2),(cT st 2 3),(cT st 2 4),(cT st 2 5),(cT st 2 6),(cT st 2 7),(cT st 2 8),(cT st 2 9),(cT st 2 10),(cT st 2 11),(cT st 2 12),(cT st 2 13),(cT st 2 14),(cT st 2 15),(cT st 2 16),(cT st 2 17),(cT st 2 18),(cT st 2 19),(cT st 2 20),(cT st 2 21),(cT st 2 22),(cT st 2 23),(cT st 2 24)]]⟩,⟨true,28,25,.gen [[(cT st 3 0),(cT st 3 1),(cT st 3 2),(cT st 3 3),(cT st 3 4),(cT st 3 5),(cT st 3 6),(cT st 3 7),(cT st 3 8),(cT st 3 9),(cT st 3 10),(cT st 3 11),(cT st 3 12),(cT st 3 13),(cT st 3 14),(cT st 3 15),(cT st 3 16),(cT st 3 17),(cT st 3 18),(cT st 3 19),(cT st 3 20),(cT st 3 21),(cT st 3 22),(cT st 3 23),(cT st 3 24)]]⟩])
 a0:=λst=>(lk st 28).toInt
 ji:=λst=>[]++[(rX st 2 0),(rX st 3 1)]}
def Qo1:List (Nat×bw):=[(2,Qqz),(10,Qr1)]
def Qtk:ba:=mT 90 [] true [.agg bg.sig,.agg bg.sig] [] (λa r=>IQ (bg.of (aC a 0)) (bg.of (aC a 1))) (λX=>.str X) (λX=>[])
theorem Qrl:bj pG Qtk:=oT (.cons Qmm (.nil)) Tryz.func90 Tryz.call90 [] Qo1 3
def Qcf(a b:List Int)(z:(Int)):Nat:=(a.length-z).toNat
def IS(a b:List Int):Tree (List UInt8):=
.br ((a.length:Int) !=(b.length:Int)) (.lf ([(109:UInt8),101,109])) (.lp inferInstance (Qcf a b 0+1) ((((ak.Nil (ak.ints u32 a)\/rE (1:Nat))/\rE (a:List Int))/\((ak.Nil (ak.ints u32 b)\/rE (1:Nat))/\rE (b:List Int))/\rE ((a.length:Int):Int)/\rE (0:Int)/\True)/\True) 0 λ(v0:Int)=>.br (decide (v0<(a.length:Int))) (.cn (bT 1 1&&bJ 0 1&&decide (0<=v0/\v0<(a.length:Int))) (.cn (bT 1 1&&bJ 0 1&&decide (0<=v0/\v0<(b.length:Int))) (.br (a.getD v0.toNat 0 !=b.getD v0.toNat 0) (.an (GM v0) (.lv (strconv_Itoa v0) λ(x0:List UInt8)=>.cn (decide (4+x0.length<=maxLen)) (.lf (Sum.inr ((109:UInt8)::([(101:UInt8),109,32]++x0)))))) (.nx ((((ak.Nil (ak.ints u32 a)\/rE (1:Nat))/\rE (a:List Int))/\((ak.Nil (ak.ints u32 b)\/rE (1:Nat))/\rE (b:List Int))/\rE ((a.length:Int):Int)/\rE ((wrap i64 (v0+1)):Int)/\True)/\True) (Sum.inl (wrap i64 (v0+1))))))) (.lf (Sum.inr [])))
def Qm1 a b:=(IS a b).m
abbrev Q9s a b:=(IS a b).p
def Qr7:bw:={
 α:=(Int)
 F:=λst a=>([(0,(lk st 0)),(1,(lk st 1)),(12,(lk st 12)),(13,.int i64 a)],[])
 a0:=λst=>(lk st 13).toInt
 ji:=λst=>[]++[]}
def Qoi:List (Nat×bw):=[(4,Qr7)]
def Qta:ba:=mT 91 [] true [.one (.ints .u32),.one (.ints .u32)] [] (λa r=>IS (du .u32 a 0) (du .u32 a 1)) (λX=>.str X) (λX=>[])
theorem Qr8:bj pG Qta:=oT (.cons Qmm (.nil)) Tryz.func91 Tryz.call91 [] Qoi 3
def IU(a b:au):Tree (List UInt8):=
.an (Q9t a.A9 b.A9) (.lv (Qm8 a.A9 b.A9) λ(x0:List UInt8)=>.br (!decide (x0=[])) (.lf x0) (.an (Q9s a.Mem b.Mem) (.lv (Qm1 a.Mem b.Mem) λ(x1:List UInt8)=>.br (!decide (x1=[])) (.lf x1) (.br (!eqs [D.str a.A2.C5] [D.str b.A2.C5]) (.lf ([(99:UInt8),111,110,115,111,108,101])) (.br (!eqs [D.bool a.A7.C9,D.int u32 a.A7.B8,D.bool a.A7.C8] [D.bool b.A7.C9,D.int u32 b.A7.B8,D.bool b.A7.C8]) (.lf ([(116:UInt8),105,109,101,114])) (.br (!eqs [D.int u32 a.A6.ab,D.int u32 a.A6.B9,D.int u32 a.A6.Frame,D.int i64 a.A6.B5,D.int i64 a.A6.D1,D.int u32 a.A6.B4,D.int u32 a.A6.B0,D.str a.A6.B6] [D.int u32 b.A6.ab,D.int u32 b.A6.B9,D.int u32 b.A6.Frame,D.int i64 b.A6.B5,D.int i64 b.A6.D1,D.int u32 b.A6.B4,D.int u32 b.A6.B0,D.str b.A6.B6]) (.lf ([(100:UInt8),105,115,107])) (.br (!eqs [D.int u32 a.C1.Frame,D.int u32 a.C1.D6,D.bool a.C1.C2,D.int u32 a.C1.B7,D.bool a.C1.B3,D.int u32 a.C1.D8] [D.int u32 b.C1.Frame,D.int u32 b.C1.D6,D.bool b.C1.C2,D.int u32 b.C1.B7,D.bool b.C1.B3,D.int u32 b.C1.D8]) (.lf ([(110:UInt8),105,99])) (.br (!eqs [D.int u32 a.A1.C3,D.int u32 a.A1.C0] [D.int u32 b.A1.C3,D.int u32 b.A1.C0]) (.lf ([(98:UInt8),97,108,108,111,111,110])) (.br (a.A0 !=b.A0) (.lf ([(99:UInt8),111,117,110,116])) (.br (!a.A3==b.A3) (.lf ([(119:UInt8),97,105,116,105,110,103])) (.br (!a.A4==b.A4) (.lf ([(104:UInt8),97,108,116,101,100])) (.lf ([])))))))))))))
def Ly a b:=(IU a b).m
abbrev IT a b:=(IU a b).p
def Z04:ba:=mT 43 [] true [.agg au.sig,.agg au.sig] [] (λa r=>IU (au.of (aC a 0)) (au.of (aC a 1))) (λX=>.str X) (λX=>[])
theorem Qln:bj pG Z04:=oT (.cons Qrl (.cons Qr8 (.nil))) Tryz.func43 Tryz.call43 [] [] 2
def OT:Tree Bool:=
.an (Qet 2 [0]) (.lv (IH 2 [0]) λ(x0:au)=>.an (Qna x0 [] [1,3]) (.lv (Z2d x0 [] [1,3]) λ(x1:List fy×Int)=>.br (x1.2 !=0) (.lf false) (.br ((x1.1.length:Int) !=(2:Int)) (.lf false) (.an (Qh0 x0 [] x1.1) (.lv (Qra x0 [] x1.1) λ(x2:jK×Int)=>let E3:=bT 2 2&&bJ 0 2&&decide ((0:Int)<=(1:Int)/\1<(x1.1.length:Int));.cn E3 (.cn E3 (let E2:=x1.1.getD (dF 1) (RK.cz RK.ae);.an (Qh0 x0 [] (List.set x1.1 (dF 1) {At:=E2.At,D0:=wrap u64 (E2.D0+1)})) (.lv (Qra x0 [] (List.set x1.1 (dF 1) {At:=E2.At,D0:=wrap u64 (E2.D0+1)})) λ(x3:jK×Int)=>.br (x2.2==0) (.br x2.1.Good (.br (x3.2==0) (.br (!x3.1.Good) (.br (x3.1.D5==1) (.br (x3.1.At==1) (let E1:=({A9:={X:={a0:=x0.A9.X.a0,a1:=x0.A9.X.a1,a2:=x0.A9.X.a2,a3:=x0.A9.X.a3,a4:=x0.A9.X.a4,a5:=7,a6:=x0.A9.X.a6,a7:=x0.A9.X.a7,a8:=x0.A9.X.a8,a9:=x0.A9.X.a9,kj:=x0.A9.X.kj,ko:=x0.A9.X.ko,a12:=x0.A9.X.a12,kp:=x0.A9.X.kp,kq:=x0.A9.X.kq,kr:=x0.A9.X.kr},Pc:=x0.A9.Pc,B2:=x0.A9.B2},Mem:=x0.Mem,A2:=x0.A2,A7:=x0.A7,A6:=x0.A6,C1:=x0.C1,A1:=x0.A1,A0:=x0.A0,A3:=x0.A3,A4:=x0.A4}:au);.an (IT x0 E1) (.lv (Ly x0 E1) λ(x4:List UInt8)=>.br (decide (x4=[(120:UInt8),32,53])) (.an (IT x0 x0) (.lv (Ly x0 x0) λ(x5:List UInt8)=>.lf (decide (x5=[])))) (.lf false))) (.lf false)) (.lf false)) (.lf false)) (.lf false)) (.lf false)) (.lf false)))))))))
def GO:Bool:=(OT).m
abbrev Lz:Prop:=(OT).p
def Zbc:ba:=mT 35 [] true [] [] (λa r=>OT) (λX=>.bool X) (λX=>[])
theorem Z56:bj pG Zbc:=oT (.cons Qog (.cons Z5g (.cons Z4w (.cons Qln (.nil))))) Tryz.func35 Tryz.call35 [] [] 2
end
noncomputable section
def Qa1(kind:Int)(prog:List Int)(steps n:Int)(z:(Int)×au):Nat:=(steps-z.1).toNat
def Tm(kind:Int)(prog:List Int)(steps n:Int):Tree Bool:=
.br (decide ((prog.length:Int)>(60:Int))) (.an Lz (.lv GO λ(x0:Bool)=>.lf x0)) (.br (decide (steps<0)) (.an Lz (.lv GO λ(x1:Bool)=>.lf x1)) (.br (decide (steps>40)) (.an Lz (.lv GO λ(x2:Bool)=>.lf x2)) (.an (Qet kind prog) (.lv (IH kind prog) λ(x3:au)=>.lp inferInstance (Qa1 kind prog steps n (0,x3)+1) ((rE (steps:Int)/\rE (n:Int)/\rZ/\rZ/\rE (0:Int)/\True)/\(mE x3 (rE x3.Mem) True)/\(mE x3 (rE x3.Mem) True)/\True) (0,x3) λ(v0:Int×au)=>.br (decide (v0.1<steps)) (.an (Qtp v0.2 (wrap u32 n)) (.lv (S3 v0.2 (wrap u32 n)) λ(x4:au×List fm)=>.nx ((rE (steps:Int)/\rE (n:Int)/\rZ/\rZ/\rE ((wrap i64 (v0.1+1)):Int)/\True)/\(mE x3 (((ak.Nil (ak.ints u32 x3.Mem)\/nA Nat 1 1)/\rE x3.Mem)) True)/\(mE x4.1 (rE x4.1.Mem) True)/\True) (Sum.inl (wrap i64 (v0.1+1),x4.1)))) (.an (IT x3 v0.2) (.lv (Ly x3 v0.2) λ(x5:List UInt8)=>.an (Qtx x3 v0.2) (.lv (Zff x3 v0.2) λ(x6:Bool)=>.br (decide (x5=[])==x6) (.an (Qjr x3 v0.2) (.lv (Qt1 x3 v0.2) λ(x7:List UInt8)=>.br (decide (x5=x7)) (.an (IT v0.2 x3) (.lv (Ly v0.2 x3) λ(x8:List UInt8)=>.br (decide (x8=x5)) (.an Lz (.lv GO λ(x9:Bool)=>.lf (Sum.inr x9))) (.lf (Sum.inr false)))) (.lf (Sum.inr false)))) (.lf (Sum.inr false)))))))))
def Qap kind prog steps n:=(Tm kind prog steps n).m
abbrev Qbo kind prog steps n:=(Tm kind prog steps n).p
def Qmh:bw:={
 α:=(Int)×au
 F:=λst a=>([(2,(lk st 2)),(3,(lk st 3)),(9,.ptr 0 0 0),(10,.ptr 1 0 0),(11,.int i64 a.1)],[⟨true,42,49,.gen [[(cT st 9 0),(cT st 9 1),(cT st 9 2),(cT st 9 3),(cT st 9 4),(cT st 9 5),(cT st 9 6),(cT st 9 7),(cT st 9 8),(cT st 9 9),(cT st 9 10),(cT st 9 11),(cT st 9 12),(cT st 9 13),(cT st 9 14),(cT st 9 15),(cT st 9 16),(cT st 9 17),(cT st 9 18),(cT st 9 19),(cT st 9 20),(cT st 9 21),(cT st 9 22),(cT st 9 23),(cT st 9 24),.sl 1 (nW st.rows (sZ (cT st 9 25) 1000000)) false,(cT st 9 26),(cT st 9 27),(cT st 9 28),(cT st 9 29),(cT st 9 30),(cT st 9 31),(cT st 9 32),(cT st 9 33),(cT st 9 34),(cT st 9 35),(cT st 9 36),(cT st 9 37),(cT st 9 38),(cT st 9 39),(cT st 9 40),(cT st 9 41),(cT st 9 42),(cT st 9 43),(cT st 9 44),(cT st 9 45),(cT st 9 46),(cT st 9 47),(cT st 9 48)]]⟩,⟨true,42,49,.gen [mD a.2 (.sl 1 (.ints u32 a.2.Mem) false)]⟩])
 a0:=λst=>((lk st 11).toInt,(mR (cT st 10) (H0 u32 st.rows (cT st 10 25))))
 ji:=λst=>[]++[(rX st 9 0),(rX st 10 1)]}
def Qjp:List (Nat×bw):=[(6,Qmh)]
def Qnu:ba:=mT 9 [] true [.one (.int .i64),.one (.ints .i64),.one (.int .i64),.one (.int .i64)] [] (λa r=>Tm (ar a 0) (du .i64 a 1) (ar a 2) (ar a 3)) (λX=>.bool X) (λX=>[])
theorem Qmc:bj pG Qnu:=oT (.cons Z56 (.cons Qog (.cons Zg4 (.cons Qln (.cons Zel (.cons Qyl (.nil))))))) Tryz.func9 Tryz.call9 [] Qjp 3

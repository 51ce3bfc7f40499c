import Derived.Test.YtaemmjbkndlkeaaGreatMigrateStartsZd
import Derived.Test.YtaemmjbkndlkeaaGreatMigrateStartsZx
import Derived.Test.YtaemmjbkndlkeaaGreatMigrateStartsDel
open Nat renaming beq->bX,blt->bN,lt_succ_self->cN
open List renaming getD->aV,length->dF,append->cP,take->cU,drop->cV,all->iC,replicate->cO,set->dB
open Int renaming toNat->dA,NonNeg->fF
set_option maxRecDepth 100000
set_option linter.all false
namespace Go.Proofs.YtaemmjbkndlkeaaGreat
open Go Go.GD Go.IntKind
noncomputable section
abbrev V4(q:df):Prop:=(rE q.A1.A4/\mE q.A1.A0 (((ai.Nil (ai.ints u32 q.A1.A0.Mem)\/ki Nat 1 1)/\rE q.A1.A0.Mem)) (((ai.Nil (ai.ag q.A1.B3.B0)\/ki Nat 1 1)/\rE q.A1.B3.B0)/\rE q.A1.B3.B9/\rE q.A1.B3.D7/\True/\((ai.Nil (ai.ints i64 q.A1.C1)\/ki Nat 1 1)/\rE q.A1.C1)/\rE q.A1.D5/\rE q.A2.A4/\mE q.A2.A0 (((ai.Nil (ai.ints u32 q.A2.A0.Mem)\/ki Nat 1 1)/\rE q.A2.A0.Mem)) (((ai.Nil (ai.ag q.A2.B3.B0)\/ki Nat 1 1)/\rE q.A2.B3.B0)/\rE q.A2.B3.B9/\rE q.A2.B3.D7/\True/\((ai.Nil (ai.ints i64 q.A2.C1)\/ki Nat 1 1)/\rE q.A2.C1)/\rE q.A2.D5/\True/\True/\((ai.Nil (ai.ah RK.str q.A9.ab)\/ki Nat 1 1)/\rE q.A9.ab)/\rE q.A9.D5/\rE q.A9.D6/\True)))
abbrev Sz(q:df):Prop:=(rE q.A1.A4/\mE q.A1.A0 (((ai.Nil (ai.ints u32 q.A1.A0.Mem)\/rE (1:Nat))/\rE q.A1.A0.Mem)) (((ai.Nil (ai.ag q.A1.B3.B0)\/rE (1:Nat))/\rE q.A1.B3.B0)/\rE q.A1.B3.B9/\rE q.A1.B3.D7/\True/\((ai.Nil (ai.ints i64 q.A1.C1)\/rE (1:Nat))/\rE q.A1.C1)/\rE q.A1.D5/\rE q.A2.A4/\mE q.A2.A0 (((ai.Nil (ai.ints u32 q.A2.A0.Mem)\/rE (1:Nat))/\rE q.A2.A0.Mem)) (((ai.Nil (ai.ag q.A2.B3.B0)\/rE (1:Nat))/\rE q.A2.B3.B0)/\rE q.A2.B3.B9/\rE q.A2.B3.D7/\True/\((ai.Nil (ai.ints i64 q.A2.C1)\/rE (1:Nat))/\rE q.A2.C1)/\rE q.A2.D5/\True/\True/\((ai.Nil (ai.ah RK.str q.A9.ab)\/rE (1:Nat))/\rE q.A9.ab)/\rE q.A9.D5/\rE q.A9.D6/\True)))
instance SA {α β:Type} [Inhabited β]:Inhabited (α⊕β):=⟨.inr default⟩
def Qw9(src:List UInt8)(z:(Int)×(List Int)):Nat:=((Z6h src).2.1.length-z.1).toNat
def Qw7(src:List UInt8)(v0:Int×List Int)(z:(Int)×(List Int)):Nat:=(1024-z.1).toNat
def N3(src:List UInt8):Tree ((List Int)×tA):=
.an (Qp7 src) (.lv (Z6h src) λ(x0:List oa×List kz×tA)=>.br (x0.2.2.w9 !=0) (.lf ([],x0.2.2)) (.lp inferInstance (Qw9 src (0,[])+1) ((True/\rZ/\True/\True/\True/\rE (0:Int)/\True)/\(rE (0:Int)/\rE (0:Int)/\True)/\rE x0.1/\rE x0.2.1/\rE ([]:List Int)/\True) (0,[]) λ(v0:Int×List Int)=>.br (decide (v0.1<(x0.2.1.length:Int))) (.cn (bX 6 6&&bN 0 6&&decide (0<=v0.1/\v0.1<(x0.2.1.length:Int))) (let E4:=x0.2.1.getD v0.1.toNat (RK.dx RK.ak);let T1:Tree ((Int×List Int)⊕(((List Int)×tA))):=.lp inferInstance (Qw7 src v0 (0,v0.2)+1) ((True/\rZ/\True/\True/\True/\rE v0.1/\rZ/\rE (0:Int)/\True)/\(rE (0:Int)/\rE (0:Int)/\True)/\rE x0.1/\rE x0.2.1/\(rE ((x0.2.1.getD v0.1.toNat (RK.dx RK.ak)).ed:List UInt8)/\rE ((x0.2.1.getD v0.1.toNat (RK.dx RK.ak)).op:Int)/\((ai.Nil (D.toEs (aV (ai.get (ai.ah RK.ak x0.2.1) v0.1.toNat) ((0:Nat)+(1:Nat)+(1:Nat)) D.dead))\/rE (3:Nat))/\rE ((x0.2.1.getD v0.1.toNat (RK.dx RK.ak)).l:List (RK.T RK.ax)))/\rE ((x0.2.1.getD v0.1.toNat (RK.dx RK.ak)).F3:Int)/\rE ((x0.2.1.getD v0.1.toNat (RK.dx RK.ak)).at_:Int)/\rE ((x0.2.1.getD v0.1.toNat (RK.dx RK.ak)).size:Int)/\True)/\rE v0.2/\True) (0,v0.2) λ(v1:Int×List Int)=>.br (decide (v1.1<E4.size)) (.cn (decide (4*(v1.2.length+1)<=140737488355328)) (.nx ((True/\rZ/\True/\True/\True/\rE v0.1/\rZ/\rE ((wrap i64 (v1.1+1)):Int)/\True)/\(rE (0:Int)/\rE (0:Int)/\True)/\rE x0.1/\rE x0.2.1/\(rE ((x0.2.1.getD v0.1.toNat (RK.dx RK.ak)).ed:List UInt8)/\rE ((x0.2.1.getD v0.1.toNat (RK.dx RK.ak)).op:Int)/\((ai.Nil (ai.ah RK.ax (x0.2.1.getD v0.1.toNat (RK.dx RK.ak)).l)\/rE (3:Nat))/\rE ((x0.2.1.getD v0.1.toNat (RK.dx RK.ak)).l:List (RK.T RK.ax)))/\rE ((x0.2.1.getD v0.1.toNat (RK.dx RK.ak)).F3:Int)/\rE ((x0.2.1.getD v0.1.toNat (RK.dx RK.ak)).at_:Int)/\rE ((x0.2.1.getD v0.1.toNat (RK.dx RK.ak)).size:Int)/\True)/\rE ((v1.2++[0]):List Int)/\True) (Sum.inl (wrap i64 (v1.1+1),v1.2++[0])))) (.nx ((True/\rZ/\True/\True/\True/\rE ((wrap i64 (v0.1+1)):Int)/\True)/\(rE (0:Int)/\rE (0:Int)/\True)/\rE x0.1/\rE x0.2.1/\rE v1.2/\True) (Sum.inr (Sum.inl (wrap i64 (v0.1+1),v1.2))));let E5:=bX 3 3&&bN 0 3&&decide ((0:Int)<=(0:Int)/\0<(↑(dF E4.l):Int));let E7:=aV E4.l (dA 0) (RK.dx RK.ax);let E8:=decide (4*(v0.2.length+1)<=140737488355328);let T2:Tree ((Int×List Int)⊕(((List Int)×tA))):=.cn E5 (.cn (bX 3 3&&bN 0 3&&decide ((0:Int)<=(1:Int)/\1<(↑(dF E4.l):Int))) (.lv (oL {Op:=16,A:=E7.kC,B:=(aV E4.l (dA 1) (RK.dx RK.ax)).kC,C:=0,bz:=0}) λ(x4:Int×Bool)=>.cn E8 (.nx ((True/\rZ/\True/\True/\True/\rE ((wrap i64 (v0.1+1)):Int)/\True)/\(rE (0:Int)/\rE (0:Int)/\True)/\rE x0.1/\rE x0.2.1/\rE ((v0.2++[x4.1]):List Int)/\True) (Sum.inl (wrap i64 (v0.1+1),v0.2++[x4.1])))));let T3:Tree ((Int×List Int)⊕(((List Int)×tA))):=.lv (oL {Op:=16,A:=0,B:=0,C:=0,bz:=0}) λ(x5:Int×Bool)=>.cn E8 (.nx ((True/\rZ/\True/\True/\True/\rE ((wrap i64 (v0.1+1)):Int)/\True)/\(rE (0:Int)/\rE (0:Int)/\True)/\rE x0.1/\rE x0.2.1/\rE ((v0.2++[x5.1]):List Int)/\True) (Sum.inl (wrap i64 (v0.1+1),v0.2++[x5.1])));let E9:=decide (E4.ed=[(46:UInt8),115,112,97,99,101]);let nb:=decide (E4.ed=[(46:UInt8),119,111,114,100]);let oU:=decide (E4.ed=[(110:UInt8),111,112]);let Bt:=decide (4*(v0.2.length+2)<=140737488355328);let HR:=decide (E4.ed=[(108:UInt8),105]);let HS:=decide (E4.ed=[(109:UInt8),118]);.br (decide ((↑(dF E4.l):Int)>(0:Int))) (.cn (bX 3 3&&bN 0 3&&decide (0<=wrap i64 ((↑(dF E4.l):Int)-(1:Int))/\wrap i64 ((↑(dF E4.l):Int)-(1:Int))<(↑(dF E4.l):Int))) (let E6:=aV E4.l (dA (wrap i64 ((↑(dF E4.l):Int)-(1:Int)))) (RK.dx RK.ax);.br (!decide (E6.label=[])) (.an (GB x0.1 E6.label) (.lv (Qt8 x0.1 E6.label) λ(x1:Int×Bool)=>.br (!x1.2) (.lf (Sum.inr ([],{w9:=302,nD:=E4.F3}))) (.br (decide (E4.op>0)) (let nT:=wrap i64 (wrap i64 (Int.tdiv (wrap i64 x1.1) 4)-E4.at_);.br nb (.cn E8 (.nx ((True/\rZ/\True/\True/\True/\rE ((wrap i64 (v0.1+1)):Int)/\True)/\(rE (0:Int)/\rE (0:Int)/\True)/\rE x0.1/\rE x0.2.1/\rE ((v0.2++[wrap u32 (wrap i64 (wrap i64 (Int.tdiv (wrap i64 x1.1) 4)-(x0.2.1.getD v0.1.toNat (RK.dx RK.ak)).at_))]):List Int)/\True) (Sum.inl (wrap i64 (v0.1+1),v0.2++[wrap u32 nT])))) (.br E9 T1 (.br HR (.cn E5 (.lv (oL {Op:=24,A:=E7.kC,B:=0,C:=0,bz:=wrap i32 (bm u32 (wrap u32 nT) 16)}) λ(x2:Int×Bool)=>.cn E5 (.cn E5 (.lv (oL {Op:=18,A:=E7.kC,B:=E7.kC,C:=0,bz:=wrap i32 (bh u32 (wrap u32 nT) 65535)}) λ(x3:Int×Bool)=>.cn Bt (.nx ((True/\rZ/\True/\True/\True/\rE ((wrap i64 (v0.1+1)):Int)/\True)/\(rE (0:Int)/\rE (0:Int)/\True)/\rE x0.1/\rE x0.2.1/\rE ((v0.2++[x2.1,x3.1]):List Int)/\True) (Sum.inl (wrap i64 (v0.1+1),v0.2++[x2.1,x3.1]))))))) (.br HS T2 (.br oU T3 (.an (Qb E4 nT) (.lv (V3 E4 nT) λ(x6:Int×Bool)=>.br (!x6.2) (.lf (Sum.inr ([],{w9:=304,nD:=E4.F3}))) (.cn E8 (.nx ((True/\rZ/\True/\True/\True/\rE ((wrap i64 (v0.1+1)):Int)/\True)/\(rE (0:Int)/\rE (0:Int)/\True)/\rE x0.1/\rE x0.2.1/\rE ((v0.2++[x6.1]):List Int)/\True) (Sum.inl (wrap i64 (v0.1+1),v0.2++[x6.1]))))))))))) (.br nb (.cn E8 (.nx ((True/\rZ/\True/\True/\True/\rE ((wrap i64 (v0.1+1)):Int)/\True)/\(rE (0:Int)/\rE (0:Int)/\True)/\rE x0.1/\rE x0.2.1/\rE ((v0.2++[wrap u32 (wrap i64 x1.1)]):List Int)/\True) (Sum.inl (wrap i64 (v0.1+1),v0.2++[wrap u32 (wrap i64 x1.1)])))) (.br E9 T1 (.br HR (.cn E5 (.lv (oL {Op:=24,A:=E7.kC,B:=0,C:=0,bz:=wrap i32 (bm u32 (wrap u32 (wrap i64 x1.1)) 16)}) λ(x7:Int×Bool)=>.cn E5 (.cn E5 (.lv (oL {Op:=18,A:=E7.kC,B:=E7.kC,C:=0,bz:=wrap i32 (bh u32 (wrap u32 (wrap i64 x1.1)) 65535)}) λ(x8:Int×Bool)=>.cn Bt (.nx ((True/\rZ/\True/\True/\True/\rE ((wrap i64 (v0.1+1)):Int)/\True)/\(rE (0:Int)/\rE (0:Int)/\True)/\rE x0.1/\rE x0.2.1/\rE ((v0.2++[x7.1,x8.1]):List Int)/\True) (Sum.inl (wrap i64 (v0.1+1),v0.2++[x7.1,x8.1]))))))) (.br HS T2 (.br oU T3 (.an (Qb E4 (wrap i64 x1.1)) (.lv (V3 E4 (wrap i64 x1.1)) λ(mu:Int×Bool)=>.br (!mu.2) (.lf (Sum.inr ([],{w9:=304,nD:=E4.F3}))) (.cn E8 (.nx ((True/\rZ/\True/\True/\True/\rE ((wrap i64 (v0.1+1)):Int)/\True)/\(rE (0:Int)/\rE (0:Int)/\True)/\rE x0.1/\rE x0.2.1/\rE ((v0.2++[mu.1]):List Int)/\True) (Sum.inl (wrap i64 (v0.1+1),v0.2++[mu.1])))))))))))))) (.br nb (.cn E8 (.nx ((True/\rZ/\True/\True/\True/\rE ((wrap i64 (v0.1+1)):Int)/\True)/\(rE (0:Int)/\rE (0:Int)/\True)/\rE x0.1/\rE x0.2.1/\rE ((v0.2++[wrap u32 (aV (x0.2.1.getD v0.1.toNat (RK.dx RK.ak)).l (dA (wrap i64 ((↑(dF (x0.2.1.getD v0.1.toNat (RK.dx RK.ak)).l):Int)-(1:Int)))) (RK.dx RK.ax)).num]):List Int)/\True) (Sum.inl (wrap i64 (v0.1+1),v0.2++[wrap u32 E6.num])))) (.br E9 T1 (.br HR (.cn E5 (.lv (oL {Op:=24,A:=E7.kC,B:=0,C:=0,bz:=wrap i32 (bm u32 (wrap u32 E6.num) 16)}) λ(ot:Int×Bool)=>.cn E5 (.cn E5 (.lv (oL {Op:=18,A:=E7.kC,B:=E7.kC,C:=0,bz:=wrap i32 (bh u32 (wrap u32 E6.num) 65535)}) λ(tN:Int×Bool)=>.cn Bt (.nx ((True/\rZ/\True/\True/\True/\rE ((wrap i64 (v0.1+1)):Int)/\True)/\(rE (0:Int)/\rE (0:Int)/\True)/\rE x0.1/\rE x0.2.1/\rE ((v0.2++[ot.1,tN.1]):List Int)/\True) (Sum.inl (wrap i64 (v0.1+1),v0.2++[ot.1,tN.1]))))))) (.br HS T2 (.br oU T3 (.an (Qb E4 E6.num) (.lv (V3 E4 E6.num) λ(CA:Int×Bool)=>.br (!CA.2) (.lf (Sum.inr ([],{w9:=304,nD:=E4.F3}))) (.cn E8 (.nx ((True/\rZ/\True/\True/\True/\rE ((wrap i64 (v0.1+1)):Int)/\True)/\(rE (0:Int)/\rE (0:Int)/\True)/\rE x0.1/\rE x0.2.1/\rE ((v0.2++[CA.1]):List Int)/\True) (Sum.inl (wrap i64 (v0.1+1),v0.2++[CA.1]))))))))))))) (.br nb (.cn E8 (.nx ((True/\rZ/\True/\True/\True/\rE ((wrap i64 (v0.1+1)):Int)/\True)/\(rE (0:Int)/\rE (0:Int)/\True)/\rE x0.1/\rE x0.2.1/\rE ((v0.2++[wrap u32 0]):List Int)/\True) (Sum.inl (wrap i64 (v0.1+1),v0.2++[wrap u32 0])))) (.br E9 T1 (.br HR (.cn E5 (.lv (oL {Op:=24,A:=E7.kC,B:=0,C:=0,bz:=wrap i32 (bm u32 (wrap u32 0) 16)}) λ(PY:Int×Bool)=>.cn E5 (.cn E5 (.lv (oL {Op:=18,A:=E7.kC,B:=E7.kC,C:=0,bz:=wrap i32 (bh u32 (wrap u32 0) 65535)}) λ(PZ:Int×Bool)=>.cn Bt (.nx ((True/\rZ/\True/\True/\True/\rE ((wrap i64 (v0.1+1)):Int)/\True)/\(rE (0:Int)/\rE (0:Int)/\True)/\rE x0.1/\rE x0.2.1/\rE ((v0.2++[PY.1,PZ.1]):List Int)/\True) (Sum.inl (wrap i64 (v0.1+1),v0.2++[PY.1,PZ.1]))))))) (.br HS T2 (.br oU T3 (.an (Qb E4 0) (.lv (V3 E4 0) λ(Mm:Int×Bool)=>.br (!Mm.2) (.lf (Sum.inr ([],{w9:=304,nD:=E4.F3}))) (.cn E8 (.nx ((True/\rZ/\True/\True/\True/\rE ((wrap i64 (v0.1+1)):Int)/\True)/\(rE (0:Int)/\rE (0:Int)/\True)/\rE x0.1/\rE x0.2.1/\rE ((v0.2++[Mm.1]):List Int)/\True) (Sum.inl (wrap i64 (v0.1+1),v0.2++[Mm.1]))))))))))))) (.lf (Sum.inr (v0.2,{w9:=0,nD:=0})))))
def K9 src:=(N3 src).m
abbrev Xh src:=(N3 src).p
def Z4o:bu:={
 α:=(Int)×(List Int)
 F:=λst a=>([(2,(lk st 2)),(3,.ptr 0 0 0),(4,.all 1),(5,.all 2),(7,.all 3),(8,.int i64 a.1)],[⟨true,120,2,.gen [[(cT st 3 0),(cT st 3 1)]]⟩,⟨false,243,2,mU st.rows (rN st 4)⟩,⟨false,177,6,mU st.rows (rN st 5)⟩,⟨false,25,1,.ints u32 a.2⟩])
 a0:=λst=>((lk st 8).toInt,(pZ st.rows (rN st 7)))
 iZ:=λst=>[]++[(rX st 3 0),(rX st 4 1),(rX st 5 2),(rX st 7 3)]}
def Z4r:bu:={
 α:=(Int)×(List Int)
 F:=λst a=>([(2,(lk st 2)),(3,.ptr 0 0 0),(4,.all 1),(5,.all 2),(7,.all 4),(8,(lk st 8)),(9,.ptr 3 0 0),(14,.int i64 a.1)],[⟨true,120,2,.gen [[(cT st 3 0),(cT st 3 1)]]⟩,⟨false,243,2,mU st.rows (rN st 4)⟩,⟨false,177,6,mU st.rows (rN st 5)⟩,⟨true,177,6,.gen [[(cT st 9 0),(cT st 9 1),(cT st 9 2),(cT st 9 3),(cT st 9 4),(cT st 9 5)]]⟩,⟨false,25,1,.ints u32 a.2⟩])
 a0:=λst=>((lk st 14).toInt,(pZ st.rows (rN st 7)))
 iZ:=λst=>[]++[(rX st 3 0),(rX st 4 1),(rX st 5 2),(rX st 9 3),(rX st 7 4)]}
def Qzs:List (Nat×bu):=[(6,Z4o),(29,Z4r)]
def Z6a:bb:=mT 77 [] true [.one (.str)] [] (λa r=>N3 (jF a 0)) (λX=>.dw [.all 0,.agg (tA.cells (X.2))]) (λX=>[⟨false,25,1,.ints .u32 (X.1)⟩])
theorem Z4z:bj pG Z6a:=oT (.cons Zka (.cons Qs8 (.cons Qnb (.cons Zm4 (.nil))))) Tryz.func77 Tryz.call77 [.row 25 1 (.ints .u32)] Qzs 3
end
noncomputable section
def BX:List UInt8:=[(105:UInt8),32,114,49,44,32,104,97,110,100,108,101,114,10,99,115,114,119,32,114,49,44,32,49,10,108,105,32,114,49,44,32,51,49,10,99,115,114,119,32,114]
def KT:List UInt8:=[(49:UInt8),44,32,55,10,108,105,32,114,49,44,32,52,10,99,115,114,119,32,114,49,44,32,54,10,108,105,32,114,50,44,32,53,49,50,10,108,105,32,114,51,44]
def KU:List UInt8:=[(32:UInt8),48,10,108,105,32,114,52,44,32,56,10,109,97,112,58,32,115,104,108,105,32,114,53,44,32,114,51,44,32,56,10,111,114,105,32,114,53,44,32,114,53]
def KV:List UInt8:=[(44:UInt8),32,55,10,115,104,108,105,32,114,54,44,32,114,51,44,32,50,10,97,100,100,32,114,54,44,32,114,54,44,32,114,50,10,115,119,32,114,53,44,32,48,40]
def KW:List UInt8:=[(114:UInt8),54,41,10,97,100,100,105,32,114,51,44,32,114,51,44,32,49,10,98,108,116,32,114,51,44,32,114,52,44,32,109,97,112,10,108,105,32,114,49,44,32]
def KX:List UInt8:=[(54:UInt8),10,111,117,116,32,114,49,44,32,55,10,108,105,32,114,49,44,32,50,10,111,117,116,32,114,49,44,32,57,10,108,105,32,114,49,44,32,49,48,48,10,111]
def KY:List UInt8:=[(117:UInt8),116,32,114,49,44,32,51,10,108,105,32,114,49,44,32,54,52,48,10,99,115,114,119,32,114,49,44,32,50,10,108,105,32,114,49,44,32,50,49,10,99]
def KZ:List UInt8:=[(115:UInt8),114,119,32,114,49,44,32,48,10,101,114,101,116,10,104,97,110,100,108,101,114,58,32,99,115,114,119,32,114,49,44,32,53,10,99,115,114,114,32,114,49,44]
def K0:List UInt8:=[(32:UInt8),51,10,115,108,116,105,32,114,49,44,32,114,49,44,32,49,54,10,98,101,113,32,114,49,44,32,114,48,44,32,105,114,113,10,99,115,114,114,32,114,49]
def K1:List UInt8:=[(44:UInt8),32,50,10,97,100,100,105,32,114,49,44,32,114,49,44,32,52,10,99,115,114,119,32,114,49,44,32,50,10,105,110,32,114,51,44,32,50,10,111,117,116]
def K3:List UInt8:=[(32:UInt8),114,51,44,32,48,10,108,105,32,114,49,44,32,49,10,111,117,116,32,114,49,44,32,52,10,108,105,32,114,49,44,32,55,10,111,117,116,32,114,49,44]
def K4:List UInt8:=[(32:UInt8),53,10,97,110,100,105,32,114,49,44,32,114,50,44,32,49,10,97,100,100,105,32,114,49,44,32,114,49,44,32,49,10,111,117,116,32,114,49,44,32,54,10]
def K5:List UInt8:=[(99:UInt8),115,114,114,32,114,49,44,32,53,10,101,114,101,116,10,105,114,113,58,32,105,110,32,114,49,44,32,48,10,111,117,116,32,114,49,44,32,48,10,111,117]
def K6:List UInt8:=[(116:UInt8),32,114,48,44,32,54,10,111,117,116,32,114,48,44,32,57,10,108,105,32,114,49,44,32,54,10,111,117,116,32,114,49,44,32,55,10,108,105,32,114,49,44]
def K7:List UInt8:=[(32:UInt8),50,10,111,117,116,32,114,49,44,32,57,10,105,110,32,114,49,44,32,50,10,97,100,100,105,32,114,49,44,32,114,49,44,32,50,48,10,111,117,116,32]
def K8:List UInt8:=[(114:UInt8),49,44,32,51,10,105,110,32,114,49,44,32,49,48,10,111,117,116,32,114,49,44,32,49,48,10,99,115,114,114,32,114,49,44,32,53,10,101,114,101,116,10]
def Tt:List UInt8:=[(108:UInt8),105,32,114,49,44,32,104,97,110,100,108,101,114,10,99,115,114,119,32,114,49,44,32,49,10,108,105,32,114,49,44,32,51,49,10,99,115,114,119,32,114]
instance SB {α β:Type} [Inhabited β]:Inhabited (α⊕β):=⟨.inr default⟩
def Z7j(t:jc):Tree (jc×Bool):=
.br (!t.F1) (.lf (t,false)) (.lf ({F1:=false,D3:=t.D3,E0:=true},true))
def Zjb t:=(Z7j t).m
def Znw:bb:=mS 181 [] true [.agg jc.sig] [] (λa r=>Z7j (jc.of (aC a 0))) (λX=>.dw [.agg (jc.cells (X.1)),.bool (X.2)]) (λX=>[])
theorem Zl6:bj pG Znw:=oS (.nil) Tryz.func181 Tryz.call181 [] [] 2
def Qx4(c:iV)(b:Int):Tree (iV×Bool):=
.br (decide ((c.D9.length:Int)>=(16:Int))) (.lf (c,false)) (.cn (decide (c.D9.length+1<=maxLen)) (.lf ({D9:=c.D9++[(λ(n:Int)=>UInt8.ofNat n.toNat) b]},true)))
def Zkw c b:=(Qx4 c b).m
abbrev Qxm c b:=(Qx4 c b).p
def Znj:bb:=mT 182 [] true [.agg iV.sig,.one (.int .u8)] [] (λa r=>Qx4 (iV.of (aC a 0)) (au a 1)) (λX=>.dw [.agg (iV.cells (X.1)),.bool (X.2)]) (λX=>[])
theorem Zj3:bj pG Znj:=oT (.nil) Tryz.func182 Tryz.call182 [] [] 2
def Zac(m:List Int)(frame:Int)(s:List UInt8)(z:(Int)×(List Int)):Nat:=(128-z.1).toNat
def Qwc(m:List Int)(frame:Int)(s:List UInt8):Tree (List Int):=
.lp inferInstance (Zac m frame s (0,m)+1) ((True/\rE (frame:Int)/\rE (s:List UInt8)/\rE (0:Int)/\True)/\rE (m:List Int)/\True) (0,m) λ(v0:Int×List Int)=>.br (decide (v0.1<(s.length:Int))) (.br (decide (v0.1<128)) (.cn (decide (0<=v0.1/\v0.1<(s.length:Int))) (let E1:=wrap u32 (↑(UInt8.toNat (s.getD v0.1.toNat (0:UInt8))):Int);let E2:=wrap u32 (wrap i64 (wrap i64 (frame*128)+v0.1));.an (Qmc v0.2 E2 1 E1) (.lv (I7 v0.2 E2 1 E1) λ(x0:List Int)=>.nx ((True/\rE (frame:Int)/\rE (s:List UInt8)/\rE ((wrap i64 (v0.1+1)):Int)/\True)/\rE (x0:List Int)/\True) (Sum.inl (wrap i64 (v0.1+1),x0))))) (.lf (Sum.inr v0.2))) (.lf (Sum.inr v0.2))
def Z6t m frame s:=(Qwc m frame s).m
abbrev Qpw m frame s:=(Qwc m frame s).p
def Zna:bu:={
 α:=(Int)×(List Int)
 F:=λst a=>([(0,.all 0),(1,(lk st 1)),(2,(lk st 2)),(6,.int i64 a.1)],[⟨false,25,1,.ints u32 a.2⟩])
 a0:=λst=>((lk st 6).toInt,(pZ st.rows 0))
 iZ:=λst=>[0]++[]}
def Zb:List (Nat×bu):=[(1,Zna)]
def Zng:bb:=mT 207 [true,false,false] true [.one (.row 0),.one (.int .i64),.one (.str)] [.arr 25 1 (.ints .u32)] (λa r=>Qwc (cy .u32 r 0) (au a 1) (jF a 2)) (λX=>.dw []) (λX=>[⟨false,25,1,.ints .u32 X⟩])
theorem Z2p:bj pG Zng:=oT (.cons Z7t (.nil)) Tryz.func207 Tryz.call207 [] Zb 3
def Qpc(d0:gh)(m:List Int)(e:u9):Tree (gh×Bool×(List Int)):=
.br (d0.C9 !=1) (.lf (d0,false,m)) (.br (e.C2 !=4) (.lf (d0,false,m)) (.br (decide (e.N>1)) (.lf (d0,false,m)) (let T2:Tree ((gh×Bool×(List Int))):=.br (e.N==1) (.lf ({ab:=d0.ab,C8:=d0.C8,Frame:=d0.Frame,C9:=2,F5:=0,C5:=0,C6:=0,C7:=[]},true,m)) (.lf ({ab:=d0.ab,C8:=d0.C8,Frame:=d0.Frame,C9:=3,F5:=0,C5:=0,C6:=0,C7:=[]},true,m));let E4:=decide ((e.F0.length:Int)>(0:Int));.br (e.N==1) (let T1:Tree ((gh×Bool×(List Int))):=.br (d0.F5==1) (.an (Qpw m (wrap i64 d0.C6) e.F0) (.lv (Z6t m (wrap i64 d0.C6) e.F0) λ(x1:List Int)=>.br (e.N==1) (.lf ({ab:=d0.ab,C8:=d0.C8,Frame:=d0.Frame,C9:=2,F5:=0,C5:=0,C6:=0,C7:=[]},true,x1)) (.lf ({ab:=d0.ab,C8:=d0.C8,Frame:=d0.Frame,C9:=3,F5:=0,C5:=0,C6:=0,C7:=[]},true,x1)))) T2;let T3:Tree ((gh×Bool×(List Int))):=.br (!d0.F5==1) (.br E4 (.lf (d0,false,m)) T1) T1;.br (d0.F5==1) (.br ((e.F0.length:Int) !=(128:Int)) (.lf (d0,false,m)) (.lv (tJ m d0.C6) λ(x0:Bool)=>.br (!x0) (.lf (d0,false,m)) T3)) T3) (.br E4 (.lf (d0,false,m)) T2))))
def Z83 d0 m e:=(Qpc d0 m e).m
abbrev Qst d0 m e:=(Qpc d0 m e).p
def Zfa:bb:=mT 183 [false,true,false] true [.agg gh.sig,.one (.row 0),.agg u9.sig] [.arr 25 1 (.ints .u32)] (λa r=>Qpc (gh.of (aC a 0)) (cy .u32 r 0) (u9.of (aC a 2))) (λX=>.dw [.agg (gh.cells (X.1)),.bool (X.2.1)]) (λX=>[⟨false,25,1,.ints .u32 (X.2.2)⟩])
theorem Zc2:bj pG Zfa:=oT (.cons SC (.cons Z2p (.nil))) Tryz.func183 Tryz.call183 [] [] 2
def Qp0(n:ik)(m:List Int)(frame:List UInt8):Tree (ik×Bool×(List Int)):=
.br (!n.D1) (.lf (n,false,m)) (.br (decide ((frame.length:Int)<(1:Int))) (.lf (n,false,m)) (.br (decide ((frame.length:Int)>(128:Int))) (.lf (n,false,m)) (.lv (tJ m n.D2) λ(x0:Bool)=>.br (!x0) (.lf (n,false,m)) (.an (Qpw m (wrap i64 n.D2) frame) (.lv (Z6t m (wrap i64 n.D2) frame) λ(x1:List Int)=>.lf ({Frame:=n.Frame,F6:=n.F6,D1:=false,D2:=0,C4:=true,F9:=wrap u32 (frame.length:Int)},true,x1))))))
def Z8o n m frame:=(Qp0 n m frame).m
abbrev Qsc n m frame:=(Qp0 n m frame).p
def Zi1:bb:=mT 184 [false,true,false] true [.agg ik.sig,.one (.row 0),.one (.str)] [.arr 25 1 (.ints .u32)] (λa r=>Qp0 (ik.of (aC a 0)) (cy .u32 r 0) (jF a 2)) (λX=>.dw [.agg (ik.cells (X.1)),.bool (X.2.1)]) (λX=>[⟨false,25,1,.ints .u32 (X.2.2)⟩])
theorem Zbp:bj pG Zi1:=oT (.cons SC (.cons Z2p (.nil))) Tryz.func184 Tryz.call184 [] [] 2
def Qtq(m:bg)(e:u9):Tree (Bool×bg):=
.br m.B5 (.lf (false,m)) (let T1:Tree ((Bool×bg)):=.br (e.C2==4) (.an (Qst m.B7 m.Mem e) (.lv (Z83 m.B7 m.Mem e) λ(x2:gh×Bool×List Int)=>.lf (x2.2.1,{B4:=m.B4,Mem:=x2.2.2,B1:=m.B1,B8:=m.B8,B7:=x2.1,D4:=m.D4,A6:=m.A6,B6:=m.B6,B2:=m.B2,B5:=m.B5}))) (let T3:Tree ((Bool×bg)):=.br (e.C2==6) (.br (decide (e.F0=[])) (.lf (true,{B4:=m.B4,Mem:=m.Mem,B1:=m.B1,B8:=m.B8,B7:=m.B7,D4:=m.D4,A6:={A2:=e.N,D0:=m.A6.D0},B6:=m.B6,B2:=m.B2,B5:=m.B5})) (.lf (false,m))) (.lf (false,m));.br (e.C2==5) (.br (e.N==0) (.an (Qsc m.D4 m.Mem e.F0) (.lv (Z8o m.D4 m.Mem e.F0) λ(x3:ik×Bool×List Int)=>.lf (x3.2.1,{B4:=m.B4,Mem:=x3.2.2,B1:=m.B1,B8:=m.B8,B7:=m.B7,D4:=x3.1,A6:=m.A6,B6:=m.B6,B2:=m.B2,B5:=m.B5}))) T3) T3);let T2:Tree ((Bool×bg)):=.br (e.C2==3) (.br (decide (e.N<=255)) (.br (decide (e.F0=[])) (.an (Qxm m.B1 (wrap u8 e.N)) (.lv (Zkw m.B1 (wrap u8 e.N)) λ(x1:iV×Bool)=>.lf (x1.2,{B4:=m.B4,Mem:=m.Mem,B1:=x1.1,B8:=m.B8,B7:=m.B7,D4:=m.D4,A6:=m.A6,B6:=m.B6,B2:=m.B2,B5:=m.B5}))) T1) T1) T1;.br (e.C2==2) (.br (e.N==0) (.br (decide (e.F0=[])) (.lv (Zjb m.B8) λ(x0:jc×Bool)=>.lf (x0.2,{B4:=m.B4,Mem:=m.Mem,B1:=m.B1,B8:=x0.1,B7:=m.B7,D4:=m.D4,A6:=m.A6,B6:=m.B6,B2:=m.B2,B5:=m.B5})) T2) T2) T2)
def Zsk m e:=(Qtq m e).m
abbrev Zay m e:=(Qtq m e).p
def Zj:bb:=mT 130 [true,false] true [.ptr 0,.agg u9.sig] [.box 43 49 (bg.il (.row 1)),.arr 25 1 (.ints .u32)] (λa r=>Qtq (bg.iF (r.getD 0 default).cs (cy .u32 r 1)) (u9.of (aC a 1))) (λX=>.bool (X.1)) (λX=>[⟨true,43,49,.gen [(bg.cq (X.2) (.all 1))]⟩,⟨false,25,1,.ints .u32 (X.2).Mem⟩])
theorem Zh9:bj pG Zj:=oT (.cons Zl6 (.cons Zj3 (.cons Zc2 (.cons Zbp (.nil))))) Tryz.func130 Tryz.call130 [.row 25 1 (.ints .u32)] [] 2
def Sc(m:bg):Tree Bool:=
.an (Qbr m) (.lv (ri m) λ(x0:bq)=>.br (bh u32 x0.C3.a0 (1:Int)==(0:Int)) (.lf false) (.an (V5 m.Mem x0.Pc 4) (.lv (oP m.Mem x0.Pc 4) λ(x1:Int×Bool)=>.lv (Ba x1.1) λ(x2:ib×Bool)=>.br x1.2 (.br x2.2 (.br (x2.1.Op==60) (.lf (x2.1.bz==2)) (.lf false)) (.lf false)) (.lf false))))
def Zem m:=(Sc m).m
abbrev Qw m:=(Sc m).p
def Zmn:bb:=mT 131 [] true [.agg bg.sig] [] (λa r=>Sc (bg.of (aC a 0))) (λX=>.bool X) (λX=>[])
theorem Zgi:bj pG Zmn:=oT (.cons Qk8 (.cons Qsp (.cons Qvv (.nil)))) Tryz.func131 Tryz.call131 [] [] 2
def Qok(l:List pI)(z:(Int)):Prop:=1<=z/\(z<=l.length\/z=1)
def Qe1(l:List pI)(z:(Int)):Nat:=(l.length-z).toNat
def V6(l:List pI):Tree Bool:=
.lp inferInstance (Qe1 l 1+1) ((nR RK.fg 4 l/\rE (1:Int)/\True)/\True) 1 λ(v0:Int)=>.br (decide (v0<(l.length:Int))) (let E4:=bX 4 4&&bN 0 4&&decide (0<=v0/\v0<(l.length:Int));.cn E4 (let E2:=bX 4 4&&bN 0 4&&decide (0<=wrap i64 (v0-1)/\wrap i64 (v0-1)<(l.length:Int));.cn E2 (let E3:=l.getD (dA (wrap i64 (v0-1))) (RK.dx RK.fg);let E5:=l.getD v0.toNat (RK.dx RK.fg);.br (decide (E5.At<E3.At)) (.lf (Sum.inr false)) (.cn E4 (.cn E2 (let T1:Tree ((Int)⊕(Bool)):=.nx ((nR RK.fg 4 l/\rE ((wrap i64 (v0+1)):Int)/\True)/\True) (Sum.inl (wrap i64 (v0+1)));.br (E5.At==E3.At) (.cn E2 (.br (E3.Event.C2==1) (.lf (Sum.inr false)) T1)) T1)))))) (.lf (Sum.inr true))
def Z3d l:=(V6 l).m
def N5(l:List pI):Prop:=
l.length<=1000000000000
theorem Z51(l:List pI)(hw:N5 l):(V6 l).p:=by
 simp only[N5]at hw
 unfold Tree.p V6
 repeat'(first|refine eu (inv:=Qok l) (μ:=Qe1 l) ?_ (cN _) (λ_ _=>?_)|exact trivial|refine ae (λ_=>?_) (λ_=>?_)|refine av ?_ ?_|refine cg ?_ ?_|refine aq (λ_ _=>?_)|refine ee ?_|refine ba ?_|refine And.intro ?_ ?_)
 all_goals((try simp only[Qok,Qe1]at*);exact lU)
def Za0:bu:={
 α:=(Int)
 F:=λst a=>([(0,(lk st 0)),(3,.int i64 a)],[])
 a0:=λst=>(lk st 3).toInt
 iZ:=λst=>[]++[]}
def Z20:List (Nat×bu):=[(2,Za0)]
def Zcp:bb:=kH 129 [] true [.one (.ah .fg)] [] (λa r=>N5 (jh .fg a 0)) (λa r=>Z3d (jh .fg a 0)) (λX=>.bool X) (λX=>[])
theorem Z8m:bj pG Zcp:=rU drawn jt (.nil) Tryz.func129 Tryz.call129 (λa r=>V6 (jh .fg a 0)) [] Z20 3 (hp:=λa r h=>Z51 (jh .fg a 0) h)
def Xi(m:bg)(kN:List pI)(iS:Int)(z:bg×(List ir)):Nat:=(iS-z.1.B6).toNat
def Xj(m:bg)(kN:List pI)(iS:Int)(v0:bg×List ir)(z:Unit):Nat:=0
def IL(m:bg)(kN:List pI)(iS:Int):Tree (bg×(List ir)×Int×Int):=
.lv (rh m) λ(x0:Bool)=>let E2:=({B4:={X:={a0:=0,a1:=0,a2:=0,a3:=0,a4:=0,a5:=0,a6:=0,a7:=0,a8:=0,a9:=0,kO:=0,kP:=0,a12:=0,kQ:=0,kR:=0,kS:=0},Pc:=0,C3:={a0:=0,a1:=0,a2:=0,a3:=0,a4:=0,a5:=0,a6:=0,a7:=0}},Mem:=[],B1:={D9:=[]},B8:={F1:=false,D3:=0,E0:=false},B7:={ab:=0,C8:=0,Frame:=0,C9:=0,F5:=0,C5:=0,C6:=0,C7:=[]},D4:={Frame:=0,F6:=0,D1:=false,D2:=0,C4:=false,F9:=0},A6:={A2:=0,D0:=0},B6:=0,B2:=false,B5:=false}:bg);let T1:Tree ((bg×(List ir)×Int×Int)):=.lf (E2,[],0,1300);.br (!x0) T1 (.br (decide (iS<m.B6)) T1 (.br (decide (wrap u64 (iS-m.B6)>4000)) T1 (.an (N5 []) (.lv (Z3d []) λ(x1:Bool)=>.br (!x1) (.lf (E2,[],0,1301)) (.an (Qtb m) (.lv (Ui m) λ(x2:bg)=>.lp inferInstance (Xi m kN iS (x2,[])+1) ((((ai.Nil (ai.gen [])\/rE (0:Nat))/\rE ([]:List (List D)))/\rE (iS:Int)/\rZ/\rZ/\True/\rE (0:Int)/\True)/\(mE x2 True True)/\rE x2.Mem/\(mE zM True True)/\rE ([]:List (RK.T RK.cf))/\True) (x2,[]) λ(v0:bg×List ir)=>.br (decide (v0.1.B6<iS)) (.br (decide (v0.1.B6<1152921504606846976)) (.lp inferInstance (Xj m kN iS v0 ()+1) ((((ai.Nil (ai.gen [])\/rE (0:Nat))/\rE ([]:List (List D)))/\rE (iS:Int)/\rZ/\rZ/\True/\rE (0:Int)/\(rE (0:Nat)/\rE (46:Nat))/\rE v0.1.B6/\rE ((decide (v0.1.B6<1152921504606846976)):Bool)/\True)/\(mE v0.1 True True)/\rE v0.1.Mem/\(mE zM True True)/\rE v0.2/\True) () λ(v1:PUnit)=>.br v0.1.B5 (.lf (Sum.inr (Sum.inr (v0.1,v0.2,0,0)))) (.an (Qpx v0.1) (.lv (Je v0.1) λ(x3:Bool)=>.br x3 (.lf (Sum.inr (Sum.inr (v0.1,v0.2,0,0)))) (.an (Qw v0.1) (.lv (Zem v0.1) λ(x4:Bool)=>.br (!false==x4) (.lf (Sum.inr (Sum.inr (E2,[],0,1302)))) (.an (Qi3 v0.1 0) (.lv (Au v0.1 0) λ(x5:List ir×bg)=>.cn (decide (40*(v0.2.length+x5.1.length)<=140737488355328)) (.nx ((((ai.Nil (ai.gen [])\/rE (0:Nat))/\rE ([]:List (List D)))/\rE (iS:Int)/\rZ/\rZ/\True/\rE (0:Int)/\True)/\(mE x5.2 True True)/\rE x5.2.Mem/\(mE zM True True)/\rE ((v0.2++x5.1):List (RK.T RK.cf))/\True) (Sum.inr (Sum.inl (x5.2,v0.2++x5.1))))))))))) (.lf (Sum.inr (v0.1,v0.2,0,0)))) (.lf (Sum.inr (v0.1,v0.2,0,0)))))))))
def La m kN iS:=(IL m kN iS).m
abbrev V7 m kN iS:=(IL m kN iS).p
def Zik:bu:={
 α:=bg×(List ir)
 F:=λst a=>([(1,(lk st 1)),(2,(lk st 2)),(3,.ptr 0 0 0),(6,.ptr 2 0 0),(10,.all 3),(11,(lk st 11))],[⟨true,43,49,.gen [mD a.1 (.all 1)]⟩,⟨false,25,1,.ints u32 a.1.Mem⟩,⟨true,43,49,.gen [mB (cT st 6)]⟩,⟨false,232,4,.ah RK.cf a.2⟩])
 a0:=λst=>((mR (cT st 3) (pZ st.rows (jM (cT st 3 25) 1000000))),(tD RK.cf st.rows (rN st 10)))
 iZ:=λst=>[]++[(rX st 3 0),(jM (cT st 3 25) (st.rows.length+1)),(rX st 6 2),(rX st 10 3)]}
def Zh1:bu:={
 α:=Unit
 F:=λst a=>([(1,(lk st 1)),(2,(lk st 2)),(3,.ptr 0 0 0),(6,.ptr 2 0 0),(10,.all 3),(11,(lk st 11)),(61,.ptr 0 0 46),(62,(lk st 62)),(63,(lk st 63))],[⟨true,43,49,.gen [[(cT st 3 0),(cT st 3 1),(cT st 3 2),(cT st 3 3),(cT st 3 4),(cT st 3 5),(cT st 3 6),(cT st 3 7),(cT st 3 8),(cT st 3 9),(cT st 3 10),(cT st 3 11),(cT st 3 12),(cT st 3 13),(cT st 3 14),(cT st 3 15),(cT st 3 16),(cT st 3 17),(cT st 3 18),(cT st 3 19),(cT st 3 20),(cT st 3 21),(cT st 3 22),(cT st 3 23),(cT st 3 24),.all 1,(cT st 3 26),(cT st 3 27),(cT st 3 28),(cT st 3 29),(cT st 3 30),(cT st 3 31),(cT st 3 32),(cT st 3 33),(cT st 3 34),(cT st 3 35),(cT st 3 36),(cT st 3 37),(cT st 3 38),(cT st 3 39),(cT st 3 40),(cT st 3 41),(cT st 3 42),(cT st 3 43),(cT st 3 44),(cT st 3 45),(cT st 3 46),(cT st 3 47),(cT st 3 48)]]⟩,⟨false,25,1,mU st.rows (jM (cT st 3 25) 1000000)⟩,⟨true,43,49,.gen [mB (cT st 6)]⟩,⟨false,232,4,mU st.rows (rN st 10)⟩])
 a0:=λst=>()
 iZ:=λst=>[]++[(rX st 3 0),(jM (cT st 3 25) (st.rows.length+1)),(rX st 6 2),(rX st 10 3)]}
def Z66:List (Nat×bu):=[(8,Zik),(9,Zh1)]
def Zmb:bb:=mT 80 [] true [.agg bg.sig,.one .nil,.one (.int .u64)] [] (λa r=>IL (bg.of (aC a 0)) (jh .fg a 1) (au a 2)) (λX=>.dw [.agg (bg.cq (X.1) (.all 0)),.all 1,.int .i64 (X.2.2.1),.int .i64 (X.2.2.2)]) (λX=>[⟨false,25,1,.ints .u32 (X.1).Mem⟩,⟨false,232,4,.ah .cf (X.2.1)⟩])
theorem Zh:bj pG Zmb:=oT (.cons Z7m (.cons Z8m (.cons Znn (.cons Zh9 (.cons Zkc (.cons Zgi (.cons Z8j (.nil)))))))) Tryz.func80 Tryz.call80 [.row 25 1 (.ints .u32),.row 232 4 (.ah .cf)] Z66 3
def Qf(kind:Int)(l z:List Int):Nat:=160-z.length
def IM(kind:Int)(l:List Int):Tree bg:=
.an (Q6 kind 3) (.lv (FR kind 3) λ(x0:Int)=>.br (decide (x0<2)) (.an (Xh ((108:UInt8)::(BX++KT++(KU++KV)++(KW++KX++(KY++KZ))++(K0++K1++(K3++K4)++(K5++K6++(K7++K8)))))) (.lv (K9 (cP (cP (cP (cP Tt KT) (cP KU KV)) (cP (cP KW KX) (cP KY KZ))) (cP (cP (cP K0 K1) (cP K3 K4)) (cP (cP K5 K6) (cP K7 K8))))) λ(x1:List Int×tA)=>.lp inferInstance (Qf kind l x1.1+1) ((rE (x0:Int)/\((ai.Nil (ai.ints i64 l)\/rE (1:Nat))/\rE (l:List Int))/\rZ/\True/\True)/\(mE zM True True)/\rE x1.1/\True) x1.1 λ(v0:List Int)=>.br (decide ((v0.length:Int)<(160:Int))) (.cn (decide (4*(v0.length+1)<=140737488355328)) (.nx ((rE (x0:Int)/\((ai.Nil (ai.ints i64 l)\/rE (1:Nat))/\rE (l:List Int))/\rZ/\True/\True)/\(mE zM True True)/\rE ((v0++[0]):List Int)/\True) (Sum.inl (v0++[0])))) (.an (Qpt l) (.lv (Uu l) λ(x2:List Int)=>.cn (decide (4*(v0.length+x2.length)<=140737488355328)) (.br (decide ((↑(dF (v0++x2)):Int)>(256:Int))) (.cn (bX 1 1&&bN 0 1&&decide ((0:Int)<=(0:Int)/\(0:Int)<=(256:Int)/\256<=(↑(dF (v0++x2)):Int))) (let E1:=cU (dA 256-dA 0) (cV (dA 0) (v0++x2));.an (VX 8 4 E1) (.lv (lr 8 4 E1) λ(x3:bg×Bool)=>.br (x0==1) (.an (V7 x3.1 [] 87) (.lv (La x3.1 [] 87) λ(x4:bg×List ir×Int×Int)=>.lf (Sum.inr x4.1))) (.lf (Sum.inr x3.1))))) (.an (VX 8 4 (v0++x2)) (.lv (lr 8 4 (v0++x2)) λ(x5:bg×Bool)=>.br (x0==1) (.an (V7 x5.1 [] 87) (.lv (La x5.1 [] 87) λ(x6:bg×List ir×Int×Int)=>.lf (Sum.inr x6.1))) (.lf (Sum.inr x5.1))))))))) (.an (Qpt l) (.lv (Uu l) λ(x7:List Int)=>.cn (decide (4*(0+x7.length)<=140737488355328)) (.br (decide ((x7.length:Int)>(256:Int))) (.cn (bX 1 1&&bN 0 1&&decide ((0:Int)<=(0:Int)/\(0:Int)<=(256:Int)/\256<=(x7.length:Int))) (let E2:=cU (dA 256-dA 0) (cV (dA 0) x7);.an (VX 8 4 E2) (.lv (lr 8 4 E2) λ(x8:bg×Bool)=>.br (x0==1) (.an (V7 x8.1 [] 87) (.lv (La x8.1 [] 87) λ(x9:bg×List ir×Int×Int)=>.lf x9.1)) (.lf x8.1)))) (.an (VX 8 4 x7) (.lv (lr 8 4 x7) λ(lI:bg×Bool)=>.br (x0==1) (.an (V7 lI.1 [] 87) (.lv (La lI.1 [] 87) λ(mu:bg×List ir×Int×Int)=>.lf mu.1)) (.lf lI.1)))))))
def Ut kind l:=(IM kind l).m
abbrev Qqk kind l:=(IM kind l).p
def Z90:bu:={
 α:=(List Int)
 F:=λst a=>([(0,(lk st 0)),(1,(lk st 1)),(4,.ptr 0 0 0),(5,.all 1)],[⟨true,43,49,.gen [mB (cT st 4)]⟩,⟨false,25,1,.ints u32 a⟩])
 a0:=λst=>(pZ st.rows (rN st 5))
 iZ:=λst=>[]++[(rX st 4 0),(rX st 5 1)]}
def Z0o:List (Nat×bu):=[(5,Z90)]
def Zbq:bb:=mT 30 [] true [.one (.int .i64),.one (.ints .i64)] [] (λa r=>IM (au a 0) (de .i64 a 1)) (λX=>.agg (bg.cq X (.all 0))) (λX=>[⟨false,25,1,.ints .u32 X.Mem⟩])
theorem Z6r:bj pG Zbq:=oT (.cons Qzi (.cons Z4z (.cons Zjp (.cons Zno (.cons Zh (.nil)))))) Tryz.func30 Tryz.call30 [.row 25 1 (.ints .u32)] Z0o 3
end
noncomputable section
def Z7y(m:bg)(clock:Int):Tree (bg×(List ir)):=
.an (Qtb m) (.lv (Ui m) λ(x0:bg)=>.an (Zcg x0) (.lv (GW x0) λ(x1:Bool)=>.br x1 (.lf (x0,[])) (.an (Qi3 x0 clock) (.lv (Au x0 clock) λ(x2:List ir×bg)=>.lf (x2.2,x2.1)))))
def Yt m clock:=(Z7y m clock).m
end
noncomputable section
instance SD {α β:Type} [Inhabited β]:Inhabited (α⊕β):=⟨.inr default⟩
def O3(bc:Int):Tree (List Int):=
.br (decide (bc<1)) (.lf ([])) (.br (decide (bc>32)) (.lf ([])) (.cn (bN 0 1&&bX 1 1&&iC [D.int u32 0] D.plain&&decide (0<=wrap i64 (bc*32)/\wrap i64 (bc*32)<=wrap i64 (bc*32)/\wrap i64 (bc*32)<=9223372036854775807/\(↑4:Int)*wrap i64 (bc*32)<=140737488355328)) (.lf (cO (dA (wrap i64 (bc*32))) 0))))
def Z0h bc:=(O3 bc).m
abbrev Qna bc:=(O3 bc).p
def Ziq:bb:=mT 72 [] true [.one (.int .i64)] [] (λa r=>O3 (au a 0)) (λX=>.all 0) (λX=>[⟨false,25,1,.ints .u32 X⟩])
theorem Zhv:bj pG Ziq:=oT (.nil) Tryz.func72 Tryz.call72 [.row 25 1 (.ints .u32)] [] 2
def Q8f(s1 s2:List Int)(z:(Int)):Prop:=0<=z/\z<=s1.length/\s1.length=s2.length
def O6(s1 s2:List Int)(z:(Int)):Nat:=(s1.length-z).toNat
def Mb(s1 s2:List Int):Tree Bool:=
.br ((s1.length:Int) !=(s2.length:Int)) (.lf false) (.lp inferInstance (O6 s1 s2 0+1) ((((ai.Nil (ai.ints u32 s1)\/rE (1:Nat))/\rE (s1:List Int))/\((ai.Nil (ai.ints u32 s2)\/rE (1:Nat))/\rE (s2:List Int))/\rE ((s1.length:Int):Int)/\rE (0:Int)/\True)/\True) 0 λ(v0:Int)=>.br (decide (v0<(s1.length:Int))) (.cn (bX 1 1&&bN 0 1&&decide (0<=v0/\v0<(s1.length:Int))) (.cn (bX 1 1&&bN 0 1&&decide (0<=v0/\v0<(s2.length:Int))) (.br (s1.getD v0.toNat 0 !=s2.getD v0.toNat 0) (.lf (Sum.inr false)) (.nx ((((ai.Nil (ai.ints u32 s1)\/rE (1:Nat))/\rE (s1:List Int))/\((ai.Nil (ai.ints u32 s2)\/rE (1:Nat))/\rE (s2:List Int))/\rE ((s1.length:Int):Int)/\rE ((wrap i64 (v0+1)):Int)/\True)/\True) (Sum.inl (wrap i64 (v0+1))))))) (.lf (Sum.inr true)))
def Uw s1 s2:=(Mb s1 s2).m
def V8(s1 s2:List Int):Prop:=
s1.length<=1000000000000
theorem Qhk(s1 s2:List Int)(hw:V8 s1 s2):(Mb s1 s2).p:=by
 simp only[V8]at hw
 unfold Tree.p Mb
 repeat'(first|refine eu (inv:=Q8f s1 s2) (μ:=O6 s1 s2) ?_ (cN _) (λ_ _=>?_)|exact trivial|refine ae (λ_=>?_) (λ_=>?_)|refine av ?_ ?_|refine cg ?_ ?_|refine aq (λ_ _=>?_)|refine ee ?_|refine ba ?_|refine And.intro ?_ ?_)
 all_goals((try simp only[Q8f,O6]at*);exact lU)
def Qi4:bu:={
 α:=(Int)
 F:=λst a=>([(0,(lk st 0)),(1,(lk st 1)),(12,(lk st 12)),(13,.int i64 a)],[])
 a0:=λst=>(lk st 13).toInt
 iZ:=λst=>[]++[]}
def Qfl:List (Nat×bu):=[(4,Qi4)]
def Qj7:bb:=kH 141 [] true [.one (.ints .u32),.one (.ints .u32)] [] (λa r=>V8 (de .u32 a 0) (de .u32 a 1)) (λa r=>Uw (de .u32 a 0) (de .u32 a 1)) (λX=>.bool X) (λX=>[])
theorem Qif:bj pG Qj7:=rU drawn jt (.nil) Tryz.func141 Tryz.call141 (λa r=>Mb (de .u32 a 0) (de .u32 a 1)) [] Qfl 3 (hp:=λa r h=>Qhk (de .u32 a 0) (de .u32 a 1) h)
def SE:bb:=⟨143,[],false,λa r=>match a,r with|[.sl 1 (.ag l) _],[]=>.abs Unit () (λ_=>.gm 204 [.ptr 0 0 0]) (λ_=>[⟨true,44,1,.gen [[.sl 1 (.ag l) false]]⟩])|_,_=>.no,none,true⟩
theorem Qvx:bj pG SE:=by
 refine⟨λ_=>Tryz.call143,λ_=>by decide,λ_ args rows r r' hm=>?_,λ_ args rows p r r' hm=>?_,λ_ args rows α v res aj hm=>?_,λ_ args rows p α v res aj hm=>?_,λk hk=>(by cases hk),λk hk=>(by cases hk)⟩
 ·simp only[SE]at hm;split at hm<;>cases hm
 ·simp only[SE]at hm;split at hm<;>cases hm
 ·simp only[SE]at hm
  split at hm
  ·rename_i l fr
   cases hm
   refine⟨?_,λh=>by cases h⟩
   have e:(ko jY [] (λ_ _ _=>False) Tryz.f143 [.sl 1 (.ag l) fr] [] λd R=>sr [0] 0 R d (.gm 204 [.ptr 0 0 0])/\lQ [0] 0 R [0] [⟨true,44,1,.gen [[.sl 1 (.ag l) false]]⟩])=(True/\((((l=[]\/1=1)/\l=l)/\True)/\True)):=by kernel_rfl
   exact zw drawn jt jB.nil Tryz.func143 (rf:=none) (L:=λ_ _ _=>False) (λ_ _=>trivial) (λ_ _ _ _ h=>h.elim) (λd R h=>⟨[0],rfl,h⟩) (e.symm▸⟨trivial,⟨⟨.inr rfl,rfl⟩,trivial⟩,trivial⟩)
  ·cases hm
 ·simp only[SE]at hm;split at hm<;>cases hm
def Qin(p0 iD:Int):Tree (Bool×Int):=
.lf (true,wrap i64 (iD+1))
def Qmf p0 iD:=(Qin p0 iD).m
def Quw:bb:=Kd 1 1000000144 [false,true] [.one (.int .i64),.ptr 0] [.box 3 1 [.int .i64]] (λa r=>Qmf (au a 0) (tk r 0 0).toInt) (λX=>.bool (X.1)) (λX=>[⟨true,3,1,.gen [[.int .i64 X.2]]⟩])
theorem Qrz:bj pG Quw:=zC none (λ_ _=>trivial) drawn jt (.nil) (Tryz.nW ⟨λ_ _=>by kernel_rfl,rfl⟩) (λh=>absurd h (by decide)) (λa r=>Qin (au a 0) (tk r 0 0).toInt) [] [] 2 (λ_ _ _=>by kernel_rfl) (λ_ _=>rfl) (λ_ _=>Tree.nN (by kernel_rfl))
def Uk(n:Int)(iD:List Bool)(z:(Int)×(Int)):Nat:=(iD.length-z.1).toNat
def OX(n:Int)(iD:List Bool):Tree (Int×(List Bool)):=
.lp inferInstance (Uk n iD (0,n)+1) ((True/\((ai.Nil (ai.ag iD)\/rE (1:Nat))/\rE (iD:List Bool))/\rE ((iD.length:Int):Int)/\rE (0:Int)/\True)/\(rE (n:Int)/\True)/\(((ai.Nil (ai.ag iD)\/rE (1:Nat))/\rE (iD:List Bool))/\True)/\True) (0,n) λ(v0:Int×Int)=>.br (decide (v0.1<(iD.length:Int))) (.cn (bX 1 1&&bN 0 1&&decide (0<=v0.1/\v0.1<(iD.length:Int))) (.br (iD.getD v0.1.toNat false) (.lv (Qmf v0.1 v0.2) λ(x0:Bool×Int)=>.br (!x0.1) (.lf (Sum.inr (x0.2,iD))) (.nx ((True/\((ai.Nil (ai.ag iD)\/rE (1:Nat))/\rE (iD:List Bool))/\rE ((iD.length:Int):Int)/\rE ((wrap i64 (v0.1+1)):Int)/\True)/\(rE x0.2/\True)/\(((ai.Nil (ai.ag iD)\/rE (1:Nat))/\rE (iD:List Bool))/\True)/\True) (Sum.inl (wrap i64 (v0.1+1),x0.2)))) (.nx ((True/\((ai.Nil (ai.ag iD)\/rE (1:Nat))/\rE (iD:List Bool))/\rE ((iD.length:Int):Int)/\rE ((wrap i64 (v0.1+1)):Int)/\True)/\(rE v0.2/\True)/\(((ai.Nil (ai.ag iD)\/rE (1:Nat))/\rE (iD:List Bool))/\True)/\True) (Sum.inl (wrap i64 (v0.1+1),v0.2))))) (.lf (Sum.inr (v0.2,iD)))
def Um n iD:=(OX n iD).m
abbrev Qvu n iD:=(OX n iD).p
def Zhg:bu:={
 α:=(Int)×(Int)
 F:=λst a=>([(0,.gm 1000000144 [.ptr 0 0 0]),(5,(lk st 5)),(6,(lk st 6)),(7,.int i64 a.1)],[⟨true,3,1,.gen [[.int i64 a.2]]⟩,⟨true,44,1,.gen [[(ay st.rows 1 0)]]⟩])
 a0:=λst=>((lk st 7).toInt,(ay st.rows 0 0).toInt)
 iZ:=λst=>[0,1]++[]}
def Z6u:List (Nat×bu):=[(1,Zhg)]
def Zjv:bb:=jS 2 204 [true,true] [.gm 1000000144 [.ptr 0 0 0],.ptr 1] [.box 3 1 [.int .i64],.box 44 1 [.ag]] (λa r=>Qvu (tk r 0 0).toInt (ey (tk r 1 0))) (λa r=>Um (tk r 0 0).toInt (ey (tk r 1 0))) (λX=>.dw []) (λX=>[⟨true,3,1,.gen [[.int .i64 X.1]]⟩,⟨true,44,1,.gen [[.sl 1 (.ag X.2) false]]⟩])
theorem Zgo:bj pG Zjv:=tu drawn jt (.cons Qrz (.nil)) Tryz.func204 Tryz.call204 (λa r=>OX (tk r 0 0).toInt (ey (tk r 1 0))) [.sl (.ag) false] Z6u 3 (λ_ _ _=>by kernel_rfl) (λ_ _=>rfl) (λ_ _ h=>h)
def OY(c:fu):Tree Int:=
.lv () λ(x0:Unit)=>.an (Qvu 0 c.B0) (.lv (Um 0 c.B0) λ(x1:Int×List Bool)=>.lf x1.1)
def Ul c:=(OY c).m
abbrev Yv c:=(OY c).p
def Z8e:bb:=kH 144 [] true [.agg fu.sig] [] (λa r=>Yv (fu.of (aC a 0))) (λa r=>Ul (fu.of (aC a 0))) (λX=>.int .i64 X) (λX=>[])
theorem Z4l:bj pG Z8e:=Zp3 (some 1000000144) (Hy (by kernel_rfl) rfl) drawn jt (.cons Qvx (.cons Zgo (.nil))) Tryz.func144 Tryz.call144 (λa r=>OY (fu.of (aC a 0))) [] [] 2
def HT(s:List Bool):(List Bool):=
s
def SF(s:List Bool):Prop:=
s.length<=140737488355328
def Q6d(s:List Bool):List D:=[.sl 1 (.ag s) false]
def V9(s:List Bool):List Row:=[]
def M1(X:List Bool):D:=.all 0
def Q2(X:List Bool):List Row:=[⟨false,4,1,.ag X⟩]
def Ql3:List nd:=[.row 4 1 (.ag)]
def Qbl:List PT:=[.one (.ag)]
def Qa0:List RT:=[]
def Qlv(args:List D)(rows:List Row):(List Bool):=HT (na args 0)
def Qm(args:List D)(rows:List Row):Prop:=SF (na args 0)
def Qnp:bb:=kH 133 [] true Qbl Qa0 Qm Qlv M1 Q2
def Q87(s:List Bool)(jb:(List Bool)->Prop):Prop:=
(s=[]->jb [])/\cv (decide ((1:Nat)*((0:Nat)+s.length)<=(140737488355328:Nat))) (jb s)
set_option maxRecDepth 100000 in
theorem Qn9(s:List Bool)(Q:D->List Row->Prop):(ko jY [] (LL jY [] Tryz.f133.ntmps 0 [] 2) Tryz.f133 (Q6d s) (V9 s) λd R=>nU (V9 s).length Ql3 d R Q)=Q87 s (λX=>Q (M1 X) (Q2 X)):=by kernel_rfl
theorem Qka(s:List Bool)(jb:(List Bool)->Prop)(hw:SF s)(h:jb (HT s)):
Q87 s jb:=by
 delta Q87
 refine⟨λe=>by rw[e]at h;exact h,?_⟩
 rw[dd]
 refine⟨dY ?_,h⟩
 have:s.length<=140737488355328:=hw
 omega
set_option maxRecDepth 100000 in
theorem Qj(s:List Bool)(hw:SF s):kr pG 133 (Q6d s) (V9 s) (M1 (HT s)) (Q2 (HT s)):=
 have hG:jB pG []:=.nil
 lV.calls drawn jt hG Tryz.func133 (rf:=none) (λ_ _=>trivial) (Gu drawn jt hG (.inl rfl) 2 (fq:=[])) (lV.of (Qn9 s _) (Qka s (λX=>M1 X=M1 (HT s)/\Q2 X=Q2 (HT s)) hw ⟨rfl,rfl⟩))
set_option maxRecDepth 100000 in
theorem Qk7(args:List D)(rows:List Row):kZ Qbl args 0=Q6d (na args 0):=by kernel_rfl
set_option maxRecDepth 100000 in
theorem Qix(args:List D)(rows:List Row):kA Qa0 rows 0=V9 (na args 0):=by kernel_rfl
set_option maxRecDepth 100000 in
theorem Qn5(X:List Bool):(tv (M1 X)&&jz (Q2 X))=true:=by kernel_rfl
theorem Qbx:bj pG Qnp:=FQ Tryz.call133 (λargs rows hp=>by rw[Qk7 args rows,Qix args rows];exact Qj (na args 0) hp) (λ_ X=>Qn5 X)
def Ur(c:fu):Tree fu:=
.an (SF c.B0) (.lv (HT c.B0) λ(x0:List Bool)=>.lf ({B0:=x0,B9:=c.B9,D7:=c.D7}))
def O1 c:=(Ur c).m
abbrev Yw c:=(Ur c).p
def Z7a:bb:=mT 140 [] true [.agg fu.sig] [] (λa r=>Ur (fu.of (aC a 0))) (λX=>.agg (fu.cq X (.all 0))) (λX=>[⟨false,4,1,.ag X.B0⟩])
theorem Qqb:bj pG Z7a:=oT (.cons Qbx (.nil)) Tryz.func140 Tryz.call140 [.row 4 1 (.ag)] [] 2
def Up(c:fu):Tree Bool:=
.br (decide ((c.B0.length:Int)>=(1:Int))) (.br (decide ((c.B0.length:Int)<=(32:Int))) (.br (decide (c.B9>=0)) (.br (decide (c.B9<=11)) (.br (decide (c.D7>=0)) (.lf (decide (c.D7<=352))) (.lf false)) (.lf false)) (.lf false)) (.lf false)) (.lf false)
def uB c:=(Up c).m
def Z7l:bb:=mS 142 [] true [.agg fu.sig] [] (λa r=>Up (fu.of (aC a 0))) (λX=>.bool X) (λX=>[])
theorem Qq8:bj pG Z7l:=oS (.nil) Tryz.func142 Tryz.call142 [] [] 2
def Yx(bc:Int)(z:(Int)×(List Bool)):Nat:=(bc-z.1).toNat
def O4(bc:Int):Tree (fu×Bool):=
.br (decide (bc<(1:Int))) (.lf ({B0:=[],B9:=(0:Int),D7:=(0:Int)},false)) (.br (decide (bc>(32:Int))) (.lf ({B0:=[],B9:=(0:Int),D7:=(0:Int)},false)) (.cn (bN (0:Nat) (1:Nat)&&bX (1:Nat) (1:Nat)&&iC [D.bool false] D.plain&&decide ((0:Int)<=bc/\bc<=bc/\bc<=(9223372036854775807:Int)/\(↑(1:Nat):Int)*bc<=(140737488355328:Int))) (.lp inferInstance (Yx bc ((0:Int),cO bc.toNat false)+1) ((rZ/\rZ/\rE ((↑(dF (cO bc.toNat false)):Int):Int)/\rE ((0:Int):Int)/\True)/\(True/\rE ((0:Int):Int)/\rE ((0:Int):Int)/\True)/\(True/\rE ((0:Int):Int)/\rE ((0:Int):Int)/\True)/\rE ((cO bc.toNat false):List Bool)/\True) ((0:Int),cO bc.toNat false) λ(v0:Int×List Bool)=>.br (decide (v0.1<(↑(dF (cO bc.toNat false)):Int))) (.cn (bX 1 (1:Nat)&&bN (0:Nat) (1:Nat)&&decide ((0:Int)<=v0.1/\v0.1<(v0.2.length:Int))) (.nx ((rZ/\rZ/\rE ((↑(dF (cO bc.toNat false)):Int):Int)/\rE ((wrap i64 (v0.1+(1:Int))):Int)/\True)/\(True/\rE ((0:Int):Int)/\rE ((0:Int):Int)/\True)/\(True/\rE ((0:Int):Int)/\rE ((0:Int):Int)/\True)/\rE ((dB v0.2 v0.1.toNat true):List Bool)/\True) (Sum.inl (wrap i64 (v0.1+(1:Int)),dB v0.2 v0.1.toNat true)))) (.lf (Sum.inr ({B0:=v0.2,B9:=(0:Int),D7:=(0:Int)},true))))))
def Qq bc:=(O4 bc).m
abbrev Qgl bc:=(O4 bc).p
def Z48:bu:={
 α:=(Int)×(List Bool)
 F:=λst a=>([(2,.ptr 0 0 0),(4,.ptr 1 0 0),(18,(lk st 18)),(19,.int i64 a.1)],[⟨true,46,3,.gen [[(cT st 2 0),(cT st 2 1),(cT st 2 2)]]⟩,⟨true,46,3,.gen [[.all 2,(cT st 4 1),(cT st 4 2)]]⟩,⟨false,4,1,.ag a.2⟩])
 a0:=λst=>((lk st 19).toInt,(W6 st.rows (jM (cT st 4 0) 1000000)))
 iZ:=λst=>[]++[(rX st 2 0),(rX st 4 1),(jM (cT st 4 0) (st.rows.length+2))]}
def Qz8:List (Nat×bu):=[(5,Z48)]
def Z73:bb:=mT 71 [] true [.one (.int .i64)] [] (λa r=>O4 (au a 0)) (λX=>.dw [.agg (fu.cq (X.1) (.all 0)),.bool (X.2)]) (λX=>[⟨false,4,1,.ag (X.1).B0⟩])
theorem Z4v:bj pG Z73:=oT (.nil) Tryz.func71 Tryz.call71 [.row 4 1 (.ag)] Qz8 3
def Ma(c:fu)(fk:List Int)(z:(Int)×(List Bool)):Nat:=(fk.length-z.1).toNat
def O5(c:fu)(fk:List Int):Tree fu:=
.an (Yw c) (.lv (O1 c) λ(x0:fu)=>.lp inferInstance (Ma c fk (0,x0.B0)+1) ((rZ/\rZ/\((ai.Nil (ai.ints i64 fk)\/rE (1:Nat))/\rE (fk:List Int))/\rE ((fk.length:Int):Int)/\rE (0:Int)/\True)/\(True/\rE x0.B9/\rE x0.D7/\True)/\rE x0.B0/\(True/\rE (0:Int)/\rE (0:Int)/\True)/\True) (0,x0.B0) λ(v0:Int×List Bool)=>.br (decide (v0.1<(fk.length:Int))) (.cn (bX 1 1&&bN 0 1&&decide (0<=v0.1/\v0.1<(fk.length:Int))) (let T1:Tree ((Int×List Bool)⊕(fu)):=.nx ((rZ/\rZ/\((ai.Nil (ai.ints i64 fk)\/rE (1:Nat))/\rE (fk:List Int))/\rE ((fk.length:Int):Int)/\rE ((wrap i64 (v0.1+1)):Int)/\True)/\(True/\rE x0.B9/\rE x0.D7/\True)/\rE v0.2/\(True/\rE (0:Int)/\rE (0:Int)/\True)/\True) (Sum.inl (wrap i64 (v0.1+1),v0.2));.br (decide (fk.getD v0.1.toNat (0:Int)>=(0:Int))) (.br (decide (fk.getD v0.1.toNat 0<(v0.2.length:Int))) (.cn (bX 1 1&&bN 0 1&&decide (0<=fk.getD v0.1.toNat 0/\fk.getD v0.1.toNat 0<(v0.2.length:Int))) (.nx ((rZ/\rZ/\((ai.Nil (ai.ints i64 fk)\/rE (1:Nat))/\rE (fk:List Int))/\rE ((fk.length:Int):Int)/\rE ((wrap i64 (v0.1+1)):Int)/\True)/\(True/\rE x0.B9/\rE x0.D7/\True)/\rE ((dB v0.2 (dA (fk.getD v0.1.toNat 0)) true):List Bool)/\(True/\rE (0:Int)/\rE (0:Int)/\True)/\True) (Sum.inl (wrap i64 (v0.1+1),dB v0.2 (dA (fk.getD v0.1.toNat 0)) true)))) T1) T1)) (.lf (Sum.inr {B0:=v0.2,B9:=x0.B9,D7:=x0.D7})))
def Us c fk:=(O5 c fk).m
abbrev Yy c fk:=(O5 c fk).p
def Z8z:bu:={
 α:=(Int)×(List Bool)
 F:=λst a=>([(2,.ptr 0 0 0),(4,.ptr 2 0 0),(9,(lk st 9)),(10,(lk st 10)),(11,.int i64 a.1)],[⟨true,46,3,.gen [[.all 1,(cT st 2 1),(cT st 2 2)]]⟩,⟨false,4,1,.ag a.2⟩,⟨true,46,3,.gen [[(cT st 4 0),(cT st 4 1),(cT st 4 2)]]⟩])
 a0:=λst=>((lk st 11).toInt,(W6 st.rows (jM (cT st 2 0) 1000000)))
 iZ:=λst=>[]++[(rX st 2 0),(jM (cT st 2 0) (st.rows.length+1)),(rX st 4 2)]}
def Z0c:List (Nat×bu):=[(3,Z8z)]
def Zb0:bb:=mT 93 [] true [.agg fu.sig,.one (.ints .i64)] [] (λa r=>O5 (fu.of (aC a 0)) (de .i64 a 1)) (λX=>.agg (fu.cq X (.all 0))) (λX=>[⟨false,4,1,.ag X.B0⟩])
theorem Za3:bj pG Zb0:=oT (.cons Qqb (.nil)) Tryz.func93 Tryz.call93 [.row 4 1 (.ag)] Z0c 3
def O2(c:fu)(fm:Int):Tree Bool:=
.lv (uB c) λ(x0:Bool)=>.br x0 (.an (Yv c) (.lv (Ul c) λ(x1:Int)=>.br (decide (x1<=fm)) (.lf true) (.lf (decide (c.B9>=10))))) (.lf false)
def Jg c fm:=(O2 c fm).m
abbrev Qid c fm:=(O2 c fm).p
def Zb6:bb:=mT 97 [] true [.agg fu.sig,.one (.int .i64)] [] (λa r=>O2 (fu.of (aC a 0)) (au a 1)) (λX=>.bool X) (λX=>[])
theorem Z9t:bj pG Zb6:=oT (.cons Qq8 (.cons Z4l (.nil))) Tryz.func97 Tryz.call97 [] [] 2
def Qil(a b:List Int)(z:(Int)×(List Int)):Nat:=(40-z.1).toNat
def O7(a b:List Int):Tree (List Int):=
.lv (jP a) λ(x0:Int)=>.lv (jP b) λ(x1:Int)=>.br (x0 !=x1) (.lf ([])) (.lp inferInstance (Qil a b (0,[])+1) ((((ai.Nil (ai.ints u32 a)\/rE (1:Nat))/\rE (a:List Int))/\((ai.Nil (ai.ints u32 b)\/rE (1:Nat))/\rE (b:List Int))/\True/\rE (x0:Int)/\rE (0:Int)/\True)/\rE ([]:List Int)/\True) (0,[]) λ(v0:Int×List Int)=>.br (decide (v0.1<x0)) (.cn (bX 1 1&&bN 0 1&&decide (0<=wrap i64 (v0.1*32)/\wrap i64 (v0.1*32)<=wrap i64 (wrap i64 (v0.1+1)*32)/\wrap i64 (wrap i64 (v0.1+1)*32)<=(a.length:Int))) (.cn (bX 1 1&&bN 0 1&&decide (0<=wrap i64 (v0.1*32)/\wrap i64 (v0.1*32)<=wrap i64 (wrap i64 (v0.1+1)*32)/\wrap i64 (wrap i64 (v0.1+1)*32)<=(b.length:Int))) (let E1:=dA (wrap i64 (wrap i64 (v0.1+1)*32))-dA (wrap i64 (v0.1*32));let E2:=dA (wrap i64 (v0.1*32));.an (V8 (cU E1 (cV E2 a)) (cU E1 (cV E2 b))) (.lv (Uw (cU E1 (cV E2 a)) (cU E1 (cV E2 b))) λ(x2:Bool)=>.br (!x2) (.cn (decide (8*(v0.2.length+1)<=140737488355328)) (.nx ((((ai.Nil (ai.ints u32 a)\/rE (1:Nat))/\rE (a:List Int))/\((ai.Nil (ai.ints u32 b)\/rE (1:Nat))/\rE (b:List Int))/\True/\rE (x0:Int)/\rE ((wrap i64 (v0.1+1)):Int)/\True)/\rE ((v0.2++[v0.1]):List Int)/\True) (Sum.inl (wrap i64 (v0.1+1),v0.2++[v0.1])))) (.nx ((((ai.Nil (ai.ints u32 a)\/rE (1:Nat))/\rE (a:List Int))/\((ai.Nil (ai.ints u32 b)\/rE (1:Nat))/\rE (b:List Int))/\True/\rE (x0:Int)/\rE ((wrap i64 (v0.1+1)):Int)/\True)/\rE v0.2/\True) (Sum.inl (wrap i64 (v0.1+1),v0.2))))))) (.lf (Sum.inr v0.2)))
def DX a b:=(O7 a b).m
abbrev YA a b:=(O7 a b).p
def Z0e:bu:={
 α:=(Int)×(List Int)
 F:=λst a=>([(0,(lk st 0)),(1,(lk st 1)),(6,.all 0),(16,(lk st 16)),(17,.int i64 a.1)],[⟨false,3,1,.ints i64 a.2⟩])
 a0:=λst=>((lk st 17).toInt,(pZ st.rows (rN st 6)))
 iZ:=λst=>[]++[(rX st 6 0)]}
def Qwg:List (Nat×bu):=[(6,Z0e)]
def Z4p:bb:=mT 94 [] true [.one (.ints .u32),.one (.ints .u32)] [] (λa r=>O7 (de .u32 a 0) (de .u32 a 1)) (λX=>.all 0) (λX=>[⟨false,3,1,.ints .i64 X⟩])
theorem Z1o:bj pG Z4p:=oT (.cons Br (.cons Qif (.nil))) Tryz.func94 Tryz.call94 [.row 3 1 (.ints .i64)] Qwg 3
end
noncomputable section
instance SG {α β:Type} [Inhabited β]:Inhabited (α⊕β):=⟨.inr default⟩
def Uo(p0:Int)(iD:List Int)(M3:List lh):Tree (Bool×(List Int)×(List lh)):=
.an (OZ iD p0) (.lv (jG iD p0) λ(x0:List UInt8×Bool)=>.cn (decide (24*(M3.length+1)<=140737488355328)) (.lf (true,iD,M3++[{Frame:=p0,F0:=x0.1}])))
def Qm2 p0 iD M3:=(Uo p0 iD M3).m
abbrev Qfb p0 iD M3:=(Uo p0 iD M3).p
def Qus:bb:=jS 2 1000000095 [false,true,true] [.one (.int .i64),.ptr 0,.ptr 1] [.box 30 1 [.ints .u32],.box 142 1 [.row 2],.arr 146 2 (.ah .bn)] (λa r=>Qfb (au a 0) (cj .u32 (tk r 0 0)) (c9 .bn r 2)) (λa r=>Qm2 (au a 0) (cj .u32 (tk r 0 0)) (c9 .bn r 2)) (λX=>.bool (X.1)) (λX=>[⟨true,30,1,.gen [[.sl 1 (.ints .u32 X.2.1) false]]⟩,⟨true,142,1,.gen [[.all 2]]⟩,⟨false,146,2,.ah .bn (X.2.2)⟩])
theorem Qsr:bj pG Qus:=Zsa none (λ_ _=>trivial) drawn jt (.cons Su (.nil)) (Tryz.nV ⟨λ_ _=>by kernel_rfl,rfl⟩) (λh=>absurd h (by decide)) (λa r=>Uo (au a 0) (cj .u32 (tk r 0 0)) (c9 .bn r 2)) [.sl (.ints .u32) false,.row 146 2 (.ah .bn)] [] 2 (λ_ _ _=>by kernel_rfl) (λ_ _=>rfl) (λ_ _ h=>h)
def Un(m:List Int)(l:List lh)(iD:List Bool)(z:(Int)×(List Int)×(List lh)):Nat:=(iD.length-z.1).toNat
def O0(m:List Int)(l:List lh)(iD:List Bool):Tree ((List Int)×(List lh)×(List Bool)):=
.lp inferInstance (Un m l iD (0,m,l)+1) ((True/\((ai.Nil (ai.ag iD)\/rE (1:Nat))/\rE (iD:List Bool))/\rE ((iD.length:Int):Int)/\rE (0:Int)/\True)/\(((ai.Nil (ai.ints u32 m)\/rE (1:Nat))/\rE (m:List Int))/\True)/\(True/\True)/\(((ai.Nil (ai.ag iD)\/rE (1:Nat))/\rE (iD:List Bool))/\True)/\rE (l:List (RK.T RK.bn))/\True) (0,m,l) λ(v0:Int×List Int×List lh)=>.br (decide (v0.1<(iD.length:Int))) (.cn (bX 1 1&&bN 0 1&&decide (0<=v0.1/\v0.1<(iD.length:Int))) (.br (iD.getD v0.1.toNat false) (.an (Qfb v0.1 v0.2.1 v0.2.2) (.lv (Qm2 v0.1 v0.2.1 v0.2.2) λ(x0:Bool×List Int×List lh)=>.br (!x0.1) (.lf (Sum.inr (x0.2.1,x0.2.2,iD))) (.nx ((True/\((ai.Nil (ai.ag iD)\/rE (1:Nat))/\rE (iD:List Bool))/\rE ((iD.length:Int):Int)/\rE ((wrap i64 (v0.1+1)):Int)/\True)/\(((ai.Nil (ai.ints u32 x0.2.1)\/ki Nat 1 1)/\rE x0.2.1)/\True)/\(True/\True)/\(((ai.Nil (ai.ag iD)\/rE (1:Nat))/\rE (iD:List Bool))/\True)/\rE x0.2.2/\True) (Sum.inl (wrap i64 (v0.1+1),x0.2.1,x0.2.2))))) (.nx ((True/\((ai.Nil (ai.ag iD)\/rE (1:Nat))/\rE (iD:List Bool))/\rE ((iD.length:Int):Int)/\rE ((wrap i64 (v0.1+1)):Int)/\True)/\(((ai.Nil (ai.ints u32 v0.2.1)\/ki Nat 1 1)/\rE v0.2.1)/\True)/\(True/\True)/\(((ai.Nil (ai.ag iD)\/rE (1:Nat))/\rE (iD:List Bool))/\True)/\rE v0.2.2/\True) (Sum.inl (wrap i64 (v0.1+1),v0.2.1,v0.2.2))))) (.lf (Sum.inr (v0.2.1,v0.2.2,iD)))
def Uy m l iD:=(O0 m l iD).m
abbrev Qvo m l iD:=(O0 m l iD).p
def Zii:bu:={
 α:=(Int)×(List Int)×(List lh)
 F:=λst a=>([(0,.gm 1000000095 [.ptr 0 0 0,.ptr 1 0 0]),(5,(lk st 5)),(6,(lk st 6)),(7,.int i64 a.1)],[⟨true,30,1,.gen [[.sl 1 (.ints u32 a.2.1) false]]⟩,⟨true,142,1,.gen [[.all 3]]⟩,⟨true,44,1,.gen [[(ay st.rows 2 0)]]⟩,⟨false,146,2,.ah RK.bn a.2.2⟩])
 a0:=λst=>((lk st 7).toInt,(cj u32 (ay st.rows 0 0)),(tD RK.bn st.rows (jM (ay st.rows 1 0) 1000000)))
 iZ:=λst=>[0,1,2]++[(jM (ay st.rows 1 0) (st.rows.length+3))]}
def Z80:List (Nat×bu):=[(1,Zii)]
def Zmk:bb:=jS 3 204 [true,true] [.gm 1000000095 [.ptr 0 0 0,.ptr 1 0 0],.ptr 2] [.box 30 1 [.ints .u32],.box 142 1 [.row 3],.box 44 1 [.ag],.arr 146 2 (.ah .bn)] (λa r=>Qvo (cj .u32 (tk r 0 0)) (c9 .bn r 3) (ey (tk r 2 0))) (λa r=>Uy (cj .u32 (tk r 0 0)) (c9 .bn r 3) (ey (tk r 2 0))) (λX=>.dw []) (λX=>[⟨true,30,1,.gen [[.sl 1 (.ints .u32 X.1) false]]⟩,⟨true,142,1,.gen [[.all 3]]⟩,⟨true,44,1,.gen [[.sl 1 (.ag X.2.2) false]]⟩,⟨false,146,2,.ah .bn (X.2.1)⟩])
theorem Zi8:bj pG Zmk:=tu drawn jt (.cons Qsr (.nil)) Tryz.func204 Tryz.call204 (λa r=>O0 (cj .u32 (tk r 0 0)) (c9 .bn r 3) (ey (tk r 2 0))) [.sl (.ints .u32) false,.row 146 2 (.ah .bn),.sl (.ag) false] Z80 3 (λ_ _ _=>by kernel_rfl) (λ_ _=>rfl) (λ_ _ h=>h)
end
noncomputable section
def FW(s:(List (List UInt8))):(List (List UInt8)):=
s
def M4(s:(List (List UInt8))):Prop:=
s.length<=1000000000000
def Q4h(s:(List (List UInt8))):List D:=[.sl 1 (.ah .str s) false]
def Wa(s:(List (List UInt8))):List Row:=[]
def M5(X:(List (List UInt8))):D:=.all 0
def M6(X:(List (List UInt8))):List Row:=[⟨false,9,1,.ah .str X⟩]
def Qgh:List nd:=[.row 9 1 (.ah .str)]
def Q8l:List PT:=[.one (.ah .str)]
def Q84:List RT:=[]
def Qhl(args:List D)(rows:List Row):(List (List UInt8)):=FW (jh .str args 0)
def Qhr(args:List D)(rows:List Row):Prop:=M4 (jh .str args 0)
def Qj8:bb:=kH 73 [] true Q8l Q84 Qhr Qhl M5 M6
def Q5u(s:(List (List UInt8)))(jb:(List (List UInt8))->Prop):Prop:=
(s=[]->jb [])/\cv (decide ((16:Nat)*((0:Nat)+s.length)<=(140737488355328:Nat))) (jb s)
set_option maxRecDepth 100000 in
theorem Qi2(s:(List (List UInt8)))(Q:D->List Row->Prop):(ko jY [] (LL jY [] Tryz.f73.ntmps 0 [] 2) Tryz.f73 (Q4h s) (Wa s) λd R=>nU (Wa s).length Qgh d R Q)=Q5u s (λX=>Q (M5 X) (M6 X)):=by kernel_rfl
theorem Qg4(s:(List (List UInt8)))(jb:(List (List UInt8))->Prop)(hw:M4 s)(h:jb (FW s)):
Q5u s jb:=by
 delta Q5u
 refine⟨λe=>by rw[e]at h;exact h,?_⟩
 rw[dd]
 refine⟨dY ?_,h⟩
 have:s.length<=1000000000000:=hw
 omega
set_option maxRecDepth 100000 in
theorem Qf8(s:(List (List UInt8)))(hw:M4 s):kr pG 73 (Q4h s) (Wa s) (M5 (FW s)) (M6 (FW s)):=
 have hG:jB pG []:=.nil
 lV.calls drawn jt hG Tryz.func73 (rf:=none) (λ_ _=>trivial) (Gu drawn jt hG (.inl rfl) 2 (fq:=[])) (lV.of (Qi2 s _) (Qg4 s (λX=>M5 X=M5 (FW s)/\M6 X=M6 (FW s)) hw ⟨rfl,rfl⟩))
set_option maxRecDepth 100000 in
theorem Qgc(args:List D)(rows:List Row):kZ Q8l args 0=Q4h (jh .str args 0):=by kernel_rfl
set_option maxRecDepth 100000 in
theorem Qfa(args:List D)(rows:List Row):kA Q84 rows 0=Wa (jh .str args 0):=by kernel_rfl
set_option maxRecDepth 100000 in
theorem Qie(X:(List (List UInt8))):(tv (M5 X)&&jz (M6 X))=true:=by kernel_rfl
theorem Q5f:bj pG Qj8:=FQ Tryz.call73 (λargs rows hp=>by rw[Qgc args rows,Qfa args rows];exact Qf8 (jh .str args 0) hp) (λ_ X=>Qie X)
def Qhw(a:(List (List UInt8)))(b:(List (List UInt8)))(z:(Int)):Prop:=0<=z/\z<=a.length/\a.length=b.length
def P6(a:(List (List UInt8)))(b:(List (List UInt8)))(z:(Int)):Nat:=(a.length-z).toNat
def Mr(a:(List (List UInt8)))(b:(List (List UInt8))):Tree Bool:=
.br ((a.length:Int) !=(b.length:Int)) (.lf false) (.lp inferInstance (P6 a b 0+1) ((nR RK.str 1 a/\nR RK.str 1 b/\rE (0:Int)/\True)/\True) 0 λ(v0:Int)=>.br (decide (v0<(a.length:Int))) (.cn (bX 1 1&&bN 0 1&&decide (0<=v0/\v0<(a.length:Int))) (.cn (bX 1 1&&bN 0 1&&decide (0<=v0/\v0<(b.length:Int))) (.br (!decide (a.getD v0.toNat (RK.dx RK.str)=b.getD v0.toNat (RK.dx RK.str))) (.lf (Sum.inr false)) (.nx ((nR RK.str 1 a/\nR RK.str 1 b/\rE ((wrap i64 (v0+1)):Int)/\True)/\True) (Sum.inl (wrap i64 (v0+1))))))) (.lf (Sum.inr true)))
def Qq7 a b:=(Mr a b).m
def Wb(a:(List (List UInt8)))(b:(List (List UInt8))):Prop:=
a.length<=1000000000000
theorem Qv1(a:(List (List UInt8)))(b:(List (List UInt8)))(hw:Wb a b):(Mr a b).p:=by
 simp only[Wb]at hw
 unfold Tree.p Mr
 repeat'(first|refine eu (inv:=Qhw a b) (μ:=P6 a b) ?_ (cN _) (λ_ _=>?_)|exact trivial|refine ae (λ_=>?_) (λ_=>?_)|refine av ?_ ?_|refine cg ?_ ?_|refine aq (λ_ _=>?_)|refine ee ?_|refine ba ?_|refine And.intro ?_ ?_)
 all_goals((try simp only[Qhw,P6]at*);exact lU)
def Qwy:bu:={
 α:=(Int)
 F:=λst a=>([(0,(lk st 0)),(1,(lk st 1)),(5,.int i64 a)],[])
 a0:=λst=>(lk st 5).toInt
 iZ:=λst=>[]++[]}
def Qtt:List (Nat×bu):=[(4,Qwy)]
def Qxo:bb:=kH 88 [] true [.one (.ah .str),.one (.ah .str)] [] (λa r=>Wb (jh .str a 0) (jh .str a 1)) (λa r=>Qq7 (jh .str a 0) (jh .str a 1)) (λX=>.bool X) (λX=>[])
theorem Qx8:bj pG Qxo:=rU drawn jt (.nil) Tryz.func88 Tryz.call88 (λa r=>Mr (jh .str a 0) (jh .str a 1)) [] Qtt 3 (hp:=λa r h=>Qv1 (jh .str a 0) (jh .str a 1) h)
def Jt(s:gj)(z:(Int)):Nat:=(s.ab.length-z).toNat
def Js(s:gj):Tree Bool:=
.br (decide ((s.ab.length:Int)<(1:Int))) (.lf false) (.br (decide ((s.ab.length:Int)>(64:Int))) (.lf false) (.br (decide (s.D5>4611686018427387904)) (.lf false) (let T1:Tree (Bool):=.lp inferInstance (Jt s 0+1) ((rZ/\rE (0:Int)/\True)/\(((ai.Nil (ai.ah RK.str s.ab)\/rE (1:Nat))/\rE s.ab)/\rE s.D5/\rE s.D6/\True)/\True) 0 λ(v0:Int)=>.br (decide (v0<(s.ab.length:Int))) (.cn (bX 1 1&&bN 0 1&&decide (0<=v0/\v0<(s.ab.length:Int))) (.br ((↑(dF (s.ab.getD v0.toNat (RK.dx RK.str))):Int) !=(128:Int)) (.lf (Sum.inr false)) (.nx ((rZ/\rE ((wrap i64 (v0+1)):Int)/\True)/\(((ai.Nil (ai.ah RK.str s.ab)\/rE (1:Nat))/\rE s.ab)/\rE s.D5/\rE s.D6/\True)/\True) (Sum.inl (wrap i64 (v0+1)))))) (.lf (Sum.inr true));.br (s.D5==0) (.br (s.D6 !=(-1)) (.lf false) (.br (decide (s.D5>0)) (.br (decide (s.D6<0)) (.lf false) T1) T1)) (.br (decide (s.D5>0)) (.br (decide (s.D6<0)) (.lf false) T1) T1))))
def Qco s:=(Js s).m
abbrev Q7u s:=(Js s).p
def Qwv:bu:={
 α:=(Int)
 F:=λst a=>([(1,.ptr 0 0 0),(3,.int i64 a)],[⟨true,52,3,.gen [[(cT st 1 0),(cT st 1 1),(cT st 1 2)]]⟩])
 a0:=λst=>(lk st 3).toInt
 iZ:=λst=>[]++[(rX st 1 0)]}
def Qso:List (Nat×bu):=[(4,Qwv)]
def Qz7:bb:=mT 35 [] true [.agg gj.sig] [] (λa r=>Js (gj.of (aC a 0))) (λX=>.bool X) (λX=>[])
theorem Qd7:bj pG Qz7:=oT (.nil) Tryz.func35 Tryz.call35 [] Qso 3
def PL(blocks:(List (List UInt8))):Tree (gj×Bool):=
.cn (decide (16*(0+blocks.length)<=140737488355328)) (.an (Q7u {ab:=blocks,D5:=0,D6:=(-1)}) (.lv (Qco {ab:=blocks,D5:=0,D6:=(-1)}) λ(x0:Bool)=>.br (!x0) (.lf ({ab:=[],D5:=0,D6:=0},false)) (.lf ({ab:=blocks,D5:=0,D6:=(-1)},true))))
def Qvd blocks:=(PL blocks).m
abbrev Qms blocks:=(PL blocks).p
def Z55:bb:=mT 31 [] true [.one (.ah .str)] [] (λa r=>PL (jh .str a 0)) (λX=>.dw [.agg (gj.cq (X.1) (.all 0)),.bool (X.2)]) (λX=>[⟨false,9,1,.ah .str (X.1).ab⟩])
theorem Z0s:bj pG Z55:=oT (.cons Qd7 (.nil)) Tryz.func31 Tryz.call31 [.row 9 1 (.ah .str)] [] 2
def PM(s:gj)(host seen:Int):Tree (gj×Bool):=
.an (Q7u s) (.lv (Qco s) λ(x0:Bool)=>.br (!x0) (.lf (s,false)) (.br (decide (host<0)) (.lf (s,false)) (.br (s.D5 !=seen) (.lf (s,false)) (.br (decide (seen>=4611686018427387904)) (.lf (s,false)) (.lf ({ab:=s.ab,D5:=wrap u64 (s.D5+1),D6:=host},true))))))
def Z7p s host seen:=(PM s host seen).m
abbrev Qtu s host seen:=(PM s host seen).p
def Zi2:bb:=mT 33 [] false [.agg gj.sig,.one (.int .i64),.one (.int .u64)] [] (λa r=>PM (gj.of (aC a 0)) (au a 1) (au a 2)) (λX=>.dw [.agg (gj.cells (X.1)),.bool (X.2)]) (λX=>[])
theorem Zck:bj pG Zi2:=oT (.cons Qd7 (.nil)) Tryz.func33 Tryz.call33 [.sl (.ah .str) false] [] 2 (jy:=nofun)
def QC(a b:gj):Tree Bool:=
.br (a.D5==b.D5) (.br (a.D6==b.D6) (.an (Wb a.ab b.ab) (.lv (Qq7 a.ab b.ab) λ(x0:Bool)=>.lf x0)) (.lf false)) (.lf false)
def Qsi a b:=(QC a b).m
abbrev Qlm a b:=(QC a b).p
def Z1v:bb:=mT 41 [] true [.agg gj.sig,.agg gj.sig] [] (λa r=>QC (gj.of (aC a 0)) (gj.of (aC a 1))) (λX=>.bool X) (λX=>[])
theorem Qz9:bj pG Z1v:=oT (.cons Qx8 (.nil)) Tryz.func41 Tryz.call41 [] [] 2
def YS(n:Int)(z:(Int)×(List (List UInt8))):Nat:=(4-z.1).toNat
def PK(n:Int):Tree (List (List UInt8)):=
.lp inferInstance (YS n (0,[])+1) ((rE (n:Int)/\True/\rE (0:Int)/\True)/\rE ([]:List (RK.T RK.str))/\True) (0,[]) λ(v0:Int×List (List UInt8))=>.br (decide (v0.1<4)) (.an (PJ (wrap i64 (n+v0.1)) 128) (.lv (YR (wrap i64 (n+v0.1)) 128) λ(x0:List UInt8)=>.cn (decide (16*(v0.2.length+1)<=140737488355328)) (.nx ((rE (n:Int)/\True/\rE ((wrap i64 (v0.1+1)):Int)/\True)/\rE ((v0.2++[x0]):List (RK.T RK.str))/\True) (Sum.inl (wrap i64 (v0.1+1),v0.2++[x0]))))) (.lf (Sum.inr v0.2))
def Z8p n:=(PK n).m
abbrev Qse n:=(PK n).p
def Zap:bu:={
 α:=(Int)×(List (List UInt8))
 F:=λst a=>([(0,(lk st 0)),(3,.all 0),(4,.int i64 a.1)],[⟨false,9,1,.ah RK.str a.2⟩])
 a0:=λst=>((lk st 4).toInt,(tD RK.str st.rows (rN st 3)))
 iZ:=λst=>[]++[(rX st 3 0)]}
def Z4a:List (Nat×bu):=[(3,Zap)]
def Zgp:bb:=mT 32 [] true [.one (.int .i64)] [] (λa r=>PK (au a 0)) (λX=>.all 0) (λX=>[⟨false,9,1,.ah .str X⟩])
theorem Zbs:bj pG Zgp:=oT (.cons Zld (.nil)) Tryz.func32 Tryz.call32 [.row 9 1 (.ah .str)] Z4a 3
def O9(s:gj)(z:(Int)):Nat:=(s.ab.length-z).toNat
def Jk(s:gj):Tree Bool:=
.br (decide ((s.ab.length:Int)<(1:Int))) (.lf false) (.br (decide ((s.ab.length:Int)>(64:Int))) (.lf false) (.br (decide (s.D5>4611686018427387904)) (.lf false) (.lp inferInstance (O9 s 0+1) ((rZ/\((ai.Nil (ai.ah RK.str s.ab)\/rE (1:Nat))/\rE s.ab)/\rE ((s.ab.length:Int):Int)/\rE (0:Int)/\True)/\(((ai.Nil (ai.ah RK.str s.ab)\/rE (1:Nat))/\rE s.ab)/\rE s.D5/\rE s.D6/\True)/\True) 0 λ(v0:Int)=>.br (decide (v0<(s.ab.length:Int))) (.cn (bX 1 1&&bN 0 1&&decide (0<=v0/\v0<(s.ab.length:Int))) (.br ((↑(dF (s.ab.getD v0.toNat (RK.dx RK.str))):Int) !=(128:Int)) (.lf (Sum.inr false)) (.nx ((rZ/\((ai.Nil (ai.ah RK.str s.ab)\/rE (1:Nat))/\rE s.ab)/\rE ((s.ab.length:Int):Int)/\rE ((wrap i64 (v0+1)):Int)/\True)/\(((ai.Nil (ai.ah RK.str s.ab)\/rE (1:Nat))/\rE s.ab)/\rE s.D5/\rE s.D6/\True)/\True) (Sum.inl (wrap i64 (v0+1)))))) (.br (s.D5==0) (.lf (Sum.inr (s.D6==(-1)))) (.lf (Sum.inr (decide (s.D6>=0))))))))
def Qpm s:=(Jk s).m
abbrev Qfu s:=(Jk s).p
def Z3y:bu:={
 α:=(Int)
 F:=λst a=>([(1,.ptr 0 0 0),(21,(lk st 21)),(22,(lk st 22)),(23,.int i64 a)],[⟨true,52,3,.gen [[(cT st 1 0),(cT st 1 1),(cT st 1 2)]]⟩])
 a0:=λst=>(lk st 23).toInt
 iZ:=λst=>[]++[(rX st 1 0)]}
def Qxy:List (Nat×bu):=[(4,Z3y)]
def Za9:bb:=mT 69 [] true [.agg gj.sig] [] (λa r=>Jk (gj.of (aC a 0))) (λX=>.bool X) (λX=>[])
theorem Qqn:bj pG Za9:=oT (.nil) Tryz.func69 Tryz.call69 [] Qxy 3
def Pb(s:gj):Tree gj:=
.an (M4 s.ab) (.lv (FW s.ab) λ(x0:List (List UInt8))=>.lf ({ab:=x0,D5:=s.D5,D6:=s.D6}))
def Qyw s:=(Pb s).m
abbrev Qnx s:=(Pb s).p
def Z6k:bb:=mT 148 [] true [.agg gj.sig] [] (λa r=>Pb (gj.of (aC a 0))) (λX=>.agg (gj.cq X (.all 0))) (λX=>[⟨false,9,1,.ah .str X.ab⟩])
theorem Z49:bj pG Z6k:=oT (.cons Q5f (.nil)) Tryz.func148 Tryz.call148 [.row 9 1 (.ah .str)] [] 2
def Pa(s:gj)(host seen:Int):Tree (gj×Bool):=
.an (Qnx s) (.lv (Qyw s) λ(x0:gj)=>.an (Qfu s) (.lv (Qpm s) λ(x1:Bool)=>.br (!x1) (.lf (x0,false)) (.br (decide (host<0)) (.lf (x0,false)) (.br (s.D5 !=seen) (.lf (x0,false)) (.br (decide (seen>=4611686018427387904)) (.lf (x0,false)) (.lf ({ab:=x0.ab,D5:=wrap u64 (x0.D5+1),D6:=host},true)))))))
def mr s host seen:=(Pa s host seen).m
abbrev Qfp s host seen:=(Pa s host seen).p
def Z8a:bb:=mT 104 [] true [.agg gj.sig,.one (.int .i64),.one (.int .u64)] [] (λa r=>Pa (gj.of (aC a 0)) (au a 1) (au a 2)) (λX=>.dw [.agg (gj.cq (X.1) (.all 0)),.bool (X.2)]) (λX=>[⟨false,9,1,.ah .str (X.1).ab⟩])
theorem Qqc:bj pG Z8a:=oT (.cons Z49 (.cons Qqn (.nil))) Tryz.func104 Tryz.call104 [.row 9 1 (.ah .str)] [] 2
end
noncomputable section
def FX(s:List Int):(List Int):=
s
def M7(s:List Int):Prop:=
s.length<=1000000000000
def Q7g(s:List Int):List D:=[.sl 1 (.ints .i64 s) false]
def Wc(s:List Int):List Row:=[]
def M8(X:List Int):D:=.all 0
def M9(X:List Int):List Row:=[⟨false,3,1,.ints .i64 X⟩]
def Qn:List nd:=[.row 3 1 (.ints .i64)]
def Qds:List PT:=[.one (.ints .i64)]
def Qby:List RT:=[]
def Qoe(args:List D)(rows:List Row):(List Int):=FX (de .i64 args 0)
def Qo(args:List D)(rows:List Row):Prop:=M7 (de .i64 args 0)
def Qr1:bb:=kH 134 [] true Qds Qby Qo Qoe M8 M9
def Q9t(s:List Int)(jb:(List Int)->Prop):Prop:=
(s=[]->jb [])/\cv (decide ((8:Nat)*((0:Nat)+s.length)<=(140737488355328:Nat))) (jb s)
set_option maxRecDepth 100000 in
theorem Qq6(s:List Int)(Q:D->List Row->Prop):(ko jY [] (LL jY [] Tryz.f134.ntmps 0 [] 2) Tryz.f134 (Q7g s) (Wc s) λd R=>nU (Wc s).length Qn d R Q)=Q9t s (λX=>Q (M8 X) (M9 X)):=by kernel_rfl
theorem Qng(s:List Int)(jb:(List Int)->Prop)(hw:M7 s)(h:jb (FX s)):
Q9t s jb:=by
 delta Q9t
 refine⟨λe=>by rw[e]at h;exact h,?_⟩
 rw[dd]
 refine⟨dY ?_,h⟩
 have:s.length<=1000000000000:=hw
 omega
set_option maxRecDepth 100000 in
theorem Qly(s:List Int)(hw:M7 s):kr pG 134 (Q7g s) (Wc s) (M8 (FX s)) (M9 (FX s)):=
 have hG:jB pG []:=.nil
 lV.calls drawn jt hG Tryz.func134 (rf:=none) (λ_ _=>trivial) (Gu drawn jt hG (.inl rfl) 2 (fq:=[])) (lV.of (Qq6 s _) (Qng s (λX=>M8 X=M8 (FX s)/\M9 X=M9 (FX s)) hw ⟨rfl,rfl⟩))
set_option maxRecDepth 100000 in
theorem Qne(args:List D)(rows:List Row):kZ Qds args 0=Q7g (de .i64 args 0):=by kernel_rfl
set_option maxRecDepth 100000 in
theorem Qlz(args:List D)(rows:List Row):kA Qby rows 0=Wc (de .i64 args 0):=by kernel_rfl
set_option maxRecDepth 100000 in
theorem Qp2(X:List Int):(tv (M8 X)&&jz (M9 X))=true:=by kernel_rfl
theorem Qf6:bj pG Qr1:=FQ Tryz.call134 (λargs rows hp=>by rw[Qne args rows,Qlz args rows];exact Qly (de .i64 args 0) hp) (λ_ X=>Qp2 X)
def Qca(s1 s2:List Int)(z:(Int)):Prop:=0<=z/\z<=s1.length/\s1.length=s2.length
def PG(s1 s2:List Int)(z:(Int)):Nat:=(s1.length-z).toNat
def Mk(s1 s2:List Int):Tree Bool:=
.br ((s1.length:Int) !=(s2.length:Int)) (.lf false) (.lp inferInstance (PG s1 s2 0+1) ((((ai.Nil (ai.ints i64 s1)\/rE (1:Nat))/\rE (s1:List Int))/\((ai.Nil (ai.ints i64 s2)\/rE (1:Nat))/\rE (s2:List Int))/\rE ((s1.length:Int):Int)/\rE (0:Int)/\True)/\True) 0 λ(v0:Int)=>.br (decide (v0<(s1.length:Int))) (.cn (bX 1 1&&bN 0 1&&decide (0<=v0/\v0<(s1.length:Int))) (.cn (bX 1 1&&bN 0 1&&decide (0<=v0/\v0<(s2.length:Int))) (.br (s1.getD v0.toNat 0 !=s2.getD v0.toNat 0) (.lf (Sum.inr false)) (.nx ((((ai.Nil (ai.ints i64 s1)\/rE (1:Nat))/\rE (s1:List Int))/\((ai.Nil (ai.ints i64 s2)\/rE (1:Nat))/\rE (s2:List Int))/\rE ((s1.length:Int):Int)/\rE ((wrap i64 (v0+1)):Int)/\True)/\True) (Sum.inl (wrap i64 (v0+1))))))) (.lf (Sum.inr true)))
def Qiq s1 s2:=(Mk s1 s2).m
def Wd(s1 s2:List Int):Prop:=
s1.length<=1000000000000
theorem Qnr(s1 s2:List Int)(hw:Wd s1 s2):(Mk s1 s2).p:=by
 simp only[Wd]at hw
 unfold Tree.p Mk
 repeat'(first|refine eu (inv:=Qca s1 s2) (μ:=PG s1 s2) ?_ (cN _) (λ_ _=>?_)|exact trivial|refine ae (λ_=>?_) (λ_=>?_)|refine av ?_ ?_|refine cg ?_ ?_|refine aq (λ_ _=>?_)|refine ee ?_|refine ba ?_|refine And.intro ?_ ?_)
 all_goals((try simp only[Qca,PG]at*);exact lU)
def Qp6:bu:={
 α:=(Int)
 F:=λst a=>([(0,(lk st 0)),(1,(lk st 1)),(12,(lk st 12)),(13,.int i64 a)],[])
 a0:=λst=>(lk st 13).toInt
 iZ:=λst=>[]++[]}
def Qn7:List (Nat×bu):=[(4,Qp6)]
def Qre:bb:=kH 65 [] true [.one (.ints .i64),.one (.ints .i64)] [] (λa r=>Wd (de .i64 a 0) (de .i64 a 1)) (λa r=>Qiq (de .i64 a 0) (de .i64 a 1)) (λX=>.bool X) (λX=>[])
theorem Qpe:bj pG Qre:=rU drawn jt (.nil) Tryz.func65 Tryz.call65 (λa r=>Mk (de .i64 a 0) (de .i64 a 1)) [] Qn7 3 (hp:=λa r h=>Qnr (de .i64 a 0) (de .i64 a 1) h)
def Q1(m:bg):Tree bg:=
.an (nQ m.Mem) (.lv (kD m.Mem) λ(x0:List Int)=>.lf ({B4:=m.B4,Mem:=x0,B1:=m.B1,B8:=m.B8,B7:=m.B7,D4:=m.D4,A6:=m.A6,B6:=m.B6,B2:=m.B2,B5:=m.B5}))
def SH m:=(Q1 m).m
abbrev SI m:=(Q1 m).p
def Qr8:bb:=mT 64 [] true [.agg bg.sig] [] (λa r=>Q1 (bg.of (aC a 0))) (λX=>.agg (bg.cq X (.all 0))) (λX=>[⟨false,25,1,.ints .u32 X.Mem⟩])
theorem We:bj pG Qr8:=oT (.cons Kk (.nil)) Tryz.func64 Tryz.call64 [.row 25 1 (.ints .u32)] [] 2
def PC(s:ia):Tree ia:=
.an (SI s.A0) (.lv (SH s.A0) λ(x0:bg)=>.an (SF s.B3.B0) (.lv (HT s.B3.B0) λ(x1:List Bool)=>.an (M7 s.A3) (.lv (FX s.A3) λ(x2:List Int)=>.an (M7 s.C1) (.lv (FX s.C1) λ(x3:List Int)=>.lf ({A4:=s.A4,A0:=x0,B3:={B0:=x1,B9:=s.B3.B9,D7:=s.B3.D7},A3:=x2,C1:=x3,D5:=s.D5})))))
def Qgb s:=(PC s).m
abbrev Qap s:=(PC s).p
def Qw8:bb:=mT 90 [] true [.agg ia.sig] [] (λa r=>PC (ia.of (aC a 0))) (λX=>.agg (ia.cq X (.all 0) (.all 1) (.all 2) (.all 3))) (λX=>[⟨false,25,1,.ints .u32 X.A0.Mem⟩,⟨false,4,1,.ag X.B3.B0⟩,⟨false,3,1,.ints .i64 X.A3⟩,⟨false,3,1,.ints .i64 X.C1⟩])
theorem Quv:bj pG Qw8:=oT (.cons We (.cons Qbx (.cons Qf6 (.nil)))) Tryz.func90 Tryz.call90 [.row 25 1 (.ints .u32),.row 4 1 (.ag),.row 3 1 (.ints .i64),.row 3 1 (.ints .i64)] [] 2
def Pz(l:fi):Tree fi:=
.an (SI l.A0) (.lv (SH l.A0) λ(x0:bg)=>.an (M7 l.A3) (.lv (FX l.A3) λ(x1:List Int)=>.lf ({C2:=l.C2,B9:=l.B9,Frame:=l.Frame,F0:=l.F0,A0:=x0,A3:=x1})))
def Q8u l:=(Pz l).m
abbrev Q5n l:=(Pz l).p
def Qtm:bb:=mT 103 [] false [.agg fi.sig] [] (λa r=>Pz (fi.of (aC a 0))) (λX=>.agg (fi.cells X)) (λX=>[])
theorem Qfc:bj pG Qtm:=oT (.cons We (.cons Qf6 (.nil))) Tryz.func103 Tryz.call103 [.sl (.ints .u32) false,.sl (.ints .i64) false] [] 2 (jy:=nofun)
def YQ(l:List fi)(z:(Int)×(List fi)):Nat:=(l.length-z.1).toNat
def PB(l:List fi):Tree (List fi):=
.lp inferInstance (YQ l (0,[])+1) ((True/\nR RK.aa 54 l/\rE ((l.length:Int):Int)/\rE (0:Int)/\True)/\rE ([]:List (RK.T RK.aa))/\True) (0,[]) λ(v0:Int×List fi)=>.br (decide (v0.1<(l.length:Int))) (.cn (bX 54 54&&bN 0 54&&decide (0<=v0.1/\v0.1<(l.length:Int))) (let E1:=l.getD v0.1.toNat (RK.dx RK.aa);.an (Q5n E1) (.lv (Q8u E1) λ(x0:fi)=>.cn (decide (328*(v0.2.length+1)<=140737488355328)) (.nx ((True/\nR RK.aa 54 l/\rE ((l.length:Int):Int)/\rE ((wrap i64 (v0.1+1)):Int)/\True)/\rE ((v0.2++[x0]):List (RK.T RK.aa))/\True) (Sum.inl (wrap i64 (v0.1+1),v0.2++[x0])))))) (.lf (Sum.inr v0.2))
def Qbt l:=(PB l).m
abbrev Q83 l:=(PB l).p
def Qpn:bu:={
 α:=(Int)×(List fi)
 F:=λst a=>([(3,.all 0),(6,(lk st 6)),(7,(lk st 7)),(8,.int i64 a.1)],[⟨false,80,54,.ah RK.aa a.2⟩])
 a0:=λst=>((lk st 8).toInt,(tD RK.aa st.rows (rN st 3)))
 iZ:=λst=>[]++[(rX st 3 0)]}
def Qnh:List (Nat×bu):=[(3,Qpn)]
def Qrd:bb:=mT 91 [] false [.one (.ah .aa)] [] (λa r=>PB (jh .aa a 0)) (λX=>.all 0) (λX=>[⟨false,80,54,.ah .aa X⟩])
theorem Qq1:bj pG Qrd:=oT (.cons Qfc (.nil)) Tryz.func91 Tryz.call91 [.row 80 54 (.ah .aa)] Qnh 3 (jy:=nofun)
def Ju(m:bg)(s:gj):Tree (dv×Bool):=
.an (VO m) (.lv (AY m) λ(x0:Bool)=>let E3:=({X:={a0:=0,a1:=0,a2:=0,a3:=0,a4:=0,a5:=0,a6:=0,a7:=0,a8:=0,a9:=0,kO:=0,kP:=0,a12:=0,kQ:=0,kR:=0,kS:=0},Pc:=0,C3:={a0:=0,a1:=0,a2:=0,a3:=0,a4:=0,a5:=0,a6:=0,a7:=0}}:bq);let T1:Tree ((dv×Bool)):=let E2:=({A4:=0,A0:={B4:=E3,Mem:=[],B1:={D9:=[]},B8:={F1:=false,D3:=0,E0:=false},B7:={ab:=0,C8:=0,Frame:=0,C9:=0,F5:=0,C5:=0,C6:=0,C7:=[]},D4:={Frame:=0,F6:=0,D1:=false,D2:=0,C4:=false,F9:=0},A6:={A2:=0,D0:=0},B6:=0,B2:=false,B5:=false},B3:={B0:=[],B9:=0,D7:=0},A3:=[],C1:=[],D5:=0}:ia);.lf ({A1:=E2,A2:=E2,A7:=[],C0:=[],A9:={ab:=[],D5:=0,D6:=0}},false);.br (!x0) T1 (.an (Qfu s) (.lv (Qpm s) λ(x1:Bool)=>.br (!x1) T1 (.br (s.D5==0) T1 (.lv (jP m.Mem) λ(x2:Int)=>.an (Qgl x2) (.lv (Qq x2) λ(x3:fu×Bool)=>.br (!x3.2) T1 (.an (SI m) (.lv (SH m) λ(x4:bg)=>let E4:=bN 0 1&&bX 1 1&&iC [D.int i64 0] D.plain&&decide (0<=x2/\x2<=x2/\x2<=9223372036854775807/\(↑8:Int)*x2<=140737488355328);.cn E4 (.cn E4 (.an (Qna x2) (.lv (Z0h x2) λ(x5:List Int)=>.an (M4 s.ab) (.lv (FW s.ab) λ(x6:List (List UInt8))=>.lf ({A1:={A4:=1,A0:=x4,B3:=x3.1,A3:=cO x2.toNat 0,C1:=[],D5:=s.D5},A2:={A4:=0,A0:={B4:=E3,Mem:=x5,B1:={D9:=[]},B8:={F1:=false,D3:=0,E0:=false},B7:={ab:=0,C8:=0,Frame:=0,C9:=0,F5:=0,C5:=0,C6:=0,C7:=[]},D4:={Frame:=0,F6:=0,D1:=false,D2:=0,C4:=false,F9:=0},A6:={A2:=0,D0:=0},B6:=0,B2:=false,B5:=false},B3:={B0:=[],B9:=0,D7:=0},A3:=cO x2.toNat 0,C1:=[],D5:=s.D5},A7:=[],C0:=[],A9:={ab:=x6,D5:=s.D5,D6:=s.D6}},true)))))))))))))
def Qwt m s:=(Ju m s).m
abbrev Qjs m s:=(Ju m s).p
def Zil:bb:=mT 25 [] false [.agg bg.sig,.agg gj.sig] [] (λa r=>Ju (bg.of (aC a 0)) (gj.of (aC a 1))) (λX=>.dw [.agg (dv.cq (X.1) (.sl 1 (.ints .u32 X.1.A1.A0.Mem) true) (.sl 1 (.ag X.1.A1.B3.B0) true) (.all 0) (.sl 1 (.ints .i64 X.1.A1.C1) true) (.sl 1 (.ints .u32 X.1.A2.A0.Mem) true) (.sl 1 (.ag X.1.A2.B3.B0) true) (.all 1) (.sl 1 (.ints .i64 X.1.A2.C1) true) (.all 2) (.all 3) (.sl 1 (.ah .str X.1.A9.ab) true)),.bool (X.2)]) (λX=>[⟨false,3,1,.ints .i64 (X.1).A1.A3⟩,⟨false,3,1,.ints .i64 (X.1).A2.A3⟩,⟨false,80,54,.ah .aa (X.1).A7⟩,⟨false,80,54,.ah .aa (X.1).C0⟩])
theorem Qvf:bj pG Zil:=oT (.cons Qvn (.cons Qqn (.cons Br (.cons Z4v (.cons We (.cons Zhv (.cons Q5f (.nil)))))))) Tryz.func25 Tryz.call25 [.sl (.ints .u32) true,.sl (.ag) true,.row 3 1 (.ints .i64),.sl (.ints .i64) true,.sl (.ints .u32) true,.sl (.ag) true,.row 3 1 (.ints .i64),.sl (.ints .i64) true,.row 80 54 (.ah .aa),.row 80 54 (.ah .aa),.sl (.ah .str) true] [] 2 (jy:=nofun)
def UL(g:dv):Tree Int:=
.br (g.A1.A4==1) (.lf 0) (.br (g.A1.A4==3) (.lf 0) (.br (g.A2.A4==3) (.lf 1) (.lf (-1))))
def G5 g:=(UL g).m
def Z2a:bb:=mS 20 [] true [.agg dv.sig] [] (λa r=>UL (dv.of (aC a 0))) (λX=>.int .i64 X) (λX=>[])
theorem Qev:bj pG Z2a:=oS (.nil) Tryz.func20 Tryz.call20 [] [] 2
def PU(g:dv):Tree (bg×Bool):=
.lv (G5 g) λ(x0:Int)=>.br (x0==0) (.an (SI g.A1.A0) (.lv (SH g.A1.A0) λ(x1:bg)=>.lf (x1,true))) (.br (x0==1) (.an (SI g.A2.A0) (.lv (SH g.A2.A0) λ(x2:bg)=>.lf (x2,true))) (.lf ({B4:={X:={a0:=0,a1:=0,a2:=0,a3:=0,a4:=0,a5:=0,a6:=0,a7:=0,a8:=0,a9:=0,kO:=0,kP:=0,a12:=0,kQ:=0,kR:=0,kS:=0},Pc:=0,C3:={a0:=0,a1:=0,a2:=0,a3:=0,a4:=0,a5:=0,a6:=0,a7:=0}},Mem:=[],B1:={D9:=[]},B8:={F1:=false,D3:=0,E0:=false},B7:={ab:=0,C8:=0,Frame:=0,C9:=0,F5:=0,C5:=0,C6:=0,C7:=[]},D4:={Frame:=0,F6:=0,D1:=false,D2:=0,C4:=false,F9:=0},A6:={A2:=0,D0:=0},B6:=0,B2:=false,B5:=false},false)))
def Qrw g:=(PU g).m
abbrev Qlf g:=(PU g).p
def Z2d:bb:=mT 18 [] true [.agg dv.sig] [] (λa r=>PU (dv.of (aC a 0))) (λX=>.dw [.agg (bg.cq (X.1) (.all 0)),.bool (X.2)]) (λX=>[⟨false,25,1,.ints .u32 (X.1).Mem⟩])
theorem Qyr:bj pG Z2d:=oT (.cons Qev (.cons We (.nil))) Tryz.func18 Tryz.call18 [.row 25 1 (.ints .u32)] [] 2
def PH(g:dv):Tree Bool:=
.br (g.A2.A4==2) (.an (Wd g.A2.A3 g.A2.C1) (.lv (Qiq g.A2.A3 g.A2.C1) λ(x0:Bool)=>.lf x0)) (.lf false)
def Qq9 g:=(PH g).m
abbrev Qip g:=(PH g).p
def Qyf:bb:=mT 22 [] true [.agg dv.sig] [] (λa r=>PH (dv.of (aC a 0))) (λX=>.bool X) (λX=>[])
theorem Qw5:bj pG Qyf:=oT (.cons Qpe (.nil)) Tryz.func22 Tryz.call22 [] [] 2
end
noncomputable section
def Ko(s:List Int):(List Int):=
s
def Wf(s:List Int):Prop:=
s.length<=1000000000000
def Q8w(s:List Int):List D:=[.sl 1 (.ints .i64 s) false]
def Wg(s:List Int):List Row:=[]
def Na(X:List Int):D:=.sl 1 (.ints .i64 X) true
def Q3(X:List Int):List Row:=[]
def Qpy:List nd:=[.sl (.ints .i64) true]
def Qfg:List PT:=[.one (.ints .i64)]
def Qed:List RT:=[]
def Qr2(args:List D)(rows:List Row):(List Int):=Ko (de .i64 args 0)
def Qr7(args:List D)(rows:List Row):Prop:=Wf (de .i64 args 0)
def Quq:bb:=kH 134 [] true Qfg Qed Qr7 Qr2 Na Q3
def Qbu(s:List Int)(jb:(List Int)->Prop):Prop:=
(s=[]->jb [])/\cv (decide ((8:Nat)*((0:Nat)+s.length)<=(140737488355328:Nat))) (jb s)
set_option maxRecDepth 100000 in
theorem Qt0(s:List Int)(Q:D->List Row->Prop):(ko jY [] (LL jY [] Tryz.f134.ntmps 0 [] 2) Tryz.f134 (Q8w s) (Wg s) λd R=>nU (Wg s).length Qpy d R Q)=Qbu s (λX=>Q (Na X) (Q3 X)):=by kernel_rfl
theorem Qpi(s:List Int)(jb:(List Int)->Prop)(hw:Wf s)(h:jb (Ko s)):
Qbu s jb:=by
 delta Qbu
 refine⟨λe=>by rw[e]at h;exact h,?_⟩
 rw[dd]
 refine⟨dY ?_,h⟩
 have:s.length<=1000000000000:=hw
 omega
set_option maxRecDepth 100000 in
theorem Qni(s:List Int)(hw:Wf s):kr pG 134 (Q8w s) (Wg s) (Na (Ko s)) (Q3 (Ko s)):=
 have hG:jB pG []:=.nil
 lV.calls drawn jt hG Tryz.func134 (rf:=none) (λ_ _=>trivial) (Gu drawn jt hG (.inl rfl) 2 (fq:=[])) (lV.of (Qt0 s _) (Qpi s (λX=>Na X=Na (Ko s)/\Q3 X=Q3 (Ko s)) hw ⟨rfl,rfl⟩))
set_option maxRecDepth 100000 in
theorem Qpg(args:List D)(rows:List Row):kZ Qfg args 0=Q8w (de .i64 args 0):=by kernel_rfl
set_option maxRecDepth 100000 in
theorem Qnv(args:List D)(rows:List Row):kA Qed rows 0=Wg (de .i64 args 0):=by kernel_rfl
set_option maxRecDepth 100000 in
theorem Qsu(X:List Int):(tv (Na X)&&jz (Q3 X))=true:=by kernel_rfl
theorem Qs0:bj pG Quq:=FQ Tryz.call134 (λargs rows hp=>by rw[Qpg args rows,Qnv args rows];exact Qni (de .i64 args 0) hp) (λ_ X=>Qsu X)
def SJ:bb:=⟨101,[true,false],false,λargs rows=>match args with|[.ptr r i o,.bool b]=>(match rows with|⟨true,ty,sz,.gen [e]⟩::l=>(match bX r 0&&(bX i 0&&(bX o 0&&(⟨true,ty,sz,.gen [e]⟩::l:List Row).all (Row.mA (⟨true,ty,sz,.gen [e]⟩::l:List Row).length)))with|true=>(match b with|true=>.abs Unit () (λ_=>.ptr 0 0 113) (λ_=>⟨true,ty,sz,.gen [e]⟩::l)|false=>.abs Unit () (λ_=>.ptr 0 0 112) (λ_=>⟨true,ty,sz,.gen [e]⟩::l))|false=>.no)|_=>.no)|_=>.no,none,false⟩
theorem Qbp:bj pG SJ:=by
 refine⟨λ_=>Tryz.call101,λ_=>by decide,λ_ args rows r r' hm=>?_,λ_ args rows p r r' hm=>?_,λ_ args rows α v res aj hm=>?_,λ_ args rows p α v res aj hm=>?_,λk hk=>(by cases hk),λk hk=>(by cases hk)⟩
 ·simp only[SJ]at hm;repeat(split at hm<;>try(cases hm;done))
 ·simp only[SJ]at hm;repeat(split at hm<;>try(cases hm;done))
 ·simp only[SJ]at hm
  split at hm
  ·split at hm
   ·split at hm
    ·rename_i hc
     simp only[aE]at hc
     obtain⟨h1,h2,h3,hs⟩:=hc
     have h1:=bE h1;have h2:=bE h2;have h3:=bE h3
     subst h1;subst h2;subst h3
     split at hm
     ·cases hm;exact⟨Zdl drawn jt Tryz.func101 hs (by simp) (λ_=>by kernel_rfl),λh=>by cases h⟩
     ·cases hm;exact⟨Zdl drawn jt Tryz.func101 hs (by simp) (λ_=>by kernel_rfl),λh=>by cases h⟩
    ·cases hm
   ·cases hm
  ·cases hm
 ·simp only[SJ]at hm;repeat(split at hm<;>try(cases hm;done))
def Jq(g:df)(back:Bool)(l:fi):Tree df:=
.br back (.lv () λ(x0:Unit)=>.br (decide ((g.C0.length:Int)<(64:Int))) (.cn (decide (328*(g.C0.length+1)<=140737488355328)) (.lf ({A1:=g.A1,A2:=g.A2,A7:=g.A7,C0:=g.C0++[l],A9:=g.A9}))) (.lf g)) (.lv () λ(x1:Unit)=>.br (decide ((g.A7.length:Int)<(64:Int))) (.cn (decide (328*(g.A7.length+1)<=140737488355328)) (.lf ({A1:=g.A1,A2:=g.A2,A7:=g.A7++[l],C0:=g.C0,A9:=g.A9}))) (.lf g))
def FY g back l:=(Jq g back l).m
abbrev FZ g back l:=(Jq g back l).p
def Qwa:bb:=jS 1 52 [true,false,false] [.ptr 0,.one (.bool),.agg fi.sig] [.box 97 117 (df.il (.ints .u32) (.ag) (.row 1) (.ints .i64) (.ints .u32) (.ag) (.row 2) (.ints .i64) (.row 3) (.row 4) (.ah .str)),.arr 3 1 (.ints .i64),.arr 3 1 (.ints .i64),.arr 80 54 (.ah .aa),.arr 80 54 (.ah .aa)] (λa r=>FZ (df.iF (r.getD 0 default).cs (cj .u32 (((r.getD 0 default).cs).getD 26 .dead)) (ey (((r.getD 0 default).cs).getD 50 .dead)) (cy .i64 r 1) (cj .i64 (((r.getD 0 default).cs).getD 54 .dead)) (cj .u32 (((r.getD 0 default).cs).getD 82 .dead)) (ey (((r.getD 0 default).cs).getD 106 .dead)) (cy .i64 r 2) (cj .i64 (((r.getD 0 default).cs).getD 110 .dead)) (c9 .aa r 3) (c9 .aa r 4) (iU .str (((r.getD 0 default).cs).getD 114 .dead))) (kF a 1) (fi.of (aC a 2))) (λa r=>FY (df.iF (r.getD 0 default).cs (cj .u32 (((r.getD 0 default).cs).getD 26 .dead)) (ey (((r.getD 0 default).cs).getD 50 .dead)) (cy .i64 r 1) (cj .i64 (((r.getD 0 default).cs).getD 54 .dead)) (cj .u32 (((r.getD 0 default).cs).getD 82 .dead)) (ey (((r.getD 0 default).cs).getD 106 .dead)) (cy .i64 r 2) (cj .i64 (((r.getD 0 default).cs).getD 110 .dead)) (c9 .aa r 3) (c9 .aa r 4) (iU .str (((r.getD 0 default).cs).getD 114 .dead))) (kF a 1) (fi.of (aC a 2))) (λX=>.dw []) (λX=>[⟨true,97,117,.gen [(df.cq X (.sl 1 (.ints .u32 X.A1.A0.Mem) false) (.sl 1 (.ag X.A1.B3.B0) false) (.all 1) (.sl 1 (.ints .i64 X.A1.C1) false) (.sl 1 (.ints .u32 X.A2.A0.Mem) false) (.sl 1 (.ag X.A2.B3.B0) false) (.all 2) (.sl 1 (.ints .i64 X.A2.C1) false) (.all 3) (.all 4) (.sl 1 (.ah .str X.A9.ab) false))]⟩,⟨false,3,1,.ints .i64 X.A1.A3⟩,⟨false,3,1,.ints .i64 X.A2.A3⟩,⟨false,80,54,.ah .aa X.A7⟩,⟨false,80,54,.ah .aa X.C0⟩])
theorem SK:bj pG Qwa:=tu drawn jt (.cons Qbp (.nil)) Tryz.func52 Tryz.call52 (λa r=>Jq (df.iF (r.getD 0 default).cs (cj .u32 (((r.getD 0 default).cs).getD 26 .dead)) (ey (((r.getD 0 default).cs).getD 50 .dead)) (cy .i64 r 1) (cj .i64 (((r.getD 0 default).cs).getD 54 .dead)) (cj .u32 (((r.getD 0 default).cs).getD 82 .dead)) (ey (((r.getD 0 default).cs).getD 106 .dead)) (cy .i64 r 2) (cj .i64 (((r.getD 0 default).cs).getD 110 .dead)) (c9 .aa r 3) (c9 .aa r 4) (iU .str (((r.getD 0 default).cs).getD 114 .dead))) (kF a 1) (fi.of (aC a 2))) [.sl (.ints .u32) false,.sl (.ag) false,.row 3 1 (.ints .i64),.sl (.ints .i64) false,.sl (.ints .u32) false,.sl (.ag) false,.row 3 1 (.ints .i64),.sl (.ints .i64) false,.row 80 54 (.ah .aa),.row 80 54 (.ah .aa),.sl (.ah .str) false] [] 2 (λ_ _ _=>by kernel_rfl) (λ_ _=>rfl) (λ_ _ h=>h)
def Pl(g:df)(c:lh):Tree df:=
let E2:=({B4:={X:={a0:=0,a1:=0,a2:=0,a3:=0,a4:=0,a5:=0,a6:=0,a7:=0,a8:=0,a9:=0,kO:=0,kP:=0,a12:=0,kQ:=0,kR:=0,kS:=0},Pc:=0,C3:={a0:=0,a1:=0,a2:=0,a3:=0,a4:=0,a5:=0,a6:=0,a7:=0}},Mem:=[],B1:={D9:=[]},B8:={F1:=false,D3:=0,E0:=false},B7:={ab:=0,C8:=0,Frame:=0,C9:=0,F5:=0,C5:=0,C6:=0,C7:=[]},D4:={Frame:=0,F6:=0,D1:=false,D2:=0,C4:=false,F9:=0},A6:={A2:=0,D0:=0},B6:=0,B2:=false,B5:=false}:bg);let T1:Tree (df):=.an (FZ g false {C2:=1,B9:=0,Frame:=c.Frame,F0:=c.F0,A0:=E2,A3:=[]}) (.lv (FY g false {C2:=1,B9:=0,Frame:=c.Frame,F0:=c.F0,A0:=E2,A3:=[]}) λ(x1:df)=>.lf x1);.br (decide (c.Frame>=0)) (.br (decide (c.Frame<(g.A1.A3.length:Int))) (.cn (bX 1 1&&bN 0 1&&decide (0<=c.Frame/\c.Frame<(g.A1.A3.length:Int))) (.an (FZ g false {C2:=1,B9:=g.A1.A3.getD c.Frame.toNat 0,Frame:=c.Frame,F0:=c.F0,A0:=E2,A3:=[]}) (.lv (FY g false {C2:=1,B9:=g.A1.A3.getD c.Frame.toNat 0,Frame:=c.Frame,F0:=c.F0,A0:=E2,A3:=[]}) λ(x0:df)=>.lf x0))) T1) T1
def Wh g c:=(Pl g c).m
abbrev Wi g c:=(Pl g c).p
def Qq3:bb:=jS 1 96 [true,false] [.ptr 0,.agg lh.sig] [.box 97 117 (df.il (.ints .u32) (.ag) (.row 1) (.ints .i64) (.ints .u32) (.ag) (.row 2) (.ints .i64) (.row 3) (.row 4) (.ah .str)),.arr 3 1 (.ints .i64),.arr 3 1 (.ints .i64),.arr 80 54 (.ah .aa),.arr 80 54 (.ah .aa)] (λa r=>Wi (df.iF (r.getD 0 default).cs (cj .u32 (((r.getD 0 default).cs).getD 26 .dead)) (ey (((r.getD 0 default).cs).getD 50 .dead)) (cy .i64 r 1) (cj .i64 (((r.getD 0 default).cs).getD 54 .dead)) (cj .u32 (((r.getD 0 default).cs).getD 82 .dead)) (ey (((r.getD 0 default).cs).getD 106 .dead)) (cy .i64 r 2) (cj .i64 (((r.getD 0 default).cs).getD 110 .dead)) (c9 .aa r 3) (c9 .aa r 4) (iU .str (((r.getD 0 default).cs).getD 114 .dead))) (lh.of (aC a 1))) (λa r=>Wh (df.iF (r.getD 0 default).cs (cj .u32 (((r.getD 0 default).cs).getD 26 .dead)) (ey (((r.getD 0 default).cs).getD 50 .dead)) (cy .i64 r 1) (cj .i64 (((r.getD 0 default).cs).getD 54 .dead)) (cj .u32 (((r.getD 0 default).cs).getD 82 .dead)) (ey (((r.getD 0 default).cs).getD 106 .dead)) (cy .i64 r 2) (cj .i64 (((r.getD 0 default).cs).getD 110 .dead)) (c9 .aa r 3) (c9 .aa r 4) (iU .str (((r.getD 0 default).cs).getD 114 .dead))) (lh.of (aC a 1))) (λX=>.dw []) (λX=>[⟨true,97,117,.gen [(df.cq X (.sl 1 (.ints .u32 X.A1.A0.Mem) false) (.sl 1 (.ag X.A1.B3.B0) false) (.all 1) (.sl 1 (.ints .i64 X.A1.C1) false) (.sl 1 (.ints .u32 X.A2.A0.Mem) false) (.sl 1 (.ag X.A2.B3.B0) false) (.all 2) (.sl 1 (.ints .i64 X.A2.C1) false) (.all 3) (.all 4) (.sl 1 (.ah .str X.A9.ab) false))]⟩,⟨false,3,1,.ints .i64 X.A1.A3⟩,⟨false,3,1,.ints .i64 X.A2.A3⟩,⟨false,80,54,.ah .aa X.A7⟩,⟨false,80,54,.ah .aa X.C0⟩])
theorem Qdi:bj pG Qq3:=tu drawn jt (.cons SK (.nil)) Tryz.func96 Tryz.call96 (λa r=>Pl (df.iF (r.getD 0 default).cs (cj .u32 (((r.getD 0 default).cs).getD 26 .dead)) (ey (((r.getD 0 default).cs).getD 50 .dead)) (cy .i64 r 1) (cj .i64 (((r.getD 0 default).cs).getD 54 .dead)) (cj .u32 (((r.getD 0 default).cs).getD 82 .dead)) (ey (((r.getD 0 default).cs).getD 106 .dead)) (cy .i64 r 2) (cj .i64 (((r.getD 0 default).cs).getD 110 .dead)) (c9 .aa r 3) (c9 .aa r 4) (iU .str (((r.getD 0 default).cs).getD 114 .dead))) (lh.of (aC a 1))) [.sl (.ints .u32) false,.sl (.ag) false,.row 3 1 (.ints .i64),.sl (.ints .i64) false,.sl (.ints .u32) false,.sl (.ag) false,.row 3 1 (.ints .i64),.sl (.ints .i64) false,.row 80 54 (.ah .aa),.row 80 54 (.ah .aa),.sl (.ah .str) false] [] 2 (λ_ _ _=>by kernel_rfl) (λ_ _=>rfl) (λ_ _ h=>h)
def Pm(g:df):Tree df:=
.an (Wf g.A1.A3) (.lv (Ko g.A1.A3) λ(x0:List Int)=>let E1:=({B4:=g.A1.A0.B4,Mem:=[],B1:=g.A1.A0.B1,B8:=g.A1.A0.B8,B7:=g.A1.A0.B7,D4:=g.A1.A0.D4,A6:=g.A1.A0.A6,B6:=g.A1.A0.B6,B2:=g.A1.A0.B2,B5:=g.A1.A0.B5}:bg);.an (FZ g false {C2:=2,B9:=0,Frame:=0,F0:=[],A0:=E1,A3:=x0}) (.lv (FY g false {C2:=2,B9:=0,Frame:=0,F0:=[],A0:=E1,A3:=x0}) λ(x1:df)=>.lf x1))
def Q9s g:=(Pm g).m
abbrev Q6u g:=(Pm g).p
def Qod:bb:=jS 1 98 [true] [.ptr 0] [.box 97 117 (df.il (.ints .u32) (.ag) (.row 1) (.ints .i64) (.ints .u32) (.ag) (.row 2) (.ints .i64) (.row 3) (.row 4) (.ah .str)),.arr 3 1 (.ints .i64),.arr 3 1 (.ints .i64),.arr 80 54 (.ah .aa),.arr 80 54 (.ah .aa)] (λa r=>Q6u (df.iF (r.getD 0 default).cs (cj .u32 (((r.getD 0 default).cs).getD 26 .dead)) (ey (((r.getD 0 default).cs).getD 50 .dead)) (cy .i64 r 1) (cj .i64 (((r.getD 0 default).cs).getD 54 .dead)) (cj .u32 (((r.getD 0 default).cs).getD 82 .dead)) (ey (((r.getD 0 default).cs).getD 106 .dead)) (cy .i64 r 2) (cj .i64 (((r.getD 0 default).cs).getD 110 .dead)) (c9 .aa r 3) (c9 .aa r 4) (iU .str (((r.getD 0 default).cs).getD 114 .dead)))) (λa r=>Q9s (df.iF (r.getD 0 default).cs (cj .u32 (((r.getD 0 default).cs).getD 26 .dead)) (ey (((r.getD 0 default).cs).getD 50 .dead)) (cy .i64 r 1) (cj .i64 (((r.getD 0 default).cs).getD 54 .dead)) (cj .u32 (((r.getD 0 default).cs).getD 82 .dead)) (ey (((r.getD 0 default).cs).getD 106 .dead)) (cy .i64 r 2) (cj .i64 (((r.getD 0 default).cs).getD 110 .dead)) (c9 .aa r 3) (c9 .aa r 4) (iU .str (((r.getD 0 default).cs).getD 114 .dead)))) (λX=>.dw []) (λX=>[⟨true,97,117,.gen [(df.cq X (.sl 1 (.ints .u32 X.A1.A0.Mem) false) (.sl 1 (.ag X.A1.B3.B0) false) (.all 1) (.sl 1 (.ints .i64 X.A1.C1) false) (.sl 1 (.ints .u32 X.A2.A0.Mem) false) (.sl 1 (.ag X.A2.B3.B0) false) (.all 2) (.sl 1 (.ints .i64 X.A2.C1) false) (.all 3) (.all 4) (.sl 1 (.ah .str X.A9.ab) false))]⟩,⟨false,3,1,.ints .i64 X.A1.A3⟩,⟨false,3,1,.ints .i64 X.A2.A3⟩,⟨false,80,54,.ah .aa X.A7⟩,⟨false,80,54,.ah .aa X.C0⟩])
theorem Qcb:bj pG Qod:=tu drawn jt (.cons SK (.cons Qs0 (.nil))) Tryz.func98 Tryz.call98 (λa r=>Pm (df.iF (r.getD 0 default).cs (cj .u32 (((r.getD 0 default).cs).getD 26 .dead)) (ey (((r.getD 0 default).cs).getD 50 .dead)) (cy .i64 r 1) (cj .i64 (((r.getD 0 default).cs).getD 54 .dead)) (cj .u32 (((r.getD 0 default).cs).getD 82 .dead)) (ey (((r.getD 0 default).cs).getD 106 .dead)) (cy .i64 r 2) (cj .i64 (((r.getD 0 default).cs).getD 110 .dead)) (c9 .aa r 3) (c9 .aa r 4) (iU .str (((r.getD 0 default).cs).getD 114 .dead)))) [.sl (.ints .u32) false,.sl (.ag) false,.row 3 1 (.ints .i64),.sl (.ints .i64) false,.sl (.ints .u32) false,.sl (.ag) false,.row 3 1 (.ints .i64),.sl (.ints .i64) false,.row 80 54 (.ah .aa),.row 80 54 (.ah .aa),.sl (.ah .str) false] [] 2 (λ_ _ _=>by kernel_rfl) (λ_ _=>rfl) (λ_ _ h=>h)
def UJ(g:df)(back:Bool):Tree df:=
.br back (.lf ({A1:=g.A1,A2:={A4:=4,A0:=g.A2.A0,B3:=g.A2.B3,A3:=g.A2.A3,C1:=g.A2.C1,D5:=g.A2.D5},A7:=g.A7,C0:=g.C0,A9:=g.A9})) (.lf ({A1:={A4:=4,A0:=g.A1.A0,B3:=g.A1.B3,A3:=g.A1.A3,C1:=g.A1.C1,D5:=g.A1.D5},A2:=g.A2,A7:=g.A7,C0:=g.C0,A9:=g.A9}))
def Qmw g back:=(UJ g back).m
def Quy:bb:=Kd 1 54 [true,false] [.ptr 0,.one (.bool)] [.box 97 117 (df.il (.ints .u32) (.ag) (.row 1) (.ints .i64) (.ints .u32) (.ag) (.row 2) (.ints .i64) (.row 3) (.row 4) (.ah .str)),.arr 3 1 (.ints .i64),.arr 3 1 (.ints .i64),.arr 80 54 (.ah .aa),.arr 80 54 (.ah .aa)] (λa r=>Qmw (df.iF (r.getD 0 default).cs (cj .u32 (((r.getD 0 default).cs).getD 26 .dead)) (ey (((r.getD 0 default).cs).getD 50 .dead)) (cy .i64 r 1) (cj .i64 (((r.getD 0 default).cs).getD 54 .dead)) (cj .u32 (((r.getD 0 default).cs).getD 82 .dead)) (ey (((r.getD 0 default).cs).getD 106 .dead)) (cy .i64 r 2) (cj .i64 (((r.getD 0 default).cs).getD 110 .dead)) (c9 .aa r 3) (c9 .aa r 4) (iU .str (((r.getD 0 default).cs).getD 114 .dead))) (kF a 1)) (λX=>.dw []) (λX=>[⟨true,97,117,.gen [(df.cq X (.sl 1 (.ints .u32 X.A1.A0.Mem) false) (.sl 1 (.ag X.A1.B3.B0) false) (.all 1) (.sl 1 (.ints .i64 X.A1.C1) false) (.sl 1 (.ints .u32 X.A2.A0.Mem) false) (.sl 1 (.ag X.A2.B3.B0) false) (.all 2) (.sl 1 (.ints .i64 X.A2.C1) false) (.all 3) (.all 4) (.sl 1 (.ah .str X.A9.ab) false))]⟩,⟨false,3,1,.ints .i64 X.A1.A3⟩,⟨false,3,1,.ints .i64 X.A2.A3⟩,⟨false,80,54,.ah .aa X.A7⟩,⟨false,80,54,.ah .aa X.C0⟩])
theorem Qtd:bj pG Quy:=qaP drawn jt (.nil) Tryz.func54 Tryz.call54 (λa r=>UJ (df.iF (r.getD 0 default).cs (cj .u32 (((r.getD 0 default).cs).getD 26 .dead)) (ey (((r.getD 0 default).cs).getD 50 .dead)) (cy .i64 r 1) (cj .i64 (((r.getD 0 default).cs).getD 54 .dead)) (cj .u32 (((r.getD 0 default).cs).getD 82 .dead)) (ey (((r.getD 0 default).cs).getD 106 .dead)) (cy .i64 r 2) (cj .i64 (((r.getD 0 default).cs).getD 110 .dead)) (c9 .aa r 3) (c9 .aa r 4) (iU .str (((r.getD 0 default).cs).getD 114 .dead))) (kF a 1)) [.sl (.ints .u32) false,.sl (.ag) false,.row 3 1 (.ints .i64),.sl (.ints .i64) false,.sl (.ints .u32) false,.sl (.ag) false,.row 3 1 (.ints .i64),.sl (.ints .i64) false,.row 80 54 (.ah .aa),.row 80 54 (.ah .aa),.sl (.ah .str) false] [] 2 (λ_ _ _=>by kernel_rfl) (λ_ _=>rfl) (λ_ _=>Tree.nN (by kernel_rfl))
def Pn(g:df)(host:Int):Tree (Bool×df):=
.an (Qfp g.A9 host g.A1.D5) (.lv (mr g.A9 host g.A1.D5) λ(x0:gj×Bool)=>.br (!x0.2) (.lf (false,{A1:={A4:=4,A0:=g.A1.A0,B3:=g.A1.B3,A3:=g.A1.A3,C1:=g.A1.C1,D5:=g.A1.D5},A2:=g.A2,A7:=g.A7,C0:=g.C0,A9:=g.A9})) (.lf (true,{A1:={A4:=3,A0:=g.A1.A0,B3:=g.A1.B3,A3:=g.A1.A3,C1:=g.A1.C1,D5:=x0.1.D5},A2:=g.A2,A7:=g.A7,C0:=g.C0,A9:=x0.1})))
def Qii g host:=(Pn g host).m
abbrev Qdq g host:=(Pn g host).p
def Qr4:bb:=jS 1 51 [true,true,false] [.ptr 0,.one (.pt 0 0 0),.one (.int .i64)] [.box 97 117 (df.il (.ints .u32) (.ag) (.row 1) (.ints .i64) (.ints .u32) (.ag) (.row 2) (.ints .i64) (.row 3) (.row 4) (.ah .str)),.arr 3 1 (.ints .i64),.arr 3 1 (.ints .i64),.arr 80 54 (.ah .aa),.arr 80 54 (.ah .aa)] (λa r=>Qdq (df.iF (r.getD 0 default).cs (cj .u32 (((r.getD 0 default).cs).getD 26 .dead)) (ey (((r.getD 0 default).cs).getD 50 .dead)) (cy .i64 r 1) (cj .i64 (((r.getD 0 default).cs).getD 54 .dead)) (cj .u32 (((r.getD 0 default).cs).getD 82 .dead)) (ey (((r.getD 0 default).cs).getD 106 .dead)) (cy .i64 r 2) (cj .i64 (((r.getD 0 default).cs).getD 110 .dead)) (c9 .aa r 3) (c9 .aa r 4) (iU .str (((r.getD 0 default).cs).getD 114 .dead))) (au a 2)) (λa r=>Qii (df.iF (r.getD 0 default).cs (cj .u32 (((r.getD 0 default).cs).getD 26 .dead)) (ey (((r.getD 0 default).cs).getD 50 .dead)) (cy .i64 r 1) (cj .i64 (((r.getD 0 default).cs).getD 54 .dead)) (cj .u32 (((r.getD 0 default).cs).getD 82 .dead)) (ey (((r.getD 0 default).cs).getD 106 .dead)) (cy .i64 r 2) (cj .i64 (((r.getD 0 default).cs).getD 110 .dead)) (c9 .aa r 3) (c9 .aa r 4) (iU .str (((r.getD 0 default).cs).getD 114 .dead))) (au a 2)) (λX=>.bool (X.1)) (λX=>[⟨true,97,117,.gen [(df.cq (X.2) (.sl 1 (.ints .u32 X.2.A1.A0.Mem) false) (.sl 1 (.ag X.2.A1.B3.B0) false) (.all 1) (.sl 1 (.ints .i64 X.2.A1.C1) false) (.sl 1 (.ints .u32 X.2.A2.A0.Mem) false) (.sl 1 (.ag X.2.A2.B3.B0) false) (.all 2) (.sl 1 (.ints .i64 X.2.A2.C1) false) (.all 3) (.all 4) (.sl 1 (.ah .str X.2.A9.ab) false))]⟩,⟨false,3,1,.ints .i64 (X.2).A1.A3⟩,⟨false,3,1,.ints .i64 (X.2).A2.A3⟩,⟨false,80,54,.ah .aa (X.2).A7⟩,⟨false,80,54,.ah .aa (X.2).C0⟩])
theorem Qou:bj pG Qr4:=tu drawn jt (.cons Qqc (.nil)) Tryz.func51 Tryz.call51 (λa r=>Pn (df.iF (r.getD 0 default).cs (cj .u32 (((r.getD 0 default).cs).getD 26 .dead)) (ey (((r.getD 0 default).cs).getD 50 .dead)) (cy .i64 r 1) (cj .i64 (((r.getD 0 default).cs).getD 54 .dead)) (cj .u32 (((r.getD 0 default).cs).getD 82 .dead)) (ey (((r.getD 0 default).cs).getD 106 .dead)) (cy .i64 r 2) (cj .i64 (((r.getD 0 default).cs).getD 110 .dead)) (c9 .aa r 3) (c9 .aa r 4) (iU .str (((r.getD 0 default).cs).getD 114 .dead))) (au a 2)) [.sl (.ints .u32) false,.sl (.ag) false,.row 3 1 (.ints .i64),.sl (.ints .i64) false,.sl (.ints .u32) false,.sl (.ag) false,.row 3 1 (.ints .i64),.sl (.ints .i64) false,.row 80 54 (.ah .aa),.row 80 54 (.ah .aa),.sl (.ah .str) false] [] 2 (λ_ _ _=>by kernel_rfl) (λ_ _=>rfl) (λ_ _ h=>h)
def Po(g:df)(host:Int):Tree (Bool×df):=
.an (Qfp g.A9 host g.A2.D5) (.lv (mr g.A9 host g.A2.D5) λ(x0:gj×Bool)=>.br (!x0.2) (.lf (false,{A1:=g.A1,A2:={A4:=4,A0:=g.A2.A0,B3:=g.A2.B3,A3:=g.A2.A3,C1:=g.A2.C1,D5:=g.A2.D5},A7:=g.A7,C0:=g.C0,A9:=g.A9})) (.lf (true,{A1:=g.A1,A2:={A4:=3,A0:=g.A2.A0,B3:=g.A2.B3,A3:=g.A2.A3,C1:=g.A2.C1,D5:=x0.1.D5},A7:=g.A7,C0:=g.C0,A9:=x0.1})))
def Qik g host:=(Po g host).m
abbrev Qdj g host:=(Po g host).p
def Qr0:bb:=jS 1 51 [true,true,false] [.ptr 0,.one (.pt 0 0 56),.one (.int .i64)] [.box 97 117 (df.il (.ints .u32) (.ag) (.row 1) (.ints .i64) (.ints .u32) (.ag) (.row 2) (.ints .i64) (.row 3) (.row 4) (.ah .str)),.arr 3 1 (.ints .i64),.arr 3 1 (.ints .i64),.arr 80 54 (.ah .aa),.arr 80 54 (.ah .aa)] (λa r=>Qdj (df.iF (r.getD 0 default).cs (cj .u32 (((r.getD 0 default).cs).getD 26 .dead)) (ey (((r.getD 0 default).cs).getD 50 .dead)) (cy .i64 r 1) (cj .i64 (((r.getD 0 default).cs).getD 54 .dead)) (cj .u32 (((r.getD 0 default).cs).getD 82 .dead)) (ey (((r.getD 0 default).cs).getD 106 .dead)) (cy .i64 r 2) (cj .i64 (((r.getD 0 default).cs).getD 110 .dead)) (c9 .aa r 3) (c9 .aa r 4) (iU .str (((r.getD 0 default).cs).getD 114 .dead))) (au a 2)) (λa r=>Qik (df.iF (r.getD 0 default).cs (cj .u32 (((r.getD 0 default).cs).getD 26 .dead)) (ey (((r.getD 0 default).cs).getD 50 .dead)) (cy .i64 r 1) (cj .i64 (((r.getD 0 default).cs).getD 54 .dead)) (cj .u32 (((r.getD 0 default).cs).getD 82 .dead)) (ey (((r.getD 0 default).cs).getD 106 .dead)) (cy .i64 r 2) (cj .i64 (((r.getD 0 default).cs).getD 110 .dead)) (c9 .aa r 3) (c9 .aa r 4) (iU .str (((r.getD 0 default).cs).getD 114 .dead))) (au a 2)) (λX=>.bool (X.1)) (λX=>[⟨true,97,117,.gen [(df.cq (X.2) (.sl 1 (.ints .u32 X.2.A1.A0.Mem) false) (.sl 1 (.ag X.2.A1.B3.B0) false) (.all 1) (.sl 1 (.ints .i64 X.2.A1.C1) false) (.sl 1 (.ints .u32 X.2.A2.A0.Mem) false) (.sl 1 (.ag X.2.A2.B3.B0) false) (.all 2) (.sl 1 (.ints .i64 X.2.A2.C1) false) (.all 3) (.all 4) (.sl 1 (.ah .str X.2.A9.ab) false))]⟩,⟨false,3,1,.ints .i64 (X.2).A1.A3⟩,⟨false,3,1,.ints .i64 (X.2).A2.A3⟩,⟨false,80,54,.ah .aa (X.2).A7⟩,⟨false,80,54,.ah .aa (X.2).C0⟩])
theorem Qot:bj pG Qr0:=tu drawn jt (.cons Qqc (.nil)) Tryz.func51 Tryz.call51 (λa r=>Po (df.iF (r.getD 0 default).cs (cj .u32 (((r.getD 0 default).cs).getD 26 .dead)) (ey (((r.getD 0 default).cs).getD 50 .dead)) (cy .i64 r 1) (cj .i64 (((r.getD 0 default).cs).getD 54 .dead)) (cj .u32 (((r.getD 0 default).cs).getD 82 .dead)) (ey (((r.getD 0 default).cs).getD 106 .dead)) (cy .i64 r 2) (cj .i64 (((r.getD 0 default).cs).getD 110 .dead)) (c9 .aa r 3) (c9 .aa r 4) (iU .str (((r.getD 0 default).cs).getD 114 .dead))) (au a 2)) [.sl (.ints .u32) false,.sl (.ag) false,.row 3 1 (.ints .i64),.sl (.ints .i64) false,.sl (.ints .u32) false,.sl (.ag) false,.row 3 1 (.ints .i64),.sl (.ints .i64) false,.row 80 54 (.ah .aa),.row 80 54 (.ah .aa),.sl (.ah .str) false] [] 2 (λ_ _ _=>by kernel_rfl) (λ_ _=>rfl) (λ_ _ h=>h)
def Pp(g:df):Tree df:=
let E1:=({B4:={X:={a0:=0,a1:=0,a2:=0,a3:=0,a4:=0,a5:=0,a6:=0,a7:=0,a8:=0,a9:=0,kO:=0,kP:=0,a12:=0,kQ:=0,kR:=0,kS:=0},Pc:=0,C3:={a0:=0,a1:=0,a2:=0,a3:=0,a4:=0,a5:=0,a6:=0,a7:=0}},Mem:=[],B1:={D9:=[]},B8:={F1:=false,D3:=0,E0:=false},B7:={ab:=0,C8:=0,Frame:=0,C9:=0,F5:=0,C5:=0,C6:=0,C7:=[]},D4:={Frame:=0,F6:=0,D1:=false,D2:=0,C4:=false,F9:=0},A6:={A2:=0,D0:=0},B6:=0,B2:=false,B5:=false}:bg);.br (g.A1.A4==1) (let E2:=({A4:=3,A0:=g.A1.A0,B3:=g.A1.B3,A3:=g.A1.A3,C1:=g.A1.C1,D5:=g.A1.D5}:ia);.an (FZ {A1:=E2,A2:=g.A2,A7:=g.A7,C0:=g.C0,A9:=g.A9} false {C2:=4,B9:=0,Frame:=0,F0:=[],A0:=E1,A3:=[]}) (.lv (FY {A1:=E2,A2:=g.A2,A7:=g.A7,C0:=g.C0,A9:=g.A9} false {C2:=4,B9:=0,Frame:=0,F0:=[],A0:=E1,A3:=[]}) λ(x0:df)=>.lf x0)) (.br (g.A1.A4==2) (.an (Qdq g 0) (.lv (Qii g 0) λ(x1:Bool×df)=>.br (!x1.1) (.lf x1.2) (.an (FZ x1.2 false {C2:=4,B9:=0,Frame:=0,F0:=[],A0:=E1,A3:=[]}) (.lv (FY x1.2 false {C2:=4,B9:=0,Frame:=0,F0:=[],A0:=E1,A3:=[]}) λ(x2:df)=>.lf x2)))) (.lf g))
def Qkc g:=(Pp g).m
abbrev Qer g:=(Pp g).p
def Qry:bb:=jS 1 53 [true] [.ptr 0] [.box 97 117 (df.il (.ints .u32) (.ag) (.row 1) (.ints .i64) (.ints .u32) (.ag) (.row 2) (.ints .i64) (.row 3) (.row 4) (.ah .str)),.arr 3 1 (.ints .i64),.arr 3 1 (.ints .i64),.arr 80 54 (.ah .aa),.arr 80 54 (.ah .aa)] (λa r=>Qer (df.iF (r.getD 0 default).cs (cj .u32 (((r.getD 0 default).cs).getD 26 .dead)) (ey (((r.getD 0 default).cs).getD 50 .dead)) (cy .i64 r 1) (cj .i64 (((r.getD 0 default).cs).getD 54 .dead)) (cj .u32 (((r.getD 0 default).cs).getD 82 .dead)) (ey (((r.getD 0 default).cs).getD 106 .dead)) (cy .i64 r 2) (cj .i64 (((r.getD 0 default).cs).getD 110 .dead)) (c9 .aa r 3) (c9 .aa r 4) (iU .str (((r.getD 0 default).cs).getD 114 .dead)))) (λa r=>Qkc (df.iF (r.getD 0 default).cs (cj .u32 (((r.getD 0 default).cs).getD 26 .dead)) (ey (((r.getD 0 default).cs).getD 50 .dead)) (cy .i64 r 1) (cj .i64 (((r.getD 0 default).cs).getD 54 .dead)) (cj .u32 (((r.getD 0 default).cs).getD 82 .dead)) (ey (((r.getD 0 default).cs).getD 106 .dead)) (cy .i64 r 2) (cj .i64 (((r.getD 0 default).cs).getD 110 .dead)) (c9 .aa r 3) (c9 .aa r 4) (iU .str (((r.getD 0 default).cs).getD 114 .dead)))) (λX=>.dw []) (λX=>[⟨true,97,117,.gen [(df.cq X (.sl 1 (.ints .u32 X.A1.A0.Mem) false) (.sl 1 (.ag X.A1.B3.B0) false) (.all 1) (.sl 1 (.ints .i64 X.A1.C1) false) (.sl 1 (.ints .u32 X.A2.A0.Mem) false) (.sl 1 (.ag X.A2.B3.B0) false) (.all 2) (.sl 1 (.ints .i64 X.A2.C1) false) (.all 3) (.all 4) (.sl 1 (.ah .str X.A9.ab) false))]⟩,⟨false,3,1,.ints .i64 X.A1.A3⟩,⟨false,3,1,.ints .i64 X.A2.A3⟩,⟨false,80,54,.ah .aa X.A7⟩,⟨false,80,54,.ah .aa X.C0⟩])
theorem Qrj:bj pG Qry:=tu drawn jt (.cons Qou (.cons SK (.nil))) Tryz.func53 Tryz.call53 (λa r=>Pp (df.iF (r.getD 0 default).cs (cj .u32 (((r.getD 0 default).cs).getD 26 .dead)) (ey (((r.getD 0 default).cs).getD 50 .dead)) (cy .i64 r 1) (cj .i64 (((r.getD 0 default).cs).getD 54 .dead)) (cj .u32 (((r.getD 0 default).cs).getD 82 .dead)) (ey (((r.getD 0 default).cs).getD 106 .dead)) (cy .i64 r 2) (cj .i64 (((r.getD 0 default).cs).getD 110 .dead)) (c9 .aa r 3) (c9 .aa r 4) (iU .str (((r.getD 0 default).cs).getD 114 .dead)))) [.sl (.ints .u32) false,.sl (.ag) false,.row 3 1 (.ints .i64),.sl (.ints .i64) false,.sl (.ints .u32) false,.sl (.ag) false,.row 3 1 (.ints .i64),.sl (.ints .i64) false,.row 80 54 (.ah .aa),.row 80 54 (.ah .aa),.sl (.ah .str) false] [] 2 (λ_ _ _=>by kernel_rfl) (λ_ _=>rfl) (λ_ _ h=>h)
end
noncomputable section
def Pq(g:df)(l:fi):Tree df:=
.br (decide (l.Frame<0)) (.lf g) (.br (decide (l.Frame>=(g.A2.A3.length:Int))) (.lf g) (let E2:=bX 1 1&&bN 0 1&&decide (0<=l.Frame/\l.Frame<(g.A2.A3.length:Int));.cn E2 (.br (decide (l.B9<=g.A2.A3.getD l.Frame.toNat 0)) (.lf g) (.an (UA g.A2.A0.Mem l.Frame l.F0) (.lv (rO g.A2.A0.Mem l.Frame l.F0) λ(x0:List Int×Bool)=>.br (!x0.2) (.lf g) (.cn E2 (let E1:=({B4:=g.A2.A0.B4,Mem:=x0.1,B1:=g.A2.A0.B1,B8:=g.A2.A0.B8,B7:=g.A2.A0.B7,D4:=g.A2.A0.D4,A6:=g.A2.A0.A6,B6:=g.A2.A0.B6,B2:=g.A2.A0.B2,B5:=g.A2.A0.B5}:bg);.br (g.A2.A4==0) (.lf ({A1:=g.A1,A2:={A4:=1,A0:=E1,B3:=g.A2.B3,A3:=dB g.A2.A3 l.Frame.toNat l.B9,C1:=g.A2.C1,D5:=g.A2.D5},A7:=g.A7,C0:=g.C0,A9:=g.A9})) (.lf ({A1:=g.A1,A2:={A4:=g.A2.A4,A0:=E1,B3:=g.A2.B3,A3:=dB g.A2.A3 l.Frame.toNat l.B9,C1:=g.A2.C1,D5:=g.A2.D5},A7:=g.A7,C0:=g.C0,A9:=g.A9})))))))))
def Qdk g l:=(Pq g l).m
abbrev Q9x g l:=(Pq g l).p
def Qlw:bb:=jS 1 147 [true,false] [.ptr 0,.agg fi.sig] [.box 97 117 (df.il (.ints .u32) (.ag) (.row 1) (.ints .i64) (.ints .u32) (.ag) (.row 2) (.ints .i64) (.row 3) (.row 4) (.ah .str)),.arr 3 1 (.ints .i64),.arr 3 1 (.ints .i64),.arr 80 54 (.ah .aa),.arr 80 54 (.ah .aa)] (λa r=>Q9x (df.iF (r.getD 0 default).cs (cj .u32 (((r.getD 0 default).cs).getD 26 .dead)) (ey (((r.getD 0 default).cs).getD 50 .dead)) (cy .i64 r 1) (cj .i64 (((r.getD 0 default).cs).getD 54 .dead)) (cj .u32 (((r.getD 0 default).cs).getD 82 .dead)) (ey (((r.getD 0 default).cs).getD 106 .dead)) (cy .i64 r 2) (cj .i64 (((r.getD 0 default).cs).getD 110 .dead)) (c9 .aa r 3) (c9 .aa r 4) (iU .str (((r.getD 0 default).cs).getD 114 .dead))) (fi.of (aC a 1))) (λa r=>Qdk (df.iF (r.getD 0 default).cs (cj .u32 (((r.getD 0 default).cs).getD 26 .dead)) (ey (((r.getD 0 default).cs).getD 50 .dead)) (cy .i64 r 1) (cj .i64 (((r.getD 0 default).cs).getD 54 .dead)) (cj .u32 (((r.getD 0 default).cs).getD 82 .dead)) (ey (((r.getD 0 default).cs).getD 106 .dead)) (cy .i64 r 2) (cj .i64 (((r.getD 0 default).cs).getD 110 .dead)) (c9 .aa r 3) (c9 .aa r 4) (iU .str (((r.getD 0 default).cs).getD 114 .dead))) (fi.of (aC a 1))) (λX=>.dw []) (λX=>[⟨true,97,117,.gen [(df.cq X (.sl 1 (.ints .u32 X.A1.A0.Mem) false) (.sl 1 (.ag X.A1.B3.B0) false) (.all 1) (.sl 1 (.ints .i64 X.A1.C1) false) (.sl 1 (.ints .u32 X.A2.A0.Mem) false) (.sl 1 (.ag X.A2.B3.B0) false) (.all 2) (.sl 1 (.ints .i64 X.A2.C1) false) (.all 3) (.all 4) (.sl 1 (.ah .str X.A9.ab) false))]⟩,⟨false,3,1,.ints .i64 X.A1.A3⟩,⟨false,3,1,.ints .i64 X.A2.A3⟩,⟨false,80,54,.ah .aa X.A7⟩,⟨false,80,54,.ah .aa X.C0⟩])
theorem Qlo:bj pG Qlw:=tu drawn jt (.cons Qo8 (.nil)) Tryz.func147 Tryz.call147 (λa r=>Pq (df.iF (r.getD 0 default).cs (cj .u32 (((r.getD 0 default).cs).getD 26 .dead)) (ey (((r.getD 0 default).cs).getD 50 .dead)) (cy .i64 r 1) (cj .i64 (((r.getD 0 default).cs).getD 54 .dead)) (cj .u32 (((r.getD 0 default).cs).getD 82 .dead)) (ey (((r.getD 0 default).cs).getD 106 .dead)) (cy .i64 r 2) (cj .i64 (((r.getD 0 default).cs).getD 110 .dead)) (c9 .aa r 3) (c9 .aa r 4) (iU .str (((r.getD 0 default).cs).getD 114 .dead))) (fi.of (aC a 1))) [.sl (.ints .u32) false,.sl (.ag) false,.row 3 1 (.ints .i64),.sl (.ints .i64) false,.sl (.ints .u32) false,.sl (.ag) false,.row 3 1 (.ints .i64),.sl (.ints .i64) false,.row 80 54 (.ah .aa),.row 80 54 (.ah .aa),.sl (.ah .str) false] [] 2 (λ_ _ _=>by kernel_rfl) (λ_ _=>rfl) (λ_ _ h=>h)
def Pr(g:df)(l:fi):Tree df:=
let T1:Tree (df):=.br (l.C2==1) (.an (Q9x g l) (.lv (Qdk g l) λ(x0:df)=>.lf x0)) (.br (l.C2==2) (.br (g.A2.A4==2) (.lf g) (.lf ({A1:=g.A1,A2:={A4:=2,A0:={B4:=l.A0.B4,Mem:=g.A2.A0.Mem,B1:=l.A0.B1,B8:=l.A0.B8,B7:=l.A0.B7,D4:=l.A0.D4,A6:=l.A0.A6,B6:=l.A0.B6,B2:=l.A0.B2,B5:=l.A0.B5},B3:=g.A2.B3,A3:=g.A2.A3,C1:=l.A3,D5:=g.A2.D5},A7:=g.A7,C0:=g.C0,A9:=g.A9}))) (.br (l.C2==4) (.lf ({A1:=g.A1,A2:={A4:=4,A0:=g.A2.A0,B3:=g.A2.B3,A3:=g.A2.A3,C1:=g.A2.C1,D5:=g.A2.D5},A7:=g.A7,C0:=g.C0,A9:=g.A9})) (.lf g)));.br (g.A2.A4 !=0) (.br (g.A2.A4 !=1) (.br (g.A2.A4 !=2) (.lf g) T1) T1) T1
def Qir g l:=(Pr g l).m
abbrev Qdh g l:=(Pr g l).p
def Qra:bb:=jS 1 100 [true,false] [.ptr 0,.agg fi.sig] [.box 97 117 (df.il (.ints .u32) (.ag) (.row 1) (.ints .i64) (.ints .u32) (.ag) (.row 2) (.ints .i64) (.row 3) (.row 4) (.ah .str)),.arr 3 1 (.ints .i64),.arr 3 1 (.ints .i64),.arr 80 54 (.ah .aa),.arr 80 54 (.ah .aa)] (λa r=>Qdh (df.iF (r.getD 0 default).cs (cj .u32 (((r.getD 0 default).cs).getD 26 .dead)) (ey (((r.getD 0 default).cs).getD 50 .dead)) (cy .i64 r 1) (cj .i64 (((r.getD 0 default).cs).getD 54 .dead)) (cj .u32 (((r.getD 0 default).cs).getD 82 .dead)) (ey (((r.getD 0 default).cs).getD 106 .dead)) (cy .i64 r 2) (cj .i64 (((r.getD 0 default).cs).getD 110 .dead)) (c9 .aa r 3) (c9 .aa r 4) (iU .str (((r.getD 0 default).cs).getD 114 .dead))) (fi.of (aC a 1))) (λa r=>Qir (df.iF (r.getD 0 default).cs (cj .u32 (((r.getD 0 default).cs).getD 26 .dead)) (ey (((r.getD 0 default).cs).getD 50 .dead)) (cy .i64 r 1) (cj .i64 (((r.getD 0 default).cs).getD 54 .dead)) (cj .u32 (((r.getD 0 default).cs).getD 82 .dead)) (ey (((r.getD 0 default).cs).getD 106 .dead)) (cy .i64 r 2) (cj .i64 (((r.getD 0 default).cs).getD 110 .dead)) (c9 .aa r 3) (c9 .aa r 4) (iU .str (((r.getD 0 default).cs).getD 114 .dead))) (fi.of (aC a 1))) (λX=>.dw []) (λX=>[⟨true,97,117,.gen [(df.cq X (.sl 1 (.ints .u32 X.A1.A0.Mem) false) (.sl 1 (.ag X.A1.B3.B0) false) (.all 1) (.sl 1 (.ints .i64 X.A1.C1) false) (.sl 1 (.ints .u32 X.A2.A0.Mem) false) (.sl 1 (.ag X.A2.B3.B0) false) (.all 2) (.sl 1 (.ints .i64 X.A2.C1) false) (.all 3) (.all 4) (.sl 1 (.ah .str X.A9.ab) false))]⟩,⟨false,3,1,.ints .i64 X.A1.A3⟩,⟨false,3,1,.ints .i64 X.A2.A3⟩,⟨false,80,54,.ah .aa X.A7⟩,⟨false,80,54,.ah .aa X.C0⟩])
theorem Qoy:bj pG Qra:=tu drawn jt (.cons Qlo (.nil)) Tryz.func100 Tryz.call100 (λa r=>Pr (df.iF (r.getD 0 default).cs (cj .u32 (((r.getD 0 default).cs).getD 26 .dead)) (ey (((r.getD 0 default).cs).getD 50 .dead)) (cy .i64 r 1) (cj .i64 (((r.getD 0 default).cs).getD 54 .dead)) (cj .u32 (((r.getD 0 default).cs).getD 82 .dead)) (ey (((r.getD 0 default).cs).getD 106 .dead)) (cy .i64 r 2) (cj .i64 (((r.getD 0 default).cs).getD 110 .dead)) (c9 .aa r 3) (c9 .aa r 4) (iU .str (((r.getD 0 default).cs).getD 114 .dead))) (fi.of (aC a 1))) [.sl (.ints .u32) false,.sl (.ag) false,.row 3 1 (.ints .i64),.sl (.ints .i64) false,.sl (.ints .u32) false,.sl (.ag) false,.row 3 1 (.ints .i64),.sl (.ints .i64) false,.row 80 54 (.ah .aa),.row 80 54 (.ah .aa),.sl (.ah .str) false] [] 2 (λ_ _ _=>by kernel_rfl) (λ_ _=>rfl) (λ_ _ h=>h)
end
noncomputable section
def O8(c:fu)(m:List Int):Tree (fu×(List lh)):=
.an (Yw c) (.lv (O1 c) λ(x0:fu)=>.lv (uB x0) λ(x1:Bool)=>.br (!x1) (.lf (x0,[])) (.br (decide (x0.B9>10)) (.lf (x0,[])) (.lv (jP m) λ(x2:Int)=>.br (x2 !=(x0.B0.length:Int)) (.lf (x0,[])) (.lv () λ(x3:Unit)=>.an (Qvo m [] x0.B0) (.lv (Uy m [] x0.B0) λ(x4:List Int×List lh×List Bool)=>.cn (bN 0 1&&bX 1 1&&iC [D.bool false] D.plain&&decide (0<=(x0.B0.length:Int)/\(x0.B0.length:Int)<=(x0.B0.length:Int)/\(x0.B0.length:Int)<=(9223372036854775807:Int)/\(↑1:Int)*(x0.B0.length:Int)<=(140737488355328:Int))) (.lf ({B0:=cO (dA (x0.B0.length:Int)) false,B9:=wrap i64 (x0.B9+1),D7:=wrap i64 (x0.D7+(x4.2.1.length:Int))},x4.2.1)))))))
def Ji c m:=(O8 c m).m
abbrev YC c m:=(O8 c m).p
def Z1g:bb:=kH 95 [] true [.agg fu.sig,.one (.ints .u32)] [] (λa r=>YC (fu.of (aC a 0)) (de .u32 a 1)) (λa r=>Ji (fu.of (aC a 0)) (de .u32 a 1)) (λX=>.dw [.agg (fu.cq (X.1) (.sl 1 (.ag X.1.B0) true)),.sl 2 (.ah .bn (X.2)) true]) (λX=>[])
theorem Qzb:bj pG Z1g:=Zp3 (some 1000000095) (Hy (by kernel_rfl) rfl) drawn jt (.cons Qqb (.cons Qq8 (.cons Br (.cons Qvx (.cons Su (.cons Zi8 (.nil))))))) Tryz.func95 Tryz.call95 (λa r=>O8 (fu.of (aC a 0)) (de .u32 a 1)) [.sl (.ag) true,.sl (.ah .bn) true] [] 2
def Qdt(g:df)(z:(Int)×df):Nat:=((Ji g.A1.B3 g.A1.A0.Mem).2.length-z.1).toNat
def Pu(g:df):Tree df:=
.an (YC g.A1.B3 g.A1.A0.Mem) (.lv (Ji g.A1.B3 g.A1.A0.Mem) λ(x0:fu×List lh)=>let E4:=({A4:=g.A1.A4,A0:=g.A1.A0,B3:=x0.1,A3:=g.A1.A3,C1:=g.A1.C1,D5:=g.A1.D5}:ia);.lp inferInstance (Qdt g (0,{A1:=E4,A2:=g.A2,A7:=g.A7,C0:=g.C0,A9:=g.A9})+1) ((rZ/\rZ/\((ai.Nil (ai.ah RK.bn x0.2)\/rE (2:Nat))/\rE x0.2)/\rE ((x0.2.length:Int):Int)/\rE (0:Int)/\True)/\(rE g.A1.A4/\mE g.A1.A0 (((ai.Nil (ai.ints u32 g.A1.A0.Mem)\/rE (1:Nat))/\rE g.A1.A0.Mem)) (((ai.Nil (ai.ag x0.1.B0)\/rE (1:Nat))/\rE x0.1.B0)/\rE x0.1.B9/\rE x0.1.D7/\True/\((ai.Nil (ai.ints i64 g.A1.C1)\/rE (1:Nat))/\rE g.A1.C1)/\rE g.A1.D5/\rE g.A2.A4/\mE g.A2.A0 (((ai.Nil (ai.ints u32 g.A2.A0.Mem)\/rE (1:Nat))/\rE g.A2.A0.Mem)) (((ai.Nil (ai.ag g.A2.B3.B0)\/rE (1:Nat))/\rE g.A2.B3.B0)/\rE g.A2.B3.B9/\rE g.A2.B3.D7/\True/\((ai.Nil (ai.ints i64 g.A2.C1)\/rE (1:Nat))/\rE g.A2.C1)/\rE g.A2.D5/\True/\True/\((ai.Nil (ai.ah RK.str g.A9.ab)\/rE (1:Nat))/\rE g.A9.ab)/\rE g.A9.D5/\rE g.A9.D6/\True)))/\rE g.A1.A3/\rE g.A2.A3/\rE g.A7/\rE g.C0/\(((ai.Nil (ai.ag x0.1.B0)\/rE (1:Nat))/\rE x0.1.B0)/\rE x0.1.B9/\rE x0.1.D7/\True)/\True) (0,{A1:=E4,A2:=g.A2,A7:=g.A7,C0:=g.C0,A9:=g.A9}) λ(v0:Int×df)=>.br (decide (v0.1<(x0.2.length:Int))) (.cn (bX 2 2&&bN 0 2&&decide (0<=v0.1/\v0.1<(x0.2.length:Int))) (let E2:=x0.2.getD v0.1.toNat (RK.dx RK.bn);let T1:Tree ((Int×df)⊕(df)):=.an (Wi v0.2 E2) (.lv (Wh v0.2 E2) λ(x2:df)=>.nx ((rZ/\rZ/\((ai.Nil (ai.ah RK.bn x0.2)\/rE (2:Nat))/\rE x0.2)/\rE ((x0.2.length:Int):Int)/\rE ((wrap i64 (v0.1+1)):Int)/\True)/\V4 x2/\rE x2.A1.A3/\rE x2.A2.A3/\rE x2.A7/\rE x2.C0/\(((ai.Nil (ai.ag x0.1.B0)\/rE (1:Nat))/\rE x0.1.B0)/\rE x0.1.B9/\rE x0.1.D7/\True)/\True) (Sum.inl (wrap i64 (v0.1+1),x2)));.br (decide (E2.Frame>=0)) (let E5:=(v0.2.A1.A3.length:Int);.br (decide (E2.Frame<E5)) (.cn (bX 1 1&&bN 0 1&&decide (0<=E2.Frame/\E2.Frame<E5)) (let E3:=({A4:=v0.2.A1.A4,A0:=v0.2.A1.A0,B3:=v0.2.A1.B3,A3:=dB v0.2.A1.A3 E2.Frame.toNat x0.1.B9,C1:=v0.2.A1.C1,D5:=v0.2.A1.D5}:ia);.an (Wi {A1:=E3,A2:=v0.2.A2,A7:=v0.2.A7,C0:=v0.2.C0,A9:=v0.2.A9} E2) (.lv (Wh {A1:=E3,A2:=v0.2.A2,A7:=v0.2.A7,C0:=v0.2.C0,A9:=v0.2.A9} E2) λ(x1:df)=>.nx ((rZ/\rZ/\((ai.Nil (ai.ah RK.bn x0.2)\/rE (2:Nat))/\rE x0.2)/\rE ((x0.2.length:Int):Int)/\rE ((wrap i64 (v0.1+1)):Int)/\True)/\V4 x1/\rE x1.A1.A3/\rE x1.A2.A3/\rE x1.A7/\rE x1.C0/\(((ai.Nil (ai.ag x0.1.B0)\/rE (1:Nat))/\rE x0.1.B0)/\rE x0.1.B9/\rE x0.1.D7/\True)/\True) (Sum.inl (wrap i64 (v0.1+1),x1))))) T1) T1)) (.lf (Sum.inr v0.2)))
def Qe4 g:=(Pu g).m
abbrev Q9u g:=(Pu g).p
def Qsa:bu:={
 α:=(Int)×df
 F:=λst a=>([(0,.ptr 0 0 0),(2,.ptr 5 0 0),(26,(lk st 26)),(27,(lk st 27)),(28,.int i64 a.1)],[⟨true,97,117,.gen [[.int i64 a.2.A1.A4,.int u32 a.2.A1.A0.B4.X.a0,.int u32 a.2.A1.A0.B4.X.a1,.int u32 a.2.A1.A0.B4.X.a2,.int u32 a.2.A1.A0.B4.X.a3,.int u32 a.2.A1.A0.B4.X.a4,.int u32 a.2.A1.A0.B4.X.a5,.int u32 a.2.A1.A0.B4.X.a6,.int u32 a.2.A1.A0.B4.X.a7,.int u32 a.2.A1.A0.B4.X.a8,.int u32 a.2.A1.A0.B4.X.a9,.int u32 a.2.A1.A0.B4.X.kO,.int u32 a.2.A1.A0.B4.X.kP,.int u32 a.2.A1.A0.B4.X.a12,.int u32 a.2.A1.A0.B4.X.kQ,.int u32 a.2.A1.A0.B4.X.kR,.int u32 a.2.A1.A0.B4.X.kS,.int u32 a.2.A1.A0.B4.Pc,.int u32 a.2.A1.A0.B4.C3.a0,.int u32 a.2.A1.A0.B4.C3.a1,.int u32 a.2.A1.A0.B4.C3.a2,.int u32 a.2.A1.A0.B4.C3.a3,.int u32 a.2.A1.A0.B4.C3.a4,.int u32 a.2.A1.A0.B4.C3.a5,.int u32 a.2.A1.A0.B4.C3.a6,.int u32 a.2.A1.A0.B4.C3.a7,.sl 1 (.ints u32 a.2.A1.A0.Mem) false,.str a.2.A1.A0.B1.D9,.bool a.2.A1.A0.B8.F1,.int u32 a.2.A1.A0.B8.D3,.bool a.2.A1.A0.B8.E0,.int u32 a.2.A1.A0.B7.ab,.int u32 a.2.A1.A0.B7.C8,.int u32 a.2.A1.A0.B7.Frame,.int i64 a.2.A1.A0.B7.C9,.int i64 a.2.A1.A0.B7.F5,.int u32 a.2.A1.A0.B7.C5,.int u32 a.2.A1.A0.B7.C6,.str a.2.A1.A0.B7.C7,.int u32 a.2.A1.A0.D4.Frame,.int u32 a.2.A1.A0.D4.F6,.bool a.2.A1.A0.D4.D1,.int u32 a.2.A1.A0.D4.D2,.bool a.2.A1.A0.D4.C4,.int u32 a.2.A1.A0.D4.F9,.int u32 a.2.A1.A0.A6.A2,.int u32 a.2.A1.A0.A6.D0,.int u64 a.2.A1.A0.B6,.bool a.2.A1.A0.B2,.bool a.2.A1.A0.B5,.sl 1 (.ag a.2.A1.B3.B0) false,.int i64 a.2.A1.B3.B9,.int i64 a.2.A1.B3.D7,.all 1,.sl 1 (.ints i64 a.2.A1.C1) false,.int u64 a.2.A1.D5,.int i64 a.2.A2.A4,.int u32 a.2.A2.A0.B4.X.a0,.int u32 a.2.A2.A0.B4.X.a1,.int u32 a.2.A2.A0.B4.X.a2,.int u32 a.2.A2.A0.B4.X.a3,.int u32 a.2.A2.A0.B4.X.a4,.int u32 a.2.A2.A0.B4.X.a5,.int u32 a.2.A2.A0.B4.X.a6,.int u32 a.2.A2.A0.B4.X.a7,.int u32 a.2.A2.A0.B4.X.a8,.int u32 a.2.A2.A0.B4.X.a9,.int u32 a.2.A2.A0.B4.X.kO,.int u32 a.2.A2.A0.B4.X.kP,.int u32 a.2.A2.A0.B4.X.a12,.int u32 a.2.A2.A0.B4.X.kQ,.int u32 a.2.A2.A0.B4.X.kR,.int u32 a.2.A2.A0.B4.X.kS,.int u32 a.2.A2.A0.B4.Pc,.int u32 a.2.A2.A0.B4.C3.a0,.int u32 a.2.A2.A0.B4.C3.a1,.int u32 a.2.A2.A0.B4.C3.a2,.int u32 a.2.A2.A0.B4.C3.a3,.int u32 a.2.A2.A0.B4.C3.a4,.int u32 a.2.A2.A0.B4.C3.a5,.int u32 a.2.A2.A0.B4.C3.a6,.int u32 a.2.A2.A0.B4.C3.a7,.sl 1 (.ints u32 a.2.A2.A0.Mem) false,.str a.2.A2.A0.B1.D9,.bool a.2.A2.A0.B8.F1,.int u32 a.2.A2.A0.B8.D3,.bool a.2.A2.A0.B8.E0,.int u32 a.2.A2.A0.B7.ab,.int u32 a.2.A2.A0.B7.C8,.int u32 a.2.A2.A0.B7.Frame,.int i64 a.2.A2.A0.B7.C9,.int i64 a.2.A2.A0.B7.F5,.int u32 a.2.A2.A0.B7.C5,.int u32 a.2.A2.A0.B7.C6,.str a.2.A2.A0.B7.C7,.int u32 a.2.A2.A0.D4.Frame,.int u32 a.2.A2.A0.D4.F6,.bool a.2.A2.A0.D4.D1,.int u32 a.2.A2.A0.D4.D2,.bool a.2.A2.A0.D4.C4,.int u32 a.2.A2.A0.D4.F9,.int u32 a.2.A2.A0.A6.A2,.int u32 a.2.A2.A0.A6.D0,.int u64 a.2.A2.A0.B6,.bool a.2.A2.A0.B2,.bool a.2.A2.A0.B5,.sl 1 (.ag a.2.A2.B3.B0) false,.int i64 a.2.A2.B3.B9,.int i64 a.2.A2.B3.D7,.all 2,.sl 1 (.ints i64 a.2.A2.C1) false,.int u64 a.2.A2.D5,.all 3,.all 4,.sl 1 (.ah RK.str a.2.A9.ab) false,.int u64 a.2.A9.D5,.int i64 a.2.A9.D6]]⟩,⟨false,3,1,.ints i64 a.2.A1.A3⟩,⟨false,3,1,.ints i64 a.2.A2.A3⟩,⟨false,80,54,.ah RK.aa a.2.A7⟩,⟨false,80,54,.ah RK.aa a.2.C0⟩,⟨true,46,3,.gen [[(cT st 2 0),(cT st 2 1),(cT st 2 2)]]⟩])
 a0:=λst=>((lk st 28).toInt,(⟨(⟨(ay st.rows 0 0).toInt,(⟨(⟨(⟨(ay st.rows 0 1).toInt,(ay st.rows 0 2).toInt,(ay st.rows 0 3).toInt,(ay st.rows 0 4).toInt,(ay st.rows 0 5).toInt,(ay st.rows 0 6).toInt,(ay st.rows 0 7).toInt,(ay st.rows 0 8).toInt,(ay st.rows 0 9).toInt,(ay st.rows 0 10).toInt,(ay st.rows 0 11).toInt,(ay st.rows 0 12).toInt,(ay st.rows 0 13).toInt,(ay st.rows 0 14).toInt,(ay st.rows 0 15).toInt,(ay st.rows 0 16).toInt⟩:(iI Int)),(ay st.rows 0 17).toInt,(⟨(ay st.rows 0 18).toInt,(ay st.rows 0 19).toInt,(ay st.rows 0 20).toInt,(ay st.rows 0 21).toInt,(ay st.rows 0 22).toInt,(ay st.rows 0 23).toInt,(ay st.rows 0 24).toInt,(ay st.rows 0 25).toInt⟩:(A8 Int))⟩:bq),(cj u32 (ay st.rows 0 26)),(⟨(ay st.rows 0 27).toStr⟩:iV),(⟨(ay st.rows 0 28).toBool,(ay st.rows 0 29).toInt,(ay st.rows 0 30).toBool⟩:jc),(⟨(ay st.rows 0 31).toInt,(ay st.rows 0 32).toInt,(ay st.rows 0 33).toInt,(ay st.rows 0 34).toInt,(ay st.rows 0 35).toInt,(ay st.rows 0 36).toInt,(ay st.rows 0 37).toInt,(ay st.rows 0 38).toStr⟩:gh),(⟨(ay st.rows 0 39).toInt,(ay st.rows 0 40).toInt,(ay st.rows 0 41).toBool,(ay st.rows 0 42).toInt,(ay st.rows 0 43).toBool,(ay st.rows 0 44).toInt⟩:ik),(⟨(ay st.rows 0 45).toInt,(ay st.rows 0 46).toInt⟩:gx),(ay st.rows 0 47).toInt,(ay st.rows 0 48).toBool,(ay st.rows 0 49).toBool⟩:bg),(⟨(ey (ay st.rows 0 50)),(ay st.rows 0 51).toInt,(ay st.rows 0 52).toInt⟩:fu),(pZ st.rows (jM (ay st.rows 0 53) 1000000)),(cj i64 (ay st.rows 0 54)),(ay st.rows 0 55).toInt⟩:ia),(⟨(ay st.rows 0 56).toInt,(⟨(⟨(⟨(ay st.rows 0 57).toInt,(ay st.rows 0 58).toInt,(ay st.rows 0 59).toInt,(ay st.rows 0 60).toInt,(ay st.rows 0 61).toInt,(ay st.rows 0 62).toInt,(ay st.rows 0 63).toInt,(ay st.rows 0 64).toInt,(ay st.rows 0 65).toInt,(ay st.rows 0 66).toInt,(ay st.rows 0 67).toInt,(ay st.rows 0 68).toInt,(ay st.rows 0 69).toInt,(ay st.rows 0 70).toInt,(ay st.rows 0 71).toInt,(ay st.rows 0 72).toInt⟩:(iI Int)),(ay st.rows 0 73).toInt,(⟨(ay st.rows 0 74).toInt,(ay st.rows 0 75).toInt,(ay st.rows 0 76).toInt,(ay st.rows 0 77).toInt,(ay st.rows 0 78).toInt,(ay st.rows 0 79).toInt,(ay st.rows 0 80).toInt,(ay st.rows 0 81).toInt⟩:(A8 Int))⟩:bq),(cj u32 (ay st.rows 0 82)),(⟨(ay st.rows 0 83).toStr⟩:iV),(⟨(ay st.rows 0 84).toBool,(ay st.rows 0 85).toInt,(ay st.rows 0 86).toBool⟩:jc),(⟨(ay st.rows 0 87).toInt,(ay st.rows 0 88).toInt,(ay st.rows 0 89).toInt,(ay st.rows 0 90).toInt,(ay st.rows 0 91).toInt,(ay st.rows 0 92).toInt,(ay st.rows 0 93).toInt,(ay st.rows 0 94).toStr⟩:gh),(⟨(ay st.rows 0 95).toInt,(ay st.rows 0 96).toInt,(ay st.rows 0 97).toBool,(ay st.rows 0 98).toInt,(ay st.rows 0 99).toBool,(ay st.rows 0 100).toInt⟩:ik),(⟨(ay st.rows 0 101).toInt,(ay st.rows 0 102).toInt⟩:gx),(ay st.rows 0 103).toInt,(ay st.rows 0 104).toBool,(ay st.rows 0 105).toBool⟩:bg),(⟨(ey (ay st.rows 0 106)),(ay st.rows 0 107).toInt,(ay st.rows 0 108).toInt⟩:fu),(pZ st.rows (jM (ay st.rows 0 109) 1000000)),(cj i64 (ay st.rows 0 110)),(ay st.rows 0 111).toInt⟩:ia),(tD RK.aa st.rows (jM (ay st.rows 0 112) 1000000)),(tD RK.aa st.rows (jM (ay st.rows 0 113) 1000000)),(⟨(iU RK.str (ay st.rows 0 114)),(ay st.rows 0 115).toInt,(ay st.rows 0 116).toInt⟩:gj)⟩:df))
 iZ:=λst=>[0]++[(jM (ay st.rows 0 53) (st.rows.length+1)),(jM (ay st.rows 0 109) (st.rows.length+2)),(jM (ay st.rows 0 112) (st.rows.length+3)),(jM (ay st.rows 0 113) (st.rows.length+4)),(rX st 2 5)]}
def Qph:List (Nat×bu):=[(3,Qsa)]
def Qur:bb:=jS 1 45 [true] [.ptr 0] [.box 97 117 (df.il (.ints .u32) (.ag) (.row 1) (.ints .i64) (.ints .u32) (.ag) (.row 2) (.ints .i64) (.row 3) (.row 4) (.ah .str)),.arr 3 1 (.ints .i64),.arr 3 1 (.ints .i64),.arr 80 54 (.ah .aa),.arr 80 54 (.ah .aa)] (λa r=>Q9u (df.iF (r.getD 0 default).cs (cj .u32 (((r.getD 0 default).cs).getD 26 .dead)) (ey (((r.getD 0 default).cs).getD 50 .dead)) (cy .i64 r 1) (cj .i64 (((r.getD 0 default).cs).getD 54 .dead)) (cj .u32 (((r.getD 0 default).cs).getD 82 .dead)) (ey (((r.getD 0 default).cs).getD 106 .dead)) (cy .i64 r 2) (cj .i64 (((r.getD 0 default).cs).getD 110 .dead)) (c9 .aa r 3) (c9 .aa r 4) (iU .str (((r.getD 0 default).cs).getD 114 .dead)))) (λa r=>Qe4 (df.iF (r.getD 0 default).cs (cj .u32 (((r.getD 0 default).cs).getD 26 .dead)) (ey (((r.getD 0 default).cs).getD 50 .dead)) (cy .i64 r 1) (cj .i64 (((r.getD 0 default).cs).getD 54 .dead)) (cj .u32 (((r.getD 0 default).cs).getD 82 .dead)) (ey (((r.getD 0 default).cs).getD 106 .dead)) (cy .i64 r 2) (cj .i64 (((r.getD 0 default).cs).getD 110 .dead)) (c9 .aa r 3) (c9 .aa r 4) (iU .str (((r.getD 0 default).cs).getD 114 .dead)))) (λX=>.dw []) (λX=>[⟨true,97,117,.gen [(df.cq X (.sl 1 (.ints .u32 X.A1.A0.Mem) false) (.sl 1 (.ag X.A1.B3.B0) false) (.all 1) (.sl 1 (.ints .i64 X.A1.C1) false) (.sl 1 (.ints .u32 X.A2.A0.Mem) false) (.sl 1 (.ag X.A2.B3.B0) false) (.all 2) (.sl 1 (.ints .i64 X.A2.C1) false) (.all 3) (.all 4) (.sl 1 (.ah .str X.A9.ab) false))]⟩,⟨false,3,1,.ints .i64 X.A1.A3⟩,⟨false,3,1,.ints .i64 X.A2.A3⟩,⟨false,80,54,.ah .aa X.A7⟩,⟨false,80,54,.ah .aa X.C0⟩])
theorem Qhn:bj pG Qur:=tu drawn jt (.cons Qzb (.cons Qdi (.nil))) Tryz.func45 Tryz.call45 (λa r=>Pu (df.iF (r.getD 0 default).cs (cj .u32 (((r.getD 0 default).cs).getD 26 .dead)) (ey (((r.getD 0 default).cs).getD 50 .dead)) (cy .i64 r 1) (cj .i64 (((r.getD 0 default).cs).getD 54 .dead)) (cj .u32 (((r.getD 0 default).cs).getD 82 .dead)) (ey (((r.getD 0 default).cs).getD 106 .dead)) (cy .i64 r 2) (cj .i64 (((r.getD 0 default).cs).getD 110 .dead)) (c9 .aa r 3) (c9 .aa r 4) (iU .str (((r.getD 0 default).cs).getD 114 .dead)))) [.sl (.ints .u32) false,.sl (.ag) false,.row 3 1 (.ints .i64),.sl (.ints .i64) false,.sl (.ints .u32) false,.sl (.ag) false,.row 3 1 (.ints .i64),.sl (.ints .i64) false,.row 80 54 (.ah .aa),.row 80 54 (.ah .aa),.sl (.ah .str) false] Qph 3 (λ_ _ _=>by kernel_rfl) (λ_ _=>rfl) (λ_ _ h=>h)
def Pv(g:df)(fm:Int):Tree df:=
.br (g.A1.A4 !=1) (.lf g) (.an (Qid g.A1.B3 fm) (.lv (Jg g.A1.B3 fm) λ(x0:Bool)=>.br (!x0) (.lf g) (.an (Q9u g) (.lv (Qe4 g) λ(x1:df)=>let E1:=({A4:=2,A0:=x1.A1.A0,B3:=x1.A1.B3,A3:=x1.A1.A3,C1:=x1.A1.C1,D5:=x1.A1.D5}:ia);.an (Q6u {A1:=E1,A2:=x1.A2,A7:=x1.A7,C0:=x1.C0,A9:=x1.A9}) (.lv (Q9s {A1:=E1,A2:=x1.A2,A7:=x1.A7,C0:=x1.C0,A9:=x1.A9}) λ(x2:df)=>.lf x2)))))
def Qon g fm:=(Pv g fm).m
abbrev Qhe g fm:=(Pv g fm).p
def Qwb:bb:=jS 1 46 [true,false] [.ptr 0,.one (.int .i64)] [.box 97 117 (df.il (.ints .u32) (.ag) (.row 1) (.ints .i64) (.ints .u32) (.ag) (.row 2) (.ints .i64) (.row 3) (.row 4) (.ah .str)),.arr 3 1 (.ints .i64),.arr 3 1 (.ints .i64),.arr 80 54 (.ah .aa),.arr 80 54 (.ah .aa)] (λa r=>Qhe (df.iF (r.getD 0 default).cs (cj .u32 (((r.getD 0 default).cs).getD 26 .dead)) (ey (((r.getD 0 default).cs).getD 50 .dead)) (cy .i64 r 1) (cj .i64 (((r.getD 0 default).cs).getD 54 .dead)) (cj .u32 (((r.getD 0 default).cs).getD 82 .dead)) (ey (((r.getD 0 default).cs).getD 106 .dead)) (cy .i64 r 2) (cj .i64 (((r.getD 0 default).cs).getD 110 .dead)) (c9 .aa r 3) (c9 .aa r 4) (iU .str (((r.getD 0 default).cs).getD 114 .dead))) (au a 1)) (λa r=>Qon (df.iF (r.getD 0 default).cs (cj .u32 (((r.getD 0 default).cs).getD 26 .dead)) (ey (((r.getD 0 default).cs).getD 50 .dead)) (cy .i64 r 1) (cj .i64 (((r.getD 0 default).cs).getD 54 .dead)) (cj .u32 (((r.getD 0 default).cs).getD 82 .dead)) (ey (((r.getD 0 default).cs).getD 106 .dead)) (cy .i64 r 2) (cj .i64 (((r.getD 0 default).cs).getD 110 .dead)) (c9 .aa r 3) (c9 .aa r 4) (iU .str (((r.getD 0 default).cs).getD 114 .dead))) (au a 1)) (λX=>.dw []) (λX=>[⟨true,97,117,.gen [(df.cq X (.sl 1 (.ints .u32 X.A1.A0.Mem) false) (.sl 1 (.ag X.A1.B3.B0) false) (.all 1) (.sl 1 (.ints .i64 X.A1.C1) false) (.sl 1 (.ints .u32 X.A2.A0.Mem) false) (.sl 1 (.ag X.A2.B3.B0) false) (.all 2) (.sl 1 (.ints .i64 X.A2.C1) false) (.all 3) (.all 4) (.sl 1 (.ah .str X.A9.ab) false))]⟩,⟨false,3,1,.ints .i64 X.A1.A3⟩,⟨false,3,1,.ints .i64 X.A2.A3⟩,⟨false,80,54,.ah .aa X.A7⟩,⟨false,80,54,.ah .aa X.C0⟩])
theorem Qvb:bj pG Qwb:=tu drawn jt (.cons Z9t (.cons Qhn (.cons Qcb (.nil)))) Tryz.func46 Tryz.call46 (λa r=>Pv (df.iF (r.getD 0 default).cs (cj .u32 (((r.getD 0 default).cs).getD 26 .dead)) (ey (((r.getD 0 default).cs).getD 50 .dead)) (cy .i64 r 1) (cj .i64 (((r.getD 0 default).cs).getD 54 .dead)) (cj .u32 (((r.getD 0 default).cs).getD 82 .dead)) (ey (((r.getD 0 default).cs).getD 106 .dead)) (cy .i64 r 2) (cj .i64 (((r.getD 0 default).cs).getD 110 .dead)) (c9 .aa r 3) (c9 .aa r 4) (iU .str (((r.getD 0 default).cs).getD 114 .dead))) (au a 1)) [.sl (.ints .u32) false,.sl (.ag) false,.row 3 1 (.ints .i64),.sl (.ints .i64) false,.sl (.ints .u32) false,.sl (.ag) false,.row 3 1 (.ints .i64),.sl (.ints .i64) false,.row 80 54 (.ah .aa),.row 80 54 (.ah .aa),.sl (.ah .str) false] [] 2 (λ_ _ _=>by kernel_rfl) (λ_ _=>rfl) (λ_ _ h=>h)
def Qc3(g:df)(z:(Int)×df):Nat:=(jP g.A1.A0.Mem-z.1).toNat
def Pw(g:df):Tree df:=
.br (g.A1.A4 !=2) (.lf g) (.lv (jP g.A1.A0.Mem) λ(x0:Int)=>.lp inferInstance (Qc3 g (0,g)+1) ((rZ/\rE (x0:Int)/\rE (0:Int)/\True)/\Sz g/\rE g.A1.A3/\rE g.A2.A3/\rE g.A7/\rE g.C0/\True) (0,g) λ(v0:Int×df)=>.br (decide (v0.1<x0)) (.an (OZ v0.2.A1.A0.Mem v0.1) (.lv (jG v0.2.A1.A0.Mem v0.1) λ(x1:List UInt8×Bool)=>.br x1.2 (.an (Wi v0.2 {Frame:=v0.1,F0:=x1.1}) (.lv (Wh v0.2 {Frame:=v0.1,F0:=x1.1}) λ(x2:df)=>.nx ((rZ/\rE (x0:Int)/\rE ((wrap i64 (v0.1+1)):Int)/\True)/\V4 x2/\rE x2.A1.A3/\rE x2.A2.A3/\rE x2.A7/\rE x2.C0/\True) (Sum.inl (wrap i64 (v0.1+1),x2)))) (.nx ((rZ/\rE (x0:Int)/\rE ((wrap i64 (v0.1+1)):Int)/\True)/\V4 v0.2/\rE v0.2.A1.A3/\rE v0.2.A2.A3/\rE v0.2.A7/\rE v0.2.C0/\True) (Sum.inl (wrap i64 (v0.1+1),v0.2))))) (.an (Q6u v0.2) (.lv (Q9s v0.2) λ(x3:df)=>.lf (Sum.inr x3))))
def Ql4 g:=(Pw g).m
abbrev Qf5 g:=(Pw g).p
def Qrf:bu:={
 α:=(Int)×df
 F:=λst a=>([(0,.ptr 0 0 0),(17,(lk st 17)),(18,.int i64 a.1)],[⟨true,97,117,.gen [[.int i64 a.2.A1.A4,.int u32 a.2.A1.A0.B4.X.a0,.int u32 a.2.A1.A0.B4.X.a1,.int u32 a.2.A1.A0.B4.X.a2,.int u32 a.2.A1.A0.B4.X.a3,.int u32 a.2.A1.A0.B4.X.a4,.int u32 a.2.A1.A0.B4.X.a5,.int u32 a.2.A1.A0.B4.X.a6,.int u32 a.2.A1.A0.B4.X.a7,.int u32 a.2.A1.A0.B4.X.a8,.int u32 a.2.A1.A0.B4.X.a9,.int u32 a.2.A1.A0.B4.X.kO,.int u32 a.2.A1.A0.B4.X.kP,.int u32 a.2.A1.A0.B4.X.a12,.int u32 a.2.A1.A0.B4.X.kQ,.int u32 a.2.A1.A0.B4.X.kR,.int u32 a.2.A1.A0.B4.X.kS,.int u32 a.2.A1.A0.B4.Pc,.int u32 a.2.A1.A0.B4.C3.a0,.int u32 a.2.A1.A0.B4.C3.a1,.int u32 a.2.A1.A0.B4.C3.a2,.int u32 a.2.A1.A0.B4.C3.a3,.int u32 a.2.A1.A0.B4.C3.a4,.int u32 a.2.A1.A0.B4.C3.a5,.int u32 a.2.A1.A0.B4.C3.a6,.int u32 a.2.A1.A0.B4.C3.a7,.sl 1 (.ints u32 a.2.A1.A0.Mem) false,.str a.2.A1.A0.B1.D9,.bool a.2.A1.A0.B8.F1,.int u32 a.2.A1.A0.B8.D3,.bool a.2.A1.A0.B8.E0,.int u32 a.2.A1.A0.B7.ab,.int u32 a.2.A1.A0.B7.C8,.int u32 a.2.A1.A0.B7.Frame,.int i64 a.2.A1.A0.B7.C9,.int i64 a.2.A1.A0.B7.F5,.int u32 a.2.A1.A0.B7.C5,.int u32 a.2.A1.A0.B7.C6,.str a.2.A1.A0.B7.C7,.int u32 a.2.A1.A0.D4.Frame,.int u32 a.2.A1.A0.D4.F6,.bool a.2.A1.A0.D4.D1,.int u32 a.2.A1.A0.D4.D2,.bool a.2.A1.A0.D4.C4,.int u32 a.2.A1.A0.D4.F9,.int u32 a.2.A1.A0.A6.A2,.int u32 a.2.A1.A0.A6.D0,.int u64 a.2.A1.A0.B6,.bool a.2.A1.A0.B2,.bool a.2.A1.A0.B5,.sl 1 (.ag a.2.A1.B3.B0) false,.int i64 a.2.A1.B3.B9,.int i64 a.2.A1.B3.D7,.all 1,.sl 1 (.ints i64 a.2.A1.C1) false,.int u64 a.2.A1.D5,.int i64 a.2.A2.A4,.int u32 a.2.A2.A0.B4.X.a0,.int u32 a.2.A2.A0.B4.X.a1,.int u32 a.2.A2.A0.B4.X.a2,.int u32 a.2.A2.A0.B4.X.a3,.int u32 a.2.A2.A0.B4.X.a4,.int u32 a.2.A2.A0.B4.X.a5,.int u32 a.2.A2.A0.B4.X.a6,.int u32 a.2.A2.A0.B4.X.a7,.int u32 a.2.A2.A0.B4.X.a8,.int u32 a.2.A2.A0.B4.X.a9,.int u32 a.2.A2.A0.B4.X.kO,.int u32 a.2.A2.A0.B4.X.kP,.int u32 a.2.A2.A0.B4.X.a12,.int u32 a.2.A2.A0.B4.X.kQ,.int u32 a.2.A2.A0.B4.X.kR,.int u32 a.2.A2.A0.B4.X.kS,.int u32 a.2.A2.A0.B4.Pc,.int u32 a.2.A2.A0.B4.C3.a0,.int u32 a.2.A2.A0.B4.C3.a1,.int u32 a.2.A2.A0.B4.C3.a2,.int u32 a.2.A2.A0.B4.C3.a3,.int u32 a.2.A2.A0.B4.C3.a4,.int u32 a.2.A2.A0.B4.C3.a5,.int u32 a.2.A2.A0.B4.C3.a6,.int u32 a.2.A2.A0.B4.C3.a7,.sl 1 (.ints u32 a.2.A2.A0.Mem) false,.str a.2.A2.A0.B1.D9,.bool a.2.A2.A0.B8.F1,.int u32 a.2.A2.A0.B8.D3,.bool a.2.A2.A0.B8.E0,.int u32 a.2.A2.A0.B7.ab,.int u32 a.2.A2.A0.B7.C8,.int u32 a.2.A2.A0.B7.Frame,.int i64 a.2.A2.A0.B7.C9,.int i64 a.2.A2.A0.B7.F5,.int u32 a.2.A2.A0.B7.C5,.int u32 a.2.A2.A0.B7.C6,.str a.2.A2.A0.B7.C7,.int u32 a.2.A2.A0.D4.Frame,.int u32 a.2.A2.A0.D4.F6,.bool a.2.A2.A0.D4.D1,.int u32 a.2.A2.A0.D4.D2,.bool a.2.A2.A0.D4.C4,.int u32 a.2.A2.A0.D4.F9,.int u32 a.2.A2.A0.A6.A2,.int u32 a.2.A2.A0.A6.D0,.int u64 a.2.A2.A0.B6,.bool a.2.A2.A0.B2,.bool a.2.A2.A0.B5,.sl 1 (.ag a.2.A2.B3.B0) false,.int i64 a.2.A2.B3.B9,.int i64 a.2.A2.B3.D7,.all 2,.sl 1 (.ints i64 a.2.A2.C1) false,.int u64 a.2.A2.D5,.all 3,.all 4,.sl 1 (.ah RK.str a.2.A9.ab) false,.int u64 a.2.A9.D5,.int i64 a.2.A9.D6]]⟩,⟨false,3,1,.ints i64 a.2.A1.A3⟩,⟨false,3,1,.ints i64 a.2.A2.A3⟩,⟨false,80,54,.ah RK.aa a.2.A7⟩,⟨false,80,54,.ah RK.aa a.2.C0⟩])
 a0:=λst=>((lk st 18).toInt,(⟨(⟨(ay st.rows 0 0).toInt,(⟨(⟨(⟨(ay st.rows 0 1).toInt,(ay st.rows 0 2).toInt,(ay st.rows 0 3).toInt,(ay st.rows 0 4).toInt,(ay st.rows 0 5).toInt,(ay st.rows 0 6).toInt,(ay st.rows 0 7).toInt,(ay st.rows 0 8).toInt,(ay st.rows 0 9).toInt,(ay st.rows 0 10).toInt,(ay st.rows 0 11).toInt,(ay st.rows 0 12).toInt,(ay st.rows 0 13).toInt,(ay st.rows 0 14).toInt,(ay st.rows 0 15).toInt,(ay st.rows 0 16).toInt⟩:(iI Int)),(ay st.rows 0 17).toInt,(⟨(ay st.rows 0 18).toInt,(ay st.rows 0 19).toInt,(ay st.rows 0 20).toInt,(ay st.rows 0 21).toInt,(ay st.rows 0 22).toInt,(ay st.rows 0 23).toInt,(ay st.rows 0 24).toInt,(ay st.rows 0 25).toInt⟩:(A8 Int))⟩:bq),(cj u32 (ay st.rows 0 26)),(⟨(ay st.rows 0 27).toStr⟩:iV),(⟨(ay st.rows 0 28).toBool,(ay st.rows 0 29).toInt,(ay st.rows 0 30).toBool⟩:jc),(⟨(ay st.rows 0 31).toInt,(ay st.rows 0 32).toInt,(ay st.rows 0 33).toInt,(ay st.rows 0 34).toInt,(ay st.rows 0 35).toInt,(ay st.rows 0 36).toInt,(ay st.rows 0 37).toInt,(ay st.rows 0 38).toStr⟩:gh),(⟨(ay st.rows 0 39).toInt,(ay st.rows 0 40).toInt,(ay st.rows 0 41).toBool,(ay st.rows 0 42).toInt,(ay st.rows 0 43).toBool,(ay st.rows 0 44).toInt⟩:ik),(⟨(ay st.rows 0 45).toInt,(ay st.rows 0 46).toInt⟩:gx),(ay st.rows 0 47).toInt,(ay st.rows 0 48).toBool,(ay st.rows 0 49).toBool⟩:bg),(⟨(ey (ay st.rows 0 50)),(ay st.rows 0 51).toInt,(ay st.rows 0 52).toInt⟩:fu),(pZ st.rows (jM (ay st.rows 0 53) 1000000)),(cj i64 (ay st.rows 0 54)),(ay st.rows 0 55).toInt⟩:ia),(⟨(ay st.rows 0 56).toInt,(⟨(⟨(⟨(ay st.rows 0 57).toInt,(ay st.rows 0 58).toInt,(ay st.rows 0 59).toInt,(ay st.rows 0 60).toInt,(ay st.rows 0 61).toInt,(ay st.rows 0 62).toInt,(ay st.rows 0 63).toInt,(ay st.rows 0 64).toInt,(ay st.rows 0 65).toInt,(ay st.rows 0 66).toInt,(ay st.rows 0 67).toInt,(ay st.rows 0 68).toInt,(ay st.rows 0 69).toInt,(ay st.rows 0 70).toInt,(ay st.rows 0 71).toInt,(ay st.rows 0 72).toInt⟩:(iI Int)),(ay st.rows 0 73).toInt,(⟨(ay st.rows 0 74).toInt,(ay st.rows 0 75).toInt,(ay st.rows 0 76).toInt,(ay st.rows 0 77).toInt,(ay st.rows 0 78).toInt,(ay st.rows 0 79).toInt,(ay st.rows 0 80).toInt,(ay st.rows 0 81).toInt⟩:(A8 Int))⟩:bq),(cj u32 (ay st.rows 0 82)),(⟨(ay st.rows 0 83).toStr⟩:iV),(⟨(ay st.rows 0 84).toBool,(ay st.rows 0 85).toInt,(ay st.rows 0 86).toBool⟩:jc),(⟨(ay st.rows 0 87).toInt,(ay st.rows 0 88).toInt,(ay st.rows 0 89).toInt,(ay st.rows 0 90).toInt,(ay st.rows 0 91).toInt,(ay st.rows 0 92).toInt,(ay st.rows 0 93).toInt,(ay st.rows 0 94).toStr⟩:gh),(⟨(ay st.rows 0 95).toInt,(ay st.rows 0 96).toInt,(ay st.rows 0 97).toBool,(ay st.rows 0 98).toInt,(ay st.rows 0 99).toBool,(ay st.rows 0 100).toInt⟩:ik),(⟨(ay st.rows 0 101).toInt,(ay st.rows 0 102).toInt⟩:gx),(ay st.rows 0 103).toInt,(ay st.rows 0 104).toBool,(ay st.rows 0 105).toBool⟩:bg),(⟨(ey (ay st.rows 0 106)),(ay st.rows 0 107).toInt,(ay st.rows 0 108).toInt⟩:fu),(pZ st.rows (jM (ay st.rows 0 109) 1000000)),(cj i64 (ay st.rows 0 110)),(ay st.rows 0 111).toInt⟩:ia),(tD RK.aa st.rows (jM (ay st.rows 0 112) 1000000)),(tD RK.aa st.rows (jM (ay st.rows 0 113) 1000000)),(⟨(iU RK.str (ay st.rows 0 114)),(ay st.rows 0 115).toInt,(ay st.rows 0 116).toInt⟩:gj)⟩:df))
 iZ:=λst=>[0]++[(jM (ay st.rows 0 53) (st.rows.length+1)),(jM (ay st.rows 0 109) (st.rows.length+2)),(jM (ay st.rows 0 112) (st.rows.length+3)),(jM (ay st.rows 0 113) (st.rows.length+4))]}
def Qnz:List (Nat×bu):=[(2,Qrf)]
def Qtg:bb:=jS 1 47 [true] [.ptr 0] [.box 97 117 (df.il (.ints .u32) (.ag) (.row 1) (.ints .i64) (.ints .u32) (.ag) (.row 2) (.ints .i64) (.row 3) (.row 4) (.ah .str)),.arr 3 1 (.ints .i64),.arr 3 1 (.ints .i64),.arr 80 54 (.ah .aa),.arr 80 54 (.ah .aa)] (λa r=>Qf5 (df.iF (r.getD 0 default).cs (cj .u32 (((r.getD 0 default).cs).getD 26 .dead)) (ey (((r.getD 0 default).cs).getD 50 .dead)) (cy .i64 r 1) (cj .i64 (((r.getD 0 default).cs).getD 54 .dead)) (cj .u32 (((r.getD 0 default).cs).getD 82 .dead)) (ey (((r.getD 0 default).cs).getD 106 .dead)) (cy .i64 r 2) (cj .i64 (((r.getD 0 default).cs).getD 110 .dead)) (c9 .aa r 3) (c9 .aa r 4) (iU .str (((r.getD 0 default).cs).getD 114 .dead)))) (λa r=>Ql4 (df.iF (r.getD 0 default).cs (cj .u32 (((r.getD 0 default).cs).getD 26 .dead)) (ey (((r.getD 0 default).cs).getD 50 .dead)) (cy .i64 r 1) (cj .i64 (((r.getD 0 default).cs).getD 54 .dead)) (cj .u32 (((r.getD 0 default).cs).getD 82 .dead)) (ey (((r.getD 0 default).cs).getD 106 .dead)) (cy .i64 r 2) (cj .i64 (((r.getD 0 default).cs).getD 110 .dead)) (c9 .aa r 3) (c9 .aa r 4) (iU .str (((r.getD 0 default).cs).getD 114 .dead)))) (λX=>.dw []) (λX=>[⟨true,97,117,.gen [(df.cq X (.sl 1 (.ints .u32 X.A1.A0.Mem) false) (.sl 1 (.ag X.A1.B3.B0) false) (.all 1) (.sl 1 (.ints .i64 X.A1.C1) false) (.sl 1 (.ints .u32 X.A2.A0.Mem) false) (.sl 1 (.ag X.A2.B3.B0) false) (.all 2) (.sl 1 (.ints .i64 X.A2.C1) false) (.all 3) (.all 4) (.sl 1 (.ah .str X.A9.ab) false))]⟩,⟨false,3,1,.ints .i64 X.A1.A3⟩,⟨false,3,1,.ints .i64 X.A2.A3⟩,⟨false,80,54,.ah .aa X.A7⟩,⟨false,80,54,.ah .aa X.C0⟩])
theorem Qqz:bj pG Qtg:=tu drawn jt (.cons Br (.cons Su (.cons Qdi (.cons Qcb (.nil))))) Tryz.func47 Tryz.call47 (λa r=>Pw (df.iF (r.getD 0 default).cs (cj .u32 (((r.getD 0 default).cs).getD 26 .dead)) (ey (((r.getD 0 default).cs).getD 50 .dead)) (cy .i64 r 1) (cj .i64 (((r.getD 0 default).cs).getD 54 .dead)) (cj .u32 (((r.getD 0 default).cs).getD 82 .dead)) (ey (((r.getD 0 default).cs).getD 106 .dead)) (cy .i64 r 2) (cj .i64 (((r.getD 0 default).cs).getD 110 .dead)) (c9 .aa r 3) (c9 .aa r 4) (iU .str (((r.getD 0 default).cs).getD 114 .dead)))) [.sl (.ints .u32) false,.sl (.ag) false,.row 3 1 (.ints .i64),.sl (.ints .i64) false,.sl (.ints .u32) false,.sl (.ag) false,.row 3 1 (.ints .i64),.sl (.ints .i64) false,.row 80 54 (.ah .aa),.row 80 54 (.ah .aa),.sl (.ah .str) false] Qnz 3 (λ_ _ _=>by kernel_rfl) (λ_ _=>rfl) (λ_ _ h=>h)
end
noncomputable section
def UM(g:df)(n clock:Int)(z:(Int)×bg):Nat:=(1000-z.1).toNat
def Px(g:df)(n clock:Int):Tree df:=
.lv (G5 {A1:=g.A1,A2:=g.A2,A7:=g.A7,C0:=g.C0,A9:=g.A9}) λ(x0:Int)=>.br (x0==(-1)) (.lf g) (.br (x0==1) (.lp inferInstance (UM g n clock (0,g.A2.A0)+1) ((rE (clock:Int)/\(rE (0:Nat)/\rE (56:Nat))/\((ai.Nil (ai.ints u32 g.A2.A0.Mem)\/rE (1:Nat))/\rE g.A2.A0.Mem)/\rZ/\rE ((if 64<if 0>n then 0 else n then 64 else if 0>n then 0 else n):Int)/\rE (0:Int)/\True)/\Sz g/\rE g.A1.A3/\rE g.A2.A3/\rE g.A7/\rE g.C0/\(mE g.A2.A0 (((ai.Nil (ai.ints u32 g.A2.A0.Mem)\/rE (1:Nat))/\rE g.A2.A0.Mem)) True)/\True) (0,g.A2.A0) λ(v0:Int×bg)=>.br (decide (v0.1<if 64<if 0>n then 0 else n then 64 else if 0>n then 0 else n)) (.an (Uv v0.2 clock) (.lv (DW v0.2 clock) λ(x1:bg×List ir)=>.nx ((rE (clock:Int)/\(rE (0:Nat)/\rE (56:Nat))/\((ai.Nil (ai.ints u32 g.A2.A0.Mem)\/rE (1:Nat))/\rE g.A2.A0.Mem)/\rZ/\rE ((if 64<if 0>n then 0 else n then 64 else if 0>n then 0 else n):Int)/\rE ((wrap i64 (v0.1+1)):Int)/\True)/\Sz g/\rE g.A1.A3/\rE g.A2.A3/\rE g.A7/\rE g.C0/\(mE x1.1 (((ai.Nil (ai.ints u32 x1.1.Mem)\/ki Nat 1 1)/\rE x1.1.Mem)) True)/\True) (Sum.inl (wrap i64 (v0.1+1),x1.1)))) (.br (g.A2.A4==1) (.an (YA g.A2.A0.Mem v0.2.Mem) (.lv (DX g.A2.A0.Mem v0.2.Mem) λ(x2:List Int)=>.an (Yy g.A2.B3 x2) (.lv (Us g.A2.B3 x2) λ(x3:fu)=>.lf (Sum.inr {A1:=g.A1,A2:={A4:=g.A2.A4,A0:=v0.2,B3:=x3,A3:=g.A2.A3,C1:=g.A2.C1,D5:=g.A2.D5},A7:=g.A7,C0:=g.C0,A9:=g.A9})))) (.lf (Sum.inr {A1:=g.A1,A2:={A4:=g.A2.A4,A0:=v0.2,B3:=g.A2.B3,A3:=g.A2.A3,C1:=g.A2.C1,D5:=g.A2.D5},A7:=g.A7,C0:=g.C0,A9:=g.A9})))) (.lp inferInstance (UM g n clock (0,g.A1.A0)+1) ((rE (clock:Int)/\rZ/\((ai.Nil (ai.ints u32 g.A1.A0.Mem)\/rE (1:Nat))/\rE g.A1.A0.Mem)/\rZ/\rE ((if 64<if 0>n then 0 else n then 64 else if 0>n then 0 else n):Int)/\rE (0:Int)/\True)/\Sz g/\rE g.A1.A3/\rE g.A2.A3/\rE g.A7/\rE g.C0/\(mE g.A1.A0 (((ai.Nil (ai.ints u32 g.A1.A0.Mem)\/rE (1:Nat))/\rE g.A1.A0.Mem)) True)/\True) (0,g.A1.A0) λ(v0:Int×bg)=>.br (decide (v0.1<if 64<if 0>n then 0 else n then 64 else if 0>n then 0 else n)) (.an (Uv v0.2 clock) (.lv (DW v0.2 clock) λ(x4:bg×List ir)=>.nx ((rE (clock:Int)/\rZ/\((ai.Nil (ai.ints u32 g.A1.A0.Mem)\/rE (1:Nat))/\rE g.A1.A0.Mem)/\rZ/\rE ((if 64<if 0>n then 0 else n then 64 else if 0>n then 0 else n):Int)/\rE ((wrap i64 (v0.1+1)):Int)/\True)/\Sz g/\rE g.A1.A3/\rE g.A2.A3/\rE g.A7/\rE g.C0/\(mE x4.1 (((ai.Nil (ai.ints u32 x4.1.Mem)\/ki Nat 1 1)/\rE x4.1.Mem)) True)/\True) (Sum.inl (wrap i64 (v0.1+1),x4.1)))) (.br (g.A1.A4==1) (.an (YA g.A1.A0.Mem v0.2.Mem) (.lv (DX g.A1.A0.Mem v0.2.Mem) λ(x5:List Int)=>.an (Yy g.A1.B3 x5) (.lv (Us g.A1.B3 x5) λ(x6:fu)=>.lf (Sum.inr {A1:={A4:=g.A1.A4,A0:=v0.2,B3:=x6,A3:=g.A1.A3,C1:=g.A1.C1,D5:=g.A1.D5},A2:=g.A2,A7:=g.A7,C0:=g.C0,A9:=g.A9})))) (.lf (Sum.inr {A1:={A4:=g.A1.A4,A0:=v0.2,B3:=g.A1.B3,A3:=g.A1.A3,C1:=g.A1.C1,D5:=g.A1.D5},A2:=g.A2,A7:=g.A7,C0:=g.C0,A9:=g.A9})))))
def Qqp g n clock:=(Px g n clock).m
abbrev Qiv g n clock:=(Px g n clock).p
def Qwl:bu:={
 α:=(Int)×bg
 F:=λst a=>([(2,(lk st 2)),(6,(lk st 6)),(7,(lk st 7)),(8,.ptr 5 0 0),(35,(lk st 35)),(36,.int i64 a.1)],[⟨true,97,117,.gen [[(ay st.rows 0 0),(ay st.rows 0 1),(ay st.rows 0 2),(ay st.rows 0 3),(ay st.rows 0 4),(ay st.rows 0 5),(ay st.rows 0 6),(ay st.rows 0 7),(ay st.rows 0 8),(ay st.rows 0 9),(ay st.rows 0 10),(ay st.rows 0 11),(ay st.rows 0 12),(ay st.rows 0 13),(ay st.rows 0 14),(ay st.rows 0 15),(ay st.rows 0 16),(ay st.rows 0 17),(ay st.rows 0 18),(ay st.rows 0 19),(ay st.rows 0 20),(ay st.rows 0 21),(ay st.rows 0 22),(ay st.rows 0 23),(ay st.rows 0 24),(ay st.rows 0 25),(ay st.rows 0 26),(ay st.rows 0 27),(ay st.rows 0 28),(ay st.rows 0 29),(ay st.rows 0 30),(ay st.rows 0 31),(ay st.rows 0 32),(ay st.rows 0 33),(ay st.rows 0 34),(ay st.rows 0 35),(ay st.rows 0 36),(ay st.rows 0 37),(ay st.rows 0 38),(ay st.rows 0 39),(ay st.rows 0 40),(ay st.rows 0 41),(ay st.rows 0 42),(ay st.rows 0 43),(ay st.rows 0 44),(ay st.rows 0 45),(ay st.rows 0 46),(ay st.rows 0 47),(ay st.rows 0 48),(ay st.rows 0 49),(ay st.rows 0 50),(ay st.rows 0 51),(ay st.rows 0 52),.all 1,(ay st.rows 0 54),(ay st.rows 0 55),(ay st.rows 0 56),(ay st.rows 0 57),(ay st.rows 0 58),(ay st.rows 0 59),(ay st.rows 0 60),(ay st.rows 0 61),(ay st.rows 0 62),(ay st.rows 0 63),(ay st.rows 0 64),(ay st.rows 0 65),(ay st.rows 0 66),(ay st.rows 0 67),(ay st.rows 0 68),(ay st.rows 0 69),(ay st.rows 0 70),(ay st.rows 0 71),(ay st.rows 0 72),(ay st.rows 0 73),(ay st.rows 0 74),(ay st.rows 0 75),(ay st.rows 0 76),(ay st.rows 0 77),(ay st.rows 0 78),(ay st.rows 0 79),(ay st.rows 0 80),(ay st.rows 0 81),(ay st.rows 0 82),(ay st.rows 0 83),(ay st.rows 0 84),(ay st.rows 0 85),(ay st.rows 0 86),(ay st.rows 0 87),(ay st.rows 0 88),(ay st.rows 0 89),(ay st.rows 0 90),(ay st.rows 0 91),(ay st.rows 0 92),(ay st.rows 0 93),(ay st.rows 0 94),(ay st.rows 0 95),(ay st.rows 0 96),(ay st.rows 0 97),(ay st.rows 0 98),(ay st.rows 0 99),(ay st.rows 0 100),(ay st.rows 0 101),(ay st.rows 0 102),(ay st.rows 0 103),(ay st.rows 0 104),(ay st.rows 0 105),(ay st.rows 0 106),(ay st.rows 0 107),(ay st.rows 0 108),.all 2,(ay st.rows 0 110),(ay st.rows 0 111),.all 3,.all 4,(ay st.rows 0 114),(ay st.rows 0 115),(ay st.rows 0 116)]]⟩,⟨false,3,1,mU st.rows (jM (ay st.rows 0 53) 1000000)⟩,⟨false,3,1,mU st.rows (jM (ay st.rows 0 109) 1000000)⟩,⟨false,80,54,mU st.rows (jM (ay st.rows 0 112) 1000000)⟩,⟨false,80,54,mU st.rows (jM (ay st.rows 0 113) 1000000)⟩,⟨true,43,49,.gen [mD a.2 (.sl 1 (.ints u32 a.2.Mem) false)]⟩])
 a0:=λst=>((lk st 36).toInt,(mR (cT st 8) (cj u32 (cT st 8 25))))
 iZ:=λst=>[0]++[(jM (ay st.rows 0 53) (st.rows.length+1)),(jM (ay st.rows 0 109) (st.rows.length+2)),(jM (ay st.rows 0 112) (st.rows.length+3)),(jM (ay st.rows 0 113) (st.rows.length+4)),(rX st 8 5)]}
def Qrv:List (Nat×bu):=[(9,Qwl)]
def Qxe:bb:=jS 1 44 [true,false,false] [.ptr 0,.one (.int .i64),.one (.int .u32)] [.box 97 117 (df.il (.ints .u32) (.ag) (.row 1) (.ints .i64) (.ints .u32) (.ag) (.row 2) (.ints .i64) (.row 3) (.row 4) (.ah .str)),.arr 3 1 (.ints .i64),.arr 3 1 (.ints .i64),.arr 80 54 (.ah .aa),.arr 80 54 (.ah .aa)] (λa r=>Qiv (df.iF (r.getD 0 default).cs (cj .u32 (((r.getD 0 default).cs).getD 26 .dead)) (ey (((r.getD 0 default).cs).getD 50 .dead)) (cy .i64 r 1) (cj .i64 (((r.getD 0 default).cs).getD 54 .dead)) (cj .u32 (((r.getD 0 default).cs).getD 82 .dead)) (ey (((r.getD 0 default).cs).getD 106 .dead)) (cy .i64 r 2) (cj .i64 (((r.getD 0 default).cs).getD 110 .dead)) (c9 .aa r 3) (c9 .aa r 4) (iU .str (((r.getD 0 default).cs).getD 114 .dead))) (au a 1) (au a 2)) (λa r=>Qqp (df.iF (r.getD 0 default).cs (cj .u32 (((r.getD 0 default).cs).getD 26 .dead)) (ey (((r.getD 0 default).cs).getD 50 .dead)) (cy .i64 r 1) (cj .i64 (((r.getD 0 default).cs).getD 54 .dead)) (cj .u32 (((r.getD 0 default).cs).getD 82 .dead)) (ey (((r.getD 0 default).cs).getD 106 .dead)) (cy .i64 r 2) (cj .i64 (((r.getD 0 default).cs).getD 110 .dead)) (c9 .aa r 3) (c9 .aa r 4) (iU .str (((r.getD 0 default).cs).getD 114 .dead))) (au a 1) (au a 2)) (λX=>.dw []) (λX=>[⟨true,97,117,.gen [(df.cq X (.sl 1 (.ints .u32 X.A1.A0.Mem) false) (.sl 1 (.ag X.A1.B3.B0) false) (.all 1) (.sl 1 (.ints .i64 X.A1.C1) false) (.sl 1 (.ints .u32 X.A2.A0.Mem) false) (.sl 1 (.ag X.A2.B3.B0) false) (.all 2) (.sl 1 (.ints .i64 X.A2.C1) false) (.all 3) (.all 4) (.sl 1 (.ah .str X.A9.ab) false))]⟩,⟨false,3,1,.ints .i64 X.A1.A3⟩,⟨false,3,1,.ints .i64 X.A2.A3⟩,⟨false,80,54,.ah .aa X.A7⟩,⟨false,80,54,.ah .aa X.C0⟩])
theorem Qwq:bj pG Qxe:=tu drawn jt (.cons Qev (.cons Z9z (.cons Za3 (.cons Z1o (.nil))))) Tryz.func44 Tryz.call44 (λa r=>Px (df.iF (r.getD 0 default).cs (cj .u32 (((r.getD 0 default).cs).getD 26 .dead)) (ey (((r.getD 0 default).cs).getD 50 .dead)) (cy .i64 r 1) (cj .i64 (((r.getD 0 default).cs).getD 54 .dead)) (cj .u32 (((r.getD 0 default).cs).getD 82 .dead)) (ey (((r.getD 0 default).cs).getD 106 .dead)) (cy .i64 r 2) (cj .i64 (((r.getD 0 default).cs).getD 110 .dead)) (c9 .aa r 3) (c9 .aa r 4) (iU .str (((r.getD 0 default).cs).getD 114 .dead))) (au a 1) (au a 2)) [.sl (.ints .u32) false,.sl (.ag) false,.row 3 1 (.ints .i64),.sl (.ints .i64) false,.sl (.ints .u32) false,.sl (.ag) false,.row 3 1 (.ints .i64),.sl (.ints .i64) false,.row 80 54 (.ah .aa),.row 80 54 (.ah .aa),.sl (.ah .str) false] Qrv 3 (λ_ _ _=>by kernel_rfl) (λ_ _=>rfl) (λ_ _ h=>h)
end
noncomputable section
def PA(g:df)(back:Bool)(i:Int):Tree df:=
.br back (.lv () λ(x0:Unit)=>.br (decide (i>=0)) (.br (decide (i<(g.C0.length:Int))) (.cn (bX 54 54&&bN 0 54&&decide (0<=i/\i<(g.C0.length:Int))) (let E2:=g.C0.getD i.toNat (RK.dx RK.aa);.an (Q5n E2) (.lv (Q8u E2) λ(x1:fi)=>.an (FZ g true x1) (.lv (FY g true x1) λ(x2:df)=>.lf x2)))) (.lf g)) (.lf g)) (.lv () λ(x3:Unit)=>.br (decide (i>=0)) (.br (decide (i<(g.A7.length:Int))) (.cn (bX 54 54&&bN 0 54&&decide (0<=i/\i<(g.A7.length:Int))) (let E1:=g.A7.getD i.toNat (RK.dx RK.aa);.an (Q5n E1) (.lv (Q8u E1) λ(x4:fi)=>.an (FZ g false x4) (.lv (FY g false x4) λ(x5:df)=>.lf x5)))) (.lf g)) (.lf g))
def Qkz g back i:=(PA g back i).m
abbrev Qdx g back i:=(PA g back i).p
def Qro:bb:=jS 1 50 [true,false,false] [.ptr 0,.one (.bool),.one (.int .i64)] [.box 97 117 (df.il (.ints .u32) (.ag) (.row 1) (.ints .i64) (.ints .u32) (.ag) (.row 2) (.ints .i64) (.row 3) (.row 4) (.ah .str)),.arr 3 1 (.ints .i64),.arr 3 1 (.ints .i64),.arr 80 54 (.ah .aa),.arr 80 54 (.ah .aa)] (λa r=>Qdx (df.iF (r.getD 0 default).cs (cj .u32 (((r.getD 0 default).cs).getD 26 .dead)) (ey (((r.getD 0 default).cs).getD 50 .dead)) (cy .i64 r 1) (cj .i64 (((r.getD 0 default).cs).getD 54 .dead)) (cj .u32 (((r.getD 0 default).cs).getD 82 .dead)) (ey (((r.getD 0 default).cs).getD 106 .dead)) (cy .i64 r 2) (cj .i64 (((r.getD 0 default).cs).getD 110 .dead)) (c9 .aa r 3) (c9 .aa r 4) (iU .str (((r.getD 0 default).cs).getD 114 .dead))) (kF a 1) (au a 2)) (λa r=>Qkz (df.iF (r.getD 0 default).cs (cj .u32 (((r.getD 0 default).cs).getD 26 .dead)) (ey (((r.getD 0 default).cs).getD 50 .dead)) (cy .i64 r 1) (cj .i64 (((r.getD 0 default).cs).getD 54 .dead)) (cj .u32 (((r.getD 0 default).cs).getD 82 .dead)) (ey (((r.getD 0 default).cs).getD 106 .dead)) (cy .i64 r 2) (cj .i64 (((r.getD 0 default).cs).getD 110 .dead)) (c9 .aa r 3) (c9 .aa r 4) (iU .str (((r.getD 0 default).cs).getD 114 .dead))) (kF a 1) (au a 2)) (λX=>.dw []) (λX=>[⟨true,97,117,.gen [(df.cq X (.sl 1 (.ints .u32 X.A1.A0.Mem) false) (.sl 1 (.ag X.A1.B3.B0) false) (.all 1) (.sl 1 (.ints .i64 X.A1.C1) false) (.sl 1 (.ints .u32 X.A2.A0.Mem) false) (.sl 1 (.ag X.A2.B3.B0) false) (.all 2) (.sl 1 (.ints .i64 X.A2.C1) false) (.all 3) (.all 4) (.sl 1 (.ah .str X.A9.ab) false))]⟩,⟨false,3,1,.ints .i64 X.A1.A3⟩,⟨false,3,1,.ints .i64 X.A2.A3⟩,⟨false,80,54,.ah .aa X.A7⟩,⟨false,80,54,.ah .aa X.C0⟩])
theorem Qr6:bj pG Qro:=tu drawn jt (.cons Qbp (.cons SK (.cons Qfc (.nil)))) Tryz.func50 Tryz.call50 (λa r=>PA (df.iF (r.getD 0 default).cs (cj .u32 (((r.getD 0 default).cs).getD 26 .dead)) (ey (((r.getD 0 default).cs).getD 50 .dead)) (cy .i64 r 1) (cj .i64 (((r.getD 0 default).cs).getD 54 .dead)) (cj .u32 (((r.getD 0 default).cs).getD 82 .dead)) (ey (((r.getD 0 default).cs).getD 106 .dead)) (cy .i64 r 2) (cj .i64 (((r.getD 0 default).cs).getD 110 .dead)) (c9 .aa r 3) (c9 .aa r 4) (iU .str (((r.getD 0 default).cs).getD 114 .dead))) (kF a 1) (au a 2)) [.sl (.ints .u32) false,.sl (.ag) false,.row 3 1 (.ints .i64),.sl (.ints .i64) false,.sl (.ints .u32) false,.sl (.ag) false,.row 3 1 (.ints .i64),.sl (.ints .i64) false,.row 80 54 (.ah .aa),.row 80 54 (.ah .aa),.sl (.ah .str) false] [] 2 (λ_ _ _=>by kernel_rfl) (λ_ _=>rfl) (λ_ _ h=>h)
end
noncomputable section
def Q2r:bb:=⟨102,[true,false,false],false,λargs rows=>match args with|[.all r,.int .i64 i,.int .i64 j]=>(match rows with|[⟨false,ty,sz,.ah .aa l⟩]=>(match bX r 0&&(bX ty 80&&bX sz 54)with|true=>.lB (0<=i/\i<j/\j<=l.length) (List fi) (l.take i.toNat++l.drop j.toNat) (λ_=>.all 0) (λX=>[⟨false,80,54,.ah .aa X⟩])|false=>.no)|_=>.no)|_=>.no,some 0,false⟩
theorem Qb3:bj pG Q2r:=by
 refine⟨λ_=>Tryz.call102,λh=>(by cases h),λh=>(by cases h),λh=>(by cases h),λh=>(by cases h),λh=>(by cases h),λk hk args rows α v res aj hm=>?_,λk hk args rows p α v res aj hm hp=>?_⟩
 ·simp only[Q2r]at hm;repeat(split at hm<;>try(cases hm;done))
 ·cases hk
  simp only[Q2r]at hm
  split at hm
  ·rename_i r i j
   split at hm
   ·rename_i ty sz l
    split at hm
    ·rename_i hc
     simp only[aE]at hc
     obtain⟨h1,h2,h3⟩:=hc
     have h1:=bE h1;have h2:=bE h2;have h3:=bE h3
     subst h1;subst h2;subst h3
     cases hm
     obtain⟨p1,p2,p3⟩:=hp
     obtain⟨a,rfl⟩:∃a:Nat,i=a:=⟨i.toNat,by omega⟩
     obtain⟨b,rfl⟩:∃b:Nat,j=b:=⟨j.toNat,by omega⟩
     exact qa (by omega) (by simp[ai.l];omega) (by simp[ai.l])
    ·cases hm
   ·cases hm
  ·cases hm
def Jr(g:df)(back:Bool)(i:Int):Tree (fi×Bool×df):=
let T1:Tree ((fi×Bool×df)):=.lf ({C2:=0,B9:=0,Frame:=0,F0:=[],A0:={B4:={X:={a0:=0,a1:=0,a2:=0,a3:=0,a4:=0,a5:=0,a6:=0,a7:=0,a8:=0,a9:=0,kO:=0,kP:=0,a12:=0,kQ:=0,kR:=0,kS:=0},Pc:=0,C3:={a0:=0,a1:=0,a2:=0,a3:=0,a4:=0,a5:=0,a6:=0,a7:=0}},Mem:=[],B1:={D9:=[]},B8:={F1:=false,D3:=0,E0:=false},B7:={ab:=0,C8:=0,Frame:=0,C9:=0,F5:=0,C5:=0,C6:=0,C7:=[]},D4:={Frame:=0,F6:=0,D1:=false,D2:=0,C4:=false,F9:=0},A6:={A2:=0,D0:=0},B6:=0,B2:=false,B5:=false},A3:=[]},false,g);.br back (.lv () λ(x0:Unit)=>.br (decide (i<0)) T1 (.br (decide (i>=(g.C0.length:Int))) T1 (.cn (bX 54 54&&bN 0 54&&decide (0<=i/\i<(g.C0.length:Int))) (.an (fF (i-0)/\fF (wrap i64 (i+1)-(i+1))/\fF ((g.C0.length:Int)-wrap i64 (i+1))) (.lv (cU i.toNat g.C0++cV (dA (wrap i64 (i+1))) g.C0) λ(x1:List fi)=>.lf (g.C0.getD i.toNat (RK.dx RK.aa),true,{A1:=g.A1,A2:=g.A2,A7:=g.A7,C0:=x1,A9:=g.A9})))))) (.lv () λ(x2:Unit)=>.br (decide (i<0)) T1 (.br (decide (i>=(g.A7.length:Int))) T1 (.cn (bX 54 54&&bN 0 54&&decide (0<=i/\i<(g.A7.length:Int))) (.an (fF (i-0)/\fF (wrap i64 (i+1)-(i+1))/\fF ((g.A7.length:Int)-wrap i64 (i+1))) (.lv (cU i.toNat g.A7++cV (dA (wrap i64 (i+1))) g.A7) λ(x3:List fi)=>.lf (g.A7.getD i.toNat (RK.dx RK.aa),true,{A1:=g.A1,A2:=g.A2,A7:=x3,C0:=g.C0,A9:=g.A9}))))))
def Qg5 g back i:=(Jr g back i).m
abbrev Qau g back i:=(Jr g back i).p
def Qx2:bb:=jS 1 49 [true,false,false] [.ptr 0,.one (.bool),.one (.int .i64)] [.box 97 117 (df.il (.ints .u32) (.ag) (.row 1) (.ints .i64) (.ints .u32) (.ag) (.row 2) (.ints .i64) (.row 3) (.row 4) (.ah .str)),.arr 3 1 (.ints .i64),.arr 3 1 (.ints .i64),.arr 80 54 (.ah .aa),.arr 80 54 (.ah .aa)] (λa r=>Qau (df.iF (r.getD 0 default).cs (cj .u32 (((r.getD 0 default).cs).getD 26 .dead)) (ey (((r.getD 0 default).cs).getD 50 .dead)) (cy .i64 r 1) (cj .i64 (((r.getD 0 default).cs).getD 54 .dead)) (cj .u32 (((r.getD 0 default).cs).getD 82 .dead)) (ey (((r.getD 0 default).cs).getD 106 .dead)) (cy .i64 r 2) (cj .i64 (((r.getD 0 default).cs).getD 110 .dead)) (c9 .aa r 3) (c9 .aa r 4) (iU .str (((r.getD 0 default).cs).getD 114 .dead))) (kF a 1) (au a 2)) (λa r=>Qg5 (df.iF (r.getD 0 default).cs (cj .u32 (((r.getD 0 default).cs).getD 26 .dead)) (ey (((r.getD 0 default).cs).getD 50 .dead)) (cy .i64 r 1) (cj .i64 (((r.getD 0 default).cs).getD 54 .dead)) (cj .u32 (((r.getD 0 default).cs).getD 82 .dead)) (ey (((r.getD 0 default).cs).getD 106 .dead)) (cy .i64 r 2) (cj .i64 (((r.getD 0 default).cs).getD 110 .dead)) (c9 .aa r 3) (c9 .aa r 4) (iU .str (((r.getD 0 default).cs).getD 114 .dead))) (kF a 1) (au a 2)) (λX=>.dw [.agg (fi.cells (X.1)),.bool (X.2.1)]) (λX=>[⟨true,97,117,.gen [(df.cq (X.2.2) (.sl 1 (.ints .u32 X.2.2.A1.A0.Mem) false) (.sl 1 (.ag X.2.2.A1.B3.B0) false) (.all 1) (.sl 1 (.ints .i64 X.2.2.A1.C1) false) (.sl 1 (.ints .u32 X.2.2.A2.A0.Mem) false) (.sl 1 (.ag X.2.2.A2.B3.B0) false) (.all 2) (.sl 1 (.ints .i64 X.2.2.A2.C1) false) (.all 3) (.all 4) (.sl 1 (.ah .str X.2.2.A9.ab) false))]⟩,⟨false,3,1,.ints .i64 (X.2.2).A1.A3⟩,⟨false,3,1,.ints .i64 (X.2.2).A2.A3⟩,⟨false,80,54,.ah .aa (X.2.2).A7⟩,⟨false,80,54,.ah .aa (X.2.2).C0⟩])
theorem Qio:bj pG Qx2:=tu drawn jt (.cons Qbp (.cons Qb3 (.nil))) Tryz.func49 Tryz.call49 (λa r=>Jr (df.iF (r.getD 0 default).cs (cj .u32 (((r.getD 0 default).cs).getD 26 .dead)) (ey (((r.getD 0 default).cs).getD 50 .dead)) (cy .i64 r 1) (cj .i64 (((r.getD 0 default).cs).getD 54 .dead)) (cj .u32 (((r.getD 0 default).cs).getD 82 .dead)) (ey (((r.getD 0 default).cs).getD 106 .dead)) (cy .i64 r 2) (cj .i64 (((r.getD 0 default).cs).getD 110 .dead)) (c9 .aa r 3) (c9 .aa r 4) (iU .str (((r.getD 0 default).cs).getD 114 .dead))) (kF a 1) (au a 2)) [.sl (.ints .u32) false,.sl (.ints .i64) false,.sl (.ints .u32) false,.sl (.ag) false,.row 3 1 (.ints .i64),.sl (.ints .i64) false,.sl (.ints .u32) false,.sl (.ag) false,.row 3 1 (.ints .i64),.sl (.ints .i64) false,.row 80 54 (.ah .aa),.row 80 54 (.ah .aa),.sl (.ah .str) false] [] 2 (λ_ _ _=>by kernel_rfl) (λ_ _=>rfl) (λ_ _ h=>h)
def Py(g:df)(back:Bool)(i:Int):Tree df:=
.an (Qau g back i) (.lv (Qg5 g back i) λ(x0:fi×Bool×df)=>.br (!x0.2.1) (.lf x0.2.2) (.br (!back) (.an (Qdh x0.2.2 x0.1) (.lv (Qir x0.2.2 x0.1) λ(x1:df)=>.lf x1)) (.br (x0.2.2.A1.A4==2) (.br (x0.1.C2==3) (.lf ({A1:={A4:=4,A0:=x0.2.2.A1.A0,B3:=x0.2.2.A1.B3,A3:=x0.2.2.A1.A3,C1:=x0.2.2.A1.C1,D5:=x0.2.2.A1.D5},A2:=x0.2.2.A2,A7:=x0.2.2.A7,C0:=x0.2.2.C0,A9:=x0.2.2.A9})) (.lf x0.2.2)) (.lf x0.2.2))))
def Qih g back i:=(Py g back i).m
abbrev Qdg g back i:=(Py g back i).p
def Qr:bb:=jS 1 48 [true,false,false] [.ptr 0,.one (.bool),.one (.int .i64)] [.box 97 117 (df.il (.ints .u32) (.ag) (.row 1) (.ints .i64) (.ints .u32) (.ag) (.row 2) (.ints .i64) (.row 3) (.row 4) (.ah .str)),.arr 3 1 (.ints .i64),.arr 3 1 (.ints .i64),.arr 80 54 (.ah .aa),.arr 80 54 (.ah .aa)] (λa r=>Qdg (df.iF (r.getD 0 default).cs (cj .u32 (((r.getD 0 default).cs).getD 26 .dead)) (ey (((r.getD 0 default).cs).getD 50 .dead)) (cy .i64 r 1) (cj .i64 (((r.getD 0 default).cs).getD 54 .dead)) (cj .u32 (((r.getD 0 default).cs).getD 82 .dead)) (ey (((r.getD 0 default).cs).getD 106 .dead)) (cy .i64 r 2) (cj .i64 (((r.getD 0 default).cs).getD 110 .dead)) (c9 .aa r 3) (c9 .aa r 4) (iU .str (((r.getD 0 default).cs).getD 114 .dead))) (kF a 1) (au a 2)) (λa r=>Qih (df.iF (r.getD 0 default).cs (cj .u32 (((r.getD 0 default).cs).getD 26 .dead)) (ey (((r.getD 0 default).cs).getD 50 .dead)) (cy .i64 r 1) (cj .i64 (((r.getD 0 default).cs).getD 54 .dead)) (cj .u32 (((r.getD 0 default).cs).getD 82 .dead)) (ey (((r.getD 0 default).cs).getD 106 .dead)) (cy .i64 r 2) (cj .i64 (((r.getD 0 default).cs).getD 110 .dead)) (c9 .aa r 3) (c9 .aa r 4) (iU .str (((r.getD 0 default).cs).getD 114 .dead))) (kF a 1) (au a 2)) (λX=>.dw []) (λX=>[⟨true,97,117,.gen [(df.cq X (.sl 1 (.ints .u32 X.A1.A0.Mem) false) (.sl 1 (.ag X.A1.B3.B0) false) (.all 1) (.sl 1 (.ints .i64 X.A1.C1) false) (.sl 1 (.ints .u32 X.A2.A0.Mem) false) (.sl 1 (.ag X.A2.B3.B0) false) (.all 2) (.sl 1 (.ints .i64 X.A2.C1) false) (.all 3) (.all 4) (.sl 1 (.ah .str X.A9.ab) false))]⟩,⟨false,3,1,.ints .i64 X.A1.A3⟩,⟨false,3,1,.ints .i64 X.A2.A3⟩,⟨false,80,54,.ah .aa X.A7⟩,⟨false,80,54,.ah .aa X.C0⟩])
theorem Qp1:bj pG Qr:=tu drawn jt (.cons Qio (.cons Qoy (.nil))) Tryz.func48 Tryz.call48 (λa r=>Py (df.iF (r.getD 0 default).cs (cj .u32 (((r.getD 0 default).cs).getD 26 .dead)) (ey (((r.getD 0 default).cs).getD 50 .dead)) (cy .i64 r 1) (cj .i64 (((r.getD 0 default).cs).getD 54 .dead)) (cj .u32 (((r.getD 0 default).cs).getD 82 .dead)) (ey (((r.getD 0 default).cs).getD 106 .dead)) (cy .i64 r 2) (cj .i64 (((r.getD 0 default).cs).getD 110 .dead)) (c9 .aa r 3) (c9 .aa r 4) (iU .str (((r.getD 0 default).cs).getD 114 .dead))) (kF a 1) (au a 2)) [.sl (.ints .u32) false,.sl (.ag) false,.row 3 1 (.ints .i64),.sl (.ints .i64) false,.sl (.ints .u32) false,.sl (.ag) false,.row 3 1 (.ints .i64),.sl (.ints .i64) false,.row 80 54 (.ah .aa),.row 80 54 (.ah .aa),.sl (.ah .str) false] [] 2 (λ_ _ _=>by kernel_rfl) (λ_ _=>rfl) (λ_ _ h=>h)
end
noncomputable section
def PE(g:dv):Tree dv:=
.an (Qap g.A1) (.lv (Qgb g.A1) λ(x0:ia)=>.an (Qap g.A2) (.lv (Qgb g.A2) λ(x1:ia)=>.an (Q83 g.A7) (.lv (Qbt g.A7) λ(x2:List fi)=>.an (Q83 g.C0) (.lv (Qbt g.C0) λ(x3:List fi)=>.an (M4 g.A9.ab) (.lv (FW g.A9.ab) λ(x4:List (List UInt8))=>.lf ({A1:=x0,A2:=x1,A7:=x2,C0:=x3,A9:={ab:=x4,D5:=g.A9.D5,D6:=g.A9.D6}}))))))
def Qkn g:=(PE g).m
abbrev Qd2 g:=(PE g).p
def Z0x:bb:=mT 43 [] false [.agg dv.sig] [] (λa r=>PE (dv.of (aC a 0))) (λX=>.agg (dv.cq X (.sl 1 (.ints .u32 X.A1.A0.Mem) true) (.sl 1 (.ag X.A1.B3.B0) true) (.all 0) (.sl 1 (.ints .i64 X.A1.C1) true) (.sl 1 (.ints .u32 X.A2.A0.Mem) true) (.sl 1 (.ag X.A2.B3.B0) true) (.all 1) (.sl 1 (.ints .i64 X.A2.C1) true) (.all 2) (.all 3) (.sl 1 (.ah .str X.A9.ab) true))) (λX=>[⟨false,3,1,.ints .i64 X.A1.A3⟩,⟨false,3,1,.ints .i64 X.A2.A3⟩,⟨false,80,54,.ah .aa X.A7⟩,⟨false,80,54,.ah .aa X.C0⟩])
theorem Qmh:bj pG Z0x:=oT (.cons Quv (.cons Qq1 (.cons Q5f (.nil)))) Tryz.func43 Tryz.call43 [.sl (.ints .u32) true,.sl (.ag) true,.row 3 1 (.ints .i64),.sl (.ints .i64) true,.sl (.ints .u32) true,.sl (.ag) true,.row 3 1 (.ints .i64),.sl (.ints .i64) true,.row 80 54 (.ah .aa),.row 80 54 (.ah .aa),.sl (.ah .str) true] [] 2 (jy:=nofun)
def PI(g:dv)(a:kT):Tree (dv×Bool):=
.an (Qd2 g) (.lv (Qkn g) λ(x0:dv)=>.br (a.C2==1) (.an (Qiv {A1:=x0.A1,A2:=x0.A2,A7:=x0.A7,C0:=x0.C0,A9:=x0.A9} a.N a.F8) (.lv (Qqp {A1:=x0.A1,A2:=x0.A2,A7:=x0.A7,C0:=x0.C0,A9:=x0.A9} a.N a.F8) λ(x1:df)=>.lf ({A1:=x1.A1,A2:=x1.A2,A7:=x1.A7,C0:=x1.C0,A9:=x1.A9},true))) (.br (a.C2==2) (.br (x0.A1.A4==1) (.br (decide (x0.A1.B3.B9<10)) (.an (Q9u {A1:=x0.A1,A2:=x0.A2,A7:=x0.A7,C0:=x0.C0,A9:=x0.A9}) (.lv (Qe4 {A1:=x0.A1,A2:=x0.A2,A7:=x0.A7,C0:=x0.C0,A9:=x0.A9}) λ(x2:df)=>.lf ({A1:=x2.A1,A2:=x2.A2,A7:=x2.A7,C0:=x2.C0,A9:=x2.A9},true))) (.lf (x0,true))) (.lf (x0,true))) (.br (a.C2==3) (.an (Qhe {A1:=x0.A1,A2:=x0.A2,A7:=x0.A7,C0:=x0.C0,A9:=x0.A9} a.N) (.lv (Qon {A1:=x0.A1,A2:=x0.A2,A7:=x0.A7,C0:=x0.C0,A9:=x0.A9} a.N) λ(x3:df)=>.lf ({A1:=x3.A1,A2:=x3.A2,A7:=x3.A7,C0:=x3.C0,A9:=x3.A9},true))) (.br (a.C2==4) (.an (Qf5 {A1:=x0.A1,A2:=x0.A2,A7:=x0.A7,C0:=x0.C0,A9:=x0.A9}) (.lv (Ql4 {A1:=x0.A1,A2:=x0.A2,A7:=x0.A7,C0:=x0.C0,A9:=x0.A9}) λ(x4:df)=>.lf ({A1:=x4.A1,A2:=x4.A2,A7:=x4.A7,C0:=x4.C0,A9:=x4.A9},true))) (.br (a.C2==5) (.an (Qdg {A1:=x0.A1,A2:=x0.A2,A7:=x0.A7,C0:=x0.C0,A9:=x0.A9} a.C0 a.N) (.lv (Qih {A1:=x0.A1,A2:=x0.A2,A7:=x0.A7,C0:=x0.C0,A9:=x0.A9} a.C0 a.N) λ(x5:df)=>.lf ({A1:=x5.A1,A2:=x5.A2,A7:=x5.A7,C0:=x5.C0,A9:=x5.A9},true))) (.br (a.C2==6) (.an (Qau {A1:=x0.A1,A2:=x0.A2,A7:=x0.A7,C0:=x0.C0,A9:=x0.A9} a.C0 a.N) (.lv (Qg5 {A1:=x0.A1,A2:=x0.A2,A7:=x0.A7,C0:=x0.C0,A9:=x0.A9} a.C0 a.N) λ(x6:fi×Bool×df)=>.lf ({A1:=x6.2.2.A1,A2:=x6.2.2.A2,A7:=x6.2.2.A7,C0:=x6.2.2.C0,A9:=x6.2.2.A9},true))) (.br (a.C2==7) (.an (Qdx {A1:=x0.A1,A2:=x0.A2,A7:=x0.A7,C0:=x0.C0,A9:=x0.A9} a.C0 a.N) (.lv (Qkz {A1:=x0.A1,A2:=x0.A2,A7:=x0.A7,C0:=x0.C0,A9:=x0.A9} a.C0 a.N) λ(x7:df)=>.lf ({A1:=x7.A1,A2:=x7.A2,A7:=x7.A7,C0:=x7.C0,A9:=x7.A9},true))) (.br (a.C2==8) (.an (Qip x0) (.lv (Qq9 x0) λ(x8:Bool)=>.br x8 (.an (Qdj {A1:=x0.A1,A2:=x0.A2,A7:=x0.A7,C0:=x0.C0,A9:=x0.A9} 1) (.lv (Qik {A1:=x0.A1,A2:=x0.A2,A7:=x0.A7,C0:=x0.C0,A9:=x0.A9} 1) λ(x9:Bool×df)=>.br x9.1 (let E1:=({B4:={X:={a0:=0,a1:=0,a2:=0,a3:=0,a4:=0,a5:=0,a6:=0,a7:=0,a8:=0,a9:=0,kO:=0,kP:=0,a12:=0,kQ:=0,kR:=0,kS:=0},Pc:=0,C3:={a0:=0,a1:=0,a2:=0,a3:=0,a4:=0,a5:=0,a6:=0,a7:=0}},Mem:=[],B1:={D9:=[]},B8:={F1:=false,D3:=0,E0:=false},B7:={ab:=0,C8:=0,Frame:=0,C9:=0,F5:=0,C5:=0,C6:=0,C7:=[]},D4:={Frame:=0,F6:=0,D1:=false,D2:=0,C4:=false,F9:=0},A6:={A2:=0,D0:=0},B6:=0,B2:=false,B5:=false}:bg);.an (FZ x9.2 true {C2:=3,B9:=0,Frame:=0,F0:=[],A0:=E1,A3:=[]}) (.lv (FY x9.2 true {C2:=3,B9:=0,Frame:=0,F0:=[],A0:=E1,A3:=[]}) λ(lI:df)=>.lf ({A1:=lI.A1,A2:=lI.A2,A7:=lI.A7,C0:=lI.C0,A9:=lI.A9},true))) (.lf ({A1:=x9.2.A1,A2:=x9.2.A2,A7:=x9.2.A7,C0:=x9.2.C0,A9:=x9.2.A9},true)))) (.lf (x0,true)))) (.br (a.C2==9) (.an (Qer {A1:=x0.A1,A2:=x0.A2,A7:=x0.A7,C0:=x0.C0,A9:=x0.A9}) (.lv (Qkc {A1:=x0.A1,A2:=x0.A2,A7:=x0.A7,C0:=x0.C0,A9:=x0.A9}) λ(mu:df)=>.lf ({A1:=mu.A1,A2:=mu.A2,A7:=mu.A7,C0:=mu.C0,A9:=mu.A9},true))) (.br (a.C2==10) (.lv (Qmw {A1:=x0.A1,A2:=x0.A2,A7:=x0.A7,C0:=x0.C0,A9:=x0.A9} a.C0) λ(ot:df)=>.lf ({A1:=ot.A1,A2:=ot.A2,A7:=ot.A7,C0:=ot.C0,A9:=ot.A9},true)) (.lf (x0,false))))))))))))
def Z2e g a:=(PI g a).m
abbrev Qnc g a:=(PI g a).p
def Zl9:bb:=mT 16 [] false [.agg dv.sig,.agg kT.sig] [] (λa r=>PI (dv.of (aC a 0)) (kT.of (aC a 1))) (λX=>.dw [.agg (dv.cq (X.1) (.sl 1 (.ints .u32 X.1.A1.A0.Mem) false) (.sl 1 (.ag X.1.A1.B3.B0) false) (.all 0) (.sl 1 (.ints .i64 X.1.A1.C1) false) (.sl 1 (.ints .u32 X.1.A2.A0.Mem) false) (.sl 1 (.ag X.1.A2.B3.B0) false) (.all 1) (.sl 1 (.ints .i64 X.1.A2.C1) false) (.all 2) (.all 3) (.sl 1 (.ah .str X.1.A9.ab) false)),.bool (X.2)]) (λX=>[⟨false,3,1,.ints .i64 (X.1).A1.A3⟩,⟨false,3,1,.ints .i64 (X.1).A2.A3⟩,⟨false,80,54,.ah .aa (X.1).A7⟩,⟨false,80,54,.ah .aa (X.1).C0⟩])
theorem Qyz:bj pG Zl9:=oT (.cons Qmh (.cons Qwq (.cons Qhn (.cons Qvb (.cons Qqz (.cons Qp1 (.cons Qio (.cons Qr6 (.cons Qw5 (.cons Qot (.cons SK (.cons Qrj (.cons Qtd (.nil)))))))))))))) Tryz.func16 Tryz.call16 [.sl (.ints .u32) false,.sl (.ag) false,.row 3 1 (.ints .i64),.sl (.ints .i64) false,.sl (.ints .u32) false,.sl (.ag) false,.row 3 1 (.ints .i64),.sl (.ints .i64) false,.row 80 54 (.ah .aa),.row 80 54 (.ah .aa),.sl (.ah .str) false] [] 2 (jy:=nofun)
def YU(g:dv)(l:List kT)(z:(Int)×dv):Nat:=(l.length-z.1).toNat
def PS(g:dv)(l:List kT):Tree dv:=
.an (Qd2 g) (.lv (Qkn g) λ(x0:dv)=>.lp inferInstance (YU g l (0,x0)+1) ((rZ/\rZ/\nR RK.bw 4 l/\rE ((l.length:Int):Int)/\rE (0:Int)/\True)/\(rE x0.A1.A4/\mE x0.A1.A0 (((ai.Nil (ai.ints u32 x0.A1.A0.Mem)\/rE (1:Nat))/\rE x0.A1.A0.Mem)) (((ai.Nil (ai.ag x0.A1.B3.B0)\/rE (1:Nat))/\rE x0.A1.B3.B0)/\rE x0.A1.B3.B9/\rE x0.A1.B3.D7/\True/\((ai.Nil (ai.ints i64 x0.A1.C1)\/rE (1:Nat))/\rE x0.A1.C1)/\rE x0.A1.D5/\rE x0.A2.A4/\mE x0.A2.A0 (((ai.Nil (ai.ints u32 x0.A2.A0.Mem)\/rE (1:Nat))/\rE x0.A2.A0.Mem)) (((ai.Nil (ai.ag x0.A2.B3.B0)\/rE (1:Nat))/\rE x0.A2.B3.B0)/\rE x0.A2.B3.B9/\rE x0.A2.B3.D7/\True/\((ai.Nil (ai.ints i64 x0.A2.C1)\/rE (1:Nat))/\rE x0.A2.C1)/\rE x0.A2.D5/\True/\True/\((ai.Nil (ai.ah RK.str x0.A9.ab)\/rE (1:Nat))/\rE x0.A9.ab)/\rE x0.A9.D5/\rE x0.A9.D6/\True)))/\rE x0.A1.A3/\rE x0.A2.A3/\rE x0.A7/\rE x0.C0/\(rE (0:Int)/\mE zM True (True/\rE (0:Int)/\rE (0:Int)/\True/\True/\rE (0:Int)/\rE (0:Int)/\mE zM True (True/\rE (0:Int)/\rE (0:Int)/\True/\True/\rE (0:Int)/\True/\True/\True/\rE (0:Int)/\rE (0:Int)/\True)))/\True) (0,x0) λ(v0:Int×dv)=>.br (decide (v0.1<(l.length:Int))) (.cn (bX 4 4&&bN 0 4&&decide (0<=v0.1/\v0.1<(l.length:Int))) (.br (v0.1==200) (.lf (Sum.inr v0.2)) (let E1:=l.getD v0.1.toNat (RK.dx RK.bw);.an (Qnc v0.2 E1) (.lv (Z2e v0.2 E1) λ(x1:dv×Bool)=>.nx ((rZ/\rZ/\nR RK.bw 4 l/\rE ((l.length:Int):Int)/\rE ((wrap i64 (v0.1+1)):Int)/\True)/\(rE x1.1.A1.A4/\mE x1.1.A1.A0 (((ai.Nil (ai.ints u32 x1.1.A1.A0.Mem)\/ki Nat 1 1)/\rE x1.1.A1.A0.Mem)) (((ai.Nil (ai.ag x1.1.A1.B3.B0)\/ki Nat 1 1)/\rE x1.1.A1.B3.B0)/\rE x1.1.A1.B3.B9/\rE x1.1.A1.B3.D7/\True/\((ai.Nil (ai.ints i64 x1.1.A1.C1)\/ki Nat 1 1)/\rE x1.1.A1.C1)/\rE x1.1.A1.D5/\rE x1.1.A2.A4/\mE x1.1.A2.A0 (((ai.Nil (ai.ints u32 x1.1.A2.A0.Mem)\/ki Nat 1 1)/\rE x1.1.A2.A0.Mem)) (((ai.Nil (ai.ag x1.1.A2.B3.B0)\/ki Nat 1 1)/\rE x1.1.A2.B3.B0)/\rE x1.1.A2.B3.B9/\rE x1.1.A2.B3.D7/\True/\((ai.Nil (ai.ints i64 x1.1.A2.C1)\/ki Nat 1 1)/\rE x1.1.A2.C1)/\rE x1.1.A2.D5/\True/\True/\((ai.Nil (ai.ah RK.str x1.1.A9.ab)\/ki Nat 1 1)/\rE x1.1.A9.ab)/\rE x1.1.A9.D5/\rE x1.1.A9.D6/\True)))/\rE x1.1.A1.A3/\rE x1.1.A2.A3/\rE x1.1.A7/\rE x1.1.C0/\(rE (0:Int)/\mE zM True (True/\rE (0:Int)/\rE (0:Int)/\True/\True/\rE (0:Int)/\rE (0:Int)/\mE zM True (True/\rE (0:Int)/\rE (0:Int)/\True/\True/\rE (0:Int)/\True/\True/\True/\rE (0:Int)/\rE (0:Int)/\True)))/\True) (Sum.inl (wrap i64 (v0.1+1),x1.1)))))) (.lf (Sum.inr v0.2)))
def Z6g g l:=(PS g l).m
abbrev Qs5 g l:=(PS g l).p
def Zaj:bu:={
 α:=(Int)×dv
 F:=λst a=>([(2,.ptr 0 0 0),(4,.ptr 5 0 0),(9,(lk st 9)),(10,(lk st 10)),(11,.int i64 a.1)],[⟨true,54,117,.gen [[.int i64 a.2.A1.A4,.int u32 a.2.A1.A0.B4.X.a0,.int u32 a.2.A1.A0.B4.X.a1,.int u32 a.2.A1.A0.B4.X.a2,.int u32 a.2.A1.A0.B4.X.a3,.int u32 a.2.A1.A0.B4.X.a4,.int u32 a.2.A1.A0.B4.X.a5,.int u32 a.2.A1.A0.B4.X.a6,.int u32 a.2.A1.A0.B4.X.a7,.int u32 a.2.A1.A0.B4.X.a8,.int u32 a.2.A1.A0.B4.X.a9,.int u32 a.2.A1.A0.B4.X.kO,.int u32 a.2.A1.A0.B4.X.kP,.int u32 a.2.A1.A0.B4.X.a12,.int u32 a.2.A1.A0.B4.X.kQ,.int u32 a.2.A1.A0.B4.X.kR,.int u32 a.2.A1.A0.B4.X.kS,.int u32 a.2.A1.A0.B4.Pc,.int u32 a.2.A1.A0.B4.C3.a0,.int u32 a.2.A1.A0.B4.C3.a1,.int u32 a.2.A1.A0.B4.C3.a2,.int u32 a.2.A1.A0.B4.C3.a3,.int u32 a.2.A1.A0.B4.C3.a4,.int u32 a.2.A1.A0.B4.C3.a5,.int u32 a.2.A1.A0.B4.C3.a6,.int u32 a.2.A1.A0.B4.C3.a7,.sl 1 (.ints u32 a.2.A1.A0.Mem) false,.str a.2.A1.A0.B1.D9,.bool a.2.A1.A0.B8.F1,.int u32 a.2.A1.A0.B8.D3,.bool a.2.A1.A0.B8.E0,.int u32 a.2.A1.A0.B7.ab,.int u32 a.2.A1.A0.B7.C8,.int u32 a.2.A1.A0.B7.Frame,.int i64 a.2.A1.A0.B7.C9,.int i64 a.2.A1.A0.B7.F5,.int u32 a.2.A1.A0.B7.C5,.int u32 a.2.A1.A0.B7.C6,.str a.2.A1.A0.B7.C7,.int u32 a.2.A1.A0.D4.Frame,.int u32 a.2.A1.A0.D4.F6,.bool a.2.A1.A0.D4.D1,.int u32 a.2.A1.A0.D4.D2,.bool a.2.A1.A0.D4.C4,.int u32 a.2.A1.A0.D4.F9,.int u32 a.2.A1.A0.A6.A2,.int u32 a.2.A1.A0.A6.D0,.int u64 a.2.A1.A0.B6,.bool a.2.A1.A0.B2,.bool a.2.A1.A0.B5,.sl 1 (.ag a.2.A1.B3.B0) false,.int i64 a.2.A1.B3.B9,.int i64 a.2.A1.B3.D7,.all 1,.sl 1 (.ints i64 a.2.A1.C1) false,.int u64 a.2.A1.D5,.int i64 a.2.A2.A4,.int u32 a.2.A2.A0.B4.X.a0,.int u32 a.2.A2.A0.B4.X.a1,.int u32 a.2.A2.A0.B4.X.a2,.int u32 a.2.A2.A0.B4.X.a3,.int u32 a.2.A2.A0.B4.X.a4,.int u32 a.2.A2.A0.B4.X.a5,.int u32 a.2.A2.A0.B4.X.a6,.int u32 a.2.A2.A0.B4.X.a7,.int u32 a.2.A2.A0.B4.X.a8,.int u32 a.2.A2.A0.B4.X.a9,.int u32 a.2.A2.A0.B4.X.kO,.int u32 a.2.A2.A0.B4.X.kP,.int u32 a.2.A2.A0.B4.X.a12,.int u32 a.2.A2.A0.B4.X.kQ,.int u32 a.2.A2.A0.B4.X.kR,.int u32 a.2.A2.A0.B4.X.kS,.int u32 a.2.A2.A0.B4.Pc,.int u32 a.2.A2.A0.B4.C3.a0,.int u32 a.2.A2.A0.B4.C3.a1,.int u32 a.2.A2.A0.B4.C3.a2,.int u32 a.2.A2.A0.B4.C3.a3,.int u32 a.2.A2.A0.B4.C3.a4,.int u32 a.2.A2.A0.B4.C3.a5,.int u32 a.2.A2.A0.B4.C3.a6,.int u32 a.2.A2.A0.B4.C3.a7,.sl 1 (.ints u32 a.2.A2.A0.Mem) false,.str a.2.A2.A0.B1.D9,.bool a.2.A2.A0.B8.F1,.int u32 a.2.A2.A0.B8.D3,.bool a.2.A2.A0.B8.E0,.int u32 a.2.A2.A0.B7.ab,.int u32 a.2.A2.A0.B7.C8,.int u32 a.2.A2.A0.B7.Frame,.int i64 a.2.A2.A0.B7.C9,.int i64 a.2.A2.A0.B7.F5,.int u32 a.2.A2.A0.B7.C5,.int u32 a.2.A2.A0.B7.C6,.str a.2.A2.A0.B7.C7,.int u32 a.2.A2.A0.D4.Frame,.int u32 a.2.A2.A0.D4.F6,.bool a.2.A2.A0.D4.D1,.int u32 a.2.A2.A0.D4.D2,.bool a.2.A2.A0.D4.C4,.int u32 a.2.A2.A0.D4.F9,.int u32 a.2.A2.A0.A6.A2,.int u32 a.2.A2.A0.A6.D0,.int u64 a.2.A2.A0.B6,.bool a.2.A2.A0.B2,.bool a.2.A2.A0.B5,.sl 1 (.ag a.2.A2.B3.B0) false,.int i64 a.2.A2.B3.B9,.int i64 a.2.A2.B3.D7,.all 2,.sl 1 (.ints i64 a.2.A2.C1) false,.int u64 a.2.A2.D5,.all 3,.all 4,.sl 1 (.ah RK.str a.2.A9.ab) false,.int u64 a.2.A9.D5,.int i64 a.2.A9.D6]]⟩,⟨false,3,1,.ints i64 a.2.A1.A3⟩,⟨false,3,1,.ints i64 a.2.A2.A3⟩,⟨false,80,54,.ah RK.aa a.2.A7⟩,⟨false,80,54,.ah RK.aa a.2.C0⟩,⟨true,54,117,.gen [[(cT st 4 0),(cT st 4 1),(cT st 4 2),(cT st 4 3),(cT st 4 4),(cT st 4 5),(cT st 4 6),(cT st 4 7),(cT st 4 8),(cT st 4 9),(cT st 4 10),(cT st 4 11),(cT st 4 12),(cT st 4 13),(cT st 4 14),(cT st 4 15),(cT st 4 16),(cT st 4 17),(cT st 4 18),(cT st 4 19),(cT st 4 20),(cT st 4 21),(cT st 4 22),(cT st 4 23),(cT st 4 24),(cT st 4 25),(cT st 4 26),(cT st 4 27),(cT st 4 28),(cT st 4 29),(cT st 4 30),(cT st 4 31),(cT st 4 32),(cT st 4 33),(cT st 4 34),(cT st 4 35),(cT st 4 36),(cT st 4 37),(cT st 4 38),(cT st 4 39),(cT st 4 40),(cT st 4 41),(cT st 4 42),(cT st 4 43),(cT st 4 44),(cT st 4 45),(cT st 4 46),(cT st 4 47),(cT st 4 48),(cT st 4 49),(cT st 4 50),(cT st 4 51),(cT st 4 52),(cT st 4 53),(cT st 4 54),(cT st 4 55),(cT st 4 56),(cT st 4 57),(cT st 4 58),(cT st 4 59),(cT st 4 60),(cT st 4 61),(cT st 4 62),(cT st 4 63),(cT st 4 64),(cT st 4 65),(cT st 4 66),(cT st 4 67),(cT st 4 68),(cT st 4 69),(cT st 4 70),(cT st 4 71),(cT st 4 72),(cT st 4 73),(cT st 4 74),(cT st 4 75),(cT st 4 76),(cT st 4 77),(cT st 4 78),(cT st 4 79),(cT st 4 80),(cT st 4 81),(cT st 4 82),(cT st 4 83),(cT st 4 84),(cT st 4 85),(cT st 4 86),(cT st 4 87),(cT st 4 88),(cT st 4 89),(cT st 4 90),(cT st 4 91),(cT st 4 92),(cT st 4 93),(cT st 4 94),(cT st 4 95),(cT st 4 96),(cT st 4 97),(cT st 4 98),(cT st 4 99),(cT st 4 100),(cT st 4 101),(cT st 4 102),(cT st 4 103),(cT st 4 104),(cT st 4 105),(cT st 4 106),(cT st 4 107),(cT st 4 108),(cT st 4 109),(cT st 4 110),(cT st 4 111),(cT st 4 112),(cT st 4 113),(cT st 4 114),(cT st 4 115),(cT st 4 116)]]⟩])
 a0:=λst=>((lk st 11).toInt,(⟨(⟨(cT st 2 0).toInt,(⟨(⟨(⟨(cT st 2 1).toInt,(cT st 2 2).toInt,(cT st 2 3).toInt,(cT st 2 4).toInt,(cT st 2 5).toInt,(cT st 2 6).toInt,(cT st 2 7).toInt,(cT st 2 8).toInt,(cT st 2 9).toInt,(cT st 2 10).toInt,(cT st 2 11).toInt,(cT st 2 12).toInt,(cT st 2 13).toInt,(cT st 2 14).toInt,(cT st 2 15).toInt,(cT st 2 16).toInt⟩:(iI Int)),(cT st 2 17).toInt,(⟨(cT st 2 18).toInt,(cT st 2 19).toInt,(cT st 2 20).toInt,(cT st 2 21).toInt,(cT st 2 22).toInt,(cT st 2 23).toInt,(cT st 2 24).toInt,(cT st 2 25).toInt⟩:(A8 Int))⟩:bq),(cj u32 (cT st 2 26)),(⟨(cT st 2 27).toStr⟩:iV),(⟨(cT st 2 28).toBool,(cT st 2 29).toInt,(cT st 2 30).toBool⟩:jc),(⟨(cT st 2 31).toInt,(cT st 2 32).toInt,(cT st 2 33).toInt,(cT st 2 34).toInt,(cT st 2 35).toInt,(cT st 2 36).toInt,(cT st 2 37).toInt,(cT st 2 38).toStr⟩:gh),(⟨(cT st 2 39).toInt,(cT st 2 40).toInt,(cT st 2 41).toBool,(cT st 2 42).toInt,(cT st 2 43).toBool,(cT st 2 44).toInt⟩:ik),(⟨(cT st 2 45).toInt,(cT st 2 46).toInt⟩:gx),(cT st 2 47).toInt,(cT st 2 48).toBool,(cT st 2 49).toBool⟩:bg),(⟨(ey (cT st 2 50)),(cT st 2 51).toInt,(cT st 2 52).toInt⟩:fu),(pZ st.rows (jM (cT st 2 53) 1000000)),(cj i64 (cT st 2 54)),(cT st 2 55).toInt⟩:ia),(⟨(cT st 2 56).toInt,(⟨(⟨(⟨(cT st 2 57).toInt,(cT st 2 58).toInt,(cT st 2 59).toInt,(cT st 2 60).toInt,(cT st 2 61).toInt,(cT st 2 62).toInt,(cT st 2 63).toInt,(cT st 2 64).toInt,(cT st 2 65).toInt,(cT st 2 66).toInt,(cT st 2 67).toInt,(cT st 2 68).toInt,(cT st 2 69).toInt,(cT st 2 70).toInt,(cT st 2 71).toInt,(cT st 2 72).toInt⟩:(iI Int)),(cT st 2 73).toInt,(⟨(cT st 2 74).toInt,(cT st 2 75).toInt,(cT st 2 76).toInt,(cT st 2 77).toInt,(cT st 2 78).toInt,(cT st 2 79).toInt,(cT st 2 80).toInt,(cT st 2 81).toInt⟩:(A8 Int))⟩:bq),(cj u32 (cT st 2 82)),(⟨(cT st 2 83).toStr⟩:iV),(⟨(cT st 2 84).toBool,(cT st 2 85).toInt,(cT st 2 86).toBool⟩:jc),(⟨(cT st 2 87).toInt,(cT st 2 88).toInt,(cT st 2 89).toInt,(cT st 2 90).toInt,(cT st 2 91).toInt,(cT st 2 92).toInt,(cT st 2 93).toInt,(cT st 2 94).toStr⟩:gh),(⟨(cT st 2 95).toInt,(cT st 2 96).toInt,(cT st 2 97).toBool,(cT st 2 98).toInt,(cT st 2 99).toBool,(cT st 2 100).toInt⟩:ik),(⟨(cT st 2 101).toInt,(cT st 2 102).toInt⟩:gx),(cT st 2 103).toInt,(cT st 2 104).toBool,(cT st 2 105).toBool⟩:bg),(⟨(ey (cT st 2 106)),(cT st 2 107).toInt,(cT st 2 108).toInt⟩:fu),(pZ st.rows (jM (cT st 2 109) 1000000)),(cj i64 (cT st 2 110)),(cT st 2 111).toInt⟩:ia),(tD RK.aa st.rows (jM (cT st 2 112) 1000000)),(tD RK.aa st.rows (jM (cT st 2 113) 1000000)),(⟨(iU RK.str (cT st 2 114)),(cT st 2 115).toInt,(cT st 2 116).toInt⟩:gj)⟩:dv))
 iZ:=λst=>[]++[(rX st 2 0),(jM (cT st 2 53) (st.rows.length+1)),(jM (cT st 2 109) (st.rows.length+2)),(jM (cT st 2 112) (st.rows.length+3)),(jM (cT st 2 113) (st.rows.length+4)),(rX st 4 5)]}
def Z5:List (Nat×bu):=[(3,Zaj)]
def Zfi:bb:=mT 27 [] false [.agg dv.sig,.one (.ah .bw)] [] (λa r=>PS (dv.of (aC a 0)) (jh .bw a 1)) (λX=>.agg (dv.cq X (.sl 1 (.ints .u32 X.A1.A0.Mem) false) (.sl 1 (.ag X.A1.B3.B0) false) (.all 0) (.sl 1 (.ints .i64 X.A1.C1) false) (.sl 1 (.ints .u32 X.A2.A0.Mem) false) (.sl 1 (.ag X.A2.B3.B0) false) (.all 1) (.sl 1 (.ints .i64 X.A2.C1) false) (.all 2) (.all 3) (.sl 1 (.ah .str X.A9.ab) false))) (λX=>[⟨false,3,1,.ints .i64 X.A1.A3⟩,⟨false,3,1,.ints .i64 X.A2.A3⟩,⟨false,80,54,.ah .aa X.A7⟩,⟨false,80,54,.ah .aa X.C0⟩])
theorem Zb4:bj pG Zfi:=oT (.cons Qmh (.cons Qyz (.nil))) Tryz.func27 Tryz.call27 [.sl (.ints .u32) false,.sl (.ag) false,.row 3 1 (.ints .i64),.sl (.ints .i64) false,.sl (.ints .u32) false,.sl (.ag) false,.row 3 1 (.ints .i64),.sl (.ints .i64) false,.row 80 54 (.ah .aa),.row 80 54 (.ah .aa),.sl (.ah .str) false] Z5 3 (jy:=nofun)
end
noncomputable section
def PN(kind:Int)(prog:List Int):Tree (dv×bg×Bool):=
.an (Qqk kind prog) (.lv (Ut kind prog) λ(x0:bg)=>.an (Qse 1) (.lv (Z8p 1) λ(x1:List (List UInt8))=>.an (Qms x1) (.lv (Qvd x1) λ(x2:gj×Bool)=>.an (Qtu x2.1 0 0) (.lv (Z7p x2.1 0 0) λ(x3:gj×Bool)=>.an (Qjs x0 x3.1) (.lv (Qwt x0 x3.1) λ(x4:dv×Bool)=>.lf (x4.1,x0,x4.2))))))
def Qzv kind prog:=(PN kind prog).m
abbrev Qo5 kind prog:=(PN kind prog).p
def Z7h:bb:=mT 12 [] false [.one (.int .i64),.one (.ints .i64)] [] (λa r=>PN (au a 0) (de .i64 a 1)) (λX=>.dw [.agg (dv.cq (X.1) (.sl 1 (.ints .u32 X.1.A1.A0.Mem) true) (.sl 1 (.ag X.1.A1.B3.B0) true) (.all 0) (.sl 1 (.ints .i64 X.1.A1.C1) true) (.sl 1 (.ints .u32 X.1.A2.A0.Mem) true) (.sl 1 (.ag X.1.A2.B3.B0) true) (.all 1) (.sl 1 (.ints .i64 X.1.A2.C1) true) (.all 2) (.all 3) (.sl 1 (.ah .str X.1.A9.ab) true)),.agg (bg.cells (X.2.1)),.bool (X.2.2)]) (λX=>[⟨false,3,1,.ints .i64 (X.1).A1.A3⟩,⟨false,3,1,.ints .i64 (X.1).A2.A3⟩,⟨false,80,54,.ah .aa (X.1).A7⟩,⟨false,80,54,.ah .aa (X.1).C0⟩])
theorem Z4t:bj pG Z7h:=oT (.cons Z6r (.cons Z0s (.cons Zbs (.cons Zck (.cons Qvf (.nil)))))) Tryz.func12 Tryz.call12 [.sl (.ints .u32) true,.sl (.ag) true,.row 3 1 (.ints .i64),.sl (.ints .i64) true,.sl (.ints .u32) true,.sl (.ag) true,.row 3 1 (.ints .i64),.sl (.ints .i64) true,.row 80 54 (.ah .aa),.row 80 54 (.ah .aa),.sl (.ah .str) true,.sl (.ints .u32) false] [] 2 (jy:=nofun)
def YW(z:(Int)×(List kT)):Nat:=(64-z.1).toNat
def PV:Tree (List kT):=
.lp inferInstance (YW (0,[{C2:=2,N:=0,C0:=false,F8:=0},{C2:=3,N:=32,C0:=false,F8:=0}])+1) ((True/\rE (0:Int)/\True)/\rE ([{C2:=2,N:=0,C0:=false,F8:=0},{C2:=3,N:=32,C0:=false,F8:=0}]:List (RK.T RK.bw))/\True) (0,[{C2:=2,N:=0,C0:=false,F8:=0},{C2:=3,N:=32,C0:=false,F8:=0}]) λ(v0:Int×List kT)=>let E1:=decide (24*(v0.2.length+1)<=140737488355328);.br (decide (v0.1<64)) (.cn E1 (.nx ((True/\rE ((wrap i64 (v0.1+1)):Int)/\True)/\rE ((v0.2++[{C2:=5,N:=0,C0:=false,F8:=0}]):List (RK.T RK.bw))/\True) (Sum.inl (wrap i64 (v0.1+1),v0.2++[{C2:=5,N:=0,C0:=false,F8:=0}])))) (.cn E1 (.lf (Sum.inr (v0.2++[{C2:=8,N:=0,C0:=false,F8:=0}]))))
def Z9b:(List kT):=(PV).m
abbrev Qt1:Prop:=(PV).p
def Zar:bu:={
 α:=(Int)×(List kT)
 F:=λst a=>([(1,.all 0),(2,.int i64 a.1)],[⟨false,61,4,.ah RK.bw a.2⟩])
 a0:=λst=>((lk st 2).toInt,(tD RK.bw st.rows (rN st 1)))
 iZ:=λst=>[]++[(rX st 1 0)]}
def Z4e:List (Nat×bu):=[(3,Zar)]
def Zhl:bb:=mT 29 [] true [] [] (λa r=>PV) (λX=>.sl 4 (.ah .bw X) true) (λX=>[])
theorem Zb9:bj pG Zhl:=oT (.nil) Tryz.func29 Tryz.call29 [.sl (.ah .bw) true] Z4e 3
def PW:Tree Bool:=
.an (Qo5 2 [0]) (.lv (Qzv 2 [0]) λ(x0:dv×bg×Bool)=>.br (!x0.2.2) (.lf false) (.lv (G5 x0.1) λ(x1:Int)=>.br (x1 !=0) (.lf false) (.an Qt1 (.lv Z9b λ(x2:List kT)=>.an (Qs5 x0.1 x2) (.lv (Z6g x0.1 x2) λ(x3:dv)=>.an (Qlf x3) (.lv (Qrw x3) λ(x4:bg×Bool)=>.an (Qnc x3 {C2:=99,N:=0,C0:=false,F8:=0}) (.lv (Z2e x3 {C2:=99,N:=0,C0:=false,F8:=0}) λ(x5:dv×Bool)=>.lv (G5 x3) λ(x6:Int)=>.br (x6==1) (.br x4.2 (.an (Qe x4.1 x0.2.1) (.lv (Qya x4.1 x0.2.1) λ(x7:Bool)=>.br x7 (.lf (!x5.2)) (.lf false))) (.lf false)) (.lf false))))))))
def G8:Bool:=(PW).m
abbrev G7:Prop:=(PW).p
def Zf2:bb:=mT 11 [] true [] [] (λa r=>PW) (λX=>.bool X) (λX=>[])
theorem Zbi:bj pG Zf2:=oT (.cons Z4t (.cons Qev (.cons Zb4 (.cons Zb9 (.cons Qyr (.cons Qyz (.cons Qt9 (.nil)))))))) Tryz.func11 Tryz.call11 [] [] 2
end
noncomputable section
def Y9(bc:Int)(z:(Int)×(List Bool)):Nat:=(bc-z.1).toNat
def QE(bc:Int):Tree (fu×Bool):=
.br (decide (bc<1)) (.lf ({B0:=[],B9:=0,D7:=0},false)) (.br (decide (bc>32)) (.lf ({B0:=[],B9:=0,D7:=0},false)) (.cn (bN 0 1&&bX 1 1&&iC [D.bool false] D.plain&&decide (0<=bc/\bc<=bc/\bc<=9223372036854775807/\(↑1:Int)*bc<=140737488355328)) (.lp inferInstance (Y9 bc (0,cO bc.toNat false)+1) ((rE (bc:Int)/\rZ/\rZ/\rE (0:Int)/\True)/\(True/\rE (0:Int)/\rE (0:Int)/\True)/\(True/\rE (0:Int)/\rE (0:Int)/\True)/\rE ((cO bc.toNat false):List Bool)/\True) (0,cO bc.toNat false) λ(v0:Int×List Bool)=>.br (decide (v0.1<bc)) (.cn (bX 1 1&&bN 0 1&&decide (0<=v0.1/\v0.1<(v0.2.length:Int))) (.nx ((rE (bc:Int)/\rZ/\rZ/\rE ((wrap i64 (v0.1+1)):Int)/\True)/\(True/\rE (0:Int)/\rE (0:Int)/\True)/\(True/\rE (0:Int)/\rE (0:Int)/\True)/\rE ((dB v0.2 v0.1.toNat true):List Bool)/\True) (Sum.inl (wrap i64 (v0.1+1),dB v0.2 v0.1.toNat true)))) (.lf (Sum.inr ({B0:=v0.2,B9:=0,D7:=0},true))))))
def Qx6 bc:=(QE bc).m
abbrev Ql6 bc:=(QE bc).p
def Zav:bu:={
 α:=(Int)×(List Bool)
 F:=λst a=>([(0,(lk st 0)),(2,.ptr 0 0 0),(4,.ptr 1 0 0),(5,.int i64 a.1)],[⟨true,46,3,.gen [[(cT st 2 0),(cT st 2 1),(cT st 2 2)]]⟩,⟨true,46,3,.gen [[.all 2,(cT st 4 1),(cT st 4 2)]]⟩,⟨false,4,1,.ag a.2⟩])
 a0:=λst=>((lk st 5).toInt,(W6 st.rows (jM (cT st 4 0) 1000000)))
 iZ:=λst=>[]++[(rX st 2 0),(rX st 4 1),(jM (cT st 4 0) (st.rows.length+2))]}
def Z4:List (Nat×bu):=[(5,Zav)]
def Zfm:bb:=mT 37 [] true [.one (.int .i64)] [] (λa r=>QE (au a 0)) (λX=>.dw [.agg (fu.cq (X.1) (.all 0)),.bool (X.2)]) (λX=>[⟨false,4,1,.ag (X.1).B0⟩])
theorem Zb1:bj pG Zfm:=oT (.nil) Tryz.func37 Tryz.call37 [.row 4 1 (.ag)] Z4 3
def Qij(a:List Bool)(b:List Bool)(z:(Int)):Prop:=0<=z/\z<=a.length/\a.length=b.length
def P5(a:List Bool)(b:List Bool)(z:(Int)):Nat:=(a.length-z).toNat
def Mq(a:List Bool)(b:List Bool):Tree Bool:=
.br ((a.length:Int) !=(b.length:Int)) (.lf false) (.lp inferInstance (P5 a b 0+1) ((((ai.Nil (ai.ag a)\/rE (1:Nat))/\rE (a:List Bool))/\((ai.Nil (ai.ag b)\/rE (1:Nat))/\rE (b:List Bool))/\rE (0:Int)/\True)/\True) 0 λ(v0:Int)=>.br (decide (v0<(a.length:Int))) (.cn (bX 1 1&&bN 0 1&&decide (0<=v0/\v0<(a.length:Int))) (.cn (bX 1 1&&bN 0 1&&decide (0<=v0/\v0<(b.length:Int))) (.br (!a.getD v0.toNat false==b.getD v0.toNat false) (.lf (Sum.inr false)) (.nx ((((ai.Nil (ai.ag a)\/rE (1:Nat))/\rE (a:List Bool))/\((ai.Nil (ai.ag b)\/rE (1:Nat))/\rE (b:List Bool))/\rE ((wrap i64 (v0+1)):Int)/\True)/\True) (Sum.inl (wrap i64 (v0+1))))))) (.lf (Sum.inr true)))
def Qrx a b:=(Mq a b).m
def Wj(a:List Bool)(b:List Bool):Prop:=
a.length<=1000000000000
theorem Qwf(a:List Bool)(b:List Bool)(hw:Wj a b):(Mq a b).p:=by
 simp only[Wj]at hw
 unfold Tree.p Mq
 repeat'(first|refine eu (inv:=Qij a b) (μ:=P5 a b) ?_ (cN _) (λ_ _=>?_)|exact trivial|refine ae (λ_=>?_) (λ_=>?_)|refine av ?_ ?_|refine cg ?_ ?_|refine aq (λ_ _=>?_)|refine ee ?_|refine ba ?_|refine And.intro ?_ ?_)
 all_goals((try simp only[Qij,P5]at*);exact lU)
def Qyg:bu:={
 α:=(Int)
 F:=λst a=>([(0,(lk st 0)),(1,(lk st 1)),(5,.int i64 a)],[])
 a0:=λst=>(lk st 5).toInt
 iZ:=λst=>[]++[]}
def Quz:List (Nat×bu):=[(4,Qyg)]
def Z07:bb:=kH 132 [] true [.one (.ag),.one (.ag)] [] (λa r=>Wj (na a 0) (na a 1)) (λa r=>Qrx (na a 0) (na a 1)) (λX=>.bool X) (λX=>[])
theorem Qzx:bj pG Z07:=rU drawn jt (.nil) Tryz.func132 Tryz.call132 (λa r=>Mq (na a 0) (na a 1)) [] Quz 3 (hp:=λa r h=>Qwf (na a 0) (na a 1) h)
def P9(a b:fu):Tree Bool:=
.br (a.B9==b.B9) (.br (a.D7==b.D7) (.an (Wj a.B0 b.B0) (.lv (Qrx a.B0 b.B0) λ(x0:Bool)=>.lf x0)) (.lf false)) (.lf false)
def Qvq a b:=(P9 a b).m
abbrev Qmn a b:=(P9 a b).p
def Z4d:bb:=mT 87 [] true [.agg fu.sig,.agg fu.sig] [] (λa r=>P9 (fu.of (aC a 0)) (fu.of (aC a 1))) (λX=>.bool X) (λX=>[])
theorem Z2j:bj pG Z4d:=oT (.cons Qzx (.nil)) Tryz.func87 Tryz.call87 [] [] 2
def Qme(a b:List Int)(z:(Int)):Prop:=0<=z/\z<=a.length/\a.length=b.length
def P4(a b:List Int)(z:(Int)):Nat:=(a.length-z).toNat
def Mp(a b:List Int):Tree Bool:=
.br ((a.length:Int) !=(b.length:Int)) (.lf false) (.lp inferInstance (P4 a b 0+1) ((((ai.Nil (ai.ints i64 a)\/rE (1:Nat))/\rE (a:List Int))/\((ai.Nil (ai.ints i64 b)\/rE (1:Nat))/\rE (b:List Int))/\rE (0:Int)/\True)/\True) 0 λ(v0:Int)=>.br (decide (v0<(a.length:Int))) (.cn (bX 1 1&&bN 0 1&&decide (0<=v0/\v0<(a.length:Int))) (.cn (bX 1 1&&bN 0 1&&decide (0<=v0/\v0<(b.length:Int))) (.br (a.getD v0.toNat 0 !=b.getD v0.toNat 0) (.lf (Sum.inr false)) (.nx ((((ai.Nil (ai.ints i64 a)\/rE (1:Nat))/\rE (a:List Int))/\((ai.Nil (ai.ints i64 b)\/rE (1:Nat))/\rE (b:List Int))/\rE ((wrap i64 (v0+1)):Int)/\True)/\True) (Sum.inl (wrap i64 (v0+1))))))) (.lf (Sum.inr true)))
def P8 a b:=(Mp a b).m
def Jx(a b:List Int):Prop:=
a.length<=1000000000000
theorem Z09(a b:List Int)(hw:Jx a b):(Mp a b).p:=by
 simp only[Jx]at hw
 unfold Tree.p Mp
 repeat'(first|refine eu (inv:=Qme a b) (μ:=P4 a b) ?_ (cN _) (λ_ _=>?_)|exact trivial|refine ae (λ_=>?_) (λ_=>?_)|refine av ?_ ?_|refine cg ?_ ?_|refine aq (λ_ _=>?_)|refine ee ?_|refine ba ?_|refine And.intro ?_ ?_)
 all_goals((try simp only[Qme,P4]at*);exact lU)
def Z3z:bu:={
 α:=(Int)
 F:=λst a=>([(0,(lk st 0)),(1,(lk st 1)),(5,.int i64 a)],[])
 a0:=λst=>(lk st 5).toInt
 iZ:=λst=>[]++[]}
def Qyj:List (Nat×bu):=[(4,Z3z)]
def Z7z:bb:=kH 66 [] true [.one (.ints .i64),.one (.ints .i64)] [] (λa r=>Jx (de .i64 a 0) (de .i64 a 1)) (λa r=>P8 (de .i64 a 0) (de .i64 a 1)) (λX=>.bool X) (λX=>[])
theorem Qqr:bj pG Z7z:=rU drawn jt (.nil) Tryz.func66 Tryz.call66 (λa r=>Mp (de .i64 a 0) (de .i64 a 1)) [] Qyj 3 (hp:=λa r h=>Z09 (de .i64 a 0) (de .i64 a 1) h)
def QG(m:bg)(s:gj):Tree (dv×Bool):=
.lv (rh m) λ(x0:Bool)=>let E3:=({X:={a0:=0,a1:=0,a2:=0,a3:=0,a4:=0,a5:=0,a6:=0,a7:=0,a8:=0,a9:=0,kO:=0,kP:=0,a12:=0,kQ:=0,kR:=0,kS:=0},Pc:=0,C3:={a0:=0,a1:=0,a2:=0,a3:=0,a4:=0,a5:=0,a6:=0,a7:=0}}:bq);let T1:Tree ((dv×Bool)):=let E2:=({A4:=0,A0:={B4:=E3,Mem:=[],B1:={D9:=[]},B8:={F1:=false,D3:=0,E0:=false},B7:={ab:=0,C8:=0,Frame:=0,C9:=0,F5:=0,C5:=0,C6:=0,C7:=[]},D4:={Frame:=0,F6:=0,D1:=false,D2:=0,C4:=false,F9:=0},A6:={A2:=0,D0:=0},B6:=0,B2:=false,B5:=false},B3:={B0:=[],B9:=0,D7:=0},A3:=[],C1:=[],D5:=0}:ia);.lf ({A1:=E2,A2:=E2,A7:=[],C0:=[],A9:={ab:=[],D5:=0,D6:=0}},false);.br (!x0) T1 (.an (Q7u s) (.lv (Qco s) λ(x1:Bool)=>.br (!x1) T1 (.br (s.D5==0) T1 (.lv (rL m.Mem) λ(x2:Int)=>.an (Ql6 x2) (.lv (Qx6 x2) λ(x3:fu×Bool)=>let E4:=bN 0 1&&bX 1 1&&iC [D.int i64 0] D.plain&&decide (0<=x2/\x2<=x2/\x2<=9223372036854775807/\(↑8:Int)*x2<=140737488355328);.cn E4 (.cn E4 (.an (QF x2) (.lv (Lb x2) λ(x4:List Int)=>.lf ({A1:={A4:=1,A0:=m,B3:=x3.1,A3:=cO x2.toNat 0,C1:=[],D5:=s.D5},A2:={A4:=0,A0:={B4:=E3,Mem:=x4,B1:={D9:=[]},B8:={F1:=false,D3:=0,E0:=false},B7:={ab:=0,C8:=0,Frame:=0,C9:=0,F5:=0,C5:=0,C6:=0,C7:=[]},D4:={Frame:=0,F6:=0,D1:=false,D2:=0,C4:=false,F9:=0},A6:={A2:=0,D0:=0},B6:=0,B2:=false,B5:=false},B3:={B0:=[],B9:=0,D7:=0},A3:=cO x2.toNat 0,C1:=[],D5:=s.D5},A7:=[],C0:=[],A9:=s},true)))))))))
def Qmu m s:=(QG m s).m
abbrev Qfd m s:=(QG m s).p
def Qux:bb:=mT 13 [] false [.agg bg.sig,.agg gj.sig] [] (λa r=>QG (bg.of (aC a 0)) (gj.of (aC a 1))) (λX=>.dw [.agg (dv.cq (X.1) (.sl 1 (.ints .u32 X.1.A1.A0.Mem) false) (.all 0) (.all 1) (.sl 1 (.ints .i64 X.1.A1.C1) true) (.all 2) (.sl 1 (.ag X.1.A2.B3.B0) true) (.all 3) (.sl 1 (.ints .i64 X.1.A2.C1) true) (.sl 54 (.ah .aa X.1.A7) true) (.sl 54 (.ah .aa X.1.C0) true) (.sl 1 (.ah .str X.1.A9.ab) false)),.bool (X.2)]) (λX=>[⟨false,4,1,.ag (X.1).A1.B3.B0⟩,⟨false,3,1,.ints .i64 (X.1).A1.A3⟩,⟨false,25,1,.ints .u32 (X.1).A2.A0.Mem⟩,⟨false,3,1,.ints .i64 (X.1).A2.A3⟩])
theorem Qsk:bj pG Qux:=oT (.cons Z7m (.cons Qd7 (.cons Nb (.cons Zb1 (.cons Za4 (.nil)))))) Tryz.func13 Tryz.call13 [.sl (.ints .u32) false,.row 4 1 (.ag),.row 3 1 (.ints .i64),.sl (.ints .i64) true,.row 25 1 (.ints .u32),.sl (.ag) true,.row 3 1 (.ints .i64),.sl (.ints .i64) true,.sl (.ah .aa) true,.sl (.ah .aa) true,.sl (.ah .str) false] [] 2 (jy:=nofun)
def P7(a b:ia):Tree Bool:=
.br (a.A4==b.A4) (.br (a.D5==b.D5) (.an (Qe a.A0 b.A0) (.lv (Qya a.A0 b.A0) λ(x0:Bool)=>.br x0 (.an (Qmn a.B3 b.B3) (.lv (Qvq a.B3 b.B3) λ(x1:Bool)=>.br x1 (.an (Jx a.A3 b.A3) (.lv (P8 a.A3 b.A3) λ(x2:Bool)=>.br x2 (.an (Jx a.C1 b.C1) (.lv (P8 a.C1 b.C1) λ(x3:Bool)=>.lf x3)) (.lf false))) (.lf false))) (.lf false))) (.lf false)) (.lf false)
def Qn4 a b:=(P7 a b).m
abbrev Qe0 a b:=(P7 a b).p
def Z4y:bb:=mT 39 [] true [.agg ia.sig,.agg ia.sig] [] (λa r=>P7 (ia.of (aC a 0)) (ia.of (aC a 1))) (λX=>.bool X) (λX=>[])
theorem Z04:bj pG Z4y:=oT (.cons Qt9 (.cons Z2j (.cons Qqr (.nil)))) Tryz.func39 Tryz.call39 [] [] 2
def Y5(a b:List fi)(z:(Int)):Nat:=(a.length-z).toNat
def QA(a b:List fi):Tree Bool:=
.br ((a.length:Int) !=(b.length:Int)) (.lf false) (.lp inferInstance (Y5 a b 0+1) ((nR RK.aa 54 a/\nR RK.aa 54 b/\rE (0:Int)/\True)/\True) 0 λ(v0:Int)=>.br (decide (v0<(a.length:Int))) (let E1:=bX 54 54&&bN 0 54&&decide (0<=v0/\v0<(a.length:Int));.cn E1 (let E2:=bX 54 54&&bN 0 54&&decide (0<=v0/\v0<(b.length:Int));.cn E2 (let E3:=a.getD v0.toNat (RK.dx RK.aa);let E4:=b.getD v0.toNat (RK.dx RK.aa);.br (E3.C2 !=E4.C2) (.lf (Sum.inr false)) (.cn E1 (.cn E2 (.br (E3.B9 !=E4.B9) (.lf (Sum.inr false)) (.cn E1 (.cn E2 (.br (E3.Frame !=E4.Frame) (.lf (Sum.inr false)) (.cn E1 (.cn E2 (.br (!decide (E3.F0=E4.F0)) (.lf (Sum.inr false)) (.cn E1 (.cn E2 (.an (Qe E3.A0 E4.A0) (.lv (Qya E3.A0 E4.A0) λ(x0:Bool)=>.br (!x0) (.lf (Sum.inr false)) (.cn E1 (.cn E2 (.an (Jx E3.A3 E4.A3) (.lv (P8 E3.A3 E4.A3) λ(x1:Bool)=>.br (!x1) (.lf (Sum.inr false)) (.nx ((nR RK.aa 54 a/\nR RK.aa 54 b/\rE ((wrap i64 (v0+1)):Int)/\True)/\True) (Sum.inl (wrap i64 (v0+1)))))))))))))))))))))))) (.lf (Sum.inr true)))
def Y7 a b:=(QA a b).m
abbrev Y6 a b:=(QA a b).p
def Qv3:bu:={
 α:=(Int)
 F:=λst a=>([(0,(lk st 0)),(1,(lk st 1)),(5,.int i64 a)],[])
 a0:=λst=>(lk st 5).toInt
 iZ:=λst=>[]++[]}
def Qrc:List (Nat×bu):=[(4,Qv3)]
def Qwj:bb:=mT 40 [] true [.one (.ah .aa),.one (.ah .aa)] [] (λa r=>QA (jh .aa a 0) (jh .aa a 1)) (λX=>.bool X) (λX=>[])
theorem Qv2:bj pG Qwj:=oT (.cons Qt9 (.cons Qqr (.nil))) Tryz.func40 Tryz.call40 [] Qrc 3
def QB(a b:dv):Tree Bool:=
.an (Qe0 a.A1 b.A1) (.lv (Qn4 a.A1 b.A1) λ(x0:Bool)=>.br x0 (.an (Qe0 a.A2 b.A2) (.lv (Qn4 a.A2 b.A2) λ(x1:Bool)=>.br x1 (.an (Y6 a.A7 b.A7) (.lv (Y7 a.A7 b.A7) λ(x2:Bool)=>.br x2 (.an (Y6 a.C0 b.C0) (.lv (Y7 a.C0 b.C0) λ(x3:Bool)=>.br x3 (.an (Qlm a.A9 b.A9) (.lv (Qsi a.A9 b.A9) λ(x4:Bool)=>.lf x4)) (.lf false))) (.lf false))) (.lf false))) (.lf false))
def Qlj a b:=(QB a b).m
abbrev Qet a b:=(QB a b).p
def Qsv:bb:=mT 14 [] true [.agg dv.sig,.agg dv.sig] [] (λa r=>QB (dv.of (aC a 0)) (dv.of (aC a 1))) (λX=>.bool X) (λX=>[])
theorem Qrb:bj pG Qsv:=oT (.cons Z04 (.cons Qv2 (.cons Qz9 (.nil)))) Tryz.func14 Tryz.call14 [] [] 2
def Zw(m:bg)(s:gj)(z:(Int)):Nat:=(s.ab.length-z).toNat
def QH(m:bg)(s:gj):Tree Bool:=
.br (decide ((m.Mem.length:Int)>(1100:Int))) (.an G7 (.lv G8 λ(x0:Bool)=>.lf x0)) (.br (decide ((m.B1.D9.length:Int)>(100:Int))) (.an G7 (.lv G8 λ(x1:Bool)=>.lf x1)) (.br (decide ((m.B7.C7.length:Int)>(300:Int))) (.an G7 (.lv G8 λ(x2:Bool)=>.lf x2)) (.br (decide ((s.ab.length:Int)>(100:Int))) (.an G7 (.lv G8 λ(x3:Bool)=>.lf x3)) (.lp inferInstance (Zw m s 0+1) ((rZ/\rZ/\rE (0:Int)/\True)/\(mE m (((ai.Nil (ai.ints u32 m.Mem)\/rE (1:Nat))/\rE m.Mem)) True)/\(((ai.Nil (ai.ah RK.str s.ab)\/rE (1:Nat))/\rE s.ab)/\rE s.D5/\rE s.D6/\True)/\True) 0 λ(v0:Int)=>.br (decide (v0<(s.ab.length:Int))) (.cn (bX 1 1&&bN 0 1&&decide (0<=v0/\v0<(s.ab.length:Int))) (.br (decide ((↑(dF (s.ab.getD v0.toNat (RK.dx RK.str))):Int)>(300:Int))) (.an G7 (.lv G8 λ(x4:Bool)=>.lf (Sum.inr x4))) (.nx ((rZ/\rZ/\rE ((wrap i64 (v0+1)):Int)/\True)/\(mE m (((ai.Nil (ai.ints u32 m.Mem)\/rE (1:Nat))/\rE m.Mem)) True)/\(((ai.Nil (ai.ah RK.str s.ab)\/rE (1:Nat))/\rE s.ab)/\rE s.D5/\rE s.D6/\True)/\True) (Sum.inl (wrap i64 (v0+1)))))) (.an (Qjs m s) (.lv (Qwt m s) λ(x5:dv×Bool)=>.an (Qfd m s) (.lv (Qmu m s) λ(x6:dv×Bool)=>.br (x5.2==x6.2) (.an (Qet x5.1 x6.1) (.lv (Qlj x5.1 x6.1) λ(x7:Bool)=>.br x7 (.an G7 (.lv G8 λ(x8:Bool)=>.lf (Sum.inr x8))) (.lf (Sum.inr false)))) (.lf (Sum.inr false)))))))))
def Qd1 m s:=(QH m s).m
abbrev Qox m s:=(QH m s).p
def Qr3:bu:={
 α:=(Int)
 F:=λst a=>([(2,.ptr 0 0 0),(3,.ptr 1 0 0),(5,.int i64 a)],[⟨true,43,49,.gen [mB (cT st 2)]⟩,⟨true,52,3,.gen [[(cT st 3 0),(cT st 3 1),(cT st 3 2)]]⟩])
 a0:=λst=>(lk st 5).toInt
 iZ:=λst=>[]++[(rX st 2 0),(rX st 3 1)]}
def Qnk:List (Nat×bu):=[(4,Qr3)]
def Qsd:bb:=mT 4 [] true [.agg bg.sig,.agg gj.sig] [] (λa r=>QH (bg.of (aC a 0)) (gj.of (aC a 1))) (λX=>.bool X) (λX=>[])
theorem Qr9:bj pG Qsd:=oT (.cons Zbi (.cons Qvf (.cons Qsk (.cons Qrb (.nil))))) Tryz.func4 Tryz.call4 [] Qnk 3

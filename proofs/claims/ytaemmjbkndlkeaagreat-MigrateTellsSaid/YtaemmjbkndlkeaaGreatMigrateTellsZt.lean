import Derived.Test.YtaemmjbkndlkeaaGreatMigrateTellsZd
import Derived.Test.YtaemmjbkndlkeaaGreatMigrateTellsZx
import Derived.Test.YtaemmjbkndlkeaaGreatMigrateTellsDel
open Nat renaming beq->bX,blt->bN,lt_succ_self->cN
open List renaming getD->aV,length->dF,append->cP,take->cU,drop->cV,all->iP,replicate->cO,set->dB
open Int renaming toNat->dA,tmod->cZ,NonNeg->fS
set_option maxRecDepth 100000
set_option linter.all false
namespace Go.Proofs.YtaemmjbkndlkeaaGreat
open Go Go.GD Go.IntKind
noncomputable section
abbrev XO(q:fm):Prop:=(rE q.A1.A4/\mE q.A1.A0 (((ag.Nil (ag.ints u32 q.A1.A0.Mem)\/fp Nat 1 1)/\rE q.A1.A0.Mem)) (((ag.Nil (ag.ah q.A1.B1.A6)\/fp Nat 1 1)/\rE q.A1.B1.A6)/\rE q.A1.B1.B5/\rE q.A1.B1.D6/\True/\((ag.Nil (ag.ints i64 q.A1.B7)\/fp Nat 1 1)/\rE q.A1.B7)/\rE q.A1.D3/\rE q.A2.A4/\mE q.A2.A0 (((ag.Nil (ag.ints u32 q.A2.A0.Mem)\/fp Nat 1 1)/\rE q.A2.A0.Mem)) (((ag.Nil (ag.ah q.A2.B1.A6)\/fp Nat 1 1)/\rE q.A2.B1.A6)/\rE q.A2.B1.B5/\rE q.A2.B1.D6/\True/\((ag.Nil (ag.ints i64 q.A2.B7)\/fp Nat 1 1)/\rE q.A2.B7)/\rE q.A2.D3/\True/\True/\((ag.Nil (ag.ao RK.str q.A9.ab)\/fp Nat 1 1)/\rE q.A9.ab)/\rE q.A9.D3/\rE q.A9.D7/\True)))
abbrev T8(q:fm):Prop:=(rE q.A1.A4/\mE q.A1.A0 (((ag.Nil (ag.ints u32 q.A1.A0.Mem)\/rE (1:Nat))/\rE q.A1.A0.Mem)) (((ag.Nil (ag.ah q.A1.B1.A6)\/rE (1:Nat))/\rE q.A1.B1.A6)/\rE q.A1.B1.B5/\rE q.A1.B1.D6/\True/\((ag.Nil (ag.ints i64 q.A1.B7)\/rE (1:Nat))/\rE q.A1.B7)/\rE q.A1.D3/\rE q.A2.A4/\mE q.A2.A0 (((ag.Nil (ag.ints u32 q.A2.A0.Mem)\/rE (1:Nat))/\rE q.A2.A0.Mem)) (((ag.Nil (ag.ah q.A2.B1.A6)\/rE (1:Nat))/\rE q.A2.B1.A6)/\rE q.A2.B1.B5/\rE q.A2.B1.D6/\True/\((ag.Nil (ag.ints i64 q.A2.B7)\/rE (1:Nat))/\rE q.A2.B7)/\rE q.A2.D3/\True/\True/\((ag.Nil (ag.ao RK.str q.A9.ab)\/rE (1:Nat))/\rE q.A9.ab)/\rE q.A9.D3/\rE q.A9.D7/\True)))
abbrev gE2(q:cj):Prop:=(rE q.A1.A4/\mE q.A1.A0 (((ag.Nil (ag.ints u32 q.A1.A0.Mem)\/rE (1:Nat))/\rE q.A1.A0.Mem)) (((ag.Nil (ag.ah q.A1.B1.A6)\/rE (1:Nat))/\rE q.A1.B1.A6)/\rE q.A1.B1.B5/\rE q.A1.B1.D6/\True/\((ag.Nil (ag.ints i64 q.A1.B7)\/rE (1:Nat))/\rE q.A1.B7)/\rE q.A1.D3/\rE q.A2.A4/\mE q.A2.A0 (((ag.Nil (ag.ints u32 q.A2.A0.Mem)\/rE (1:Nat))/\rE q.A2.A0.Mem)) (((ag.Nil (ag.ah q.A2.B1.A6)\/rE (1:Nat))/\rE q.A2.B1.A6)/\rE q.A2.B1.B5/\rE q.A2.B1.D6/\True/\((ag.Nil (ag.ints i64 q.A2.B7)\/rE (1:Nat))/\rE q.A2.B7)/\rE q.A2.D3/\True/\True/\((ag.Nil (ag.ao RK.str q.A9.ab)\/rE (1:Nat))/\rE q.A9.ab)/\rE q.A9.D3/\rE q.A9.D7/\True)))
abbrev gE3(q:cj):Prop:=(rE q.A1.A4/\mE q.A1.A0 (((ag.Nil (ag.ints u32 q.A1.A0.Mem)\/fp Nat 1 1)/\rE q.A1.A0.Mem)) (((ag.Nil (ag.ah q.A1.B1.A6)\/fp Nat 1 1)/\rE q.A1.B1.A6)/\rE q.A1.B1.B5/\rE q.A1.B1.D6/\True/\((ag.Nil (ag.ints i64 q.A1.B7)\/fp Nat 1 1)/\rE q.A1.B7)/\rE q.A1.D3/\rE q.A2.A4/\mE q.A2.A0 (((ag.Nil (ag.ints u32 q.A2.A0.Mem)\/fp Nat 1 1)/\rE q.A2.A0.Mem)) (((ag.Nil (ag.ah q.A2.B1.A6)\/fp Nat 1 1)/\rE q.A2.B1.A6)/\rE q.A2.B1.B5/\rE q.A2.B1.D6/\True/\((ag.Nil (ag.ints i64 q.A2.B7)\/fp Nat 1 1)/\rE q.A2.B7)/\rE q.A2.D3/\True/\True/\((ag.Nil (ag.ao RK.str q.A9.ab)\/fp Nat 1 1)/\rE q.A9.ab)/\rE q.A9.D3/\rE q.A9.D7/\True)))
abbrev gE4(q:cj):Prop:=(rE q.A1.A4/\mE q.A1.A0 (((ag.Nil (ag.ints u32 q.A1.A0.Mem)\/rE (1:Nat))/\rE q.A1.A0.Mem)) (((ag.Nil (ag.ah q.A1.B1.A6)\/rE (1:Nat))/\rE q.A1.B1.A6)/\rE q.A1.B1.B5/\rE q.A1.B1.D6/\((ag.Nil (ag.ints i64 q.A1.A3)\/rE (1:Nat))/\rE q.A1.A3)/\((ag.Nil (ag.ints i64 q.A1.B7)\/rE (1:Nat))/\rE q.A1.B7)/\rE q.A1.D3/\rE q.A2.A4/\mE q.A2.A0 (((ag.Nil (ag.ints u32 q.A2.A0.Mem)\/rE (1:Nat))/\rE q.A2.A0.Mem)) (((ag.Nil (ag.ah q.A2.B1.A6)\/rE (1:Nat))/\rE q.A2.B1.A6)/\rE q.A2.B1.B5/\rE q.A2.B1.D6/\((ag.Nil (ag.ints i64 q.A2.A3)\/rE (1:Nat))/\rE q.A2.A3)/\((ag.Nil (ag.ints i64 q.A2.B7)\/rE (1:Nat))/\rE q.A2.B7)/\rE q.A2.D3/\((ag.Nil (ag.ao RK.ae q.A7)\/rE (54:Nat))/\rE q.A7)/\((ag.Nil (ag.ao RK.ae q.C0)\/rE (54:Nat))/\rE q.C0)/\((ag.Nil (ag.ao RK.str q.A9.ab)\/rE (1:Nat))/\rE q.A9.ab)/\rE q.A9.D3/\rE q.A9.D7/\True)))
abbrev gE5(q:cj):Prop:=(rE q.A1.A4/\mE q.A1.A0 (((ag.Nil (ag.ints u32 q.A1.A0.Mem)\/fp Nat 1 1)/\rE q.A1.A0.Mem)) (((ag.Nil (ag.ah q.A1.B1.A6)\/fp Nat 1 1)/\rE q.A1.B1.A6)/\rE q.A1.B1.B5/\rE q.A1.B1.D6/\((ag.Nil (ag.ints i64 q.A1.A3)\/fp Nat 1 1)/\rE q.A1.A3)/\((ag.Nil (ag.ints i64 q.A1.B7)\/fp Nat 1 1)/\rE q.A1.B7)/\rE q.A1.D3/\rE q.A2.A4/\mE q.A2.A0 (((ag.Nil (ag.ints u32 q.A2.A0.Mem)\/fp Nat 1 1)/\rE q.A2.A0.Mem)) (((ag.Nil (ag.ah q.A2.B1.A6)\/fp Nat 1 1)/\rE q.A2.B1.A6)/\rE q.A2.B1.B5/\rE q.A2.B1.D6/\((ag.Nil (ag.ints i64 q.A2.A3)\/fp Nat 1 1)/\rE q.A2.A3)/\((ag.Nil (ag.ints i64 q.A2.B7)\/fp Nat 1 1)/\rE q.A2.B7)/\rE q.A2.D3/\((ag.Nil (ag.ao RK.ae q.A7)\/fp Nat 54 54)/\rE q.A7)/\((ag.Nil (ag.ao RK.ae q.C0)\/fp Nat 54 54)/\rE q.C0)/\((ag.Nil (ag.ao RK.str q.A9.ab)\/fp Nat 1 1)/\rE q.A9.ab)/\rE q.A9.D3/\rE q.A9.D7/\True)))
instance T9 {α β:Type} [Inhabited β]:Inhabited (α⊕β):=⟨.inr default⟩
def Qz9(src:List UInt8)(z:(Int)×(List Int)):Nat:=((Za0 src).2.1.length-z.1).toNat
def Z01(src:List UInt8)(v0:Int×List Int)(z:(Int)×(List Int)):Nat:=(1024-z.1).toNat
def O9(src:List UInt8):Tree ((List Int)×um):=
.an (Qsq src) (.lv (Za0 src) λ(x0:List oL×List kQ×um)=>.br (x0.2.2.AO !=0) (.lf ([],x0.2.2)) (.lp inferInstance (Qz9 src (0,[])+1) ((True/\rZ/\True/\True/\True/\rE (0:Int)/\True)/\(rE (0:Int)/\rE (0:Int)/\True)/\rE x0.1/\rE x0.2.1/\rE ([]:List Int)/\True) (0,[]) λ(v0:Int×List Int)=>.br (decide (v0.1<(x0.2.1.length:Int))) (.cn (bX 6 6&&bN 0 6&&decide (0<=v0.1/\v0.1<(x0.2.1.length:Int))) (let E4:=x0.2.1.getD v0.1.toNat (RK.dk RK.ak);let T1:Tree ((Int×List Int)⊕(((List Int)×um))):=.lp inferInstance (Z01 src v0 (0,v0.2)+1) ((True/\rZ/\True/\True/\True/\rE v0.1/\rZ/\rE (0:Int)/\True)/\(rE (0:Int)/\rE (0:Int)/\True)/\rE x0.1/\rE x0.2.1/\(rE ((x0.2.1.getD v0.1.toNat (RK.dk RK.ak)).eh:List UInt8)/\rE ((x0.2.1.getD v0.1.toNat (RK.dk RK.ak)).op:Int)/\((ag.Nil (D.toEs (aV (ag.get (ag.ao RK.ak x0.2.1) v0.1.toNat) ((0:Nat)+(1:Nat)+(1:Nat)) D.dead))\/rE (3:Nat))/\rE ((x0.2.1.getD v0.1.toNat (RK.dk RK.ak)).l:List (RK.T RK.ay)))/\rE ((x0.2.1.getD v0.1.toNat (RK.dk RK.ak)).F4:Int)/\rE ((x0.2.1.getD v0.1.toNat (RK.dk RK.ak)).at_:Int)/\rE ((x0.2.1.getD v0.1.toNat (RK.dk RK.ak)).size:Int)/\True)/\rE v0.2/\True) (0,v0.2) λ(v1:Int×List Int)=>.br (decide (v1.1<E4.size)) (.cn (decide (4*(v1.2.length+1)<=140737488355328)) (.nx ((True/\rZ/\True/\True/\True/\rE v0.1/\rZ/\rE ((wrap i64 (v1.1+1)):Int)/\True)/\(rE (0:Int)/\rE (0:Int)/\True)/\rE x0.1/\rE x0.2.1/\(rE ((x0.2.1.getD v0.1.toNat (RK.dk RK.ak)).eh:List UInt8)/\rE ((x0.2.1.getD v0.1.toNat (RK.dk RK.ak)).op:Int)/\((ag.Nil (ag.ao RK.ay (x0.2.1.getD v0.1.toNat (RK.dk RK.ak)).l)\/rE (3:Nat))/\rE ((x0.2.1.getD v0.1.toNat (RK.dk RK.ak)).l:List (RK.T RK.ay)))/\rE ((x0.2.1.getD v0.1.toNat (RK.dk RK.ak)).F4:Int)/\rE ((x0.2.1.getD v0.1.toNat (RK.dk RK.ak)).at_:Int)/\rE ((x0.2.1.getD v0.1.toNat (RK.dk RK.ak)).size:Int)/\True)/\rE ((v1.2++[0]):List Int)/\True) (Sum.inl (wrap i64 (v1.1+1),v1.2++[0])))) (.nx ((True/\rZ/\True/\True/\True/\rE ((wrap i64 (v0.1+1)):Int)/\True)/\(rE (0:Int)/\rE (0:Int)/\True)/\rE x0.1/\rE x0.2.1/\rE v1.2/\True) (Sum.inr (Sum.inl (wrap i64 (v0.1+1),v1.2))));let E5:=bX 3 3&&bN 0 3&&decide ((0:Int)<=(0:Int)/\0<(↑(dF E4.l):Int));let E7:=aV E4.l (dA 0) (RK.dk RK.ay);let E8:=decide (4*(v0.2.length+1)<=140737488355328);let T2:Tree ((Int×List Int)⊕(((List Int)×um))):=.cn E5 (.cn (bX 3 3&&bN 0 3&&decide ((0:Int)<=(1:Int)/\1<(↑(dF E4.l):Int))) (.lv (pz {Op:=16,A:=E7.kT,B:=(aV E4.l (dA 1) (RK.dk RK.ay)).kT,C:=0,cv:=0}) λ(x4:Int×Bool)=>.cn E8 (.nx ((True/\rZ/\True/\True/\True/\rE ((wrap i64 (v0.1+1)):Int)/\True)/\(rE (0:Int)/\rE (0:Int)/\True)/\rE x0.1/\rE x0.2.1/\rE ((v0.2++[x4.1]):List Int)/\True) (Sum.inl (wrap i64 (v0.1+1),v0.2++[x4.1])))));let T3:Tree ((Int×List Int)⊕(((List Int)×um))):=.lv (pz {Op:=16,A:=0,B:=0,C:=0,cv:=0}) λ(x5:Int×Bool)=>.cn E8 (.nx ((True/\rZ/\True/\True/\True/\rE ((wrap i64 (v0.1+1)):Int)/\True)/\(rE (0:Int)/\rE (0:Int)/\True)/\rE x0.1/\rE x0.2.1/\rE ((v0.2++[x5.1]):List Int)/\True) (Sum.inl (wrap i64 (v0.1+1),v0.2++[x5.1])));let E9:=decide (E4.eh=[(46:UInt8),115,112,97,99,101]);let nH:=decide (E4.eh=[(46:UInt8),119,111,114,100]);let pH:=decide (E4.eh=[(110:UInt8),111,112]);let Ci:=decide (4*(v0.2.length+2)<=140737488355328);let IY:=decide (E4.eh=[(108:UInt8),105]);let IZ:=decide (E4.eh=[(109:UInt8),118]);.br (decide ((↑(dF E4.l):Int)>(0:Int))) (.cn (bX 3 3&&bN 0 3&&decide (0<=wrap i64 ((↑(dF E4.l):Int)-(1:Int))/\wrap i64 ((↑(dF E4.l):Int)-(1:Int))<(↑(dF E4.l):Int))) (let E6:=aV E4.l (dA (wrap i64 ((↑(dF E4.l):Int)-(1:Int)))) (RK.dk RK.ay);.br (!decide (E6.label=[])) (.an (Hv x0.1 E6.label) (.lv (Quq x0.1 E6.label) λ(x1:Int×Bool)=>.br (!x1.2) (.lf (Sum.inr ([],{AO:=302,od:=E4.F4}))) (.br (decide (E4.op>0)) (let oF:=wrap i64 (wrap i64 (Int.tdiv (wrap i64 x1.1) 4)-E4.at_);.br nH (.cn E8 (.nx ((True/\rZ/\True/\True/\True/\rE ((wrap i64 (v0.1+1)):Int)/\True)/\(rE (0:Int)/\rE (0:Int)/\True)/\rE x0.1/\rE x0.2.1/\rE ((v0.2++[wrap u32 (wrap i64 (wrap i64 (Int.tdiv (wrap i64 x1.1) 4)-(x0.2.1.getD v0.1.toNat (RK.dk RK.ak)).at_))]):List Int)/\True) (Sum.inl (wrap i64 (v0.1+1),v0.2++[wrap u32 oF])))) (.br E9 T1 (.br IY (.cn E5 (.lv (pz {Op:=24,A:=E7.kT,B:=0,C:=0,cv:=wrap i32 (bn u32 (wrap u32 oF) 16)}) λ(x2:Int×Bool)=>.cn E5 (.cn E5 (.lv (pz {Op:=18,A:=E7.kT,B:=E7.kT,C:=0,cv:=wrap i32 (bm u32 (wrap u32 oF) 65535)}) λ(x3:Int×Bool)=>.cn Ci (.nx ((True/\rZ/\True/\True/\True/\rE ((wrap i64 (v0.1+1)):Int)/\True)/\(rE (0:Int)/\rE (0:Int)/\True)/\rE x0.1/\rE x0.2.1/\rE ((v0.2++[x2.1,x3.1]):List Int)/\True) (Sum.inl (wrap i64 (v0.1+1),v0.2++[x2.1,x3.1]))))))) (.br IZ T2 (.br pH T3 (.an (O7 E4 oF) (.lv (XN E4 oF) λ(x6:Int×Bool)=>.br (!x6.2) (.lf (Sum.inr ([],{AO:=304,od:=E4.F4}))) (.cn E8 (.nx ((True/\rZ/\True/\True/\True/\rE ((wrap i64 (v0.1+1)):Int)/\True)/\(rE (0:Int)/\rE (0:Int)/\True)/\rE x0.1/\rE x0.2.1/\rE ((v0.2++[x6.1]):List Int)/\True) (Sum.inl (wrap i64 (v0.1+1),v0.2++[x6.1]))))))))))) (.br nH (.cn E8 (.nx ((True/\rZ/\True/\True/\True/\rE ((wrap i64 (v0.1+1)):Int)/\True)/\(rE (0:Int)/\rE (0:Int)/\True)/\rE x0.1/\rE x0.2.1/\rE ((v0.2++[wrap u32 (wrap i64 x1.1)]):List Int)/\True) (Sum.inl (wrap i64 (v0.1+1),v0.2++[wrap u32 (wrap i64 x1.1)])))) (.br E9 T1 (.br IY (.cn E5 (.lv (pz {Op:=24,A:=E7.kT,B:=0,C:=0,cv:=wrap i32 (bn u32 (wrap u32 (wrap i64 x1.1)) 16)}) λ(x7:Int×Bool)=>.cn E5 (.cn E5 (.lv (pz {Op:=18,A:=E7.kT,B:=E7.kT,C:=0,cv:=wrap i32 (bm u32 (wrap u32 (wrap i64 x1.1)) 65535)}) λ(x8:Int×Bool)=>.cn Ci (.nx ((True/\rZ/\True/\True/\True/\rE ((wrap i64 (v0.1+1)):Int)/\True)/\(rE (0:Int)/\rE (0:Int)/\True)/\rE x0.1/\rE x0.2.1/\rE ((v0.2++[x7.1,x8.1]):List Int)/\True) (Sum.inl (wrap i64 (v0.1+1),v0.2++[x7.1,x8.1]))))))) (.br IZ T2 (.br pH T3 (.an (O7 E4 (wrap i64 x1.1)) (.lv (XN E4 (wrap i64 x1.1)) λ(kX:Int×Bool)=>.br (!kX.2) (.lf (Sum.inr ([],{AO:=304,od:=E4.F4}))) (.cn E8 (.nx ((True/\rZ/\True/\True/\True/\rE ((wrap i64 (v0.1+1)):Int)/\True)/\(rE (0:Int)/\rE (0:Int)/\True)/\rE x0.1/\rE x0.2.1/\rE ((v0.2++[kX.1]):List Int)/\True) (Sum.inl (wrap i64 (v0.1+1),v0.2++[kX.1])))))))))))))) (.br nH (.cn E8 (.nx ((True/\rZ/\True/\True/\True/\rE ((wrap i64 (v0.1+1)):Int)/\True)/\(rE (0:Int)/\rE (0:Int)/\True)/\rE x0.1/\rE x0.2.1/\rE ((v0.2++[wrap u32 (aV (x0.2.1.getD v0.1.toNat (RK.dk RK.ak)).l (dA (wrap i64 ((↑(dF (x0.2.1.getD v0.1.toNat (RK.dk RK.ak)).l):Int)-(1:Int)))) (RK.dk RK.ay)).num]):List Int)/\True) (Sum.inl (wrap i64 (v0.1+1),v0.2++[wrap u32 E6.num])))) (.br E9 T1 (.br IY (.cn E5 (.lv (pz {Op:=24,A:=E7.kT,B:=0,C:=0,cv:=wrap i32 (bn u32 (wrap u32 E6.num) 16)}) λ(nW:Int×Bool)=>.cn E5 (.cn E5 (.lv (pz {Op:=18,A:=E7.kT,B:=E7.kT,C:=0,cv:=wrap i32 (bm u32 (wrap u32 E6.num) 65535)}) λ(r8:Int×Bool)=>.cn Ci (.nx ((True/\rZ/\True/\True/\True/\rE ((wrap i64 (v0.1+1)):Int)/\True)/\(rE (0:Int)/\rE (0:Int)/\True)/\rE x0.1/\rE x0.2.1/\rE ((v0.2++[nW.1,r8.1]):List Int)/\True) (Sum.inl (wrap i64 (v0.1+1),v0.2++[nW.1,r8.1]))))))) (.br IZ T2 (.br pH T3 (.an (O7 E4 E6.num) (.lv (XN E4 E6.num) λ(An:Int×Bool)=>.br (!An.2) (.lf (Sum.inr ([],{AO:=304,od:=E4.F4}))) (.cn E8 (.nx ((True/\rZ/\True/\True/\True/\rE ((wrap i64 (v0.1+1)):Int)/\True)/\(rE (0:Int)/\rE (0:Int)/\True)/\rE x0.1/\rE x0.2.1/\rE ((v0.2++[An.1]):List Int)/\True) (Sum.inl (wrap i64 (v0.1+1),v0.2++[An.1]))))))))))))) (.br nH (.cn E8 (.nx ((True/\rZ/\True/\True/\True/\rE ((wrap i64 (v0.1+1)):Int)/\True)/\(rE (0:Int)/\rE (0:Int)/\True)/\rE x0.1/\rE x0.2.1/\rE ((v0.2++[wrap u32 0]):List Int)/\True) (Sum.inl (wrap i64 (v0.1+1),v0.2++[wrap u32 0])))) (.br E9 T1 (.br IY (.cn E5 (.lv (pz {Op:=24,A:=E7.kT,B:=0,C:=0,cv:=wrap i32 (bn u32 (wrap u32 0) 16)}) λ(uc:Int×Bool)=>.cn E5 (.cn E5 (.lv (pz {Op:=18,A:=E7.kT,B:=E7.kT,C:=0,cv:=wrap i32 (bm u32 (wrap u32 0) 65535)}) λ(Cl:Int×Bool)=>.cn Ci (.nx ((True/\rZ/\True/\True/\True/\rE ((wrap i64 (v0.1+1)):Int)/\True)/\(rE (0:Int)/\rE (0:Int)/\True)/\rE x0.1/\rE x0.2.1/\rE ((v0.2++[uc.1,Cl.1]):List Int)/\True) (Sum.inl (wrap i64 (v0.1+1),v0.2++[uc.1,Cl.1]))))))) (.br IZ T2 (.br pH T3 (.an (O7 E4 0) (.lv (XN E4 0) λ(Ua:Int×Bool)=>.br (!Ua.2) (.lf (Sum.inr ([],{AO:=304,od:=E4.F4}))) (.cn E8 (.nx ((True/\rZ/\True/\True/\True/\rE ((wrap i64 (v0.1+1)):Int)/\True)/\(rE (0:Int)/\rE (0:Int)/\True)/\rE x0.1/\rE x0.2.1/\rE ((v0.2++[Ua.1]):List Int)/\True) (Sum.inl (wrap i64 (v0.1+1),v0.2++[Ua.1]))))))))))))) (.lf (Sum.inr (v0.2,{AO:=0,od:=0})))))
def L9 src:=(O9 src).m
abbrev Y4 src:=(O9 src).p
def Z7p:bw:={
 α:=(Int)×(List Int)
 F:=λst a=>([(2,(lk st 2)),(3,.ptr 0 0 0),(4,.all 1),(5,.all 2),(7,.all 3),(8,.int i64 a.1)],[⟨true,120,2,.gen [[(cT st 3 0),(cT st 3 1)]]⟩,⟨false,243,2,mu st.rows (rN st 4)⟩,⟨false,177,6,mu st.rows (rN st 5)⟩,⟨false,25,1,.ints u32 a.2⟩])
 a0:=λst=>((lk st 8).toInt,(nS st.rows (rN st 7)))
 iU:=λst=>[]++[(rX st 3 0),(rX st 4 1),(rX st 5 2),(rX st 7 3)]}
def Z8i:bw:={
 α:=(Int)×(List Int)
 F:=λst a=>([(2,(lk st 2)),(3,.ptr 0 0 0),(4,.all 1),(5,.all 2),(7,.all 4),(8,(lk st 8)),(9,.ptr 3 0 0),(14,.int i64 a.1)],[⟨true,120,2,.gen [[(cT st 3 0),(cT st 3 1)]]⟩,⟨false,243,2,mu st.rows (rN st 4)⟩,⟨false,177,6,mu st.rows (rN st 5)⟩,⟨true,177,6,.gen [[(cT st 9 0),(cT st 9 1),(cT st 9 2),(cT st 9 3),(cT st 9 4),(cT st 9 5)]]⟩,⟨false,25,1,.ints u32 a.2⟩])
 a0:=λst=>((lk st 14).toInt,(nS st.rows (rN st 7)))
 iU:=λst=>[]++[(rX st 3 0),(rX st 4 1),(rX st 5 2),(rX st 9 3),(rX st 7 4)]}
def Z1y:List (Nat×bw):=[(6,Z7p),(29,Z8i)]
def Zb5:bd:=mT 77 [] true [.one (.str)] [] (λa r=>O9 (jT a 0)) (λX=>.dw [.all 0,.agg (um.cells (X.2))]) (λX=>[⟨false,25,1,.ints .u32 (X.1)⟩])
theorem Z7f:bu pG Zb5:=oT (.cons Zpf (.cons Qv9 (.cons Qpc (.cons Znr (.nil))))) Tryz.func77 Tryz.call77 [.row 25 1 (.ints .u32)] Z1y 3
end
noncomputable section
def CP:List UInt8:=[(105:UInt8),32,114,49,44,32,104,97,110,100,108,101,114,10,99,115,114,119,32,114,49,44,32,49,10,108,105,32,114,49,44,32,51,49,10,99,115,114,119,32,114]
def LU:List UInt8:=[(49:UInt8),44,32,55,10,108,105,32,114,49,44,32,52,10,99,115,114,119,32,114,49,44,32,54,10,108,105,32,114,50,44,32,53,49,50,10,108,105,32,114,51,44]
def LV:List UInt8:=[(32:UInt8),48,10,108,105,32,114,52,44,32,56,10,109,97,112,58,32,115,104,108,105,32,114,53,44,32,114,51,44,32,56,10,111,114,105,32,114,53,44,32,114,53]
def LW:List UInt8:=[(44:UInt8),32,55,10,115,104,108,105,32,114,54,44,32,114,51,44,32,50,10,97,100,100,32,114,54,44,32,114,54,44,32,114,50,10,115,119,32,114,53,44,32,48,40]
def LX:List UInt8:=[(114:UInt8),54,41,10,97,100,100,105,32,114,51,44,32,114,51,44,32,49,10,98,108,116,32,114,51,44,32,114,52,44,32,109,97,112,10,108,105,32,114,49,44,32]
def LY:List UInt8:=[(54:UInt8),10,111,117,116,32,114,49,44,32,55,10,108,105,32,114,49,44,32,50,10,111,117,116,32,114,49,44,32,57,10,108,105,32,114,49,44,32,49,48,48,10,111]
def LZ:List UInt8:=[(117:UInt8),116,32,114,49,44,32,51,10,108,105,32,114,49,44,32,54,52,48,10,99,115,114,119,32,114,49,44,32,50,10,108,105,32,114,49,44,32,50,49,10,99]
def L0:List UInt8:=[(115:UInt8),114,119,32,114,49,44,32,48,10,101,114,101,116,10,104,97,110,100,108,101,114,58,32,99,115,114,119,32,114,49,44,32,53,10,99,115,114,114,32,114,49,44]
def L1:List UInt8:=[(32:UInt8),51,10,115,108,116,105,32,114,49,44,32,114,49,44,32,49,54,10,98,101,113,32,114,49,44,32,114,48,44,32,105,114,113,10,99,115,114,114,32,114,49]
def L2:List UInt8:=[(44:UInt8),32,50,10,97,100,100,105,32,114,49,44,32,114,49,44,32,52,10,99,115,114,119,32,114,49,44,32,50,10,105,110,32,114,51,44,32,50,10,111,117,116]
def L3:List UInt8:=[(32:UInt8),114,51,44,32,48,10,108,105,32,114,49,44,32,49,10,111,117,116,32,114,49,44,32,52,10,108,105,32,114,49,44,32,55,10,111,117,116,32,114,49,44]
def L4:List UInt8:=[(32:UInt8),53,10,97,110,100,105,32,114,49,44,32,114,50,44,32,49,10,97,100,100,105,32,114,49,44,32,114,49,44,32,49,10,111,117,116,32,114,49,44,32,54,10]
def L5:List UInt8:=[(99:UInt8),115,114,114,32,114,49,44,32,53,10,101,114,101,116,10,105,114,113,58,32,105,110,32,114,49,44,32,48,10,111,117,116,32,114,49,44,32,48,10,111,117]
def L6:List UInt8:=[(116:UInt8),32,114,48,44,32,54,10,111,117,116,32,114,48,44,32,57,10,108,105,32,114,49,44,32,54,10,111,117,116,32,114,49,44,32,55,10,108,105,32,114,49,44]
def L7:List UInt8:=[(32:UInt8),50,10,111,117,116,32,114,49,44,32,57,10,105,110,32,114,49,44,32,50,10,97,100,100,105,32,114,49,44,32,114,49,44,32,50,48,10,111,117,116,32]
def L8:List UInt8:=[(114:UInt8),49,44,32,51,10,105,110,32,114,49,44,32,49,48,10,111,117,116,32,114,49,44,32,49,48,10,99,115,114,114,32,114,49,44,32,53,10,101,114,101,116,10]
def U8:List UInt8:=[(108:UInt8),105,32,114,49,44,32,104,97,110,100,108,101,114,10,99,115,114,119,32,114,49,44,32,49,10,108,105,32,114,49,44,32,51,49,10,99,115,114,119,32,114]
instance Ub {α β:Type} [Inhabited β]:Inhabited (α⊕β):=⟨.inr default⟩
def Zdp(t:jx):Tree (jx×Bool):=
.br (!t.E0) (.lf (t,false)) (.lf ({E0:=false,D0:=t.D0,D8:=true},true))
def Zrm t:=(Zdp t).m
def Zst:bd:=mS 181 [] true [.agg jx.sig] [] (λa r=>Zdp (jx.of (aC a 0))) (λX=>.dw [.agg (jx.cells (X.1)),.bool (X.2)]) (λX=>[])
theorem Zrf:bu pG Zst:=oS (.nil) Tryz.func181 Tryz.call181 [] [] 2
def Qzm(c:jn)(b:Int):Tree (jn×Bool):=
.br (decide ((c.D9.length:Int)>=(16:Int))) (.lf (c,false)) (.cn (decide (c.D9.length+1<=maxLen)) (.lf ({D9:=c.D9++[(λ(n:Int)=>UInt8.ofNat n.toNat) b]},true)))
def Zou c b:=(Qzm c b).m
abbrev Z0p c b:=(Qzm c b).p
def Zun:bd:=mT 182 [] true [.agg jn.sig,.one (.int .u8)] [] (λa r=>Qzm (jn.of (aC a 0)) (au a 1)) (λX=>.dw [.agg (jn.cells (X.1)),.bool (X.2)]) (λX=>[])
theorem Zp8:bu pG Zun:=oT (.nil) Tryz.func182 Tryz.call182 [] [] 2
def Qut(m:List Int)(frame:Int)(s:List UInt8)(z:(Int)×(List Int)):Nat:=(128-z.1).toNat
def PA(m:List Int)(frame:Int)(s:List UInt8):Tree (List Int):=
.lp inferInstance (Qut m frame s (0,m)+1) ((True/\rE (frame:Int)/\rE (s:List UInt8)/\rE (0:Int)/\True)/\rE (m:List Int)/\True) (0,m) λ(v0:Int×List Int)=>.br (decide (v0.1<(s.length:Int))) (.br (decide (v0.1<128)) (.cn (decide (0<=v0.1/\v0.1<(s.length:Int))) (let E1:=wrap u32 (↑(UInt8.toNat (s.getD v0.1.toNat (0:UInt8))):Int);let E2:=wrap u32 (wrap i64 (wrap i64 (frame*128)+v0.1));.an (Vn v0.2 E2 1 E1) (.lv (BR v0.2 E2 1 E1) λ(x0:List Int)=>.nx ((True/\rE (frame:Int)/\rE (s:List UInt8)/\rE ((wrap i64 (v0.1+1)):Int)/\True)/\rE (x0:List Int)/\True) (Sum.inl (wrap i64 (v0.1+1),x0))))) (.lf (Sum.inr v0.2))) (.lf (Sum.inr v0.2))
def PB m frame s:=(PA m frame s).m
abbrev Qku m frame s:=(PA m frame s).p
def Zr4:bw:={
 α:=(Int)×(List Int)
 F:=λst a=>([(0,.all 0),(1,(lk st 1)),(2,(lk st 2)),(6,.int i64 a.1)],[⟨false,25,1,.ints u32 a.2⟩])
 a0:=λst=>((lk st 6).toInt,(nS st.rows 0))
 iU:=λst=>[0]++[]}
def Zfz:List (Nat×bw):=[(1,Zr4)]
def Zrs:bd:=mT 207 [true,false,false] true [.one (.row 0),.one (.int .i64),.one (.str)] [.arr 25 1 (.ints .u32)] (λa r=>PA (mA .u32 r 0) (au a 1) (jT a 2)) (λX=>.dw []) (λX=>[⟨false,25,1,.ints .u32 X⟩])
theorem Qud:bu pG Zrs:=oT (.cons Ze2 (.nil)) Tryz.func207 Tryz.call207 [] Zfz 3
def Qrh(d0:gk)(m:List Int)(e:wU):Tree (gk×Bool×(List Int)):=
.br (d0.C9 !=1) (.lf (d0,false,m)) (.br (e.C2 !=4) (.lf (d0,false,m)) (.br (decide (e.N>1)) (.lf (d0,false,m)) (let T2:Tree ((gk×Bool×(List Int))):=.br (e.N==1) (.lf ({ab:=d0.ab,C8:=d0.C8,Frame:=d0.Frame,C9:=2,F5:=0,C5:=0,C6:=0,C7:=[]},true,m)) (.lf ({ab:=d0.ab,C8:=d0.C8,Frame:=d0.Frame,C9:=3,F5:=0,C5:=0,C6:=0,C7:=[]},true,m));let E4:=decide ((e.F0.length:Int)>(0:Int));.br (e.N==1) (let T1:Tree ((gk×Bool×(List Int))):=.br (d0.F5==1) (.an (Qku m (wrap i64 d0.C6) e.F0) (.lv (PB m (wrap i64 d0.C6) e.F0) λ(x1:List Int)=>.br (e.N==1) (.lf ({ab:=d0.ab,C8:=d0.C8,Frame:=d0.Frame,C9:=2,F5:=0,C5:=0,C6:=0,C7:=[]},true,x1)) (.lf ({ab:=d0.ab,C8:=d0.C8,Frame:=d0.Frame,C9:=3,F5:=0,C5:=0,C6:=0,C7:=[]},true,x1)))) T2;let T3:Tree ((gk×Bool×(List Int))):=.br (!d0.F5==1) (.br E4 (.lf (d0,false,m)) T1) T1;.br (d0.F5==1) (.br ((e.F0.length:Int) !=(128:Int)) (.lf (d0,false,m)) (.lv (uz m d0.C6) λ(x0:Bool)=>.br (!x0) (.lf (d0,false,m)) T3)) T3) (.br E4 (.lf (d0,false,m)) T2))))
def Zd0 d0 m e:=(Qrh d0 m e).m
abbrev Qwk d0 m e:=(Qrh d0 m e).p
def Zlt:bd:=mT 183 [false,true,false] true [.agg gk.sig,.one (.row 0),.agg wU.sig] [.arr 25 1 (.ints .u32)] (λa r=>Qrh (gk.of (aC a 0)) (mA .u32 r 0) (wU.of (aC a 2))) (λX=>.dw [.agg (gk.cells (X.1)),.bool (X.2.1)]) (λX=>[⟨false,25,1,.ints .u32 (X.2.2)⟩])
theorem Zgd:bu pG Zlt:=oT (.cons Uc (.cons Qud (.nil))) Tryz.func183 Tryz.call183 [] [] 2
def Qro(n:iq)(m:List Int)(frame:List UInt8):Tree (iq×Bool×(List Int)):=
.br (!n.D2) (.lf (n,false,m)) (.br (decide ((frame.length:Int)<(1:Int))) (.lf (n,false,m)) (.br (decide ((frame.length:Int)>(128:Int))) (.lf (n,false,m)) (.lv (uz m n.D5) λ(x0:Bool)=>.br (!x0) (.lf (n,false,m)) (.an (Qku m (wrap i64 n.D5) frame) (.lv (PB m (wrap i64 n.D5) frame) λ(x1:List Int)=>.lf ({Frame:=n.Frame,F7:=n.F7,D2:=false,D5:=0,C3:=true,F8:=wrap u32 (frame.length:Int)},true,x1))))))
def Zdk n m frame:=(Qro n m frame).m
abbrev Qum n m frame:=(Qro n m frame).p
def Zm4:bd:=mT 184 [false,true,false] true [.agg iq.sig,.one (.row 0),.one (.str)] [.arr 25 1 (.ints .u32)] (λa r=>Qro (iq.of (aC a 0)) (mA .u32 r 0) (jT a 2)) (λX=>.dw [.agg (iq.cells (X.1)),.bool (X.2.1)]) (λX=>[⟨false,25,1,.ints .u32 (X.2.2)⟩])
theorem Zgm:bu pG Zm4:=oT (.cons Uc (.cons Qud (.nil))) Tryz.func184 Tryz.call184 [] [] 2
def Qvy(m:bj)(e:wU):Tree (Bool×bj):=
.br m.B8 (.lf (false,m)) (let T1:Tree ((Bool×bj)):=.br (e.C2==4) (.an (Qwk m.B6 m.Mem e) (.lv (Zd0 m.B6 m.Mem e) λ(x2:gk×Bool×List Int)=>.lf (x2.2.1,{B2:=m.B2,Mem:=x2.2.2,B3:=m.B3,C1:=m.C1,B6:=x2.1,D4:=m.D4,B0:=m.B0,B9:=m.B9,B4:=m.B4,B8:=m.B8}))) (let T3:Tree ((Bool×bj)):=.br (e.C2==6) (.br (decide (e.F0=[])) (.lf (true,{B2:=m.B2,Mem:=m.Mem,B3:=m.B3,C1:=m.C1,B6:=m.B6,D4:=m.D4,B0:={A2:=e.N,D1:=m.B0.D1},B9:=m.B9,B4:=m.B4,B8:=m.B8})) (.lf (false,m))) (.lf (false,m));.br (e.C2==5) (.br (e.N==0) (.an (Qum m.D4 m.Mem e.F0) (.lv (Zdk m.D4 m.Mem e.F0) λ(x3:iq×Bool×List Int)=>.lf (x3.2.1,{B2:=m.B2,Mem:=x3.2.2,B3:=m.B3,C1:=m.C1,B6:=m.B6,D4:=x3.1,B0:=m.B0,B9:=m.B9,B4:=m.B4,B8:=m.B8}))) T3) T3);let T2:Tree ((Bool×bj)):=.br (e.C2==3) (.br (decide (e.N<=255)) (.br (decide (e.F0=[])) (.an (Z0p m.B3 (wrap u8 e.N)) (.lv (Zou m.B3 (wrap u8 e.N)) λ(x1:jn×Bool)=>.lf (x1.2,{B2:=m.B2,Mem:=m.Mem,B3:=x1.1,C1:=m.C1,B6:=m.B6,D4:=m.D4,B0:=m.B0,B9:=m.B9,B4:=m.B4,B8:=m.B8}))) T1) T1) T1;.br (e.C2==2) (.br (e.N==0) (.br (decide (e.F0=[])) (.lv (Zrm m.C1) λ(x0:jx×Bool)=>.lf (x0.2,{B2:=m.B2,Mem:=m.Mem,B3:=m.B3,C1:=x0.1,B6:=m.B6,D4:=m.D4,B0:=m.B0,B9:=m.B9,B4:=m.B4,B8:=m.B8})) T2) T2) T2)
def Zy5 m e:=(Qvy m e).m
abbrev Zea m e:=(Qvy m e).p
def Zor:bd:=mT 130 [true,false] true [.ptr 0,.agg wU.sig] [.box 43 49 (bj.kA (.row 1)),.arr 25 1 (.ints .u32)] (λa r=>Qvy (bj.og (r.getD 0 default).cs (mA .u32 r 1)) (wU.of (aC a 1))) (λX=>.bool (X.1)) (λX=>[⟨true,43,49,.gen [(bj.cg (X.2) (.all 1))]⟩,⟨false,25,1,.ints .u32 (X.2).Mem⟩])
theorem Zme:bu pG Zor:=oT (.cons Zrf (.cons Zp8 (.cons Zgd (.cons Zgm (.nil))))) Tryz.func130 Tryz.call130 [.row 25 1 (.ints .u32)] [] 2
def Tz(m:bj):Tree Bool:=
.an (Qco m) (.lv (r6 m) λ(x0:cq)=>.br (bm u32 x0.C4.a0 (1:Int)==(0:Int)) (.lf false) (.an (XP m.Mem x0.Pc 4) (.lv (pB m.Mem x0.Pc 4) λ(x1:Int×Bool)=>.lv (BQ x1.1) λ(x2:ig×Bool)=>.br x1.2 (.br x2.2 (.br (x2.1.Op==60) (.lf (x2.1.cv==2)) (.lf false)) (.lf false)) (.lf false))))
def Zi3 m:=(Tz m).m
abbrev Qyl m:=(Tz m).p
def Zr8:bd:=mT 131 [] true [.agg bj.sig] [] (λa r=>Tz (bj.of (aC a 0))) (λX=>.bool X) (λX=>[])
theorem Zl:bu pG Zr8:=oT (.cons Qn (.cons Qvq (.cons Qyt (.nil)))) Tryz.func131 Tryz.call131 [] [] 2
def Qpw(l:List rB)(z:(Int)):Prop:=1<=z/\(z<=l.length\/z=1)
def Qfr(l:List rB)(z:(Int)):Nat:=(l.length-z).toNat
def XQ(l:List rB):Tree Bool:=
.lp inferInstance (Qfr l 1+1) ((nR RK.fj 4 l/\rE (1:Int)/\True)/\True) 1 λ(v0:Int)=>.br (decide (v0<(l.length:Int))) (let E4:=bX 4 4&&bN 0 4&&decide (0<=v0/\v0<(l.length:Int));.cn E4 (let E2:=bX 4 4&&bN 0 4&&decide (0<=wrap i64 (v0-1)/\wrap i64 (v0-1)<(l.length:Int));.cn E2 (let E3:=l.getD (dA (wrap i64 (v0-1))) (RK.dk RK.fj);let E5:=l.getD v0.toNat (RK.dk RK.fj);.br (decide (E5.At<E3.At)) (.lf (Sum.inr false)) (.cn E4 (.cn E2 (let T1:Tree ((Int)⊕(Bool)):=.nx ((nR RK.fj 4 l/\rE ((wrap i64 (v0+1)):Int)/\True)/\True) (Sum.inl (wrap i64 (v0+1)));.br (E5.At==E3.At) (.cn E2 (.br (E3.Event.C2==1) (.lf (Sum.inr false)) T1)) T1)))))) (.lf (Sum.inr true))
def Z6f l:=(XQ l).m
def Pb(l:List rB):Prop:=
l.length<=1000000000000
theorem Z7j(l:List rB)(hw:Pb l):(XQ l).p:=by
 simp only[Pb]at hw
 unfold Tree.p XQ
 repeat'(first|refine ed (inv:=Qpw l) (μ:=Qfr l) ?_ (cN _) (λ_ _=>?_)|exact trivial|refine aa (λ_=>?_) (λ_=>?_)|refine ar ?_ ?_|refine bz ?_ ?_|refine ai (λ_ _=>?_)|refine dj ?_|refine aw ?_|refine And.intro ?_ ?_)
 all_goals((try simp only[Qpw,Qfr]at*);exact mC)
def Zdr:bw:={
 α:=(Int)
 F:=λst a=>([(0,(lk st 0)),(3,.int i64 a)],[])
 a0:=λst=>(lk st 3).toInt
 iU:=λst=>[]++[]}
def Z5e:List (Nat×bw):=[(2,Zdr)]
def Zeh:bd:=lj 129 [] true [.one (.ao .fj)] [] (λa r=>Pb (ji .fj a 0)) (λa r=>Z6f (ji .fj a 0)) (λX=>.bool X) (λX=>[])
theorem Zbj:bu pG Zeh:=sF drawn jL (.nil) Tryz.func129 Tryz.call129 (λa r=>XQ (ji .fj a 0)) [] Z5e 3 (hp:=λa r h=>Z7j (ji .fj a 0) h)
def Y6(m:bj)(lD:List rB)(jj:Int)(z:bj×(List ir)):Nat:=(jj-z.1.B9).toNat
def Y7(m:bj)(lD:List rB)(jj:Int)(v0:bj×List ir)(z:Unit):Nat:=0
abbrev rk:bj:={B2:={X:={a0:=0,a1:=0,a2:=0,a3:=0,a4:=0,a5:=0,a6:=0,a7:=0,a8:=0,a9:=0,ug:=0,uh:=0,a12:=0,ui:=0,uj:=0,uk:=0},Pc:=0,C4:={a0:=0,a1:=0,a2:=0,a3:=0,a4:=0,a5:=0,a6:=0,a7:=0}},Mem:=[],B3:={D9:=[]},C1:={E0:=false,D0:=0,D8:=false},B6:={ab:=0,C8:=0,Frame:=0,C9:=0,F5:=0,C5:=0,C6:=0,C7:=[]},D4:={Frame:=0,F7:=0,D2:=false,D5:=0,C3:=false,F8:=0},B0:={A2:=0,D1:=0},B9:=0,B4:=false,B8:=false}
def JE(m:bj)(lD:List rB)(jj:Int):Tree (bj×(List ir)×Int×Int):=
.lv (Ag m) λ(x0:Bool)=>let E2:=(rk:bj);let T1:Tree ((bj×(List ir)×Int×Int)):=.lf (E2,[],0,1300);.br (!x0) T1 (.br (decide (jj<m.B9)) T1 (.br (decide (wrap u64 (jj-m.B9)>4000)) T1 (.an (Pb []) (.lv (Z6f []) λ(x1:Bool)=>.br (!x1) (.lf (E2,[],0,1301)) (.an (Quy m) (.lv (VO m) λ(x2:bj)=>.lp inferInstance (Y6 m lD jj (x2,[])+1) ((((ag.Nil (ag.gen [])\/rE (0:Nat))/\rE ([]:List (List D)))/\rE (jj:Int)/\rZ/\rZ/\True/\rE (0:Int)/\True)/\(mE x2 True True)/\rE x2.Mem/\(mE zM True True)/\rE ([]:List (RK.T RK.cu))/\True) (x2,[]) λ(v0:bj×List ir)=>.br (decide (v0.1.B9<jj)) (.br (decide (v0.1.B9<1152921504606846976)) (.lp inferInstance (Y7 m lD jj v0 ()+1) ((((ag.Nil (ag.gen [])\/rE (0:Nat))/\rE ([]:List (List D)))/\rE (jj:Int)/\rZ/\rZ/\True/\rE (0:Int)/\(rE (0:Nat)/\rE (46:Nat))/\rE v0.1.B9/\rE ((decide (v0.1.B9<1152921504606846976)):Bool)/\True)/\(mE v0.1 True True)/\rE v0.1.Mem/\(mE zM True True)/\rE v0.2/\True) () λ(v1:PUnit)=>.br v0.1.B8 (.lf (Sum.inr (Sum.inr (v0.1,v0.2,0,0)))) (.an (Qs0 v0.1) (.lv (J5 v0.1) λ(x3:Bool)=>.br x3 (.lf (Sum.inr (Sum.inr (v0.1,v0.2,0,0)))) (.an (Qyl v0.1) (.lv (Zi3 v0.1) λ(x4:Bool)=>.br (!false==x4) (.lf (Sum.inr (Sum.inr (E2,[],0,1302)))) (.an (Qjm v0.1 0) (.lv (Bi v0.1 0) λ(x5:List ir×bj)=>.cn (decide (40*(v0.2.length+x5.1.length)<=140737488355328)) (.nx ((((ag.Nil (ag.gen [])\/rE (0:Nat))/\rE ([]:List (List D)))/\rE (jj:Int)/\rZ/\rZ/\True/\rE (0:Int)/\True)/\(mE x5.2 True True)/\rE x5.2.Mem/\(mE zM True True)/\rE ((v0.2++x5.1):List (RK.T RK.cu))/\True) (Sum.inr (Sum.inl (x5.2,v0.2++x5.1))))))))))) (.lf (Sum.inr (v0.1,v0.2,0,0)))) (.lf (Sum.inr (v0.1,v0.2,0,0)))))))))
def Ma m lD jj:=(JE m lD jj).m
abbrev XR m lD jj:=(JE m lD jj).p
def Zjk:bw:={
 α:=bj×(List ir)
 F:=λst a=>([(1,(lk st 1)),(2,(lk st 2)),(3,.ptr 0 0 0),(6,.ptr 2 0 0),(10,.all 3),(11,(lk st 11))],[⟨true,43,49,.gen [mD a.1 (.all 1)]⟩,⟨false,25,1,.ints u32 a.1.Mem⟩,⟨true,43,49,.gen [mB (cT st 6)]⟩,⟨false,232,4,.ao RK.cu a.2⟩])
 a0:=λst=>((mR (cT st 3) (nS st.rows (jq (cT st 3 25) 1000000))),(rY RK.cu st.rows (rN st 10)))
 iU:=λst=>[]++[(rX st 3 0),(jq (cT st 3 25) (st.rows.length+1)),(rX st 6 2),(rX st 10 3)]}
def Zkl:bw:={
 α:=Unit
 F:=λst a=>([(1,(lk st 1)),(2,(lk st 2)),(3,.ptr 0 0 0),(6,.ptr 2 0 0),(10,.all 3),(11,(lk st 11)),(61,.ptr 0 0 46),(62,(lk st 62)),(63,(lk st 63))],[⟨true,43,49,.gen [List.append (cN st 3 0 25) (.all 1::cN st 3 26 23)]⟩,⟨false,25,1,mu st.rows (jq (cT st 3 25) 1000000)⟩,⟨true,43,49,.gen [mB (cT st 6)]⟩,⟨false,232,4,mu st.rows (rN st 10)⟩])
 a0:=λst=>()
 iU:=λst=>[]++[(rX st 3 0),(jq (cT st 3 25) (st.rows.length+1)),(rX st 6 2),(rX st 10 3)]}
def Zad:List (Nat×bw):=[(8,Zjk),(9,Zkl)]
def Znt:bd:=mT 80 [] true [.agg bj.sig,.one .nil,.one (.int .u64)] [] (λa r=>JE (bj.of (aC a 0)) (ji .fj a 1) (au a 2)) (λX=>.dw [.agg (bj.cg (X.1) (.all 0)),.all 1,.int .i64 (X.2.2.1),.int .i64 (X.2.2.2)]) (λX=>[⟨false,25,1,.ints .u32 (X.1).Mem⟩,⟨false,232,4,.ao .cu (X.2.1)⟩])
theorem Zj5:bu pG Znt:=oT (.cons Qze (.cons Zbj (.cons Zc9 (.cons Zme (.cons Z6i (.cons Zl (.cons Qvl (.nil)))))))) Tryz.func80 Tryz.call80 [.row 25 1 (.ints .u32),.row 232 4 (.ao .cu)] Zad 3
def Qg(kind:Int)(l z:List Int):Nat:=160-z.length
def Q8(kind:Int)(l:List Int):Tree bj:=
.an (Ld kind 3) (.lv (GS kind 3) λ(x0:Int)=>.br (decide (x0<2)) (.an (Y4 ((108:UInt8)::(CP++LU++(LV++LW)++(LX++LY++(LZ++L0))++(L1++L2++(L3++L4)++(L5++L6++(L7++L8)))))) (.lv (L9 (cP (cP (cP (cP U8 LU) (cP LV LW)) (cP (cP LX LY) (cP LZ L0))) (cP (cP (cP L1 L2) (cP L3 L4)) (cP (cP L5 L6) (cP L7 L8))))) λ(x1:List Int×um)=>.lp inferInstance (Qg kind l x1.1+1) ((rE (x0:Int)/\((ag.Nil (ag.ints i64 l)\/rE (1:Nat))/\rE (l:List Int))/\rZ/\True/\True)/\(mE zM True True)/\rE x1.1/\True) x1.1 λ(v0:List Int)=>.br (decide ((v0.length:Int)<(160:Int))) (.cn (decide (4*(v0.length+1)<=140737488355328)) (.nx ((rE (x0:Int)/\((ag.Nil (ag.ints i64 l)\/rE (1:Nat))/\rE (l:List Int))/\rZ/\True/\True)/\(mE zM True True)/\rE ((v0++[0]):List Int)/\True) (Sum.inl (v0++[0])))) (.an (Qs4 l) (.lv (VX l) λ(x2:List Int)=>.cn (decide (4*(v0.length+x2.length)<=140737488355328)) (.br (decide ((↑(dF (v0++x2)):Int)>(256:Int))) (.cn (bX 1 1&&bN 0 1&&decide ((0:Int)<=(0:Int)/\(0:Int)<=(256:Int)/\256<=(↑(dF (v0++x2)):Int))) (let E1:=cU (dA 256-dA 0) (cV (dA 0) (v0++x2));.an (XG 8 4 E1) (.lv (lT 8 4 E1) λ(x3:bj×Bool)=>.br (x0==1) (.an (XR x3.1 [] 87) (.lv (Ma x3.1 [] 87) λ(x4:bj×List ir×Int×Int)=>.lf (Sum.inr x4.1))) (.lf (Sum.inr x3.1))))) (.an (XG 8 4 (v0++x2)) (.lv (lT 8 4 (v0++x2)) λ(x5:bj×Bool)=>.br (x0==1) (.an (XR x5.1 [] 87) (.lv (Ma x5.1 [] 87) λ(x6:bj×List ir×Int×Int)=>.lf (Sum.inr x6.1))) (.lf (Sum.inr x5.1))))))))) (.an (Qs4 l) (.lv (VX l) λ(x7:List Int)=>.cn (decide (4*(0+x7.length)<=140737488355328)) (.br (decide ((x7.length:Int)>(256:Int))) (.cn (bX 1 1&&bN 0 1&&decide ((0:Int)<=(0:Int)/\(0:Int)<=(256:Int)/\256<=(x7.length:Int))) (let E2:=cU (dA 256-dA 0) (cV (dA 0) x7);.an (XG 8 4 E2) (.lv (lT 8 4 E2) λ(x8:bj×Bool)=>.br (x0==1) (.an (XR x8.1 [] 87) (.lv (Ma x8.1 [] 87) λ(x9:bj×List ir×Int×Int)=>.lf x9.1)) (.lf x8.1)))) (.an (XG 8 4 x7) (.lv (lT 8 4 x7) λ(kF:bj×Bool)=>.br (x0==1) (.an (XR kF.1 [] 87) (.lv (Ma kF.1 [] 87) λ(kX:bj×List ir×Int×Int)=>.lf kX.1)) (.lf kF.1)))))))
def VW kind l:=(Q8 kind l).m
abbrev Qtn kind l:=(Q8 kind l).p
def Z9o:bw:={
 α:=(List Int)
 F:=λst a=>([(0,(lk st 0)),(1,(lk st 1)),(4,.ptr 0 0 0),(5,.all 1)],[⟨true,43,49,.gen [mB (cT st 4)]⟩,⟨false,25,1,.ints u32 a⟩])
 a0:=λst=>(nS st.rows (rN st 5))
 iU:=λst=>[]++[(rX st 4 0),(rX st 5 1)]}
def Z5p:List (Nat×bw):=[(5,Z9o)]
def Zep:bd:=mT 30 [] true [.one (.int .i64),.one (.ints .i64)] [] (λa r=>Q8 (au a 0) (c9 .i64 a 1)) (λX=>.agg (bj.cg X (.all 0))) (λX=>[⟨false,25,1,.ints .u32 X.Mem⟩])
theorem Ze0:bu pG Zep:=oT (.cons Z2n (.cons Z7f (.cons Zq5 (.cons Zu7 (.cons Zj5 (.nil)))))) Tryz.func30 Tryz.call30 [.row 25 1 (.ints .u32)] Z5p 3
end
noncomputable section
def M5(m:bj)(clock:Int):Tree (bj×(List ir)):=
.an (Quy m) (.lv (VO m) λ(x0:bj)=>.an (Qyk x0) (.lv (HP x0) λ(x1:Bool)=>.br x1 (.lf (x0,[])) (.an (Qjm x0 clock) (.lv (Bi x0 clock) λ(x2:List ir×bj)=>.lf (x2.2,x2.1)))))
def P4 m clock:=(M5 m clock).m
abbrev Qri m clock:=(M5 m clock).p
def Zue:bd:=mT 26 [] true [.agg bj.sig,.one (.int .u32)] [] (λa r=>M5 (bj.of (aC a 0)) (au a 1)) (λX=>.dw [.agg (bj.cg (X.1) (.all 0)),.sl 4 (.ao .cu (X.2)) true]) (λX=>[⟨false,25,1,.ints .u32 (X.1).Mem⟩])
theorem Zpz:bu pG Zue:=oT (.cons Zc9 (.cons Zmj (.cons Qvl (.nil)))) Tryz.func26 Tryz.call26 [.row 25 1 (.ints .u32),.sl (.ao .cu) true] [] 2
end
noncomputable section
instance Ud {α β:Type} [Inhabited β]:Inhabited (α⊕β):=⟨.inr default⟩
def QC(bq:Int):Tree (List Int):=
.br (decide (bq<1)) (.lf ([])) (.br (decide (bq>32)) (.lf ([])) (.cn (bN 0 1&&bX 1 1&&iP [D.int u32 0] D.plain&&decide (0<=wrap i64 (bq*32)/\wrap i64 (bq*32)<=wrap i64 (bq*32)/\wrap i64 (bq*32)<=9223372036854775807/\(↑4:Int)*wrap i64 (bq*32)<=140737488355328)) (.lf (cO (dA (wrap i64 (bq*32))) 0))))
def Z57 bq:=(QC bq).m
abbrev Qpp bq:=(QC bq).p
def Znv:bd:=mT 72 [] true [.one (.int .i64)] [] (λa r=>QC (au a 0)) (λX=>.all 0) (λX=>[⟨false,25,1,.ints .u32 X⟩])
theorem Zjj:bu pG Znv:=oT (.nil) Tryz.func72 Tryz.call72 [.row 25 1 (.ints .u32)] [] 2
def Q8e(s1 s2:List Int)(z:(Int)):Prop:=0<=z/\z<=s1.length/\s1.length=s2.length
def Ka(s1 s2:List Int)(z:(Int)):Nat:=(s1.length-z).toNat
def HU(s1 s2:List Int):Tree Bool:=
.br ((s1.length:Int) !=(s2.length:Int)) (.lf false) (.lp inferInstance (Ka s1 s2 0+1) ((((ag.Nil (ag.ints u32 s1)\/rE (1:Nat))/\rE (s1:List Int))/\((ag.Nil (ag.ints u32 s2)\/rE (1:Nat))/\rE (s2:List Int))/\rE ((s1.length:Int):Int)/\rE (0:Int)/\True)/\True) 0 λ(v0:Int)=>.br (decide (v0<(s1.length:Int))) (.cn (bX 1 1&&bN 0 1&&decide (0<=v0/\v0<(s1.length:Int))) (.cn (bX 1 1&&bN 0 1&&decide (0<=v0/\v0<(s2.length:Int))) (.br (s1.getD v0.toNat 0 !=s2.getD v0.toNat 0) (.lf (Sum.inr false)) (.nx ((((ag.Nil (ag.ints u32 s1)\/rE (1:Nat))/\rE (s1:List Int))/\((ag.Nil (ag.ints u32 s2)\/rE (1:Nat))/\rE (s2:List Int))/\rE ((s1.length:Int):Int)/\rE ((wrap i64 (v0+1)):Int)/\True)/\True) (Sum.inl (wrap i64 (v0+1))))))) (.lf (Sum.inr true)))
def VZ s1 s2:=(HU s1 s2).m
def XS(s1 s2:List Int):Prop:=
s1.length<=1000000000000
theorem Qij(s1 s2:List Int)(hw:XS s1 s2):(HU s1 s2).p:=by
 simp only[XS]at hw
 unfold Tree.p HU
 repeat'(first|refine ed (inv:=Q8e s1 s2) (μ:=Ka s1 s2) ?_ (cN _) (λ_ _=>?_)|exact trivial|refine aa (λ_=>?_) (λ_=>?_)|refine ar ?_ ?_|refine bz ?_ ?_|refine ai (λ_ _=>?_)|refine dj ?_|refine aw ?_|refine And.intro ?_ ?_)
 all_goals((try simp only[Q8e,Ka]at*);exact mC)
def Qjy:bw:={
 α:=(Int)
 F:=λst a=>([(0,(lk st 0)),(1,(lk st 1)),(12,(lk st 12)),(13,.int i64 a)],[])
 a0:=λst=>(lk st 13).toInt
 iU:=λst=>[]++[]}
def Qh8:List (Nat×bw):=[(4,Qjy)]
def Qkq:bd:=lj 141 [] true [.one (.ints .u32),.one (.ints .u32)] [] (λa r=>XS (c9 .u32 a 0) (c9 .u32 a 1)) (λa r=>VZ (c9 .u32 a 0) (c9 .u32 a 1)) (λX=>.bool X) (λX=>[])
theorem Qk2:bu pG Qkq:=sF drawn jL (.nil) Tryz.func141 Tryz.call141 (λa r=>HU (c9 .u32 a 0) (c9 .u32 a 1)) [] Qh8 3 (hp:=λa r h=>Qij (c9 .u32 a 0) (c9 .u32 a 1) h)
def Ue:bd:=⟨143,[],false,λa r=>match a,r with|[.sl 1 (.ah l) _],[]=>.abs Unit () (λ_=>.gv 204 [.ptr 0 0 0]) (λ_=>[⟨true,44,1,.gen [[.sl 1 (.ah l) false]]⟩])|_,_=>.no,none,true⟩
theorem Qy9:bu pG Ue:=by
 refine⟨λ_=>Tryz.call143,λ_=>by decide,λ_ args rows r r' hm=>?_,λ_ args rows p r r' hm=>?_,λ_ args rows α v res aj hm=>?_,λ_ args rows p α v res aj hm=>?_,λk hk=>(by cases hk),λk hk=>(by cases hk)⟩
 ·simp only[Ue]at hm;split at hm<;>cases hm
 ·simp only[Ue]at hm;split at hm<;>cases hm
 ·simp only[Ue]at hm
  split at hm
  ·rename_i l fr
   cases hm
   refine⟨?_,λh=>by cases h⟩
   have e:(ky kb [] (λ_ _ _=>False) Tryz.f143 [.sl 1 (.ah l) fr] [] λd R=>te [0] 0 R d (.gv 204 [.ptr 0 0 0])/\mr [0] 0 R [0] [⟨true,44,1,.gen [[.sl 1 (.ah l) false]]⟩])=(True/\((((l=[]\/1=1)/\l=l)/\True)/\True)):=by kernel_rfl
   exact xx drawn jL jU.nil Tryz.func143 (rf:=none) (L:=λ_ _ _=>False) (λ_ _=>trivial) (λ_ _ _ _ h=>h.elim) (λd R h=>⟨[0],rfl,h⟩) (e.symm▸⟨trivial,⟨⟨.inr rfl,rfl⟩,trivial⟩,trivial⟩)
  ·cases hm
 ·simp only[Ue]at hm;split at hm<;>cases hm
def Qke(p0 iR:Int):Tree (Bool×Int):=
.lf (true,wrap i64 (iR+1))
def Qoe p0 iR:=(Qke p0 iR).m
def Qxz:bd:=K9 1 1000000144 [false,true] [.one (.int .i64),.ptr 0] [.box 3 1 [.int .i64]] (λa r=>Qoe (au a 0) (tW r 0 0).toInt) (λX=>.bool (X.1)) (λX=>[⟨true,3,1,.gen [[.int .i64 X.2]]⟩])
theorem Qwl:bu pG Qxz:=qD none (λ_ _=>trivial) drawn jL (.nil) (Tryz.oH ⟨λ_ _=>by kernel_rfl,rfl⟩) (λh=>absurd h (by decide)) (λa r=>Qke (au a 0) (tW r 0 0).toInt) [] [] 2 (λ_ _ _=>by kernel_rfl) (λ_ _=>rfl) (λ_ _=>Tree.mL (by kernel_rfl))
def VP(n:Int)(iR:List Bool)(z:(Int)×(Int)):Nat:=(iR.length-z.1).toNat
def P6(n:Int)(iR:List Bool):Tree (Int×(List Bool)):=
.lp inferInstance (VP n iR (0,n)+1) ((True/\((ag.Nil (ag.ah iR)\/rE (1:Nat))/\rE (iR:List Bool))/\rE ((iR.length:Int):Int)/\rE (0:Int)/\True)/\(rE (n:Int)/\True)/\(((ag.Nil (ag.ah iR)\/rE (1:Nat))/\rE (iR:List Bool))/\True)/\True) (0,n) λ(v0:Int×Int)=>.br (decide (v0.1<(iR.length:Int))) (.cn (bX 1 1&&bN 0 1&&decide (0<=v0.1/\v0.1<(iR.length:Int))) (.br (iR.getD v0.1.toNat false) (.lv (Qoe v0.1 v0.2) λ(x0:Bool×Int)=>.br (!x0.1) (.lf (Sum.inr (x0.2,iR))) (.nx ((True/\((ag.Nil (ag.ah iR)\/rE (1:Nat))/\rE (iR:List Bool))/\rE ((iR.length:Int):Int)/\rE ((wrap i64 (v0.1+1)):Int)/\True)/\(rE x0.2/\True)/\(((ag.Nil (ag.ah iR)\/rE (1:Nat))/\rE (iR:List Bool))/\True)/\True) (Sum.inl (wrap i64 (v0.1+1),x0.2)))) (.nx ((True/\((ag.Nil (ag.ah iR)\/rE (1:Nat))/\rE (iR:List Bool))/\rE ((iR.length:Int):Int)/\rE ((wrap i64 (v0.1+1)):Int)/\True)/\(rE v0.2/\True)/\(((ag.Nil (ag.ah iR)\/rE (1:Nat))/\rE (iR:List Bool))/\True)/\True) (Sum.inl (wrap i64 (v0.1+1),v0.2))))) (.lf (Sum.inr (v0.2,iR)))
def VR n iR:=(P6 n iR).m
abbrev Qyd n iR:=(P6 n iR).p
def Zkv:bw:={
 α:=(Int)×(Int)
 F:=λst a=>([(0,.gv 1000000144 [.ptr 0 0 0]),(5,(lk st 5)),(6,(lk st 6)),(7,.int i64 a.1)],[⟨true,3,1,.gen [[.int i64 a.2]]⟩,⟨true,44,1,.gen [[(bg st.rows 1 0)]]⟩])
 a0:=λst=>((lk st 7).toInt,(bg st.rows 0 0).toInt)
 iU:=λst=>[0,1]++[]}
def Z9y:List (Nat×bw):=[(1,Zkv)]
def Zow:bd:=ka 2 204 [true,true] [.gv 1000000144 [.ptr 0 0 0],.ptr 1] [.box 3 1 [.int .i64],.box 44 1 [.ah]] (λa r=>Qyd (tW r 0 0).toInt (mb (tW r 1 0))) (λa r=>VR (tW r 0 0).toInt (mb (tW r 1 0))) (λX=>.dw []) (λX=>[⟨true,3,1,.gen [[.int .i64 X.1]]⟩,⟨true,44,1,.gen [[.sl 1 (.ah X.2) false]]⟩])
theorem Zm5:bu pG Zow:=ub drawn jL (.cons Qwl (.nil)) Tryz.func204 Tryz.call204 (λa r=>P6 (tW r 0 0).toInt (mb (tW r 1 0))) [.sl (.ah) false] Z9y 3 (λ_ _ _=>by kernel_rfl) (λ_ _=>rfl) (λ_ _ h=>h)
def P7(c:fc):Tree Int:=
.lv () λ(x0:Unit)=>.an (Qyd 0 c.A6) (.lv (VR 0 c.A6) λ(x1:Int×List Bool)=>.lf x1.1)
def VQ c:=(P7 c).m
abbrev Qhy c:=(P7 c).p
def Zcd:bd:=lj 144 [] true [.agg fc.sig] [] (λa r=>Qhy (fc.of (aC a 0))) (λa r=>VQ (fc.of (aC a 0))) (λX=>.int .i64 X) (λX=>[])
theorem Z7n:bu pG Zcd:=Zt0 (some 1000000144) (IC (by kernel_rfl) rfl) drawn jL (.cons Qy9 (.cons Zm5 (.nil))) Tryz.func144 Tryz.call144 (λa r=>P7 (fc.of (aC a 0))) [] [] 2
def I0(s:List Bool):(List Bool):=
s
def Uf(s:List Bool):Prop:=
s.length<=140737488355328
def Q6y(s:List Bool):List D:=[.sl 1 (.ah s) false]
def XT(s:List Bool):List Row:=[]
def N6(X:List Bool):D:=.all 0
def Q2(X:List Bool):List Row:=[⟨false,4,1,.ah X⟩]
def Qlu:List nh:=[.row 4 1 (.ah)]
def Qcl:List PT:=[.one (.ah)]
def Qb1:List RT:=[]
def Qo(args:List D)(rows:List Row):(List Bool):=I0 (nG args 0)
def Qo1(args:List D)(rows:List Row):Prop:=Uf (nG args 0)
def Qqe:bd:=lj 133 [] true Qcl Qb1 Qo1 Qo N6 Q2
def Q8n(s:List Bool)(jt:(List Bool)->Prop):Prop:=
(s=[]->jt [])/\cy (decide ((1:Nat)*((0:Nat)+s.length)<=(140737488355328:Nat))) (jt s)
set_option maxRecDepth 100000 in
theorem Qpl(s:List Bool)(Q:D->List Row->Prop):(ky kb [] (LL kb [] Tryz.f133.ntmps 0 [] 2) Tryz.f133 (Q6y s) (XT s) λd R=>ow (XT s).length Qlu d R Q)=Q8n s (λX=>Q (N6 X) (Q2 X)):=by kernel_rfl
theorem Qm8(s:List Bool)(jt:(List Bool)->Prop)(hw:Uf s)(h:jt (I0 s)):
Q8n s jt:=by
 delta Q8n
 refine⟨λe=>by rw[e]at h;exact h,?_⟩
 rw[de]
 refine⟨dY ?_,h⟩
 have:s.length<=140737488355328:=hw
 omega
set_option maxRecDepth 100000 in
theorem Ql5(s:List Bool)(hw:Uf s):kM pG 133 (Q6y s) (XT s) (N6 (I0 s)) (Q2 (I0 s)):=
 have hG:jU pG []:=.nil
 mF.calls drawn jL hG Tryz.func133 (rf:=none) (λ_ _=>trivial) (Ho drawn jL hG (.inl rfl) 2 (fx:=[])) (mF.of (Qpl s _) (Qm8 s (λX=>N6 X=N6 (I0 s)/\Q2 X=Q2 (I0 s)) hw ⟨rfl,rfl⟩))
set_option maxRecDepth 100000 in
theorem Qlw(args:List D)(rows:List Row):lN Qcl args 0=Q6y (nG args 0):=by kernel_rfl
set_option maxRecDepth 100000 in
theorem Qko(args:List D)(rows:List Row):kR Qb1 rows 0=XT (nG args 0):=by kernel_rfl
set_option maxRecDepth 100000 in
theorem Qpd(X:List Bool):(ue (N6 X)&&jP (Q2 X))=true:=by kernel_rfl
theorem Qdl:bu pG Qqe:=GR Tryz.call133 (λargs rows hp=>by rw[Qlw args rows,Qko args rows];exact Ql5 (nG args 0) hp) (λ_ X=>Qpd X)
def VU(c:fc):Tree fc:=
.an (Uf c.A6) (.lv (I0 c.A6) λ(x0:List Bool)=>.lf ({A6:=x0,B5:=c.B5,D6:=c.D6}))
def QA c:=(VU c).m
abbrev Qbu c:=(VU c).p
def Zb:bd:=mT 140 [] true [.agg fc.sig] [] (λa r=>VU (fc.of (aC a 0))) (λX=>.agg (fc.cg X (.all 0))) (λX=>[⟨false,4,1,.ah X.A6⟩])
theorem Qta:bu pG Zb:=oT (.cons Qdl (.nil)) Tryz.func140 Tryz.call140 [.row 4 1 (.ah)] [] 2
def VT(c:fc):Tree Bool:=
.br (decide ((c.A6.length:Int)>=(1:Int))) (.br (decide ((c.A6.length:Int)<=(32:Int))) (.br (decide (c.B5>=0)) (.br (decide (c.B5<=11)) (.br (decide (c.D6>=0)) (.lf (decide (c.D6<=352))) (.lf false)) (.lf false)) (.lf false)) (.lf false)) (.lf false)
def pW c:=(VT c).m
def Zbp:bd:=mS 142 [] true [.agg fc.sig] [] (λa r=>VT (fc.of (aC a 0))) (λX=>.bool X) (λX=>[])
theorem Qsx:bu pG Zbp:=oS (.nil) Tryz.func142 Tryz.call142 [] [] 2
def Qec(bq:Int)(z:(Int)×(List Bool)):Nat:=(bq-z.1).toNat
def QD(bq:Int):Tree (fc×Bool):=
.br (decide (bq<(1:Int))) (.lf ({A6:=[],B5:=(0:Int),D6:=(0:Int)},false)) (.br (decide (bq>(32:Int))) (.lf ({A6:=[],B5:=(0:Int),D6:=(0:Int)},false)) (.cn (bN (0:Nat) (1:Nat)&&bX (1:Nat) (1:Nat)&&iP [D.bool false] D.plain&&decide ((0:Int)<=bq/\bq<=bq/\bq<=(9223372036854775807:Int)/\(↑(1:Nat):Int)*bq<=(140737488355328:Int))) (.lp inferInstance (Qec bq ((0:Int),cO bq.toNat false)+1) ((rZ/\rZ/\rE ((↑(dF (cO bq.toNat false)):Int):Int)/\rE ((0:Int):Int)/\True)/\(True/\rE ((0:Int):Int)/\rE ((0:Int):Int)/\True)/\(True/\rE ((0:Int):Int)/\rE ((0:Int):Int)/\True)/\rE ((cO bq.toNat false):List Bool)/\True) ((0:Int),cO bq.toNat false) λ(v0:Int×List Bool)=>.br (decide (v0.1<(↑(dF (cO bq.toNat false)):Int))) (.cn (bX 1 (1:Nat)&&bN (0:Nat) (1:Nat)&&decide ((0:Int)<=v0.1/\v0.1<(v0.2.length:Int))) (.nx ((rZ/\rZ/\rE ((↑(dF (cO bq.toNat false)):Int):Int)/\rE ((wrap i64 (v0.1+(1:Int))):Int)/\True)/\(True/\rE ((0:Int):Int)/\rE ((0:Int):Int)/\True)/\(True/\rE ((0:Int):Int)/\rE ((0:Int):Int)/\True)/\rE ((dB v0.2 v0.1.toNat true):List Bool)/\True) (Sum.inl (wrap i64 (v0.1+(1:Int)),dB v0.2 v0.1.toNat true)))) (.lf (Sum.inr ({A6:=v0.2,B5:=(0:Int),D6:=(0:Int)},true))))))
def Qra bq:=(QD bq).m
abbrev Qhj bq:=(QD bq).p
def Z8g:bw:={
 α:=(Int)×(List Bool)
 F:=λst a=>([(2,.ptr 0 0 0),(4,.ptr 1 0 0),(18,(lk st 18)),(19,.int i64 a.1)],[⟨true,46,3,.gen [[(cT st 2 0),(cT st 2 1),(cT st 2 2)]]⟩,⟨true,46,3,.gen [[.all 2,(cT st 4 1),(cT st 4 2)]]⟩,⟨false,4,1,.ah a.2⟩])
 a0:=λst=>((lk st 19).toInt,(UW st.rows (jq (cT st 4 0) 1000000)))
 iU:=λst=>[]++[(rX st 2 0),(rX st 4 1),(jq (cT st 4 0) (st.rows.length+2))]}
def Z1q:List (Nat×bw):=[(5,Z8g)]
def Z9x:bd:=mT 71 [] true [.one (.int .i64)] [] (λa r=>QD (au a 0)) (λX=>.dw [.agg (fc.cg (X.1) (.all 0)),.bool (X.2)]) (λX=>[⟨false,4,1,.ah (X.1).A6⟩])
theorem Z8e:bu pG Z9x:=oT (.nil) Tryz.func71 Tryz.call71 [.row 4 1 (.ah)] Z1q 3
def M6(c:fc)(dd:List Int)(z:(Int)×(List Bool)):Nat:=(dd.length-z.1).toNat
def QE(c:fc)(dd:List Int):Tree fc:=
.an (Qbu c) (.lv (QA c) λ(x0:fc)=>.lp inferInstance (M6 c dd (0,x0.A6)+1) ((rZ/\rZ/\((ag.Nil (ag.ints i64 dd)\/rE (1:Nat))/\rE (dd:List Int))/\rE ((dd.length:Int):Int)/\rE (0:Int)/\True)/\(True/\rE x0.B5/\rE x0.D6/\True)/\rE x0.A6/\(True/\rE (0:Int)/\rE (0:Int)/\True)/\True) (0,x0.A6) λ(v0:Int×List Bool)=>.br (decide (v0.1<(dd.length:Int))) (.cn (bX 1 1&&bN 0 1&&decide (0<=v0.1/\v0.1<(dd.length:Int))) (let T1:Tree ((Int×List Bool)⊕(fc)):=.nx ((rZ/\rZ/\((ag.Nil (ag.ints i64 dd)\/rE (1:Nat))/\rE (dd:List Int))/\rE ((dd.length:Int):Int)/\rE ((wrap i64 (v0.1+1)):Int)/\True)/\(True/\rE x0.B5/\rE x0.D6/\True)/\rE v0.2/\(True/\rE (0:Int)/\rE (0:Int)/\True)/\True) (Sum.inl (wrap i64 (v0.1+1),v0.2));.br (decide (dd.getD v0.1.toNat (0:Int)>=(0:Int))) (.br (decide (dd.getD v0.1.toNat 0<(v0.2.length:Int))) (.cn (bX 1 1&&bN 0 1&&decide (0<=dd.getD v0.1.toNat 0/\dd.getD v0.1.toNat 0<(v0.2.length:Int))) (.nx ((rZ/\rZ/\((ag.Nil (ag.ints i64 dd)\/rE (1:Nat))/\rE (dd:List Int))/\rE ((dd.length:Int):Int)/\rE ((wrap i64 (v0.1+1)):Int)/\True)/\(True/\rE x0.B5/\rE x0.D6/\True)/\rE ((dB v0.2 (dA (dd.getD v0.1.toNat 0)) true):List Bool)/\(True/\rE (0:Int)/\rE (0:Int)/\True)/\True) (Sum.inl (wrap i64 (v0.1+1),dB v0.2 (dA (dd.getD v0.1.toNat 0)) true)))) T1) T1)) (.lf (Sum.inr {A6:=v0.2,B5:=x0.B5,D6:=x0.D6})))
def VV c dd:=(QE c dd).m
abbrev Qdw c dd:=(QE c dd).p
def Zck:bw:={
 α:=(Int)×(List Bool)
 F:=λst a=>([(2,.ptr 0 0 0),(4,.ptr 2 0 0),(9,(lk st 9)),(10,(lk st 10)),(11,.int i64 a.1)],[⟨true,46,3,.gen [[.all 1,(cT st 2 1),(cT st 2 2)]]⟩,⟨false,4,1,.ah a.2⟩,⟨true,46,3,.gen [[(cT st 4 0),(cT st 4 1),(cT st 4 2)]]⟩])
 a0:=λst=>((lk st 11).toInt,(UW st.rows (jq (cT st 2 0) 1000000)))
 iU:=λst=>[]++[(rX st 2 0),(jq (cT st 2 0) (st.rows.length+1)),(rX st 4 2)]}
def Z3:List (Nat×bw):=[(3,Zck)]
def Zf7:bd:=mT 93 [] true [.agg fc.sig,.one (.ints .i64)] [] (λa r=>QE (fc.of (aC a 0)) (c9 .i64 a 1)) (λX=>.agg (fc.cg X (.all 0))) (λX=>[⟨false,4,1,.ah X.A6⟩])
theorem Z9h:bu pG Zf7:=oT (.cons Qta (.nil)) Tryz.func93 Tryz.call93 [.row 4 1 (.ah)] Z3 3
def QB(c:fc)(ej:Int):Tree Bool:=
.lv (pW c) λ(x0:Bool)=>.br x0 (.an (Qhy c) (.lv (VQ c) λ(x1:Int)=>.br (decide (x1<=ej)) (.lf true) (.lf (decide (c.B5>=10))))) (.lf false)
def HT c ej:=(QB c ej).m
abbrev Qk4 c ej:=(QB c ej).p
def Zg2:bd:=mT 97 [] true [.agg fc.sig,.one (.int .i64)] [] (λa r=>QB (fc.of (aC a 0)) (au a 1)) (λX=>.bool X) (λX=>[])
theorem Zap:bu pG Zg2:=oT (.cons Qsx (.cons Z7n (.nil))) Tryz.func97 Tryz.call97 [] [] 2
def Qct(a b:List Int)(z:(Int)×(List Int)):Nat:=(40-z.1).toNat
def Kb(a b:List Int):Tree (List Int):=
.lv (jX a) λ(x0:Int)=>.lv (jX b) λ(x1:Int)=>.br (x0 !=x1) (.lf ([])) (.lp inferInstance (Qct a b (0,[])+1) ((((ag.Nil (ag.ints u32 a)\/rE (1:Nat))/\rE (a:List Int))/\((ag.Nil (ag.ints u32 b)\/rE (1:Nat))/\rE (b:List Int))/\True/\rE (x0:Int)/\rE (0:Int)/\True)/\rE ([]:List Int)/\True) (0,[]) λ(v0:Int×List Int)=>.br (decide (v0.1<x0)) (.cn (bX 1 1&&bN 0 1&&decide (0<=wrap i64 (v0.1*32)/\wrap i64 (v0.1*32)<=wrap i64 (wrap i64 (v0.1+1)*32)/\wrap i64 (wrap i64 (v0.1+1)*32)<=(a.length:Int))) (.cn (bX 1 1&&bN 0 1&&decide (0<=wrap i64 (v0.1*32)/\wrap i64 (v0.1*32)<=wrap i64 (wrap i64 (v0.1+1)*32)/\wrap i64 (wrap i64 (v0.1+1)*32)<=(b.length:Int))) (let E1:=dA (wrap i64 (wrap i64 (v0.1+1)*32))-dA (wrap i64 (v0.1*32));let E2:=dA (wrap i64 (v0.1*32));.an (XS (cU E1 (cV E2 a)) (cU E1 (cV E2 b))) (.lv (VZ (cU E1 (cV E2 a)) (cU E1 (cV E2 b))) λ(x2:Bool)=>.br (!x2) (.cn (decide (8*(v0.2.length+1)<=140737488355328)) (.nx ((((ag.Nil (ag.ints u32 a)\/rE (1:Nat))/\rE (a:List Int))/\((ag.Nil (ag.ints u32 b)\/rE (1:Nat))/\rE (b:List Int))/\True/\rE (x0:Int)/\rE ((wrap i64 (v0.1+1)):Int)/\True)/\rE ((v0.2++[v0.1]):List Int)/\True) (Sum.inl (wrap i64 (v0.1+1),v0.2++[v0.1])))) (.nx ((((ag.Nil (ag.ints u32 a)\/rE (1:Nat))/\rE (a:List Int))/\((ag.Nil (ag.ints u32 b)\/rE (1:Nat))/\rE (b:List Int))/\True/\rE (x0:Int)/\rE ((wrap i64 (v0.1+1)):Int)/\True)/\rE v0.2/\True) (Sum.inl (wrap i64 (v0.1+1),v0.2))))))) (.lf (Sum.inr v0.2)))
def Bj a b:=(Kb a b).m
abbrev Qai a b:=(Kb a b).p
def Z4i:bw:={
 α:=(Int)×(List Int)
 F:=λst a=>([(0,(lk st 0)),(1,(lk st 1)),(6,.all 0),(16,(lk st 16)),(17,.int i64 a.1)],[⟨false,3,1,.ints i64 a.2⟩])
 a0:=λst=>((lk st 17).toInt,(nS st.rows (rN st 6)))
 iU:=λst=>[]++[(rX st 6 0)]}
def Qz:List (Nat×bw):=[(6,Z4i)]
def Z7k:bd:=mT 94 [] true [.one (.ints .u32),.one (.ints .u32)] [] (λa r=>Kb (c9 .u32 a 0) (c9 .u32 a 1)) (λX=>.all 0) (λX=>[⟨false,3,1,.ints .i64 X⟩])
theorem Z49:bu pG Z7k:=oT (.cons Cg (.cons Qk2 (.nil))) Tryz.func94 Tryz.call94 [.row 3 1 (.ints .i64)] Qz 3
end
noncomputable section
instance Ug {α β:Type} [Inhabited β]:Inhabited (α⊕β):=⟨.inr default⟩
def VS(p0:Int)(iR:List Int)(N7:List kz):Tree (Bool×(List Int)×(List kz)):=
.an (P8 iR p0) (.lv (jO iR p0) λ(x0:List UInt8×Bool)=>.cn (decide (24*(N7.length+1)<=140737488355328)) (.lf (true,iR,N7++[{Frame:=p0,F0:=x0.1}])))
def Qo6 p0 iR N7:=(VS p0 iR N7).m
abbrev Qgr p0 iR N7:=(VS p0 iR N7).p
def Qy1:bd:=ka 2 1000000095 [false,true,true] [.one (.int .i64),.ptr 0,.ptr 1] [.box 30 1 [.ints .u32],.box 142 1 [.row 2],.arr 146 2 (.ao .bh)] (λa r=>Qgr (au a 0) (iv .u32 (tW r 0 0)) (tX .bh r 2)) (λa r=>Qo6 (au a 0) (iv .u32 (tW r 0 0)) (tX .bh r 2)) (λX=>.bool (X.1)) (λX=>[⟨true,30,1,.gen [[.sl 1 (.ints .u32 X.2.1) false]]⟩,⟨true,142,1,.gen [[.all 2]]⟩,⟨false,146,2,.ao .bh (X.2.2)⟩])
theorem Qvc:bu pG Qy1:=Zvu none (λ_ _=>trivial) drawn jL (.cons TV (.nil)) (Tryz.oG ⟨λ_ _=>by kernel_rfl,rfl⟩) (λh=>absurd h (by decide)) (λa r=>VS (au a 0) (iv .u32 (tW r 0 0)) (tX .bh r 2)) [.sl (.ints .u32) false,.row 146 2 (.ao .bh)] [] 2 (λ_ _ _=>by kernel_rfl) (λ_ _=>rfl) (λ_ _ h=>h)
def Qe(m:List Int)(l:List kz)(iR:List Bool)(z:(Int)×(List Int)×(List kz)):Nat:=(iR.length-z.1).toNat
def P9(m:List Int)(l:List kz)(iR:List Bool):Tree ((List Int)×(List kz)×(List Bool)):=
.lp inferInstance (Qe m l iR (0,m,l)+1) ((True/\((ag.Nil (ag.ah iR)\/rE (1:Nat))/\rE (iR:List Bool))/\rE ((iR.length:Int):Int)/\rE (0:Int)/\True)/\(((ag.Nil (ag.ints u32 m)\/rE (1:Nat))/\rE (m:List Int))/\True)/\(True/\True)/\(((ag.Nil (ag.ah iR)\/rE (1:Nat))/\rE (iR:List Bool))/\True)/\rE (l:List (RK.T RK.bh))/\True) (0,m,l) λ(v0:Int×List Int×List kz)=>.br (decide (v0.1<(iR.length:Int))) (.cn (bX 1 1&&bN 0 1&&decide (0<=v0.1/\v0.1<(iR.length:Int))) (.br (iR.getD v0.1.toNat false) (.an (Qgr v0.1 v0.2.1 v0.2.2) (.lv (Qo6 v0.1 v0.2.1 v0.2.2) λ(x0:Bool×List Int×List kz)=>.br (!x0.1) (.lf (Sum.inr (x0.2.1,x0.2.2,iR))) (.nx ((True/\((ag.Nil (ag.ah iR)\/rE (1:Nat))/\rE (iR:List Bool))/\rE ((iR.length:Int):Int)/\rE ((wrap i64 (v0.1+1)):Int)/\True)/\(((ag.Nil (ag.ints u32 x0.2.1)\/fp Nat 1 1)/\rE x0.2.1)/\True)/\(True/\True)/\(((ag.Nil (ag.ah iR)\/rE (1:Nat))/\rE (iR:List Bool))/\True)/\rE x0.2.2/\True) (Sum.inl (wrap i64 (v0.1+1),x0.2.1,x0.2.2))))) (.nx ((True/\((ag.Nil (ag.ah iR)\/rE (1:Nat))/\rE (iR:List Bool))/\rE ((iR.length:Int):Int)/\rE ((wrap i64 (v0.1+1)):Int)/\True)/\(((ag.Nil (ag.ints u32 v0.2.1)\/fp Nat 1 1)/\rE v0.2.1)/\True)/\(True/\True)/\(((ag.Nil (ag.ah iR)\/rE (1:Nat))/\rE (iR:List Bool))/\True)/\rE v0.2.2/\True) (Sum.inl (wrap i64 (v0.1+1),v0.2.1,v0.2.2))))) (.lf (Sum.inr (v0.2.1,v0.2.2,iR)))
def Qx m l iR:=(P9 m l iR).m
abbrev Qya m l iR:=(P9 m l iR).p
def Zm9:bw:={
 α:=(Int)×(List Int)×(List kz)
 F:=λst a=>([(0,.gv 1000000095 [.ptr 0 0 0,.ptr 1 0 0]),(5,(lk st 5)),(6,(lk st 6)),(7,.int i64 a.1)],[⟨true,30,1,.gen [[.sl 1 (.ints u32 a.2.1) false]]⟩,⟨true,142,1,.gen [[.all 3]]⟩,⟨true,44,1,.gen [[(bg st.rows 2 0)]]⟩,⟨false,146,2,.ao RK.bh a.2.2⟩])
 a0:=λst=>((lk st 7).toInt,(iv u32 (bg st.rows 0 0)),(rY RK.bh st.rows (jq (bg st.rows 1 0) 1000000)))
 iU:=λst=>[0,1,2]++[(jq (bg st.rows 1 0) (st.rows.length+3))]}
def Zda:List (Nat×bw):=[(1,Zm9)]
def Zol:bd:=ka 3 204 [true,true] [.gv 1000000095 [.ptr 0 0 0,.ptr 1 0 0],.ptr 2] [.box 30 1 [.ints .u32],.box 142 1 [.row 3],.box 44 1 [.ah],.arr 146 2 (.ao .bh)] (λa r=>Qya (iv .u32 (tW r 0 0)) (tX .bh r 3) (mb (tW r 2 0))) (λa r=>Qx (iv .u32 (tW r 0 0)) (tX .bh r 3) (mb (tW r 2 0))) (λX=>.dw []) (λX=>[⟨true,30,1,.gen [[.sl 1 (.ints .u32 X.1) false]]⟩,⟨true,142,1,.gen [[.all 3]]⟩,⟨true,44,1,.gen [[.sl 1 (.ah X.2.2) false]]⟩,⟨false,146,2,.ao .bh (X.2.1)⟩])
theorem Zkq:bu pG Zol:=ub drawn jL (.cons Qvc (.nil)) Tryz.func204 Tryz.call204 (λa r=>P9 (iv .u32 (tW r 0 0)) (tX .bh r 3) (mb (tW r 2 0))) [.sl (.ints .u32) false,.row 146 2 (.ao .bh),.sl (.ah) false] Zda 3 (λ_ _ _=>by kernel_rfl) (λ_ _=>rfl) (λ_ _ h=>h)
end
noncomputable section
def GX(s:(List (List UInt8))):(List (List UInt8)):=
s
def N8(s:(List (List UInt8))):Prop:=
s.length<=1000000000000
def Q4u(s:(List (List UInt8))):List D:=[.sl 1 (.ao .str s) false]
def XU(s:(List (List UInt8))):List Row:=[]
def N9(X:(List (List UInt8))):D:=.all 0
def Oa(X:(List (List UInt8))):List Row:=[⟨false,9,1,.ao .str X⟩]
def Qgy:List nh:=[.row 9 1 (.ao .str)]
def Q8z:List PT:=[.one (.ao .str)]
def Q8i:List RT:=[]
def Qjk(args:List D)(rows:List Row):(List (List UInt8)):=GX (ji .str args 0)
def Qj8(args:List D)(rows:List Row):Prop:=N8 (ji .str args 0)
def Ql9:bd:=lj 73 [] true Q8z Q8i Qj8 Qjk N9 Oa
def Q65(s:(List (List UInt8)))(jt:(List (List UInt8))->Prop):Prop:=
(s=[]->jt [])/\cy (decide ((16:Nat)*((0:Nat)+s.length)<=(140737488355328:Nat))) (jt s)
set_option maxRecDepth 100000 in
theorem Qk1(s:(List (List UInt8)))(Q:D->List Row->Prop):(ky kb [] (LL kb [] Tryz.f73.ntmps 0 [] 2) Tryz.f73 (Q4u s) (XU s) λd R=>ow (XU s).length Qgy d R Q)=Q65 s (λX=>Q (N9 X) (Oa X)):=by kernel_rfl
theorem Qi0(s:(List (List UInt8)))(jt:(List (List UInt8))->Prop)(hw:N8 s)(h:jt (GX s)):
Q65 s jt:=by
 delta Q65
 refine⟨λe=>by rw[e]at h;exact h,?_⟩
 rw[de]
 refine⟨dY ?_,h⟩
 have:s.length<=1000000000000:=hw
 omega
set_option maxRecDepth 100000 in
theorem Qgm(s:(List (List UInt8)))(hw:N8 s):kM pG 73 (Q4u s) (XU s) (N9 (GX s)) (Oa (GX s)):=
 have hG:jU pG []:=.nil
 mF.calls drawn jL hG Tryz.func73 (rf:=none) (λ_ _=>trivial) (Ho drawn jL hG (.inl rfl) 2 (fx:=[])) (mF.of (Qk1 s _) (Qi0 s (λX=>N9 X=N9 (GX s)/\Oa X=Oa (GX s)) hw ⟨rfl,rfl⟩))
set_option maxRecDepth 100000 in
theorem Qhr(args:List D)(rows:List Row):lN Q8z args 0=Q4u (ji .str args 0):=by kernel_rfl
set_option maxRecDepth 100000 in
theorem Qgo(args:List D)(rows:List Row):kR Q8i rows 0=XU (ji .str args 0):=by kernel_rfl
set_option maxRecDepth 100000 in
theorem Qjt(X:(List (List UInt8))):(ue (N9 X)&&jP (Oa X))=true:=by kernel_rfl
theorem Q5q:bu pG Ql9:=GR Tryz.call73 (λargs rows hp=>by rw[Qhr args rows,Qgo args rows];exact Qgm (ji .str args 0) hp) (λ_ X=>Qjt X)
def Qja(a:(List (List UInt8)))(b:(List (List UInt8)))(z:(Int)):Prop:=0<=z/\z<=a.length/\a.length=b.length
def RC(a:(List (List UInt8)))(b:(List (List UInt8)))(z:(Int)):Nat:=(a.length-z).toNat
def No(a:(List (List UInt8)))(b:(List (List UInt8))):Tree Bool:=
.br ((a.length:Int) !=(b.length:Int)) (.lf false) (.lp inferInstance (RC a b 0+1) ((nR RK.str 1 a/\nR RK.str 1 b/\rE (0:Int)/\True)/\True) 0 λ(v0:Int)=>.br (decide (v0<(a.length:Int))) (.cn (bX 1 1&&bN 0 1&&decide (0<=v0/\v0<(a.length:Int))) (.cn (bX 1 1&&bN 0 1&&decide (0<=v0/\v0<(b.length:Int))) (.br (!decide (a.getD v0.toNat (RK.dk RK.str)=b.getD v0.toNat (RK.dk RK.str))) (.lf (Sum.inr false)) (.nx ((nR RK.str 1 a/\nR RK.str 1 b/\rE ((wrap i64 (v0+1)):Int)/\True)/\True) (Sum.inl (wrap i64 (v0+1))))))) (.lf (Sum.inr true)))
def Qt3 a b:=(No a b).m
def XV(a:(List (List UInt8)))(b:(List (List UInt8))):Prop:=
a.length<=1000000000000
theorem Qxv(a:(List (List UInt8)))(b:(List (List UInt8)))(hw:XV a b):(No a b).p:=by
 simp only[XV]at hw
 unfold Tree.p No
 repeat'(first|refine ed (inv:=Qja a b) (μ:=RC a b) ?_ (cN _) (λ_ _=>?_)|exact trivial|refine aa (λ_=>?_) (λ_=>?_)|refine ar ?_ ?_|refine bz ?_ ?_|refine ai (λ_ _=>?_)|refine dj ?_|refine aw ?_|refine And.intro ?_ ?_)
 all_goals((try simp only[Qja,RC]at*);exact mC)
def Qzr:bw:={
 α:=(Int)
 F:=λst a=>([(0,(lk st 0)),(1,(lk st 1)),(5,.int i64 a)],[])
 a0:=λst=>(lk st 5).toInt
 iU:=λst=>[]++[]}
def Qvg:List (Nat×bw):=[(4,Qzr)]
def Z23:bd:=lj 88 [] true [.one (.ao .str),.one (.ao .str)] [] (λa r=>XV (ji .str a 0) (ji .str a 1)) (λa r=>Qt3 (ji .str a 0) (ji .str a 1)) (λX=>.bool X) (λX=>[])
theorem Qz4:bu pG Z23:=sF drawn jL (.nil) Tryz.func88 Tryz.call88 (λa r=>No (ji .str a 0) (ji .str a 1)) [] Qvg 3 (hp:=λa r h=>Qxv (ji .str a 0) (ji .str a 1) h)
def Kk(s:gu)(z:(Int)):Nat:=(s.ab.length-z).toNat
def Gf(s:gu):Tree Bool:=
.br (decide ((s.ab.length:Int)<(1:Int))) (.lf false) (.br (decide ((s.ab.length:Int)>(64:Int))) (.lf false) (.br (decide (s.D3>4611686018427387904)) (.lf false) (let T1:Tree (Bool):=.lp inferInstance (Kk s 0+1) ((rZ/\rE (0:Int)/\True)/\(((ag.Nil (ag.ao RK.str s.ab)\/rE (1:Nat))/\rE s.ab)/\rE s.D3/\rE s.D7/\True)/\True) 0 λ(v0:Int)=>.br (decide (v0<(s.ab.length:Int))) (.cn (bX 1 1&&bN 0 1&&decide (0<=v0/\v0<(s.ab.length:Int))) (.br ((↑(dF (s.ab.getD v0.toNat (RK.dk RK.str))):Int) !=(128:Int)) (.lf (Sum.inr false)) (.nx ((rZ/\rE ((wrap i64 (v0+1)):Int)/\True)/\(((ag.Nil (ag.ao RK.str s.ab)\/rE (1:Nat))/\rE s.ab)/\rE s.D3/\rE s.D7/\True)/\True) (Sum.inl (wrap i64 (v0+1)))))) (.lf (Sum.inr true));.br (s.D3==0) (.br (s.D7 !=(-1)) (.lf false) (.br (decide (s.D3>0)) (.br (decide (s.D7<0)) (.lf false) T1) T1)) (.br (decide (s.D3>0)) (.br (decide (s.D7<0)) (.lf false) T1) T1))))
def Qds s:=(Gf s).m
abbrev Q8b s:=(Gf s).p
def Qzk:bw:={
 α:=(Int)
 F:=λst a=>([(1,.ptr 0 0 0),(3,.int i64 a)],[⟨true,52,3,.gen [[(cT st 1 0),(cT st 1 1),(cT st 1 2)]]⟩])
 a0:=λst=>(lk st 3).toInt
 iU:=λst=>[]++[(rX st 1 0)]}
def Qvi:List (Nat×bw):=[(4,Qzk)]
def Z1s:bd:=mT 35 [] true [.agg gu.sig] [] (λa r=>Gf (gu.of (aC a 0))) (λX=>.bool X) (λX=>[])
theorem Qe9:bu pG Z1s:=oT (.nil) Tryz.func35 Tryz.call35 [] Qvi 3
def Rp(blocks:(List (List UInt8))):Tree (gu×Bool):=
.cn (decide (16*(0+blocks.length)<=140737488355328)) (.an (Q8b {ab:=blocks,D3:=0,D7:=(-1)}) (.lv (Qds {ab:=blocks,D3:=0,D7:=(-1)}) λ(x0:Bool)=>.br (!x0) (.lf ({ab:=[],D3:=0,D7:=0},false)) (.lf ({ab:=blocks,D3:=0,D7:=(-1)},true))))
def Qy6 blocks:=(Rp blocks).m
abbrev Qoc blocks:=(Rp blocks).p
def Z7a:bd:=mT 31 [] true [.one (.ao .str)] [] (λa r=>Rp (ji .str a 0)) (λX=>.dw [.agg (gu.cg (X.1) (.all 0)),.bool (X.2)]) (λX=>[⟨false,9,1,.ao .str (X.1).ab⟩])
theorem Z3i:bu pG Z7a:=oT (.cons Qe9 (.nil)) Tryz.func31 Tryz.call31 [.row 9 1 (.ao .str)] [] 2
def Kl(s:gu)(host seen:Int):Tree (gu×Bool):=
.an (Q8b s) (.lv (Qds s) λ(x0:Bool)=>.br (!x0) (.lf (s,false)) (.br (decide (host<0)) (.lf (s,false)) (.br (s.D3 !=seen) (.lf (s,false)) (.br (decide (seen>=4611686018427387904)) (.lf (s,false)) (.lf ({ab:=s.ab,D3:=wrap u64 (s.D3+1),D7:=host},true))))))
def Qrs s host seen:=(Kl s host seen).m
abbrev Qgg s host seen:=(Kl s host seen).p
def Zke:bd:=mT 33 [] false [.agg gu.sig,.one (.int .i64),.one (.int .u64)] [] (λa r=>Kl (gu.of (aC a 0)) (au a 1) (au a 2)) (λX=>.dw [.agg (gu.cells (X.1)),.bool (X.2)]) (λX=>[])
theorem Qpo:bu pG Zke:=oT (.cons Qe9 (.nil)) Tryz.func33 Tryz.call33 [.sl (.ao .str) false] [] 2 (jc:=nofun)
def RH(a b:gu):Tree Bool:=
.br (a.D3==b.D3) (.br (a.D7==b.D7) (.an (XV a.ab b.ab) (.lv (Qt3 a.ab b.ab) λ(x0:Bool)=>.lf x0)) (.lf false)) (.lf false)
def Qvn a b:=(RH a b).m
abbrev Qmg a b:=(RH a b).p
def Z5a:bd:=mT 41 [] true [.agg gu.sig,.agg gu.sig] [] (λa r=>RH (gu.of (aC a 0)) (gu.of (aC a 1))) (λX=>.bool X) (λX=>[])
theorem Z2c:bu pG Z5a:=oT (.cons Qz4 (.nil)) Tryz.func41 Tryz.call41 [] [] 2
def Qhg(n:Int)(z:(Int)×(List (List UInt8))):Nat:=(4-z.1).toNat
def Ro(n:Int):Tree (List (List UInt8)):=
.lp inferInstance (Qhg n (0,[])+1) ((rE (n:Int)/\True/\rE (0:Int)/\True)/\rE ([]:List (RK.T RK.str))/\True) (0,[]) λ(v0:Int×List (List UInt8))=>.br (decide (v0.1<4)) (.an (Rn (wrap i64 (n+v0.1)) 128) (.lv (Zba (wrap i64 (n+v0.1)) 128) λ(x0:List UInt8)=>.cn (decide (16*(v0.2.length+1)<=140737488355328)) (.nx ((rE (n:Int)/\True/\rE ((wrap i64 (v0.1+1)):Int)/\True)/\rE ((v0.2++[x0]):List (RK.T RK.str))/\True) (Sum.inl (wrap i64 (v0.1+1),v0.2++[x0]))))) (.lf (Sum.inr v0.2))
def Z9j n:=(Ro n).m
abbrev Qw8 n:=(Ro n).p
def Zfn:bw:={
 α:=(Int)×(List (List UInt8))
 F:=λst a=>([(0,(lk st 0)),(3,.all 0),(4,.int i64 a.1)],[⟨false,9,1,.ao RK.str a.2⟩])
 a0:=λst=>((lk st 4).toInt,(rY RK.str st.rows (rN st 3)))
 iU:=λst=>[]++[(rX st 3 0)]}
def Z82:List (Nat×bw):=[(3,Zfn)]
def Zmx:bd:=mT 32 [] true [.one (.int .i64)] [] (λa r=>Ro (au a 0)) (λX=>.all 0) (λX=>[⟨false,9,1,.ao .str X⟩])
theorem Zg:bu pG Zmx:=oT (.cons Zq4 (.nil)) Tryz.func32 Tryz.call32 [.row 9 1 (.ao .str)] Z82 3
def Rt(n:Int):Tree jd:=
.lv (Wg n 12) λ(x0:Int)=>let T2:Tree (jd):=.lf ({C2:=1,N:=cZ (bn i64 x0 8) 30,C0:=bm i64 (bn i64 x0 5) (3:Int)==(0:Int),F2:=wrap u32 (cZ (bn i64 x0 16) 100)});.br (cZ x0 (12:Int)==(0:Int)) T2 (.br (cZ x0 (12:Int)==(1:Int)) T2 (.br (cZ x0 (12:Int)==(2:Int)) (.lf ({C2:=2,N:=cZ (bn i64 x0 8) 3,C0:=bm i64 (bn i64 x0 5) (3:Int)==(0:Int),F2:=wrap u32 (cZ (bn i64 x0 16) 100)})) (.br (cZ x0 (12:Int)==(3:Int)) (.lf ({C2:=3,N:=cZ (bn i64 x0 8) 9,C0:=bm i64 (bn i64 x0 5) (3:Int)==(0:Int),F2:=wrap u32 (cZ (bn i64 x0 16) 100)})) (let T1:Tree (jd):=.lf ({C2:=5,N:=cZ (bn i64 x0 8) 4,C0:=bm i64 (bn i64 x0 5) (3:Int)==(0:Int),F2:=wrap u32 (cZ (bn i64 x0 16) 100)});.br (cZ x0 (12:Int)==(4:Int)) T1 (.br (cZ x0 (12:Int)==(5:Int)) T1 (.br (cZ x0 (12:Int)==(6:Int)) T1 (.br (cZ x0 (12:Int)==(7:Int)) T1 (.br (cZ x0 (12:Int)==(8:Int)) (.cn (bX 1 1&&bN 0 1&&decide (0<=bm i64 (bn i64 x0 8) 1/\bm i64 (bn i64 x0 8) 1<(↑2:Int))) (.lf ({C2:=aV [6,7] (dA (bm i64 (bn i64 x0 8) 1)) 0,N:=cZ (bn i64 x0 8) 3,C0:=bm i64 (bn i64 x0 5) (3:Int)==(0:Int),F2:=wrap u32 (cZ (bn i64 x0 16) 100)}))) (.br (cZ x0 (12:Int)==(9:Int)) (.lf ({C2:=8,N:=cZ (bn i64 x0 8) 3,C0:=bm i64 (bn i64 x0 5) (3:Int)==(0:Int),F2:=wrap u32 (cZ (bn i64 x0 16) 100)})) (.br (cZ x0 (12:Int)==(10:Int)) (.lf ({C2:=4,N:=cZ (bn i64 x0 8) 3,C0:=bm i64 (bn i64 x0 5) (3:Int)==(0:Int),F2:=wrap u32 (cZ (bn i64 x0 16) 100)})) (.cn (bX 1 1&&bN 0 1&&decide (0<=cZ (bn i64 x0 8) 6/\cZ (bn i64 x0 8) 6<(↑6:Int))) (.lf ({C2:=aV [9,8,8,10,5,5] (dA (cZ (bn i64 x0 8) 6)) 0,N:=cZ (bn i64 x0 8) 3,C0:=bm i64 (bn i64 x0 5) (3:Int)==(0:Int),F2:=wrap u32 (cZ (bn i64 x0 16) 100)})))))))))))))
def Zrn n:=(Rt n).m
abbrev Z1a n:=(Rt n).p
def Zu1:bd:=mT 15 [] true [.one (.int .i64)] [] (λa r=>Rt (au a 0)) (λX=>.agg (jd.cells X)) (λX=>[])
theorem Zr7:bu pG Zu1:=oT (.cons Qzf (.nil)) Tryz.func15 Tryz.call15 [] [] 2
def Qeh(s:gu)(z:(Int)):Nat:=(s.ab.length-z).toNat
def QH(s:gu):Tree Bool:=
.br (decide ((s.ab.length:Int)<(1:Int))) (.lf false) (.br (decide ((s.ab.length:Int)>(64:Int))) (.lf false) (.br (decide (s.D3>4611686018427387904)) (.lf false) (.lp inferInstance (Qeh s 0+1) ((rZ/\((ag.Nil (ag.ao RK.str s.ab)\/rE (1:Nat))/\rE s.ab)/\rE ((s.ab.length:Int):Int)/\rE (0:Int)/\True)/\(((ag.Nil (ag.ao RK.str s.ab)\/rE (1:Nat))/\rE s.ab)/\rE s.D3/\rE s.D7/\True)/\True) 0 λ(v0:Int)=>.br (decide (v0<(s.ab.length:Int))) (.cn (bX 1 1&&bN 0 1&&decide (0<=v0/\v0<(s.ab.length:Int))) (.br ((↑(dF (s.ab.getD v0.toNat (RK.dk RK.str))):Int) !=(128:Int)) (.lf (Sum.inr false)) (.nx ((rZ/\((ag.Nil (ag.ao RK.str s.ab)\/rE (1:Nat))/\rE s.ab)/\rE ((s.ab.length:Int):Int)/\rE ((wrap i64 (v0+1)):Int)/\True)/\(((ag.Nil (ag.ao RK.str s.ab)\/rE (1:Nat))/\rE s.ab)/\rE s.D3/\rE s.D7/\True)/\True) (Sum.inl (wrap i64 (v0+1)))))) (.br (s.D3==0) (.lf (Sum.inr (s.D7==(-1)))) (.lf (Sum.inr (decide (s.D7>=0))))))))
def Qs8 s:=(QH s).m
abbrev Qh4 s:=(QH s).p
def Z85:bw:={
 α:=(Int)
 F:=λst a=>([(1,.ptr 0 0 0),(21,(lk st 21)),(22,(lk st 22)),(23,.int i64 a)],[⟨true,52,3,.gen [[(cT st 1 0),(cT st 1 1),(cT st 1 2)]]⟩])
 a0:=λst=>(lk st 23).toInt
 iU:=λst=>[]++[(rX st 1 0)]}
def Z1:List (Nat×bw):=[(4,Z85)]
def Z9u:bd:=mT 69 [] true [.agg gu.sig] [] (λa r=>QH (gu.of (aC a 0))) (λX=>.bool X) (λX=>[])
theorem Qt2:bu pG Z9u:=oT (.nil) Tryz.func69 Tryz.call69 [] Z1 3
def QJ(s:gu):Tree gu:=
.an (N8 s.ab) (.lv (GX s.ab) λ(x0:List (List UInt8))=>.lf ({ab:=x0,D3:=s.D3,D7:=s.D7}))
def Z0e s:=(QJ s).m
abbrev Qr7 s:=(QJ s).p
def Z9g:bd:=mT 148 [] true [.agg gu.sig] [] (λa r=>QJ (gu.of (aC a 0))) (λX=>.agg (gu.cg X (.all 0))) (λX=>[⟨false,9,1,.ao .str X.ab⟩])
theorem Z7d:bu pG Z9g:=oT (.cons Q5q (.nil)) Tryz.func148 Tryz.call148 [.row 9 1 (.ao .str)] [] 2
def QI(s:gu)(host seen:Int):Tree (gu×Bool):=
.an (Qr7 s) (.lv (Z0e s) λ(x0:gu)=>.an (Qh4 s) (.lv (Qs8 s) λ(x1:Bool)=>.br (!x1) (.lf (x0,false)) (.br (decide (host<0)) (.lf (x0,false)) (.br (s.D3 !=seen) (.lf (x0,false)) (.br (decide (seen>=4611686018427387904)) (.lf (x0,false)) (.lf ({ab:=x0.ab,D3:=wrap u64 (x0.D3+1),D7:=host},true)))))))
def mI s host seen:=(QI s host seen).m
abbrev Qhb s host seen:=(QI s host seen).p
def Zd5:bd:=mT 104 [] true [.agg gu.sig,.one (.int .i64),.one (.int .u64)] [] (λa r=>QI (gu.of (aC a 0)) (au a 1) (au a 2)) (λX=>.dw [.agg (gu.cg (X.1) (.all 0)),.bool (X.2)]) (λX=>[⟨false,9,1,.ao .str (X.1).ab⟩])
theorem Qsv:bu pG Zd5:=oT (.cons Z7d (.cons Qt2 (.nil))) Tryz.func104 Tryz.call104 [.row 9 1 (.ao .str)] [] 2
end
noncomputable section
def GY(s:List Int):(List Int):=
s
def Ob(s:List Int):Prop:=
s.length<=1000000000000
def Q84(s:List Int):List D:=[.sl 1 (.ints .i64 s) false]
def XW(s:List Int):List Row:=[]
def Oc(X:List Int):D:=.all 0
def Od(X:List Int):List Row:=[⟨false,3,1,.ints .i64 X⟩]
def Qpf:List nh:=[.row 3 1 (.ints .i64)]
def Qeo:List PT:=[.one (.ints .i64)]
def Qdh:List RT:=[]
def Qqr(args:List D)(rows:List Row):(List Int):=GY (c9 .i64 args 0)
def Qpv(args:List D)(rows:List Row):Prop:=Ob (c9 .i64 args 0)
def Qtq:bd:=lj 134 [] true Qeo Qdh Qpv Qqr Oc Od
def Qac(s:List Int)(jt:(List Int)->Prop):Prop:=
(s=[]->jt [])/\cy (decide ((8:Nat)*((0:Nat)+s.length)<=(140737488355328:Nat))) (jt s)
set_option maxRecDepth 100000 in
theorem Qsb(s:List Int)(Q:D->List Row->Prop):(ky kb [] (LL kb [] Tryz.f134.ntmps 0 [] 2) Tryz.f134 (Q84 s) (XW s) λd R=>ow (XW s).length Qpf d R Q)=Qac s (λX=>Q (Oc X) (Od X)):=by kernel_rfl
theorem Qpk(s:List Int)(jt:(List Int)->Prop)(hw:Ob s)(h:jt (GY s)):
Qac s jt:=by
 delta Qac
 refine⟨λe=>by rw[e]at h;exact h,?_⟩
 rw[de]
 refine⟨dY ?_,h⟩
 have:s.length<=1000000000000:=hw
 omega
set_option maxRecDepth 100000 in
theorem Qnx(s:List Int)(hw:Ob s):kM pG 134 (Q84 s) (XW s) (Oc (GY s)) (Od (GY s)):=
 have hG:jU pG []:=.nil
 mF.calls drawn jL hG Tryz.func134 (rf:=none) (λ_ _=>trivial) (Ho drawn jL hG (.inl rfl) 2 (fx:=[])) (mF.of (Qsb s _) (Qpk s (λX=>Oc X=Oc (GY s)/\Od X=Od (GY s)) hw ⟨rfl,rfl⟩))
set_option maxRecDepth 100000 in
theorem Qp6(args:List D)(rows:List Row):lN Qeo args 0=Q84 (c9 .i64 args 0):=by kernel_rfl
set_option maxRecDepth 100000 in
theorem Qnw(args:List D)(rows:List Row):kR Qdh rows 0=XW (c9 .i64 args 0):=by kernel_rfl
set_option maxRecDepth 100000 in
theorem Qrf(X:List Int):(ue (Oc X)&&jP (Od X))=true:=by kernel_rfl
theorem Qfy:bu pG Qtq:=GR Tryz.call134 (λargs rows hp=>by rw[Qp6 args rows,Qnw args rows];exact Qnx (c9 .i64 args 0) hp) (λ_ X=>Qrf X)
def Qd2(s1 s2:List Int)(z:(Int)):Prop:=0<=z/\z<=s1.length/\s1.length=s2.length
def Rk(s1 s2:List Int)(z:(Int)):Nat:=(s1.length-z).toNat
def Nh(s1 s2:List Int):Tree Bool:=
.br ((s1.length:Int) !=(s2.length:Int)) (.lf false) (.lp inferInstance (Rk s1 s2 0+1) ((((ag.Nil (ag.ints i64 s1)\/rE (1:Nat))/\rE (s1:List Int))/\((ag.Nil (ag.ints i64 s2)\/rE (1:Nat))/\rE (s2:List Int))/\rE ((s1.length:Int):Int)/\rE (0:Int)/\True)/\True) 0 λ(v0:Int)=>.br (decide (v0<(s1.length:Int))) (.cn (bX 1 1&&bN 0 1&&decide (0<=v0/\v0<(s1.length:Int))) (.cn (bX 1 1&&bN 0 1&&decide (0<=v0/\v0<(s2.length:Int))) (.br (s1.getD v0.toNat 0 !=s2.getD v0.toNat 0) (.lf (Sum.inr false)) (.nx ((((ag.Nil (ag.ints i64 s1)\/rE (1:Nat))/\rE (s1:List Int))/\((ag.Nil (ag.ints i64 s2)\/rE (1:Nat))/\rE (s2:List Int))/\rE ((s1.length:Int):Int)/\rE ((wrap i64 (v0+1)):Int)/\True)/\True) (Sum.inl (wrap i64 (v0+1))))))) (.lf (Sum.inr true)))
def Qkd s1 s2:=(Nh s1 s2).m
def XX(s1 s2:List Int):Prop:=
s1.length<=1000000000000
theorem Qpx(s1 s2:List Int)(hw:XX s1 s2):(Nh s1 s2).p:=by
 simp only[XX]at hw
 unfold Tree.p Nh
 repeat'(first|refine ed (inv:=Qd2 s1 s2) (μ:=Rk s1 s2) ?_ (cN _) (λ_ _=>?_)|exact trivial|refine aa (λ_=>?_) (λ_=>?_)|refine ar ?_ ?_|refine bz ?_ ?_|refine ai (λ_ _=>?_)|refine dj ?_|refine aw ?_|refine And.intro ?_ ?_)
 all_goals((try simp only[Qd2,Rk]at*);exact mC)
def Qrq:bw:={
 α:=(Int)
 F:=λst a=>([(0,(lk st 0)),(1,(lk st 1)),(12,(lk st 12)),(13,.int i64 a)],[])
 a0:=λst=>(lk st 13).toInt
 iU:=λst=>[]++[]}
def Qpn:List (Nat×bw):=[(4,Qrq)]
def Qu2:bd:=lj 65 [] true [.one (.ints .i64),.one (.ints .i64)] [] (λa r=>XX (c9 .i64 a 0) (c9 .i64 a 1)) (λa r=>Qkd (c9 .i64 a 0) (c9 .i64 a 1)) (λX=>.bool X) (λX=>[])
theorem Qsg:bu pG Qu2:=sF drawn jL (.nil) Tryz.func65 Tryz.call65 (λa r=>Nh (c9 .i64 a 0) (c9 .i64 a 1)) [] Qpn 3 (hp:=λa r h=>Qpx (c9 .i64 a 0) (c9 .i64 a 1) h)
def Q1(m:bj):Tree bj:=
.an (oB m.Mem) (.lv (kU m.Mem) λ(x0:List Int)=>.lf ({B2:=m.B2,Mem:=x0,B3:=m.B3,C1:=m.C1,B6:=m.B6,D4:=m.D4,B0:=m.B0,B9:=m.B9,B4:=m.B4,B8:=m.B8}))
def Uh m:=(Q1 m).m
abbrev Ui m:=(Q1 m).p
def Qts:bd:=mT 64 [] true [.agg bj.sig] [] (λa r=>Q1 (bj.of (aC a 0))) (λX=>.agg (bj.cg X (.all 0))) (λX=>[⟨false,25,1,.ints .u32 X.Mem⟩])
theorem XY:bu pG Qts:=oT (.cons Li (.nil)) Tryz.func64 Tryz.call64 [.row 25 1 (.ints .u32)] [] 2
def Rh(s:fu):Tree fu:=
.an (Ui s.A0) (.lv (Uh s.A0) λ(x0:bj)=>.an (Uf s.B1.A6) (.lv (I0 s.B1.A6) λ(x1:List Bool)=>.an (Ob s.A3) (.lv (GY s.A3) λ(x2:List Int)=>.an (Ob s.B7) (.lv (GY s.B7) λ(x3:List Int)=>.lf ({A4:=s.A4,A0:=x0,B1:={A6:=x1,B5:=s.B1.B5,D6:=s.B1.D6},A3:=x2,B7:=x3,D3:=s.D3})))))
def Qi3 s:=(Rh s).m
abbrev Qb9 s:=(Rh s).p
def Qz0:bd:=mT 90 [] true [.agg fu.sig] [] (λa r=>Rh (fu.of (aC a 0))) (λX=>.agg (fu.cg X (.all 0) (.all 1) (.all 2) (.all 3))) (λX=>[⟨false,25,1,.ints .u32 X.A0.Mem⟩,⟨false,4,1,.ah X.B1.A6⟩,⟨false,3,1,.ints .i64 X.A3⟩,⟨false,3,1,.ints .i64 X.B7⟩])
theorem Qy0:bu pG Qz0:=oT (.cons XY (.cons Qdl (.cons Qfy (.nil)))) Tryz.func90 Tryz.call90 [.row 25 1 (.ints .u32),.row 4 1 (.ah),.row 3 1 (.ints .i64),.row 3 1 (.ints .i64)] [] 2
def Re(l:ep):Tree ep:=
.an (Ui l.A0) (.lv (Uh l.A0) λ(x0:bj)=>.an (Ob l.A3) (.lv (GY l.A3) λ(x1:List Int)=>.lf ({C2:=l.C2,B5:=l.B5,Frame:=l.Frame,F0:=l.F0,A0:=x0,A3:=x1})))
def Q9g l:=(Re l).m
abbrev Q64 l:=(Re l).p
def Qw:bd:=mT 103 [] false [.agg ep.sig] [] (λa r=>Re (ep.of (aC a 0))) (λX=>.agg (ep.cells X)) (λX=>[])
theorem Qgu:bu pG Qw:=oT (.cons XY (.cons Qfy (.nil))) Tryz.func103 Tryz.call103 [.sl (.ints .u32) false,.sl (.ints .i64) false] [] 2 (jc:=nofun)
def Q72(l:List ep)(z:(Int)×(List ep)):Nat:=(l.length-z.1).toNat
def Rg(l:List ep):Tree (List ep):=
.lp inferInstance (Q72 l (0,[])+1) ((True/\nR RK.ae 54 l/\rE ((l.length:Int):Int)/\rE (0:Int)/\True)/\rE ([]:List (RK.T RK.ae))/\True) (0,[]) λ(v0:Int×List ep)=>.br (decide (v0.1<(l.length:Int))) (.cn (bX 54 54&&bN 0 54&&decide (0<=v0.1/\v0.1<(l.length:Int))) (let E1:=l.getD v0.1.toNat (RK.dk RK.ae);.an (Q64 E1) (.lv (Q9g E1) λ(x0:ep)=>.cn (decide (328*(v0.2.length+1)<=140737488355328)) (.nx ((True/\nR RK.ae 54 l/\rE ((l.length:Int):Int)/\rE ((wrap i64 (v0.1+1)):Int)/\True)/\rE ((v0.2++[x0]):List (RK.T RK.ae))/\True) (Sum.inl (wrap i64 (v0.1+1),v0.2++[x0])))))) (.lf (Sum.inr v0.2))
def Qcp l:=(Rg l).m
abbrev Q8c l:=(Rg l).p
def Qrw:bw:={
 α:=(Int)×(List ep)
 F:=λst a=>([(3,.all 0),(6,(lk st 6)),(7,(lk st 7)),(8,.int i64 a.1)],[⟨false,80,54,.ao RK.ae a.2⟩])
 a0:=λst=>((lk st 8).toInt,(rY RK.ae st.rows (rN st 3)))
 iU:=λst=>[]++[(rX st 3 0)]}
def Qp5:List (Nat×bw):=[(3,Qrw)]
def Qu4:bd:=mT 91 [] false [.one (.ao .ae)] [] (λa r=>Rg (ji .ae a 0)) (λX=>.all 0) (λX=>[⟨false,80,54,.ao .ae X⟩])
theorem Qsf:bu pG Qu4:=oT (.cons Qgu (.nil)) Tryz.func91 Tryz.call91 [.row 80 54 (.ao .ae)] Qp5 3 (jc:=nofun)
def Rq(m:bj)(s:gu):Tree (cj×Bool):=
.an (Qb m) (.lv (BO m) λ(x0:Bool)=>let E3:=({X:={a0:=0,a1:=0,a2:=0,a3:=0,a4:=0,a5:=0,a6:=0,a7:=0,a8:=0,a9:=0,ug:=0,uh:=0,a12:=0,ui:=0,uj:=0,uk:=0},Pc:=0,C4:={a0:=0,a1:=0,a2:=0,a3:=0,a4:=0,a5:=0,a6:=0,a7:=0}}:cq);let T1:Tree ((cj×Bool)):=let E2:=({A4:=0,A0:={B2:=E3,Mem:=[],B3:={D9:=[]},C1:={E0:=false,D0:=0,D8:=false},B6:={ab:=0,C8:=0,Frame:=0,C9:=0,F5:=0,C5:=0,C6:=0,C7:=[]},D4:={Frame:=0,F7:=0,D2:=false,D5:=0,C3:=false,F8:=0},B0:={A2:=0,D1:=0},B9:=0,B4:=false,B8:=false},B1:={A6:=[],B5:=0,D6:=0},A3:=[],B7:=[],D3:=0}:fu);.lf ({A1:=E2,A2:=E2,A7:=[],C0:=[],A9:={ab:=[],D3:=0,D7:=0}},false);.br (!x0) T1 (.an (Qh4 s) (.lv (Qs8 s) λ(x1:Bool)=>.br (!x1) T1 (.br (s.D3==0) T1 (.lv (jX m.Mem) λ(x2:Int)=>.an (Qhj x2) (.lv (Qra x2) λ(x3:fc×Bool)=>.br (!x3.2) T1 (.an (Ui m) (.lv (Uh m) λ(x4:bj)=>let E4:=bN 0 1&&bX 1 1&&iP [D.int i64 0] D.plain&&decide (0<=x2/\x2<=x2/\x2<=9223372036854775807/\(↑8:Int)*x2<=140737488355328);.cn E4 (.cn E4 (.an (Qpp x2) (.lv (Z57 x2) λ(x5:List Int)=>.an (N8 s.ab) (.lv (GX s.ab) λ(x6:List (List UInt8))=>.lf ({A1:={A4:=1,A0:=x4,B1:=x3.1,A3:=cO x2.toNat 0,B7:=[],D3:=s.D3},A2:={A4:=0,A0:={B2:=E3,Mem:=x5,B3:={D9:=[]},C1:={E0:=false,D0:=0,D8:=false},B6:={ab:=0,C8:=0,Frame:=0,C9:=0,F5:=0,C5:=0,C6:=0,C7:=[]},D4:={Frame:=0,F7:=0,D2:=false,D5:=0,C3:=false,F8:=0},B0:={A2:=0,D1:=0},B9:=0,B4:=false,B8:=false},B1:={A6:=[],B5:=0,D6:=0},A3:=cO x2.toNat 0,B7:=[],D3:=s.D3},A7:=[],C0:=[],A9:={ab:=x6,D3:=s.D3,D7:=s.D7}},true)))))))))))))
def Zbt m s:=(Rq m s).m
abbrev Qva m s:=(Rq m s).p
def Zj8:bd:=mT 25 [] false [.agg bj.sig,.agg gu.sig] [] (λa r=>Rq (bj.of (aC a 0)) (gu.of (aC a 1))) (λX=>.dw [.agg (cj.cg (X.1) (.sl 1 (.ints .u32 X.1.A1.A0.Mem) true) (.sl 1 (.ah X.1.A1.B1.A6) true) (.all 0) (.sl 1 (.ints .i64 X.1.A1.B7) true) (.sl 1 (.ints .u32 X.1.A2.A0.Mem) true) (.sl 1 (.ah X.1.A2.B1.A6) true) (.all 1) (.sl 1 (.ints .i64 X.1.A2.B7) true) (.all 2) (.all 3) (.sl 1 (.ao .str X.1.A9.ab) true)),.bool (X.2)]) (λX=>[⟨false,3,1,.ints .i64 (X.1).A1.A3⟩,⟨false,3,1,.ints .i64 (X.1).A2.A3⟩,⟨false,80,54,.ao .ae (X.1).A7⟩,⟨false,80,54,.ao .ae (X.1).C0⟩])
theorem Zf2:bu pG Zj8:=oT (.cons Qym (.cons Qt2 (.cons Cg (.cons Z8e (.cons XY (.cons Zjj (.cons Q5q (.nil)))))))) Tryz.func25 Tryz.call25 [.sl (.ints .u32) true,.sl (.ah) true,.row 3 1 (.ints .i64),.sl (.ints .i64) true,.sl (.ints .u32) true,.sl (.ah) true,.row 3 1 (.ints .i64),.sl (.ints .i64) true,.row 80 54 (.ao .ae),.row 80 54 (.ao .ae),.sl (.ao .str) true] [] 2 (jc:=nofun)
def We(g:cj):Tree Int:=
.br (g.A1.A4==1) (.lf 0) (.br (g.A1.A4==3) (.lf 0) (.br (g.A2.A4==3) (.lf 1) (.lf (-1))))
def Dt g:=(We g).m
def Z5:bd:=mS 20 [] true [.agg cj.sig] [] (λa r=>We (cj.of (aC a 0))) (λX=>.int .i64 X) (λX=>[])
theorem XZ:bu pG Z5:=oS (.nil) Tryz.func20 Tryz.call20 [] [] 2
def Km(g:cj):Tree (bj×Bool):=
.lv (Dt g) λ(x0:Int)=>.br (x0==0) (.an (Ui g.A1.A0) (.lv (Uh g.A1.A0) λ(x1:bj)=>.lf (x1,true))) (.br (x0==1) (.an (Ui g.A2.A0) (.lv (Uh g.A2.A0) λ(x2:bj)=>.lf (x2,true))) (.lf (rk,false)))
def Wp g:=(Km g).m
abbrev Wo g:=(Km g).p
def Z4v:bd:=mT 18 [] true [.agg cj.sig] [] (λa r=>Km (cj.of (aC a 0))) (λX=>.dw [.agg (bj.cg (X.1) (.all 0)),.bool (X.2)]) (λX=>[⟨false,25,1,.ints .u32 (X.1).Mem⟩])
theorem Qo3:bu pG Z4v:=oT (.cons XZ (.cons XY (.nil))) Tryz.func18 Tryz.call18 [.row 25 1 (.ints .u32)] [] 2
def Rl(g:cj):Tree Bool:=
.br (g.A2.A4==2) (.an (XX g.A2.A3 g.A2.B7) (.lv (Qkd g.A2.A3 g.A2.B7) λ(x0:Bool)=>.lf x0)) (.lf false)
def Wt g:=(Rl g).m
abbrev Ws g:=(Rl g).p
def Z1d:bd:=mT 22 [] true [.agg cj.sig] [] (λa r=>Rl (cj.of (aC a 0))) (λX=>.bool X) (λX=>[])
theorem Qn5:bu pG Z1d:=oT (.cons Qsg (.nil)) Tryz.func22 Tryz.call22 [] [] 2
end
noncomputable section
def Ln(s:List Int):(List Int):=
s
def X0(s:List Int):Prop:=
s.length<=1000000000000
def Q9c(s:List Int):List D:=[.sl 1 (.ints .i64 s) false]
def X1(s:List Int):List Row:=[]
def Oe(X:List Int):D:=.sl 1 (.ints .i64 X) true
def Of(X:List Int):List Row:=[]
def Qrg:List nh:=[.sl (.ints .i64) true]
def Qgq:List PT:=[.one (.ints .i64)]
def Qfz:List RT:=[]
def Qu5(args:List D)(rows:List Row):(List Int):=Ln (c9 .i64 args 0)
def Qtz(args:List D)(rows:List Row):Prop:=X0 (c9 .i64 args 0)
def Qxo:bd:=lj 134 [] true Qgq Qfz Qtz Qu5 Oe Of
def Qcs(s:List Int)(jt:(List Int)->Prop):Prop:=
(s=[]->jt [])/\cy (decide ((8:Nat)*((0:Nat)+s.length)<=(140737488355328:Nat))) (jt s)
set_option maxRecDepth 100000 in
theorem Quj(s:List Int)(Q:D->List Row->Prop):(ky kb [] (LL kb [] Tryz.f134.ntmps 0 [] 2) Tryz.f134 (Q9c s) (X1 s) λd R=>ow (X1 s).length Qrg d R Q)=Qcs s (λX=>Q (Oe X) (Of X)):=by kernel_rfl
theorem Qre(s:List Int)(jt:(List Int)->Prop)(hw:X0 s)(h:jt (Ln s)):
Qcs s jt:=by
 delta Qcs
 refine⟨λe=>by rw[e]at h;exact h,?_⟩
 rw[de]
 refine⟨dY ?_,h⟩
 have:s.length<=1000000000000:=hw
 omega
set_option maxRecDepth 100000 in
theorem Qr1(s:List Int)(hw:X0 s):kM pG 134 (Q9c s) (X1 s) (Oe (Ln s)) (Of (Ln s)):=
 have hG:jU pG []:=.nil
 mF.calls drawn jL hG Tryz.func134 (rf:=none) (λ_ _=>trivial) (Ho drawn jL hG (.inl rfl) 2 (fx:=[])) (mF.of (Quj s _) (Qre s (λX=>Oe X=Oe (Ln s)/\Of X=Of (Ln s)) hw ⟨rfl,rfl⟩))
set_option maxRecDepth 100000 in
theorem Qsp(args:List D)(rows:List Row):lN Qgq args 0=Q9c (c9 .i64 args 0):=by kernel_rfl
set_option maxRecDepth 100000 in
theorem Qqq(args:List D)(rows:List Row):kR Qfz rows 0=X1 (c9 .i64 args 0):=by kernel_rfl
set_option maxRecDepth 100000 in
theorem Qwn(X:List Int):(ue (Oe X)&&jP (Of X))=true:=by kernel_rfl
theorem Que:bu pG Qxo:=GR Tryz.call134 (λargs rows hp=>by rw[Qsp args rows,Qqq args rows];exact Qr1 (c9 .i64 args 0) hp) (λ_ X=>Qwn X)
def Uj:bd:=⟨101,[true,false],false,λargs rows=>match args with|[.ptr r i o,.bool b]=>(match rows with|⟨true,ty,sz,.gen [e]⟩::l=>(match bX r 0&&(bX i 0&&(bX o 0&&(⟨true,ty,sz,.gen [e]⟩::l:List Row).all (Row.nd (⟨true,ty,sz,.gen [e]⟩::l:List Row).length)))with|true=>(match b with|true=>.abs Unit () (λ_=>.ptr 0 0 113) (λ_=>⟨true,ty,sz,.gen [e]⟩::l)|false=>.abs Unit () (λ_=>.ptr 0 0 112) (λ_=>⟨true,ty,sz,.gen [e]⟩::l))|false=>.no)|_=>.no)|_=>.no,none,false⟩
theorem Qcr:bu pG Uj:=by
 refine⟨λ_=>Tryz.call101,λ_=>by decide,λ_ args rows r r' hm=>?_,λ_ args rows p r r' hm=>?_,λ_ args rows α v res aj hm=>?_,λ_ args rows p α v res aj hm=>?_,λk hk=>(by cases hk),λk hk=>(by cases hk)⟩
 ·simp only[Uj]at hm;repeat(split at hm<;>try(cases hm;done))
 ·simp only[Uj]at hm;repeat(split at hm<;>try(cases hm;done))
 ·simp only[Uj]at hm
  split at hm
  ·split at hm
   ·split at hm
    ·rename_i hc
     simp only[aE]at hc
     obtain⟨h1,h2,h3,hs⟩:=hc
     have h1:=bE h1;have h2:=bE h2;have h3:=bE h3
     subst h1;subst h2;subst h3
     split at hm
     ·cases hm;exact⟨Zha drawn jL Tryz.func101 hs (by simp) (λ_=>by kernel_rfl),λh=>by cases h⟩
     ·cases hm;exact⟨Zha drawn jL Tryz.func101 hs (by simp) (λ_=>by kernel_rfl),λh=>by cases h⟩
    ·cases hm
   ·cases hm
  ·cases hm
 ·simp only[Uj]at hm;repeat(split at hm<;>try(cases hm;done))
def Ki(g:fm)(back:Bool)(l:ep):Tree fm:=
.br back (.lv () λ(x0:Unit)=>.br (decide ((g.C0.length:Int)<(64:Int))) (.cn (decide (328*(g.C0.length+1)<=140737488355328)) (.lf ({A1:=g.A1,A2:=g.A2,A7:=g.A7,C0:=g.C0++[l],A9:=g.A9}))) (.lf g)) (.lv () λ(x1:Unit)=>.br (decide ((g.A7.length:Int)<(64:Int))) (.cn (decide (328*(g.A7.length+1)<=140737488355328)) (.lf ({A1:=g.A1,A2:=g.A2,A7:=g.A7++[l],C0:=g.C0,A9:=g.A9}))) (.lf g))
def GZ g back l:=(Ki g back l).m
abbrev G2 g back l:=(Ki g back l).p
def fy(r:List Row):fm:=fm.og (r.getD 0 default).cs (iv .u32 (((r.getD 0 default).cs).getD 26 .dead)) (mb (((r.getD 0 default).cs).getD 50 .dead)) (mA .i64 r 1) (iv .i64 (((r.getD 0 default).cs).getD 54 .dead)) (iv .u32 (((r.getD 0 default).cs).getD 82 .dead)) (mb (((r.getD 0 default).cs).getD 106 .dead)) (mA .i64 r 2) (iv .i64 (((r.getD 0 default).cs).getD 110 .dead)) (tX .ae r 3) (tX .ae r 4) (nN .str (((r.getD 0 default).cs).getD 114 .dead))
def nI(X:fm):List Row:=[⟨true,97,117,.gen [(fm.cg X (.sl 1 (.ints .u32 X.A1.A0.Mem) false) (.sl 1 (.ah X.A1.B1.A6) false) (.all 1) (.sl 1 (.ints .i64 X.A1.B7) false) (.sl 1 (.ints .u32 X.A2.A0.Mem) false) (.sl 1 (.ah X.A2.B1.A6) false) (.all 2) (.sl 1 (.ints .i64 X.A2.B7) false) (.all 3) (.all 4) (.sl 1 (.ao .str X.A9.ab) false))]⟩,⟨false,3,1,.ints .i64 X.A1.A3⟩,⟨false,3,1,.ints .i64 X.A2.A3⟩,⟨false,80,54,.ao .ae X.A7⟩,⟨false,80,54,.ao .ae X.C0⟩]
def lY:List RT:=[.box 97 117 (fm.kA (.ints .u32) (.ah) (.row 1) (.ints .i64) (.ints .u32) (.ah) (.row 2) (.ints .i64) (.row 3) (.row 4) (.ao .str)),.arr 3 1 (.ints .i64),.arr 3 1 (.ints .i64),.arr 80 54 (.ao .ae),.arr 80 54 (.ao .ae)]
def Z04:bd:=ka 1 52 [true,false,false] [.ptr 0,.one (.bool),.agg ep.sig] lY (λa r=>G2 (fy r) (kZ a 1) (ep.of (aC a 2))) (λa r=>GZ (fy r) (kZ a 1) (ep.of (aC a 2))) (λX=>.dw []) (λX=>nI X)
def lF:List nh:=[.sl (.ints .u32) false,.sl (.ah) false,.row 3 1 (.ints .i64),.sl (.ints .i64) false,.sl (.ints .u32) false,.sl (.ah) false,.row 3 1 (.ints .i64),.sl (.ints .i64) false,.row 80 54 (.ao .ae),.row 80 54 (.ao .ae),.sl (.ao .str) false]
theorem Uk:bu pG Z04:=ub drawn jL (.cons Qcr (.nil)) Tryz.func52 Tryz.call52 (λa r=>Ki (fy r) (kZ a 1) (ep.of (aC a 2))) lF [] 2 (λ_ _ _=>by kernel_rfl) (λ_ _=>rfl) (λ_ _ h=>h)
def QR(g:fm)(c:kz):Tree fm:=
let E2:=(rk:bj);let T1:Tree (fm):=.an (G2 g false {C2:=1,B5:=0,Frame:=c.Frame,F0:=c.F0,A0:=E2,A3:=[]}) (.lv (GZ g false {C2:=1,B5:=0,Frame:=c.Frame,F0:=c.F0,A0:=E2,A3:=[]}) λ(x1:fm)=>.lf x1);.br (decide (c.Frame>=0)) (.br (decide (c.Frame<(g.A1.A3.length:Int))) (.cn (bX 1 1&&bN 0 1&&decide (0<=c.Frame/\c.Frame<(g.A1.A3.length:Int))) (.an (G2 g false {C2:=1,B5:=g.A1.A3.getD c.Frame.toNat 0,Frame:=c.Frame,F0:=c.F0,A0:=E2,A3:=[]}) (.lv (GZ g false {C2:=1,B5:=g.A1.A3.getD c.Frame.toNat 0,Frame:=c.Frame,F0:=c.F0,A0:=E2,A3:=[]}) λ(x0:fm)=>.lf x0))) T1) T1
def X2 g c:=(QR g c).m
abbrev X3 g c:=(QR g c).p
def Qsh:bd:=ka 1 96 [true,false] [.ptr 0,.agg kz.sig] lY (λa r=>X3 (fy r) (kz.of (aC a 1))) (λa r=>X2 (fy r) (kz.of (aC a 1))) (λX=>.dw []) (λX=>nI X)
theorem Qf0:bu pG Qsh:=ub drawn jL (.cons Uk (.nil)) Tryz.func96 Tryz.call96 (λa r=>QR (fy r) (kz.of (aC a 1))) lF [] 2 (λ_ _ _=>by kernel_rfl) (λ_ _=>rfl) (λ_ _ h=>h)
def QS(g:fm):Tree fm:=
.an (X0 g.A1.A3) (.lv (Ln g.A1.A3) λ(x0:List Int)=>let E1:=({B2:=g.A1.A0.B2,Mem:=[],B3:=g.A1.A0.B3,C1:=g.A1.A0.C1,B6:=g.A1.A0.B6,D4:=g.A1.A0.D4,B0:=g.A1.A0.B0,B9:=g.A1.A0.B9,B4:=g.A1.A0.B4,B8:=g.A1.A0.B8}:bj);.an (G2 g false {C2:=2,B5:=0,Frame:=0,F0:=[],A0:=E1,A3:=x0}) (.lv (GZ g false {C2:=2,B5:=0,Frame:=0,F0:=[],A0:=E1,A3:=x0}) λ(x1:fm)=>.lf x1))
def Qab g:=(QS g).m
abbrev Q73 g:=(QS g).p
def Qpr:bd:=ka 1 98 [true] [.ptr 0] lY (λa r=>Q73 (fy r)) (λa r=>Qab (fy r)) (λX=>.dw []) (λX=>nI X)
theorem Qdj:bu pG Qpr:=ub drawn jL (.cons Uk (.cons Que (.nil))) Tryz.func98 Tryz.call98 (λa r=>QS (fy r)) lF [] 2 (λ_ _ _=>by kernel_rfl) (λ_ _=>rfl) (λ_ _ h=>h)
def Wb(g:fm)(back:Bool):Tree fm:=
.br back (.lf ({A1:=g.A1,A2:={A4:=4,A0:=g.A2.A0,B1:=g.A2.B1,A3:=g.A2.A3,B7:=g.A2.B7,D3:=g.A2.D3},A7:=g.A7,C0:=g.C0,A9:=g.A9})) (.lf ({A1:={A4:=4,A0:=g.A1.A0,B1:=g.A1.B1,A3:=g.A1.A3,B7:=g.A1.B7,D3:=g.A1.D3},A2:=g.A2,A7:=g.A7,C0:=g.C0,A9:=g.A9}))
def Qou g back:=(Wb g back).m
def Qxx:bd:=K9 1 54 [true,false] [.ptr 0,.one (.bool)] lY (λa r=>Qou (fy r) (kZ a 1)) (λX=>.dw []) (λX=>nI X)
theorem Qw4:bu pG Qxx:=zaV drawn jL (.nil) Tryz.func54 Tryz.call54 (λa r=>Wb (fy r) (kZ a 1)) lF [] 2 (λ_ _ _=>by kernel_rfl) (λ_ _=>rfl) (λ_ _=>Tree.mL (by kernel_rfl))
def QT(g:fm)(host:Int):Tree (Bool×fm):=
.an (Qhb g.A9 host g.A1.D3) (.lv (mI g.A9 host g.A1.D3) λ(x0:gu×Bool)=>.br (!x0.2) (.lf (false,{A1:={A4:=4,A0:=g.A1.A0,B1:=g.A1.B1,A3:=g.A1.A3,B7:=g.A1.B7,D3:=g.A1.D3},A2:=g.A2,A7:=g.A7,C0:=g.C0,A9:=g.A9})) (.lf (true,{A1:={A4:=3,A0:=g.A1.A0,B1:=g.A1.B1,A3:=g.A1.A3,B7:=g.A1.B7,D3:=x0.1.D3},A2:=g.A2,A7:=g.A7,C0:=g.C0,A9:=x0.1})))
def Qkg g host:=(QT g host).m
abbrev Qel g host:=(QT g host).p
def Qtx:bd:=ka 1 51 [true,true,false] [.ptr 0,.one (.pt 0 0 0),.one (.int .i64)] lY (λa r=>Qel (fy r) (au a 2)) (λa r=>Qkg (fy r) (au a 2)) (λX=>.bool (X.1)) (λX=>[⟨true,97,117,.gen [(fm.cg (X.2) (.sl 1 (.ints .u32 X.2.A1.A0.Mem) false) (.sl 1 (.ah X.2.A1.B1.A6) false) (.all 1) (.sl 1 (.ints .i64 X.2.A1.B7) false) (.sl 1 (.ints .u32 X.2.A2.A0.Mem) false) (.sl 1 (.ah X.2.A2.B1.A6) false) (.all 2) (.sl 1 (.ints .i64 X.2.A2.B7) false) (.all 3) (.all 4) (.sl 1 (.ao .str X.2.A9.ab) false))]⟩,⟨false,3,1,.ints .i64 (X.2).A1.A3⟩,⟨false,3,1,.ints .i64 (X.2).A2.A3⟩,⟨false,80,54,.ao .ae (X.2).A7⟩,⟨false,80,54,.ao .ae (X.2).C0⟩])
theorem Qrl:bu pG Qtx:=ub drawn jL (.cons Qsv (.nil)) Tryz.func51 Tryz.call51 (λa r=>QT (fy r) (au a 2)) lF [] 2 (λ_ _ _=>by kernel_rfl) (λ_ _=>rfl) (λ_ _ h=>h)
def QU(g:fm)(host:Int):Tree (Bool×fm):=
.an (Qhb g.A9 host g.A2.D3) (.lv (mI g.A9 host g.A2.D3) λ(x0:gu×Bool)=>.br (!x0.2) (.lf (false,{A1:=g.A1,A2:={A4:=4,A0:=g.A2.A0,B1:=g.A2.B1,A3:=g.A2.A3,B7:=g.A2.B7,D3:=g.A2.D3},A7:=g.A7,C0:=g.C0,A9:=g.A9})) (.lf (true,{A1:=g.A1,A2:={A4:=3,A0:=g.A2.A0,B1:=g.A2.B1,A3:=g.A2.A3,B7:=g.A2.B7,D3:=x0.1.D3},A7:=g.A7,C0:=g.C0,A9:=x0.1})))
def Qkk g host:=(QU g host).m
abbrev Qeq g host:=(QU g host).p
def Qtt:bd:=ka 1 51 [true,true,false] [.ptr 0,.one (.pt 0 0 56),.one (.int .i64)] lY (λa r=>Qeq (fy r) (au a 2)) (λa r=>Qkk (fy r) (au a 2)) (λX=>.bool (X.1)) (λX=>[⟨true,97,117,.gen [(fm.cg (X.2) (.sl 1 (.ints .u32 X.2.A1.A0.Mem) false) (.sl 1 (.ah X.2.A1.B1.A6) false) (.all 1) (.sl 1 (.ints .i64 X.2.A1.B7) false) (.sl 1 (.ints .u32 X.2.A2.A0.Mem) false) (.sl 1 (.ah X.2.A2.B1.A6) false) (.all 2) (.sl 1 (.ints .i64 X.2.A2.B7) false) (.all 3) (.all 4) (.sl 1 (.ao .str X.2.A9.ab) false))]⟩,⟨false,3,1,.ints .i64 (X.2).A1.A3⟩,⟨false,3,1,.ints .i64 (X.2).A2.A3⟩,⟨false,80,54,.ao .ae (X.2).A7⟩,⟨false,80,54,.ao .ae (X.2).C0⟩])
theorem Qrr:bu pG Qtt:=ub drawn jL (.cons Qsv (.nil)) Tryz.func51 Tryz.call51 (λa r=>QU (fy r) (au a 2)) lF [] 2 (λ_ _ _=>by kernel_rfl) (λ_ _=>rfl) (λ_ _ h=>h)
def QV(g:fm):Tree fm:=
let E1:=(rk:bj);.br (g.A1.A4==1) (let E2:=({A4:=3,A0:=g.A1.A0,B1:=g.A1.B1,A3:=g.A1.A3,B7:=g.A1.B7,D3:=g.A1.D3}:fu);.an (G2 {A1:=E2,A2:=g.A2,A7:=g.A7,C0:=g.C0,A9:=g.A9} false {C2:=4,B5:=0,Frame:=0,F0:=[],A0:=E1,A3:=[]}) (.lv (GZ {A1:=E2,A2:=g.A2,A7:=g.A7,C0:=g.C0,A9:=g.A9} false {C2:=4,B5:=0,Frame:=0,F0:=[],A0:=E1,A3:=[]}) λ(x0:fm)=>.lf x0)) (.br (g.A1.A4==2) (.an (Qel g 0) (.lv (Qkg g 0) λ(x1:Bool×fm)=>.br (!x1.1) (.lf x1.2) (.an (G2 x1.2 false {C2:=4,B5:=0,Frame:=0,F0:=[],A0:=E1,A3:=[]}) (.lv (GZ x1.2 false {C2:=4,B5:=0,Frame:=0,F0:=[],A0:=E1,A3:=[]}) λ(x2:fm)=>.lf x2)))) (.lf g))
def Qmx g:=(QV g).m
abbrev Qfu g:=(QV g).p
def Qv1:bd:=ka 1 53 [true] [.ptr 0] lY (λa r=>Qfu (fy r)) (λa r=>Qmx (fy r)) (λX=>.dw []) (λX=>nI X)
theorem Qtr:bu pG Qv1:=ub drawn jL (.cons Qrl (.cons Uk (.nil))) Tryz.func53 Tryz.call53 (λa r=>QV (fy r)) lF [] 2 (λ_ _ _=>by kernel_rfl) (λ_ _=>rfl) (λ_ _ h=>h)
end
noncomputable section
def QW(g:fm)(l:ep):Tree fm:=
.br (decide (l.Frame<0)) (.lf g) (.br (decide (l.Frame>=(g.A2.A3.length:Int))) (.lf g) (let E2:=bX 1 1&&bN 0 1&&decide (0<=l.Frame/\l.Frame<(g.A2.A3.length:Int));.cn E2 (.br (decide (l.B5<=g.A2.A3.getD l.Frame.toNat 0)) (.lf g) (.an (V2 g.A2.A0.Mem l.Frame l.F0) (.lv (pR g.A2.A0.Mem l.Frame l.F0) λ(x0:List Int×Bool)=>.br (!x0.2) (.lf g) (.cn E2 (let E1:=({B2:=g.A2.A0.B2,Mem:=x0.1,B3:=g.A2.A0.B3,C1:=g.A2.A0.C1,B6:=g.A2.A0.B6,D4:=g.A2.A0.D4,B0:=g.A2.A0.B0,B9:=g.A2.A0.B9,B4:=g.A2.A0.B4,B8:=g.A2.A0.B8}:bj);.br (g.A2.A4==0) (.lf ({A1:=g.A1,A2:={A4:=1,A0:=E1,B1:=g.A2.B1,A3:=dB g.A2.A3 l.Frame.toNat l.B5,B7:=g.A2.B7,D3:=g.A2.D3},A7:=g.A7,C0:=g.C0,A9:=g.A9})) (.lf ({A1:=g.A1,A2:={A4:=g.A2.A4,A0:=E1,B1:=g.A2.B1,A3:=dB g.A2.A3 l.Frame.toNat l.B5,B7:=g.A2.B7,D3:=g.A2.D3},A7:=g.A7,C0:=g.C0,A9:=g.A9})))))))))
def Qf g l:=(QW g l).m
abbrev Qag g l:=(QW g l).p
def Qnz:bd:=ka 1 147 [true,false] [.ptr 0,.agg ep.sig] lY (λa r=>Qag (fy r) (ep.of (aC a 1))) (λa r=>Qf (fy r) (ep.of (aC a 1))) (λX=>.dw []) (λX=>nI X)
theorem Qn0:bu pG Qnz:=ub drawn jL (.cons Qq4 (.nil)) Tryz.func147 Tryz.call147 (λa r=>QW (fy r) (ep.of (aC a 1))) lF [] 2 (λ_ _ _=>by kernel_rfl) (λ_ _=>rfl) (λ_ _ h=>h)
def QX(g:fm)(l:ep):Tree fm:=
let T1:Tree (fm):=.br (l.C2==1) (.an (Qag g l) (.lv (Qf g l) λ(x0:fm)=>.lf x0)) (.br (l.C2==2) (.br (g.A2.A4==2) (.lf g) (.lf ({A1:=g.A1,A2:={A4:=2,A0:={B2:=l.A0.B2,Mem:=g.A2.A0.Mem,B3:=l.A0.B3,C1:=l.A0.C1,B6:=l.A0.B6,D4:=l.A0.D4,B0:=l.A0.B0,B9:=l.A0.B9,B4:=l.A0.B4,B8:=l.A0.B8},B1:=g.A2.B1,A3:=g.A2.A3,B7:=l.A3,D3:=g.A2.D3},A7:=g.A7,C0:=g.C0,A9:=g.A9}))) (.br (l.C2==4) (.lf ({A1:=g.A1,A2:={A4:=4,A0:=g.A2.A0,B1:=g.A2.B1,A3:=g.A2.A3,B7:=g.A2.B7,D3:=g.A2.D3},A7:=g.A7,C0:=g.C0,A9:=g.A9})) (.lf g)));.br (g.A2.A4 !=0) (.br (g.A2.A4 !=1) (.br (g.A2.A4 !=2) (.lf g) T1) T1) T1
def Qkc g l:=(QX g l).m
abbrev Qet g l:=(QX g l).p
def Qu6:bd:=ka 1 100 [true,false] [.ptr 0,.agg ep.sig] lY (λa r=>Qet (fy r) (ep.of (aC a 1))) (λa r=>Qkc (fy r) (ep.of (aC a 1))) (λX=>.dw []) (λX=>nI X)
theorem Qrt:bu pG Qu6:=ub drawn jL (.cons Qn0 (.nil)) Tryz.func100 Tryz.call100 (λa r=>QX (fy r) (ep.of (aC a 1))) lF [] 2 (λ_ _ _=>by kernel_rfl) (λ_ _=>rfl) (λ_ _ h=>h)
end
noncomputable section
def QG(c:fc)(m:List Int):Tree (fc×(List kz)):=
.an (Qbu c) (.lv (QA c) λ(x0:fc)=>.lv (pW x0) λ(x1:Bool)=>.br (!x1) (.lf (x0,[])) (.br (decide (x0.B5>10)) (.lf (x0,[])) (.lv (jX m) λ(x2:Int)=>.br (x2 !=(x0.A6.length:Int)) (.lf (x0,[])) (.lv () λ(x3:Unit)=>.an (Qya m [] x0.A6) (.lv (Qx m [] x0.A6) λ(x4:List Int×List kz×List Bool)=>.cn (bN 0 1&&bX 1 1&&iP [D.bool false] D.plain&&decide (0<=(x0.A6.length:Int)/\(x0.A6.length:Int)<=(x0.A6.length:Int)/\(x0.A6.length:Int)<=(9223372036854775807:Int)/\(↑1:Int)*(x0.A6.length:Int)<=(140737488355328:Int))) (.lf ({A6:=cO (dA (x0.A6.length:Int)) false,B5:=wrap i64 (x0.B5+1),D6:=wrap i64 (x0.D6+(x4.2.1.length:Int))},x4.2.1)))))))
def Kc c m:=(QG c m).m
abbrev Qef c m:=(QG c m).p
def Z5o:bd:=lj 95 [] true [.agg fc.sig,.one (.ints .u32)] [] (λa r=>Qef (fc.of (aC a 0)) (c9 .u32 a 1)) (λa r=>Kc (fc.of (aC a 0)) (c9 .u32 a 1)) (λX=>.dw [.agg (fc.cg (X.1) (.sl 1 (.ah X.1.A6) true)),.sl 2 (.ao .bh (X.2)) true]) (λX=>[])
theorem Z0u:bu pG Z5o:=Zt0 (some 1000000095) (IC (by kernel_rfl) rfl) drawn jL (.cons Qta (.cons Qsx (.cons Cg (.cons Qy9 (.cons TV (.cons Zkq (.nil))))))) Tryz.func95 Tryz.call95 (λa r=>QG (fc.of (aC a 0)) (c9 .u32 a 1)) [.sl (.ah) true,.sl (.ao .bh) true] [] 2
def Qex(g:fm)(z:(Int)×fm):Nat:=((Kc g.A1.B1 g.A1.A0.Mem).2.length-z.1).toNat
def QY(g:fm):Tree fm:=
.an (Qef g.A1.B1 g.A1.A0.Mem) (.lv (Kc g.A1.B1 g.A1.A0.Mem) λ(x0:fc×List kz)=>let E4:=({A4:=g.A1.A4,A0:=g.A1.A0,B1:=x0.1,A3:=g.A1.A3,B7:=g.A1.B7,D3:=g.A1.D3}:fu);.lp inferInstance (Qex g (0,{A1:=E4,A2:=g.A2,A7:=g.A7,C0:=g.C0,A9:=g.A9})+1) ((rZ/\rZ/\((ag.Nil (ag.ao RK.bh x0.2)\/rE (2:Nat))/\rE x0.2)/\rE ((x0.2.length:Int):Int)/\rE (0:Int)/\True)/\(rE g.A1.A4/\mE g.A1.A0 (((ag.Nil (ag.ints u32 g.A1.A0.Mem)\/rE (1:Nat))/\rE g.A1.A0.Mem)) (((ag.Nil (ag.ah x0.1.A6)\/rE (1:Nat))/\rE x0.1.A6)/\rE x0.1.B5/\rE x0.1.D6/\True/\((ag.Nil (ag.ints i64 g.A1.B7)\/rE (1:Nat))/\rE g.A1.B7)/\rE g.A1.D3/\rE g.A2.A4/\mE g.A2.A0 (((ag.Nil (ag.ints u32 g.A2.A0.Mem)\/rE (1:Nat))/\rE g.A2.A0.Mem)) (((ag.Nil (ag.ah g.A2.B1.A6)\/rE (1:Nat))/\rE g.A2.B1.A6)/\rE g.A2.B1.B5/\rE g.A2.B1.D6/\True/\((ag.Nil (ag.ints i64 g.A2.B7)\/rE (1:Nat))/\rE g.A2.B7)/\rE g.A2.D3/\True/\True/\((ag.Nil (ag.ao RK.str g.A9.ab)\/rE (1:Nat))/\rE g.A9.ab)/\rE g.A9.D3/\rE g.A9.D7/\True)))/\rE g.A1.A3/\rE g.A2.A3/\rE g.A7/\rE g.C0/\(((ag.Nil (ag.ah x0.1.A6)\/rE (1:Nat))/\rE x0.1.A6)/\rE x0.1.B5/\rE x0.1.D6/\True)/\True) (0,{A1:=E4,A2:=g.A2,A7:=g.A7,C0:=g.C0,A9:=g.A9}) λ(v0:Int×fm)=>.br (decide (v0.1<(x0.2.length:Int))) (.cn (bX 2 2&&bN 0 2&&decide (0<=v0.1/\v0.1<(x0.2.length:Int))) (let E2:=x0.2.getD v0.1.toNat (RK.dk RK.bh);let T1:Tree ((Int×fm)⊕(fm)):=.an (X3 v0.2 E2) (.lv (X2 v0.2 E2) λ(x2:fm)=>.nx ((rZ/\rZ/\((ag.Nil (ag.ao RK.bh x0.2)\/rE (2:Nat))/\rE x0.2)/\rE ((x0.2.length:Int):Int)/\rE ((wrap i64 (v0.1+1)):Int)/\True)/\XO x2/\rE x2.A1.A3/\rE x2.A2.A3/\rE x2.A7/\rE x2.C0/\(((ag.Nil (ag.ah x0.1.A6)\/rE (1:Nat))/\rE x0.1.A6)/\rE x0.1.B5/\rE x0.1.D6/\True)/\True) (Sum.inl (wrap i64 (v0.1+1),x2)));.br (decide (E2.Frame>=0)) (let E5:=(v0.2.A1.A3.length:Int);.br (decide (E2.Frame<E5)) (.cn (bX 1 1&&bN 0 1&&decide (0<=E2.Frame/\E2.Frame<E5)) (let E3:=({A4:=v0.2.A1.A4,A0:=v0.2.A1.A0,B1:=v0.2.A1.B1,A3:=dB v0.2.A1.A3 E2.Frame.toNat x0.1.B5,B7:=v0.2.A1.B7,D3:=v0.2.A1.D3}:fu);.an (X3 {A1:=E3,A2:=v0.2.A2,A7:=v0.2.A7,C0:=v0.2.C0,A9:=v0.2.A9} E2) (.lv (X2 {A1:=E3,A2:=v0.2.A2,A7:=v0.2.A7,C0:=v0.2.C0,A9:=v0.2.A9} E2) λ(x1:fm)=>.nx ((rZ/\rZ/\((ag.Nil (ag.ao RK.bh x0.2)\/rE (2:Nat))/\rE x0.2)/\rE ((x0.2.length:Int):Int)/\rE ((wrap i64 (v0.1+1)):Int)/\True)/\XO x1/\rE x1.A1.A3/\rE x1.A2.A3/\rE x1.A7/\rE x1.C0/\(((ag.Nil (ag.ah x0.1.A6)\/rE (1:Nat))/\rE x0.1.A6)/\rE x0.1.B5/\rE x0.1.D6/\True)/\True) (Sum.inl (wrap i64 (v0.1+1),x1))))) T1) T1)) (.lf (Sum.inr v0.2)))
def Qf9 g:=(QY g).m
abbrev Qad g:=(QY g).p
def Qw1:bw:={
 α:=(Int)×fm
 F:=λst a=>([(0,.ptr 0 0 0),(2,.ptr 5 0 0),(26,(lk st 26)),(27,(lk st 27)),(28,.int i64 a.1)],[⟨true,97,117,.gen [fm.cg a.2 (.sl 1 (.ints u32 a.2.A1.A0.Mem) false) (.sl 1 (.ah a.2.A1.B1.A6) false) (.all 1) (.sl 1 (.ints i64 a.2.A1.B7) false) (.sl 1 (.ints u32 a.2.A2.A0.Mem) false) (.sl 1 (.ah a.2.A2.B1.A6) false) (.all 2) (.sl 1 (.ints i64 a.2.A2.B7) false) (.all 3) (.all 4) (.sl 1 (.ao RK.str a.2.A9.ab) false)]⟩,⟨false,3,1,.ints i64 a.2.A1.A3⟩,⟨false,3,1,.ints i64 a.2.A2.A3⟩,⟨false,80,54,.ao RK.ae a.2.A7⟩,⟨false,80,54,.ao RK.ae a.2.C0⟩,⟨true,46,3,.gen [[(cT st 2 0),(cT st 2 1),(cT st 2 2)]]⟩])
 a0:=λst=>((lk st 28).toInt,(⟨(⟨(bg st.rows 0 0).toInt,(⟨(⟨(⟨(bg st.rows 0 1).toInt,(bg st.rows 0 2).toInt,(bg st.rows 0 3).toInt,(bg st.rows 0 4).toInt,(bg st.rows 0 5).toInt,(bg st.rows 0 6).toInt,(bg st.rows 0 7).toInt,(bg st.rows 0 8).toInt,(bg st.rows 0 9).toInt,(bg st.rows 0 10).toInt,(bg st.rows 0 11).toInt,(bg st.rows 0 12).toInt,(bg st.rows 0 13).toInt,(bg st.rows 0 14).toInt,(bg st.rows 0 15).toInt,(bg st.rows 0 16).toInt⟩:(jg Int)),(bg st.rows 0 17).toInt,(⟨(bg st.rows 0 18).toInt,(bg st.rows 0 19).toInt,(bg st.rows 0 20).toInt,(bg st.rows 0 21).toInt,(bg st.rows 0 22).toInt,(bg st.rows 0 23).toInt,(bg st.rows 0 24).toInt,(bg st.rows 0 25).toInt⟩:(A8 Int))⟩:cq),(iv u32 (bg st.rows 0 26)),(⟨(bg st.rows 0 27).toStr⟩:jn),(⟨(bg st.rows 0 28).toBool,(bg st.rows 0 29).toInt,(bg st.rows 0 30).toBool⟩:jx),(⟨(bg st.rows 0 31).toInt,(bg st.rows 0 32).toInt,(bg st.rows 0 33).toInt,(bg st.rows 0 34).toInt,(bg st.rows 0 35).toInt,(bg st.rows 0 36).toInt,(bg st.rows 0 37).toInt,(bg st.rows 0 38).toStr⟩:gk),(⟨(bg st.rows 0 39).toInt,(bg st.rows 0 40).toInt,(bg st.rows 0 41).toBool,(bg st.rows 0 42).toInt,(bg st.rows 0 43).toBool,(bg st.rows 0 44).toInt⟩:iq),(⟨(bg st.rows 0 45).toInt,(bg st.rows 0 46).toInt⟩:ie),(bg st.rows 0 47).toInt,(bg st.rows 0 48).toBool,(bg st.rows 0 49).toBool⟩:bj),(⟨(mb (bg st.rows 0 50)),(bg st.rows 0 51).toInt,(bg st.rows 0 52).toInt⟩:fc),(nS st.rows (jq (bg st.rows 0 53) 1000000)),(iv i64 (bg st.rows 0 54)),(bg st.rows 0 55).toInt⟩:fu),(⟨(bg st.rows 0 56).toInt,(⟨(⟨(⟨(bg st.rows 0 57).toInt,(bg st.rows 0 58).toInt,(bg st.rows 0 59).toInt,(bg st.rows 0 60).toInt,(bg st.rows 0 61).toInt,(bg st.rows 0 62).toInt,(bg st.rows 0 63).toInt,(bg st.rows 0 64).toInt,(bg st.rows 0 65).toInt,(bg st.rows 0 66).toInt,(bg st.rows 0 67).toInt,(bg st.rows 0 68).toInt,(bg st.rows 0 69).toInt,(bg st.rows 0 70).toInt,(bg st.rows 0 71).toInt,(bg st.rows 0 72).toInt⟩:(jg Int)),(bg st.rows 0 73).toInt,(⟨(bg st.rows 0 74).toInt,(bg st.rows 0 75).toInt,(bg st.rows 0 76).toInt,(bg st.rows 0 77).toInt,(bg st.rows 0 78).toInt,(bg st.rows 0 79).toInt,(bg st.rows 0 80).toInt,(bg st.rows 0 81).toInt⟩:(A8 Int))⟩:cq),(iv u32 (bg st.rows 0 82)),(⟨(bg st.rows 0 83).toStr⟩:jn),(⟨(bg st.rows 0 84).toBool,(bg st.rows 0 85).toInt,(bg st.rows 0 86).toBool⟩:jx),(⟨(bg st.rows 0 87).toInt,(bg st.rows 0 88).toInt,(bg st.rows 0 89).toInt,(bg st.rows 0 90).toInt,(bg st.rows 0 91).toInt,(bg st.rows 0 92).toInt,(bg st.rows 0 93).toInt,(bg st.rows 0 94).toStr⟩:gk),(⟨(bg st.rows 0 95).toInt,(bg st.rows 0 96).toInt,(bg st.rows 0 97).toBool,(bg st.rows 0 98).toInt,(bg st.rows 0 99).toBool,(bg st.rows 0 100).toInt⟩:iq),(⟨(bg st.rows 0 101).toInt,(bg st.rows 0 102).toInt⟩:ie),(bg st.rows 0 103).toInt,(bg st.rows 0 104).toBool,(bg st.rows 0 105).toBool⟩:bj),(⟨(mb (bg st.rows 0 106)),(bg st.rows 0 107).toInt,(bg st.rows 0 108).toInt⟩:fc),(nS st.rows (jq (bg st.rows 0 109) 1000000)),(iv i64 (bg st.rows 0 110)),(bg st.rows 0 111).toInt⟩:fu),(rY RK.ae st.rows (jq (bg st.rows 0 112) 1000000)),(rY RK.ae st.rows (jq (bg st.rows 0 113) 1000000)),(⟨(nN RK.str (bg st.rows 0 114)),(bg st.rows 0 115).toInt,(bg st.rows 0 116).toInt⟩:gu)⟩:fm))
 iU:=λst=>[0]++[(jq (bg st.rows 0 53) (st.rows.length+1)),(jq (bg st.rows 0 109) (st.rows.length+2)),(jq (bg st.rows 0 112) (st.rows.length+3)),(jq (bg st.rows 0 113) (st.rows.length+4)),(rX st 2 5)]}
def Qrm:List (Nat×bw):=[(3,Qw1)]
def Qxr:bd:=ka 1 45 [true] [.ptr 0] lY (λa r=>Qad (fy r)) (λa r=>Qf9 (fy r)) (λX=>.dw []) (λX=>nI X)
theorem Qjh:bu pG Qxr:=ub drawn jL (.cons Z0u (.cons Qf0 (.nil))) Tryz.func45 Tryz.call45 (λa r=>QY (fy r)) lF Qrm 3 (λ_ _ _=>by kernel_rfl) (λ_ _=>rfl) (λ_ _ h=>h)
def Ra(g:fm)(ej:Int):Tree fm:=
.br (g.A1.A4 !=1) (.lf g) (.an (Qk4 g.A1.B1 ej) (.lv (HT g.A1.B1 ej) λ(x0:Bool)=>.br (!x0) (.lf g) (.an (Qad g) (.lv (Qf9 g) λ(x1:fm)=>let E1:=({A4:=2,A0:=x1.A1.A0,B1:=x1.A1.B1,A3:=x1.A1.A3,B7:=x1.A1.B7,D3:=x1.A1.D3}:fu);.an (Q73 {A1:=E1,A2:=x1.A2,A7:=x1.A7,C0:=x1.C0,A9:=x1.A9}) (.lv (Qab {A1:=E1,A2:=x1.A2,A7:=x1.A7,C0:=x1.C0,A9:=x1.A9}) λ(x2:fm)=>.lf x2)))))
def Qpy g ej:=(Ra g ej).m
abbrev Qii g ej:=(Ra g ej).p
def Qzb:bd:=ka 1 46 [true,false] [.ptr 0,.one (.int .i64)] lY (λa r=>Qii (fy r) (au a 1)) (λa r=>Qpy (fy r) (au a 1)) (λX=>.dw []) (λX=>nI X)
theorem Qxj:bu pG Qzb:=ub drawn jL (.cons Zap (.cons Qjh (.cons Qdj (.nil)))) Tryz.func46 Tryz.call46 (λa r=>Ra (fy r) (au a 1)) lF [] 2 (λ_ _ _=>by kernel_rfl) (λ_ _=>rfl) (λ_ _ h=>h)
def Qd(g:fm)(z:(Int)×fm):Nat:=(jX g.A1.A0.Mem-z.1).toNat
def Rb(g:fm):Tree fm:=
.br (g.A1.A4 !=2) (.lf g) (.lv (jX g.A1.A0.Mem) λ(x0:Int)=>.lp inferInstance (Qd g (0,g)+1) ((rZ/\rE (x0:Int)/\rE (0:Int)/\True)/\T8 g/\rE g.A1.A3/\rE g.A2.A3/\rE g.A7/\rE g.C0/\True) (0,g) λ(v0:Int×fm)=>.br (decide (v0.1<x0)) (.an (P8 v0.2.A1.A0.Mem v0.1) (.lv (jO v0.2.A1.A0.Mem v0.1) λ(x1:List UInt8×Bool)=>.br x1.2 (.an (X3 v0.2 {Frame:=v0.1,F0:=x1.1}) (.lv (X2 v0.2 {Frame:=v0.1,F0:=x1.1}) λ(x2:fm)=>.nx ((rZ/\rE (x0:Int)/\rE ((wrap i64 (v0.1+1)):Int)/\True)/\XO x2/\rE x2.A1.A3/\rE x2.A2.A3/\rE x2.A7/\rE x2.C0/\True) (Sum.inl (wrap i64 (v0.1+1),x2)))) (.nx ((rZ/\rE (x0:Int)/\rE ((wrap i64 (v0.1+1)):Int)/\True)/\XO v0.2/\rE v0.2.A1.A3/\rE v0.2.A2.A3/\rE v0.2.A7/\rE v0.2.C0/\True) (Sum.inl (wrap i64 (v0.1+1),v0.2))))) (.an (Q73 v0.2) (.lv (Qab v0.2) λ(x3:fm)=>.lf (Sum.inr x3))))
def Qmy g:=(Rb g).m
abbrev Qg1 g:=(Rb g).p
def Qu0:bw:={
 α:=(Int)×fm
 F:=λst a=>([(0,.ptr 0 0 0),(17,(lk st 17)),(18,.int i64 a.1)],[⟨true,97,117,.gen [fm.cg a.2 (.sl 1 (.ints u32 a.2.A1.A0.Mem) false) (.sl 1 (.ah a.2.A1.B1.A6) false) (.all 1) (.sl 1 (.ints i64 a.2.A1.B7) false) (.sl 1 (.ints u32 a.2.A2.A0.Mem) false) (.sl 1 (.ah a.2.A2.B1.A6) false) (.all 2) (.sl 1 (.ints i64 a.2.A2.B7) false) (.all 3) (.all 4) (.sl 1 (.ao RK.str a.2.A9.ab) false)]⟩,⟨false,3,1,.ints i64 a.2.A1.A3⟩,⟨false,3,1,.ints i64 a.2.A2.A3⟩,⟨false,80,54,.ao RK.ae a.2.A7⟩,⟨false,80,54,.ao RK.ae a.2.C0⟩])
 a0:=λst=>((lk st 18).toInt,(⟨(⟨(bg st.rows 0 0).toInt,(⟨(⟨(⟨(bg st.rows 0 1).toInt,(bg st.rows 0 2).toInt,(bg st.rows 0 3).toInt,(bg st.rows 0 4).toInt,(bg st.rows 0 5).toInt,(bg st.rows 0 6).toInt,(bg st.rows 0 7).toInt,(bg st.rows 0 8).toInt,(bg st.rows 0 9).toInt,(bg st.rows 0 10).toInt,(bg st.rows 0 11).toInt,(bg st.rows 0 12).toInt,(bg st.rows 0 13).toInt,(bg st.rows 0 14).toInt,(bg st.rows 0 15).toInt,(bg st.rows 0 16).toInt⟩:(jg Int)),(bg st.rows 0 17).toInt,(⟨(bg st.rows 0 18).toInt,(bg st.rows 0 19).toInt,(bg st.rows 0 20).toInt,(bg st.rows 0 21).toInt,(bg st.rows 0 22).toInt,(bg st.rows 0 23).toInt,(bg st.rows 0 24).toInt,(bg st.rows 0 25).toInt⟩:(A8 Int))⟩:cq),(iv u32 (bg st.rows 0 26)),(⟨(bg st.rows 0 27).toStr⟩:jn),(⟨(bg st.rows 0 28).toBool,(bg st.rows 0 29).toInt,(bg st.rows 0 30).toBool⟩:jx),(⟨(bg st.rows 0 31).toInt,(bg st.rows 0 32).toInt,(bg st.rows 0 33).toInt,(bg st.rows 0 34).toInt,(bg st.rows 0 35).toInt,(bg st.rows 0 36).toInt,(bg st.rows 0 37).toInt,(bg st.rows 0 38).toStr⟩:gk),(⟨(bg st.rows 0 39).toInt,(bg st.rows 0 40).toInt,(bg st.rows 0 41).toBool,(bg st.rows 0 42).toInt,(bg st.rows 0 43).toBool,(bg st.rows 0 44).toInt⟩:iq),(⟨(bg st.rows 0 45).toInt,(bg st.rows 0 46).toInt⟩:ie),(bg st.rows 0 47).toInt,(bg st.rows 0 48).toBool,(bg st.rows 0 49).toBool⟩:bj),(⟨(mb (bg st.rows 0 50)),(bg st.rows 0 51).toInt,(bg st.rows 0 52).toInt⟩:fc),(nS st.rows (jq (bg st.rows 0 53) 1000000)),(iv i64 (bg st.rows 0 54)),(bg st.rows 0 55).toInt⟩:fu),(⟨(bg st.rows 0 56).toInt,(⟨(⟨(⟨(bg st.rows 0 57).toInt,(bg st.rows 0 58).toInt,(bg st.rows 0 59).toInt,(bg st.rows 0 60).toInt,(bg st.rows 0 61).toInt,(bg st.rows 0 62).toInt,(bg st.rows 0 63).toInt,(bg st.rows 0 64).toInt,(bg st.rows 0 65).toInt,(bg st.rows 0 66).toInt,(bg st.rows 0 67).toInt,(bg st.rows 0 68).toInt,(bg st.rows 0 69).toInt,(bg st.rows 0 70).toInt,(bg st.rows 0 71).toInt,(bg st.rows 0 72).toInt⟩:(jg Int)),(bg st.rows 0 73).toInt,(⟨(bg st.rows 0 74).toInt,(bg st.rows 0 75).toInt,(bg st.rows 0 76).toInt,(bg st.rows 0 77).toInt,(bg st.rows 0 78).toInt,(bg st.rows 0 79).toInt,(bg st.rows 0 80).toInt,(bg st.rows 0 81).toInt⟩:(A8 Int))⟩:cq),(iv u32 (bg st.rows 0 82)),(⟨(bg st.rows 0 83).toStr⟩:jn),(⟨(bg st.rows 0 84).toBool,(bg st.rows 0 85).toInt,(bg st.rows 0 86).toBool⟩:jx),(⟨(bg st.rows 0 87).toInt,(bg st.rows 0 88).toInt,(bg st.rows 0 89).toInt,(bg st.rows 0 90).toInt,(bg st.rows 0 91).toInt,(bg st.rows 0 92).toInt,(bg st.rows 0 93).toInt,(bg st.rows 0 94).toStr⟩:gk),(⟨(bg st.rows 0 95).toInt,(bg st.rows 0 96).toInt,(bg st.rows 0 97).toBool,(bg st.rows 0 98).toInt,(bg st.rows 0 99).toBool,(bg st.rows 0 100).toInt⟩:iq),(⟨(bg st.rows 0 101).toInt,(bg st.rows 0 102).toInt⟩:ie),(bg st.rows 0 103).toInt,(bg st.rows 0 104).toBool,(bg st.rows 0 105).toBool⟩:bj),(⟨(mb (bg st.rows 0 106)),(bg st.rows 0 107).toInt,(bg st.rows 0 108).toInt⟩:fc),(nS st.rows (jq (bg st.rows 0 109) 1000000)),(iv i64 (bg st.rows 0 110)),(bg st.rows 0 111).toInt⟩:fu),(rY RK.ae st.rows (jq (bg st.rows 0 112) 1000000)),(rY RK.ae st.rows (jq (bg st.rows 0 113) 1000000)),(⟨(nN RK.str (bg st.rows 0 114)),(bg st.rows 0 115).toInt,(bg st.rows 0 116).toInt⟩:gu)⟩:fm))
 iU:=λst=>[0]++[(jq (bg st.rows 0 53) (st.rows.length+1)),(jq (bg st.rows 0 109) (st.rows.length+2)),(jq (bg st.rows 0 112) (st.rows.length+3)),(jq (bg st.rows 0 113) (st.rows.length+4))]}
def Qqw:List (Nat×bw):=[(2,Qu0)]
def Qui:bd:=ka 1 47 [true] [.ptr 0] lY (λa r=>Qg1 (fy r)) (λa r=>Qmy (fy r)) (λX=>.dw []) (λX=>nI X)
theorem Qu1:bu pG Qui:=ub drawn jL (.cons Cg (.cons TV (.cons Qf0 (.cons Qdj (.nil))))) Tryz.func47 Tryz.call47 (λa r=>Rb (fy r)) lF Qqw 3 (λ_ _ _=>by kernel_rfl) (λ_ _=>rfl) (λ_ _ h=>h)
end
noncomputable section
def Q7(g:fm)(n clock:Int)(z:(Int)×bj):Nat:=(1000-z.1).toNat
def Rc(g:fm)(n clock:Int):Tree fm:=
.lv (Dt {A1:=g.A1,A2:=g.A2,A7:=g.A7,C0:=g.C0,A9:=g.A9}) λ(x0:Int)=>.br (x0==(-1)) (.lf g) (.br (x0==1) (.lp inferInstance (Q7 g n clock (0,g.A2.A0)+1) ((rE (clock:Int)/\(rE (0:Nat)/\rE (56:Nat))/\((ag.Nil (ag.ints u32 g.A2.A0.Mem)\/rE (1:Nat))/\rE g.A2.A0.Mem)/\rZ/\rE ((if 64<if 0>n then 0 else n then 64 else if 0>n then 0 else n):Int)/\rE (0:Int)/\True)/\T8 g/\rE g.A1.A3/\rE g.A2.A3/\rE g.A7/\rE g.C0/\(mE g.A2.A0 (((ag.Nil (ag.ints u32 g.A2.A0.Mem)\/rE (1:Nat))/\rE g.A2.A0.Mem)) True)/\True) (0,g.A2.A0) λ(v0:Int×bj)=>.br (decide (v0.1<if 64<if 0>n then 0 else n then 64 else if 0>n then 0 else n)) (.an (VY v0.2 clock) (.lv (BW v0.2 clock) λ(x1:bj×List ir)=>.nx ((rE (clock:Int)/\(rE (0:Nat)/\rE (56:Nat))/\((ag.Nil (ag.ints u32 g.A2.A0.Mem)\/rE (1:Nat))/\rE g.A2.A0.Mem)/\rZ/\rE ((if 64<if 0>n then 0 else n then 64 else if 0>n then 0 else n):Int)/\rE ((wrap i64 (v0.1+1)):Int)/\True)/\T8 g/\rE g.A1.A3/\rE g.A2.A3/\rE g.A7/\rE g.C0/\(mE x1.1 (((ag.Nil (ag.ints u32 x1.1.Mem)\/fp Nat 1 1)/\rE x1.1.Mem)) True)/\True) (Sum.inl (wrap i64 (v0.1+1),x1.1)))) (.br (g.A2.A4==1) (.an (Qai g.A2.A0.Mem v0.2.Mem) (.lv (Bj g.A2.A0.Mem v0.2.Mem) λ(x2:List Int)=>.an (Qdw g.A2.B1 x2) (.lv (VV g.A2.B1 x2) λ(x3:fc)=>.lf (Sum.inr {A1:=g.A1,A2:={A4:=g.A2.A4,A0:=v0.2,B1:=x3,A3:=g.A2.A3,B7:=g.A2.B7,D3:=g.A2.D3},A7:=g.A7,C0:=g.C0,A9:=g.A9})))) (.lf (Sum.inr {A1:=g.A1,A2:={A4:=g.A2.A4,A0:=v0.2,B1:=g.A2.B1,A3:=g.A2.A3,B7:=g.A2.B7,D3:=g.A2.D3},A7:=g.A7,C0:=g.C0,A9:=g.A9})))) (.lp inferInstance (Q7 g n clock (0,g.A1.A0)+1) ((rE (clock:Int)/\rZ/\((ag.Nil (ag.ints u32 g.A1.A0.Mem)\/rE (1:Nat))/\rE g.A1.A0.Mem)/\rZ/\rE ((if 64<if 0>n then 0 else n then 64 else if 0>n then 0 else n):Int)/\rE (0:Int)/\True)/\T8 g/\rE g.A1.A3/\rE g.A2.A3/\rE g.A7/\rE g.C0/\(mE g.A1.A0 (((ag.Nil (ag.ints u32 g.A1.A0.Mem)\/rE (1:Nat))/\rE g.A1.A0.Mem)) True)/\True) (0,g.A1.A0) λ(v0:Int×bj)=>.br (decide (v0.1<if 64<if 0>n then 0 else n then 64 else if 0>n then 0 else n)) (.an (VY v0.2 clock) (.lv (BW v0.2 clock) λ(x4:bj×List ir)=>.nx ((rE (clock:Int)/\rZ/\((ag.Nil (ag.ints u32 g.A1.A0.Mem)\/rE (1:Nat))/\rE g.A1.A0.Mem)/\rZ/\rE ((if 64<if 0>n then 0 else n then 64 else if 0>n then 0 else n):Int)/\rE ((wrap i64 (v0.1+1)):Int)/\True)/\T8 g/\rE g.A1.A3/\rE g.A2.A3/\rE g.A7/\rE g.C0/\(mE x4.1 (((ag.Nil (ag.ints u32 x4.1.Mem)\/fp Nat 1 1)/\rE x4.1.Mem)) True)/\True) (Sum.inl (wrap i64 (v0.1+1),x4.1)))) (.br (g.A1.A4==1) (.an (Qai g.A1.A0.Mem v0.2.Mem) (.lv (Bj g.A1.A0.Mem v0.2.Mem) λ(x5:List Int)=>.an (Qdw g.A1.B1 x5) (.lv (VV g.A1.B1 x5) λ(x6:fc)=>.lf (Sum.inr {A1:={A4:=g.A1.A4,A0:=v0.2,B1:=x6,A3:=g.A1.A3,B7:=g.A1.B7,D3:=g.A1.D3},A2:=g.A2,A7:=g.A7,C0:=g.C0,A9:=g.A9})))) (.lf (Sum.inr {A1:={A4:=g.A1.A4,A0:=v0.2,B1:=g.A1.B1,A3:=g.A1.A3,B7:=g.A1.B7,D3:=g.A1.D3},A2:=g.A2,A7:=g.A7,C0:=g.C0,A9:=g.A9})))))
def Qti g n clock:=(Rc g n clock).m
abbrev Qk9 g n clock:=(Rc g n clock).p
def Qzw:bw:={
 α:=(Int)×bj
 F:=λst a=>([(2,(lk st 2)),(6,(lk st 6)),(7,(lk st 7)),(8,.ptr 5 0 0),(35,(lk st 35)),(36,.int i64 a.1)],[⟨true,97,117,.gen [[(bg st.rows 0 0),(bg st.rows 0 1),(bg st.rows 0 2),(bg st.rows 0 3),(bg st.rows 0 4),(bg st.rows 0 5),(bg st.rows 0 6),(bg st.rows 0 7),(bg st.rows 0 8),(bg st.rows 0 9),(bg st.rows 0 10),(bg st.rows 0 11),(bg st.rows 0 12),(bg st.rows 0 13),(bg st.rows 0 14),(bg st.rows 0 15),(bg st.rows 0 16),(bg st.rows 0 17),(bg st.rows 0 18),(bg st.rows 0 19),(bg st.rows 0 20),(bg st.rows 0 21),(bg st.rows 0 22),(bg st.rows 0 23),(bg st.rows 0 24),(bg st.rows 0 25),(bg st.rows 0 26),(bg st.rows 0 27),(bg st.rows 0 28),(bg st.rows 0 29),(bg st.rows 0 30),(bg st.rows 0 31),(bg st.rows 0 32),(bg st.rows 0 33),(bg st.rows 0 34),(bg st.rows 0 35),(bg st.rows 0 36),(bg st.rows 0 37),(bg st.rows 0 38),(bg st.rows 0 39),(bg st.rows 0 40),(bg st.rows 0 41),(bg st.rows 0 42),(bg st.rows 0 43),(bg st.rows 0 44),(bg st.rows 0 45),(bg st.rows 0 46),(bg st.rows 0 47),(bg st.rows 0 48),(bg st.rows 0 49),(bg st.rows 0 50),(bg st.rows 0 51),(bg st.rows 0 52),.all 1,(bg st.rows 0 54),(bg st.rows 0 55),(bg st.rows 0 56),(bg st.rows 0 57),(bg st.rows 0 58),(bg st.rows 0 59),(bg st.rows 0 60),(bg st.rows 0 61),(bg st.rows 0 62),(bg st.rows 0 63),(bg st.rows 0 64),(bg st.rows 0 65),(bg st.rows 0 66),(bg st.rows 0 67),(bg st.rows 0 68),(bg st.rows 0 69),(bg st.rows 0 70),(bg st.rows 0 71),(bg st.rows 0 72),(bg st.rows 0 73),(bg st.rows 0 74),(bg st.rows 0 75),(bg st.rows 0 76),(bg st.rows 0 77),(bg st.rows 0 78),(bg st.rows 0 79),(bg st.rows 0 80),(bg st.rows 0 81),(bg st.rows 0 82),(bg st.rows 0 83),(bg st.rows 0 84),(bg st.rows 0 85),(bg st.rows 0 86),(bg st.rows 0 87),(bg st.rows 0 88),(bg st.rows 0 89),(bg st.rows 0 90),(bg st.rows 0 91),(bg st.rows 0 92),(bg st.rows 0 93),(bg st.rows 0 94),(bg st.rows 0 95),(bg st.rows 0 96),(bg st.rows 0 97),(bg st.rows 0 98),(bg st.rows 0 99),(bg st.rows 0 100),(bg st.rows 0 101),(bg st.rows 0 102),(bg st.rows 0 103),(bg st.rows 0 104),(bg st.rows 0 105),(bg st.rows 0 106),(bg st.rows 0 107),(bg st.rows 0 108),.all 2,(bg st.rows 0 110),(bg st.rows 0 111),.all 3,.all 4,(bg st.rows 0 114),(bg st.rows 0 115),(bg st.rows 0 116)]]⟩,⟨false,3,1,mu st.rows (jq (bg st.rows 0 53) 1000000)⟩,⟨false,3,1,mu st.rows (jq (bg st.rows 0 109) 1000000)⟩,⟨false,80,54,mu st.rows (jq (bg st.rows 0 112) 1000000)⟩,⟨false,80,54,mu st.rows (jq (bg st.rows 0 113) 1000000)⟩,⟨true,43,49,.gen [mD a.2 (.sl 1 (.ints u32 a.2.Mem) false)]⟩])
 a0:=λst=>((lk st 36).toInt,(mR (cT st 8) (iv u32 (cT st 8 25))))
 iU:=λst=>[0]++[(jq (bg st.rows 0 53) (st.rows.length+1)),(jq (bg st.rows 0 109) (st.rows.length+2)),(jq (bg st.rows 0 112) (st.rows.length+3)),(jq (bg st.rows 0 113) (st.rows.length+4)),(rX st 8 5)]}
def Qwm:List (Nat×bw):=[(9,Qzw)]
def Z1u:bd:=ka 1 44 [true,false,false] [.ptr 0,.one (.int .i64),.one (.int .u32)] lY (λa r=>Qk9 (fy r) (au a 1) (au a 2)) (λa r=>Qti (fy r) (au a 1) (au a 2)) (λX=>.dw []) (λX=>nI X)
theorem Qyy:bu pG Z1u:=ub drawn jL (.cons XZ (.cons Zcg (.cons Z9h (.cons Z49 (.nil))))) Tryz.func44 Tryz.call44 (λa r=>Rc (fy r) (au a 1) (au a 2)) lF Qwm 3 (λ_ _ _=>by kernel_rfl) (λ_ _=>rfl) (λ_ _ h=>h)
end
noncomputable section
def Rf(g:fm)(back:Bool)(i:Int):Tree fm:=
.br back (.lv () λ(x0:Unit)=>.br (decide (i>=0)) (.br (decide (i<(g.C0.length:Int))) (.cn (bX 54 54&&bN 0 54&&decide (0<=i/\i<(g.C0.length:Int))) (let E2:=g.C0.getD i.toNat (RK.dk RK.ae);.an (Q64 E2) (.lv (Q9g E2) λ(x1:ep)=>.an (G2 g true x1) (.lv (GZ g true x1) λ(x2:fm)=>.lf x2)))) (.lf g)) (.lf g)) (.lv () λ(x3:Unit)=>.br (decide (i>=0)) (.br (decide (i<(g.A7.length:Int))) (.cn (bX 54 54&&bN 0 54&&decide (0<=i/\i<(g.A7.length:Int))) (let E1:=g.A7.getD i.toNat (RK.dk RK.ae);.an (Q64 E1) (.lv (Q9g E1) λ(x4:ep)=>.an (G2 g false x4) (.lv (GZ g false x4) λ(x5:fm)=>.lf x5)))) (.lf g)) (.lf g))
def Qm9 g back i:=(Rf g back i).m
abbrev Qg2 g back i:=(Rf g back i).p
def Qus:bd:=ka 1 50 [true,false,false] [.ptr 0,.one (.bool),.one (.int .i64)] lY (λa r=>Qg2 (fy r) (kZ a 1) (au a 2)) (λa r=>Qm9 (fy r) (kZ a 1) (au a 2)) (λX=>.dw []) (λX=>nI X)
theorem Qtw:bu pG Qus:=ub drawn jL (.cons Qcr (.cons Uk (.cons Qgu (.nil)))) Tryz.func50 Tryz.call50 (λa r=>Rf (fy r) (kZ a 1) (au a 2)) lF [] 2 (λ_ _ _=>by kernel_rfl) (λ_ _=>rfl) (λ_ _ h=>h)
end
noncomputable section
def Q3:bd:=⟨102,[true,false,false],false,λargs rows=>match args with|[.all r,.int .i64 i,.int .i64 j]=>(match rows with|[⟨false,ty,sz,.ao .ae l⟩]=>(match bX r 0&&(bX ty 80&&bX sz 54)with|true=>.lX (0<=i/\i<j/\j<=l.length) (List ep) (l.take i.toNat++l.drop j.toNat) (λ_=>.all 0) (λX=>[⟨false,80,54,.ao .ae X⟩])|false=>.no)|_=>.no)|_=>.no,some 0,false⟩
theorem Qca:bu pG Q3:=by
 refine⟨λ_=>Tryz.call102,λh=>(by cases h),λh=>(by cases h),λh=>(by cases h),λh=>(by cases h),λh=>(by cases h),λk hk args rows α v res aj hm=>?_,λk hk args rows p α v res aj hm hp=>?_⟩
 ·simp only[Q3]at hm;repeat(split at hm<;>try(cases hm;done))
 ·cases hk
  simp only[Q3]at hm
  split at hm
  ·rename_i r i j
   split at hm
   ·rename_i ty sz l
    split at hm
    ·rename_i hc
     simp only[aE]at hc
     obtain⟨h1,h2,h3⟩:=hc
     have h1:=bE h1;have h2:=bE h2;have h3:=bE h3
     subst h1;subst h2;subst h3
     cases hm
     obtain⟨p1,p2,p3⟩:=hp
     obtain⟨a,rfl⟩:∃a:Nat,i=a:=⟨i.toNat,by omega⟩
     obtain⟨b,rfl⟩:∃b:Nat,j=b:=⟨j.toNat,by omega⟩
     exact qa (by omega) (by simp[ag.l];omega) (by simp[ag.l])
    ·cases hm
   ·cases hm
  ·cases hm
def Kj(g:fm)(back:Bool)(i:Int):Tree (ep×Bool×fm):=
let T1:Tree ((ep×Bool×fm)):=.lf ({C2:=0,B5:=0,Frame:=0,F0:=[],A0:=rk,A3:=[]},false,g);.br back (.lv () λ(x0:Unit)=>.br (decide (i<0)) T1 (.br (decide (i>=(g.C0.length:Int))) T1 (.cn (bX 54 54&&bN 0 54&&decide (0<=i/\i<(g.C0.length:Int))) (.an (fS (i-0)/\fS (wrap i64 (i+1)-(i+1))/\fS ((g.C0.length:Int)-wrap i64 (i+1))) (.lv (cU i.toNat g.C0++cV (dA (wrap i64 (i+1))) g.C0) λ(x1:List ep)=>.lf (g.C0.getD i.toNat (RK.dk RK.ae),true,{A1:=g.A1,A2:=g.A2,A7:=g.A7,C0:=x1,A9:=g.A9})))))) (.lv () λ(x2:Unit)=>.br (decide (i<0)) T1 (.br (decide (i>=(g.A7.length:Int))) T1 (.cn (bX 54 54&&bN 0 54&&decide (0<=i/\i<(g.A7.length:Int))) (.an (fS (i-0)/\fS (wrap i64 (i+1)-(i+1))/\fS ((g.A7.length:Int)-wrap i64 (i+1))) (.lv (cU i.toNat g.A7++cV (dA (wrap i64 (i+1))) g.A7) λ(x3:List ep)=>.lf (g.A7.getD i.toNat (RK.dk RK.ae),true,{A1:=g.A1,A2:=g.A2,A7:=x3,C0:=g.C0,A9:=g.A9}))))))
def Qgx g back i:=(Kj g back i).m
abbrev Qba g back i:=(Kj g back i).p
def Qzq:bd:=ka 1 49 [true,false,false] [.ptr 0,.one (.bool),.one (.int .i64)] lY (λa r=>Qba (fy r) (kZ a 1) (au a 2)) (λa r=>Qgx (fy r) (kZ a 1) (au a 2)) (λX=>.dw [.agg (ep.cells (X.1)),.bool (X.2.1)]) (λX=>[⟨true,97,117,.gen [(fm.cg (X.2.2) (.sl 1 (.ints .u32 X.2.2.A1.A0.Mem) false) (.sl 1 (.ah X.2.2.A1.B1.A6) false) (.all 1) (.sl 1 (.ints .i64 X.2.2.A1.B7) false) (.sl 1 (.ints .u32 X.2.2.A2.A0.Mem) false) (.sl 1 (.ah X.2.2.A2.B1.A6) false) (.all 2) (.sl 1 (.ints .i64 X.2.2.A2.B7) false) (.all 3) (.all 4) (.sl 1 (.ao .str X.2.2.A9.ab) false))]⟩,⟨false,3,1,.ints .i64 (X.2.2).A1.A3⟩,⟨false,3,1,.ints .i64 (X.2.2).A2.A3⟩,⟨false,80,54,.ao .ae (X.2.2).A7⟩,⟨false,80,54,.ao .ae (X.2.2).C0⟩])
theorem Qk8:bu pG Qzq:=ub drawn jL (.cons Qcr (.cons Qca (.nil))) Tryz.func49 Tryz.call49 (λa r=>Kj (fy r) (kZ a 1) (au a 2)) [.sl (.ints .u32) false,.sl (.ints .i64) false,.sl (.ints .u32) false,.sl (.ah) false,.row 3 1 (.ints .i64),.sl (.ints .i64) false,.sl (.ints .u32) false,.sl (.ah) false,.row 3 1 (.ints .i64),.sl (.ints .i64) false,.row 80 54 (.ao .ae),.row 80 54 (.ao .ae),.sl (.ao .str) false] [] 2 (λ_ _ _=>by kernel_rfl) (λ_ _=>rfl) (λ_ _ h=>h)
def Rd(g:fm)(back:Bool)(i:Int):Tree fm:=
.an (Qba g back i) (.lv (Qgx g back i) λ(x0:ep×Bool×fm)=>.br (!x0.2.1) (.lf x0.2.2) (.br (!back) (.an (Qet x0.2.2 x0.1) (.lv (Qkc x0.2.2 x0.1) λ(x1:fm)=>.lf x1)) (.br (x0.2.2.A1.A4==2) (.br (x0.1.C2==3) (.lf ({A1:={A4:=4,A0:=x0.2.2.A1.A0,B1:=x0.2.2.A1.B1,A3:=x0.2.2.A1.A3,B7:=x0.2.2.A1.B7,D3:=x0.2.2.A1.D3},A2:=x0.2.2.A2,A7:=x0.2.2.A7,C0:=x0.2.2.C0,A9:=x0.2.2.A9})) (.lf x0.2.2)) (.lf x0.2.2))))
def Qka g back i:=(Rd g back i).m
abbrev Qer g back i:=(Rd g back i).p
def Qu8:bd:=ka 1 48 [true,false,false] [.ptr 0,.one (.bool),.one (.int .i64)] lY (λa r=>Qer (fy r) (kZ a 1) (au a 2)) (λa r=>Qka (fy r) (kZ a 1) (au a 2)) (λX=>.dw []) (λX=>nI X)
theorem Qrk:bu pG Qu8:=ub drawn jL (.cons Qk8 (.cons Qrt (.nil))) Tryz.func48 Tryz.call48 (λa r=>Rd (fy r) (kZ a 1) (au a 2)) lF [] 2 (λ_ _ _=>by kernel_rfl) (λ_ _=>rfl) (λ_ _ h=>h)
end
noncomputable section
def Ri(g:cj):Tree cj:=
.an (Qb9 g.A1) (.lv (Qi3 g.A1) λ(x0:fu)=>.an (Qb9 g.A2) (.lv (Qi3 g.A2) λ(x1:fu)=>.an (Q8c g.A7) (.lv (Qcp g.A7) λ(x2:List ep)=>.an (Q8c g.C0) (.lv (Qcp g.C0) λ(x3:List ep)=>.an (N8 g.A9.ab) (.lv (GX g.A9.ab) λ(x4:List (List UInt8))=>.lf ({A1:=x0,A2:=x1,A7:=x2,C0:=x3,A9:={ab:=x4,D3:=g.A9.D3,D7:=g.A9.D7}}))))))
def Qmt g:=(Ri g).m
abbrev Qed g:=(Ri g).p
def Z3p:bd:=mT 43 [] false [.agg cj.sig] [] (λa r=>Ri (cj.of (aC a 0))) (λX=>.agg (cj.cg X (.sl 1 (.ints .u32 X.A1.A0.Mem) true) (.sl 1 (.ah X.A1.B1.A6) true) (.all 0) (.sl 1 (.ints .i64 X.A1.B7) true) (.sl 1 (.ints .u32 X.A2.A0.Mem) true) (.sl 1 (.ah X.A2.B1.A6) true) (.all 1) (.sl 1 (.ints .i64 X.A2.B7) true) (.all 2) (.all 3) (.sl 1 (.ao .str X.A9.ab) true))) (λX=>[⟨false,3,1,.ints .i64 X.A1.A3⟩,⟨false,3,1,.ints .i64 X.A2.A3⟩,⟨false,80,54,.ao .ae X.A7⟩,⟨false,80,54,.ao .ae X.C0⟩])
theorem Qom:bu pG Z3p:=oT (.cons Qy0 (.cons Qsf (.cons Q5q (.nil)))) Tryz.func43 Tryz.call43 [.sl (.ints .u32) true,.sl (.ah) true,.row 3 1 (.ints .i64),.sl (.ints .i64) true,.sl (.ints .u32) true,.sl (.ah) true,.row 3 1 (.ints .i64),.sl (.ints .i64) true,.row 80 54 (.ao .ae),.row 80 54 (.ao .ae),.sl (.ao .str) true] [] 2 (jc:=nofun)
def Rm(g:cj)(a:jd):Tree (cj×Bool):=
.an (Qed g) (.lv (Qmt g) λ(x0:cj)=>.br (a.C2==1) (.an (Qk9 {A1:=x0.A1,A2:=x0.A2,A7:=x0.A7,C0:=x0.C0,A9:=x0.A9} a.N a.F2) (.lv (Qti {A1:=x0.A1,A2:=x0.A2,A7:=x0.A7,C0:=x0.C0,A9:=x0.A9} a.N a.F2) λ(x1:fm)=>.lf ({A1:=x1.A1,A2:=x1.A2,A7:=x1.A7,C0:=x1.C0,A9:=x1.A9},true))) (.br (a.C2==2) (.br (x0.A1.A4==1) (.br (decide (x0.A1.B1.B5<10)) (.an (Qad {A1:=x0.A1,A2:=x0.A2,A7:=x0.A7,C0:=x0.C0,A9:=x0.A9}) (.lv (Qf9 {A1:=x0.A1,A2:=x0.A2,A7:=x0.A7,C0:=x0.C0,A9:=x0.A9}) λ(x2:fm)=>.lf ({A1:=x2.A1,A2:=x2.A2,A7:=x2.A7,C0:=x2.C0,A9:=x2.A9},true))) (.lf (x0,true))) (.lf (x0,true))) (.br (a.C2==3) (.an (Qii {A1:=x0.A1,A2:=x0.A2,A7:=x0.A7,C0:=x0.C0,A9:=x0.A9} a.N) (.lv (Qpy {A1:=x0.A1,A2:=x0.A2,A7:=x0.A7,C0:=x0.C0,A9:=x0.A9} a.N) λ(x3:fm)=>.lf ({A1:=x3.A1,A2:=x3.A2,A7:=x3.A7,C0:=x3.C0,A9:=x3.A9},true))) (.br (a.C2==4) (.an (Qg1 {A1:=x0.A1,A2:=x0.A2,A7:=x0.A7,C0:=x0.C0,A9:=x0.A9}) (.lv (Qmy {A1:=x0.A1,A2:=x0.A2,A7:=x0.A7,C0:=x0.C0,A9:=x0.A9}) λ(x4:fm)=>.lf ({A1:=x4.A1,A2:=x4.A2,A7:=x4.A7,C0:=x4.C0,A9:=x4.A9},true))) (.br (a.C2==5) (.an (Qer {A1:=x0.A1,A2:=x0.A2,A7:=x0.A7,C0:=x0.C0,A9:=x0.A9} a.C0 a.N) (.lv (Qka {A1:=x0.A1,A2:=x0.A2,A7:=x0.A7,C0:=x0.C0,A9:=x0.A9} a.C0 a.N) λ(x5:fm)=>.lf ({A1:=x5.A1,A2:=x5.A2,A7:=x5.A7,C0:=x5.C0,A9:=x5.A9},true))) (.br (a.C2==6) (.an (Qba {A1:=x0.A1,A2:=x0.A2,A7:=x0.A7,C0:=x0.C0,A9:=x0.A9} a.C0 a.N) (.lv (Qgx {A1:=x0.A1,A2:=x0.A2,A7:=x0.A7,C0:=x0.C0,A9:=x0.A9} a.C0 a.N) λ(x6:ep×Bool×fm)=>.lf ({A1:=x6.2.2.A1,A2:=x6.2.2.A2,A7:=x6.2.2.A7,C0:=x6.2.2.C0,A9:=x6.2.2.A9},true))) (.br (a.C2==7) (.an (Qg2 {A1:=x0.A1,A2:=x0.A2,A7:=x0.A7,C0:=x0.C0,A9:=x0.A9} a.C0 a.N) (.lv (Qm9 {A1:=x0.A1,A2:=x0.A2,A7:=x0.A7,C0:=x0.C0,A9:=x0.A9} a.C0 a.N) λ(x7:fm)=>.lf ({A1:=x7.A1,A2:=x7.A2,A7:=x7.A7,C0:=x7.C0,A9:=x7.A9},true))) (.br (a.C2==8) (.an (Ws x0) (.lv (Wt x0) λ(x8:Bool)=>.br x8 (.an (Qeq {A1:=x0.A1,A2:=x0.A2,A7:=x0.A7,C0:=x0.C0,A9:=x0.A9} 1) (.lv (Qkk {A1:=x0.A1,A2:=x0.A2,A7:=x0.A7,C0:=x0.C0,A9:=x0.A9} 1) λ(x9:Bool×fm)=>.br x9.1 (let E1:=(rk:bj);.an (G2 x9.2 true {C2:=3,B5:=0,Frame:=0,F0:=[],A0:=E1,A3:=[]}) (.lv (GZ x9.2 true {C2:=3,B5:=0,Frame:=0,F0:=[],A0:=E1,A3:=[]}) λ(kF:fm)=>.lf ({A1:=kF.A1,A2:=kF.A2,A7:=kF.A7,C0:=kF.C0,A9:=kF.A9},true))) (.lf ({A1:=x9.2.A1,A2:=x9.2.A2,A7:=x9.2.A7,C0:=x9.2.C0,A9:=x9.2.A9},true)))) (.lf (x0,true)))) (.br (a.C2==9) (.an (Qfu {A1:=x0.A1,A2:=x0.A2,A7:=x0.A7,C0:=x0.C0,A9:=x0.A9}) (.lv (Qmx {A1:=x0.A1,A2:=x0.A2,A7:=x0.A7,C0:=x0.C0,A9:=x0.A9}) λ(kX:fm)=>.lf ({A1:=kX.A1,A2:=kX.A2,A7:=kX.A7,C0:=kX.C0,A9:=kX.A9},true))) (.br (a.C2==10) (.lv (Qou {A1:=x0.A1,A2:=x0.A2,A7:=x0.A7,C0:=x0.C0,A9:=x0.A9} a.C0) λ(nW:fm)=>.lf ({A1:=nW.A1,A2:=nW.A2,A7:=nW.A7,C0:=nW.C0,A9:=nW.A9},true)) (.lf (x0,false))))))))))))
def Sg g a:=(Rm g a).m
abbrev Sf g a:=(Rm g a).p
def Zqh:bd:=mT 16 [] false [.agg cj.sig,.agg jd.sig] [] (λa r=>Rm (cj.of (aC a 0)) (jd.of (aC a 1))) (λX=>.dw [.agg (cj.cg (X.1) (.sl 1 (.ints .u32 X.1.A1.A0.Mem) false) (.sl 1 (.ah X.1.A1.B1.A6) false) (.all 0) (.sl 1 (.ints .i64 X.1.A1.B7) false) (.sl 1 (.ints .u32 X.1.A2.A0.Mem) false) (.sl 1 (.ah X.1.A2.B1.A6) false) (.all 1) (.sl 1 (.ints .i64 X.1.A2.B7) false) (.all 2) (.all 3) (.sl 1 (.ao .str X.1.A9.ab) false)),.bool (X.2)]) (λX=>[⟨false,3,1,.ints .i64 (X.1).A1.A3⟩,⟨false,3,1,.ints .i64 (X.1).A2.A3⟩,⟨false,80,54,.ao .ae (X.1).A7⟩,⟨false,80,54,.ao .ae (X.1).C0⟩])
theorem Qrz:bu pG Zqh:=oT (.cons Qom (.cons Qyy (.cons Qjh (.cons Qxj (.cons Qu1 (.cons Qrk (.cons Qk8 (.cons Qtw (.cons Qn5 (.cons Qrr (.cons Uk (.cons Qtr (.cons Qw4 (.nil)))))))))))))) Tryz.func16 Tryz.call16 lF [] 2 (jc:=nofun)
def Qhw(g:cj)(l:List jd)(z:(Int)×cj):Nat:=(l.length-z.1).toNat
def Rw(g:cj)(l:List jd):Tree cj:=
.an (Qed g) (.lv (Qmt g) λ(x0:cj)=>.lp inferInstance (Qhw g l (0,x0)+1) ((rZ/\rZ/\nR RK.ba 4 l/\rE ((l.length:Int):Int)/\rE (0:Int)/\True)/\gE2 x0/\rE x0.A1.A3/\rE x0.A2.A3/\rE x0.A7/\rE x0.C0/\(rE (0:Int)/\mE zM True (True/\rE (0:Int)/\rE (0:Int)/\True/\True/\rE (0:Int)/\rE (0:Int)/\mE zM True (True/\rE (0:Int)/\rE (0:Int)/\True/\True/\rE (0:Int)/\True/\True/\True/\rE (0:Int)/\rE (0:Int)/\True)))/\True) (0,x0) λ(v0:Int×cj)=>.br (decide (v0.1<(l.length:Int))) (.cn (bX 4 4&&bN 0 4&&decide (0<=v0.1/\v0.1<(l.length:Int))) (.br (v0.1==200) (.lf (Sum.inr v0.2)) (let E1:=l.getD v0.1.toNat (RK.dk RK.ba);.an (Sf v0.2 E1) (.lv (Sg v0.2 E1) λ(x1:cj×Bool)=>.nx ((rZ/\rZ/\nR RK.ba 4 l/\rE ((l.length:Int):Int)/\rE ((wrap i64 (v0.1+1)):Int)/\True)/\gE3 x1.1/\rE x1.1.A1.A3/\rE x1.1.A2.A3/\rE x1.1.A7/\rE x1.1.C0/\(rE (0:Int)/\mE zM True (True/\rE (0:Int)/\rE (0:Int)/\True/\True/\rE (0:Int)/\rE (0:Int)/\mE zM True (True/\rE (0:Int)/\rE (0:Int)/\True/\True/\rE (0:Int)/\True/\True/\True/\rE (0:Int)/\rE (0:Int)/\True)))/\True) (Sum.inl (wrap i64 (v0.1+1),x1.1)))))) (.lf (Sum.inr v0.2)))
def Zdo g l:=(Rw g l).m
abbrev Qwj g l:=(Rw g l).p
def Zg9:bw:={
 α:=(Int)×cj
 F:=λst a=>([(2,.ptr 0 0 0),(4,.ptr 5 0 0),(9,(lk st 9)),(10,(lk st 10)),(11,.int i64 a.1)],[⟨true,54,117,.gen [cj.cg a.2 (.sl 1 (.ints u32 a.2.A1.A0.Mem) false) (.sl 1 (.ah a.2.A1.B1.A6) false) (.all 1) (.sl 1 (.ints i64 a.2.A1.B7) false) (.sl 1 (.ints u32 a.2.A2.A0.Mem) false) (.sl 1 (.ah a.2.A2.B1.A6) false) (.all 2) (.sl 1 (.ints i64 a.2.A2.B7) false) (.all 3) (.all 4) (.sl 1 (.ao RK.str a.2.A9.ab) false)]⟩,⟨false,3,1,.ints i64 a.2.A1.A3⟩,⟨false,3,1,.ints i64 a.2.A2.A3⟩,⟨false,80,54,.ao RK.ae a.2.A7⟩,⟨false,80,54,.ao RK.ae a.2.C0⟩,⟨true,54,117,.gen [cN st 4 0 117]⟩])
 a0:=λst=>((lk st 11).toInt,(cj.og (cN st 2 0 117) (iv u32 (cT st 2 26)) (mb (cT st 2 50)) (nS st.rows (jq (cT st 2 53) 1000000)) (iv i64 (cT st 2 54)) (iv u32 (cT st 2 82)) (mb (cT st 2 106)) (nS st.rows (jq (cT st 2 109) 1000000)) (iv i64 (cT st 2 110)) (rY RK.ae st.rows (jq (cT st 2 112) 1000000)) (rY RK.ae st.rows (jq (cT st 2 113) 1000000)) (nN RK.str (cT st 2 114))))
 iU:=λst=>[]++[(rX st 2 0),(jq (cT st 2 53) (st.rows.length+1)),(jq (cT st 2 109) (st.rows.length+2)),(jq (cT st 2 112) (st.rows.length+3)),(jq (cT st 2 113) (st.rows.length+4)),(rX st 4 5)]}
def Z8k:List (Nat×bw):=[(3,Zg9)]
def Zk1:bd:=mT 27 [] false [.agg cj.sig,.one (.ao .ba)] [] (λa r=>Rw (cj.of (aC a 0)) (ji .ba a 1)) (λX=>.agg (cj.cg X (.sl 1 (.ints .u32 X.A1.A0.Mem) false) (.sl 1 (.ah X.A1.B1.A6) false) (.all 0) (.sl 1 (.ints .i64 X.A1.B7) false) (.sl 1 (.ints .u32 X.A2.A0.Mem) false) (.sl 1 (.ah X.A2.B1.A6) false) (.all 1) (.sl 1 (.ints .i64 X.A2.B7) false) (.all 2) (.all 3) (.sl 1 (.ao .str X.A9.ab) false))) (λX=>[⟨false,3,1,.ints .i64 X.A1.A3⟩,⟨false,3,1,.ints .i64 X.A2.A3⟩,⟨false,80,54,.ao .ae X.A7⟩,⟨false,80,54,.ao .ae X.C0⟩])
theorem Zfx:bu pG Zk1:=oT (.cons Qom (.cons Qrz (.nil))) Tryz.func27 Tryz.call27 lF Z8k 3 (jc:=nofun)
end
noncomputable section
def Rr(kind:Int)(prog:List Int):Tree (cj×bj×Bool):=
.an (Qtn kind prog) (.lv (VW kind prog) λ(x0:bj)=>.an (Qw8 1) (.lv (Z9j 1) λ(x1:List (List UInt8))=>.an (Qoc x1) (.lv (Qy6 x1) λ(x2:gu×Bool)=>.an (Qgg x2.1 0 0) (.lv (Qrs x2.1 0 0) λ(x3:gu×Bool)=>.an (Qva x0 x3.1) (.lv (Zbt x0 x3.1) λ(x4:cj×Bool)=>.lf (x4.1,x0,x4.2))))))
def Qss kind prog:=(Rr kind prog).m
abbrev Qhu kind prog:=(Rr kind prog).p
def Zcb:bd:=mT 12 [] false [.one (.int .i64),.one (.ints .i64)] [] (λa r=>Rr (au a 0) (c9 .i64 a 1)) (λX=>.dw [.agg (cj.cg (X.1) (.sl 1 (.ints .u32 X.1.A1.A0.Mem) true) (.sl 1 (.ah X.1.A1.B1.A6) true) (.all 0) (.sl 1 (.ints .i64 X.1.A1.B7) true) (.sl 1 (.ints .u32 X.1.A2.A0.Mem) true) (.sl 1 (.ah X.1.A2.B1.A6) true) (.all 1) (.sl 1 (.ints .i64 X.1.A2.B7) true) (.all 2) (.all 3) (.sl 1 (.ao .str X.1.A9.ab) true)),.agg (bj.cells (X.2.1)),.bool (X.2.2)]) (λX=>[⟨false,3,1,.ints .i64 (X.1).A1.A3⟩,⟨false,3,1,.ints .i64 (X.1).A2.A3⟩,⟨false,80,54,.ao .ae (X.1).A7⟩,⟨false,80,54,.ao .ae (X.1).C0⟩])
theorem Qt9:bu pG Zcb:=oT (.cons Ze0 (.cons Z3i (.cons Zg (.cons Qpo (.cons Zf2 (.nil)))))) Tryz.func12 Tryz.call12 [.sl (.ints .u32) true,.sl (.ah) true,.row 3 1 (.ints .i64),.sl (.ints .i64) true,.sl (.ints .u32) true,.sl (.ah) true,.row 3 1 (.ints .i64),.sl (.ints .i64) true,.row 80 54 (.ao .ae),.row 80 54 (.ao .ae),.sl (.ao .str) true,.sl (.ints .u32) false] [] 2 (jc:=nofun)
def Qh3(z:(Int)×(List jd)):Nat:=(64-z.1).toNat
def Ry:Tree (List jd):=
.lp inferInstance (Qh3 (0,[{C2:=2,N:=0,C0:=false,F2:=0},{C2:=3,N:=32,C0:=false,F2:=0}])+1) ((True/\rE (0:Int)/\True)/\rE ([{C2:=2,N:=0,C0:=false,F2:=0},{C2:=3,N:=32,C0:=false,F2:=0}]:List (RK.T RK.ba))/\True) (0,[{C2:=2,N:=0,C0:=false,F2:=0},{C2:=3,N:=32,C0:=false,F2:=0}]) λ(v0:Int×List jd)=>let E1:=decide (24*(v0.2.length+1)<=140737488355328);.br (decide (v0.1<64)) (.cn E1 (.nx ((True/\rE ((wrap i64 (v0.1+1)):Int)/\True)/\rE ((v0.2++[{C2:=5,N:=0,C0:=false,F2:=0}]):List (RK.T RK.ba))/\True) (Sum.inl (wrap i64 (v0.1+1),v0.2++[{C2:=5,N:=0,C0:=false,F2:=0}])))) (.cn E1 (.lf (Sum.inr (v0.2++[{C2:=8,N:=0,C0:=false,F2:=0}]))))
def Za9:(List jd):=(Ry).m
abbrev Qwd:Prop:=(Ry).p
def Zfs:bw:={
 α:=(Int)×(List jd)
 F:=λst a=>([(1,.all 0),(2,.int i64 a.1)],[⟨false,61,4,.ao RK.ba a.2⟩])
 a0:=λst=>((lk st 2).toInt,(rY RK.ba st.rows (rN st 1)))
 iU:=λst=>[]++[(rX st 1 0)]}
def Z78:List (Nat×bw):=[(3,Zfs)]
def Zmu:bd:=mT 29 [] true [] [] (λa r=>Ry) (λX=>.sl 4 (.ao .ba X) true) (λX=>[])
theorem Zgf:bu pG Zmu:=oT (.nil) Tryz.func29 Tryz.call29 [.sl (.ao .ba) true] Z78 3
def Rz:Tree Bool:=
.an (Qhu 2 [0]) (.lv (Qss 2 [0]) λ(x0:cj×bj×Bool)=>.br (!x0.2.2) (.lf false) (.lv (Dt x0.1) λ(x1:Int)=>.br (x1 !=0) (.lf false) (.an Qwd (.lv Za9 λ(x2:List jd)=>.an (Qwj x0.1 x2) (.lv (Zdo x0.1 x2) λ(x3:cj)=>.an (Wo x3) (.lv (Wp x3) λ(x4:bj×Bool)=>.an (Sf x3 {C2:=99,N:=0,C0:=false,F2:=0}) (.lv (Sg x3 {C2:=99,N:=0,C0:=false,F2:=0}) λ(x5:cj×Bool)=>.lv (Dt x3) λ(x6:Int)=>.br (x6==1) (.br x4.2 (.an (Kn x4.1 x0.2.1) (.lv (Nv x4.1 x0.2.1) λ(x7:Bool)=>.br x7 (.lf (!x5.2)) (.lf false))) (.lf false)) (.lf false))))))))
def Nl:Bool:=(Rz).m
abbrev Nk:Prop:=(Rz).p
def Zmi:bd:=mT 11 [] true [] [] (λa r=>Rz) (λX=>.bool X) (λX=>[])
theorem Zgj:bu pG Zmi:=oT (.cons Qt9 (.cons XZ (.cons Zfx (.cons Zgf (.cons Qo3 (.cons Qrz (.cons XH (.nil)))))))) Tryz.func11 Tryz.call11 [] [] 2
end
noncomputable section
def Qh(bq:Int)(z:(Int)×(List Bool)):Nat:=(bq-z.1).toNat
def RJ(bq:Int):Tree (fc×Bool):=
.br (decide (bq<1)) (.lf ({A6:=[],B5:=0,D6:=0},false)) (.br (decide (bq>32)) (.lf ({A6:=[],B5:=0,D6:=0},false)) (.cn (bN 0 1&&bX 1 1&&iP [D.bool false] D.plain&&decide (0<=bq/\bq<=bq/\bq<=9223372036854775807/\(↑1:Int)*bq<=140737488355328)) (.lp inferInstance (Qh bq (0,cO bq.toNat false)+1) ((rE (bq:Int)/\rZ/\rZ/\rE (0:Int)/\True)/\(True/\rE (0:Int)/\rE (0:Int)/\True)/\(True/\rE (0:Int)/\rE (0:Int)/\True)/\rE ((cO bq.toNat false):List Bool)/\True) (0,cO bq.toNat false) λ(v0:Int×List Bool)=>.br (decide (v0.1<bq)) (.cn (bX 1 1&&bN 0 1&&decide (0<=v0.1/\v0.1<(v0.2.length:Int))) (.nx ((rE (bq:Int)/\rZ/\rZ/\rE ((wrap i64 (v0.1+1)):Int)/\True)/\(True/\rE (0:Int)/\rE (0:Int)/\True)/\(True/\rE (0:Int)/\rE (0:Int)/\True)/\rE ((dB v0.2 v0.1.toNat true):List Bool)/\True) (Sum.inl (wrap i64 (v0.1+1),dB v0.2 v0.1.toNat true)))) (.lf (Sum.inr ({A6:=v0.2,B5:=0,D6:=0},true))))))
def Qyv bq:=(RJ bq).m
abbrev Qmj bq:=(RJ bq).p
def Zed:bw:={
 α:=(Int)×(List Bool)
 F:=λst a=>([(0,(lk st 0)),(2,.ptr 0 0 0),(4,.ptr 1 0 0),(5,.int i64 a.1)],[⟨true,46,3,.gen [[(cT st 2 0),(cT st 2 1),(cT st 2 2)]]⟩,⟨true,46,3,.gen [[.all 2,(cT st 4 1),(cT st 4 2)]]⟩,⟨false,4,1,.ah a.2⟩])
 a0:=λst=>((lk st 5).toInt,(UW st.rows (jq (cT st 4 0) 1000000)))
 iU:=λst=>[]++[(rX st 2 0),(rX st 4 1),(jq (cT st 4 0) (st.rows.length+2))]}
def Z7w:List (Nat×bw):=[(5,Zed)]
def Zl2:bd:=mT 37 [] true [.one (.int .i64)] [] (λa r=>RJ (au a 0)) (λX=>.dw [.agg (fc.cg (X.1) (.all 0)),.bool (X.2)]) (λX=>[⟨false,4,1,.ah (X.1).A6⟩])
theorem Zei:bu pG Zl2:=oT (.nil) Tryz.func37 Tryz.call37 [.row 4 1 (.ah)] Z7w 3
def Qki(a:List Bool)(b:List Bool)(z:(Int)):Prop:=0<=z/\z<=a.length/\a.length=b.length
def RB(a:List Bool)(b:List Bool)(z:(Int)):Nat:=(a.length-z).toNat
def Nn(a:List Bool)(b:List Bool):Tree Bool:=
.br ((a.length:Int) !=(b.length:Int)) (.lf false) (.lp inferInstance (RB a b 0+1) ((((ag.Nil (ag.ah a)\/rE (1:Nat))/\rE (a:List Bool))/\((ag.Nil (ag.ah b)\/rE (1:Nat))/\rE (b:List Bool))/\rE (0:Int)/\True)/\True) 0 λ(v0:Int)=>.br (decide (v0<(a.length:Int))) (.cn (bX 1 1&&bN 0 1&&decide (0<=v0/\v0<(a.length:Int))) (.cn (bX 1 1&&bN 0 1&&decide (0<=v0/\v0<(b.length:Int))) (.br (!a.getD v0.toNat false==b.getD v0.toNat false) (.lf (Sum.inr false)) (.nx ((((ag.Nil (ag.ah a)\/rE (1:Nat))/\rE (a:List Bool))/\((ag.Nil (ag.ah b)\/rE (1:Nat))/\rE (b:List Bool))/\rE ((wrap i64 (v0+1)):Int)/\True)/\True) (Sum.inl (wrap i64 (v0+1))))))) (.lf (Sum.inr true)))
def Qul a b:=(Nn a b).m
def X4(a:List Bool)(b:List Bool):Prop:=
a.length<=1000000000000
theorem Qzg(a:List Bool)(b:List Bool)(hw:X4 a b):(Nn a b).p:=by
 simp only[X4]at hw
 unfold Tree.p Nn
 repeat'(first|refine ed (inv:=Qki a b) (μ:=RB a b) ?_ (cN _) (λ_ _=>?_)|exact trivial|refine aa (λ_=>?_) (λ_=>?_)|refine ar ?_ ?_|refine bz ?_ ?_|refine ai (λ_ _=>?_)|refine dj ?_|refine aw ?_|refine And.intro ?_ ?_)
 all_goals((try simp only[Qki,RB]at*);exact mC)
def Z0i:bw:={
 α:=(Int)
 F:=λst a=>([(0,(lk st 0)),(1,(lk st 1)),(5,.int i64 a)],[])
 a0:=λst=>(lk st 5).toInt
 iU:=λst=>[]++[]}
def Qxk:List (Nat×bw):=[(4,Z0i)]
def Z4w:bd:=lj 132 [] true [.one (.ah),.one (.ah)] [] (λa r=>X4 (nG a 0) (nG a 1)) (λa r=>Qul (nG a 0) (nG a 1)) (λX=>.bool X) (λX=>[])
theorem Z0x:bu pG Z4w:=sF drawn jL (.nil) Tryz.func132 Tryz.call132 (λa r=>Nn (nG a 0) (nG a 1)) [] Qxk 3 (hp:=λa r h=>Qzg (nG a 0) (nG a 1) h)
def RE(a b:fc):Tree Bool:=
.br (a.B5==b.B5) (.br (a.D6==b.D6) (.an (X4 a.A6 b.A6) (.lv (Qul a.A6 b.A6) λ(x0:Bool)=>.lf x0)) (.lf false)) (.lf false)
def Qyi a b:=(RE a b).m
abbrev Qog a b:=(RE a b).p
def Z88:bd:=mT 87 [] true [.agg fc.sig,.agg fc.sig] [] (λa r=>RE (fc.of (aC a 0)) (fc.of (aC a 1))) (λX=>.bool X) (λX=>[])
theorem Z4t:bu pG Z88:=oT (.cons Z0x (.nil)) Tryz.func87 Tryz.call87 [] [] 2
def Qoz(a b:List Int)(z:(Int)):Prop:=0<=z/\z<=a.length/\a.length=b.length
def Kp(a b:List Int)(z:(Int)):Nat:=(a.length-z).toNat
def H5(a b:List Int):Tree Bool:=
.br ((a.length:Int) !=(b.length:Int)) (.lf false) (.lp inferInstance (Kp a b 0+1) ((((ag.Nil (ag.ints i64 a)\/rE (1:Nat))/\rE (a:List Int))/\((ag.Nil (ag.ints i64 b)\/rE (1:Nat))/\rE (b:List Int))/\rE (0:Int)/\True)/\True) 0 λ(v0:Int)=>.br (decide (v0<(a.length:Int))) (.cn (bX 1 1&&bN 0 1&&decide (0<=v0/\v0<(a.length:Int))) (.cn (bX 1 1&&bN 0 1&&decide (0<=v0/\v0<(b.length:Int))) (.br (a.getD v0.toNat 0 !=b.getD v0.toNat 0) (.lf (Sum.inr false)) (.nx ((((ag.Nil (ag.ints i64 a)\/rE (1:Nat))/\rE (a:List Int))/\((ag.Nil (ag.ints i64 b)\/rE (1:Nat))/\rE (b:List Int))/\rE ((wrap i64 (v0+1)):Int)/\True)/\True) (Sum.inl (wrap i64 (v0+1))))))) (.lf (Sum.inr true)))
def Np a b:=(H5 a b).m
def H6(a b:List Int):Prop:=
a.length<=1000000000000
theorem Z4r(a b:List Int)(hw:H6 a b):(H5 a b).p:=by
 simp only[H6]at hw
 unfold Tree.p H5
 repeat'(first|refine ed (inv:=Qoz a b) (μ:=Kp a b) ?_ (cN _) (λ_ _=>?_)|exact trivial|refine aa (λ_=>?_) (λ_=>?_)|refine ar ?_ ?_|refine bz ?_ ?_|refine ai (λ_ _=>?_)|refine dj ?_|refine aw ?_|refine And.intro ?_ ?_)
 all_goals((try simp only[Qoz,Kp]at*);exact mC)
def Z7q:bw:={
 α:=(Int)
 F:=λst a=>([(0,(lk st 0)),(1,(lk st 1)),(5,.int i64 a)],[])
 a0:=λst=>(lk st 5).toInt
 iU:=λst=>[]++[]}
def Z15:List (Nat×bw):=[(4,Z7q)]
def Zca:bd:=lj 66 [] true [.one (.ints .i64),.one (.ints .i64)] [] (λa r=>H6 (c9 .i64 a 0) (c9 .i64 a 1)) (λa r=>Np (c9 .i64 a 0) (c9 .i64 a 1)) (λX=>.bool X) (λX=>[])
theorem Qju:bu pG Zca:=sF drawn jL (.nil) Tryz.func66 Tryz.call66 (λa r=>H5 (c9 .i64 a 0) (c9 .i64 a 1)) [] Z15 3 (hp:=λa r h=>Z4r (c9 .i64 a 0) (c9 .i64 a 1) h)
def RD(a b:fu):Tree Bool:=
.br (a.A4==b.A4) (.br (a.D3==b.D3) (.an (Kn a.A0 b.A0) (.lv (Nv a.A0 b.A0) λ(x0:Bool)=>.br x0 (.an (Qog a.B1 b.B1) (.lv (Qyi a.B1 b.B1) λ(x1:Bool)=>.br x1 (.an (H6 a.A3 b.A3) (.lv (Np a.A3 b.A3) λ(x2:Bool)=>.br x2 (.an (H6 a.B7 b.B7) (.lv (Np a.B7 b.B7) λ(x3:Bool)=>.lf x3)) (.lf false))) (.lf false))) (.lf false))) (.lf false)) (.lf false)
def Qp9 a b:=(RD a b).m
abbrev Qfl a b:=(RD a b).p
def Z7v:bd:=mT 39 [] true [.agg fu.sig,.agg fu.sig] [] (λa r=>RD (fu.of (aC a 0)) (fu.of (aC a 1))) (λX=>.bool X) (λX=>[])
theorem Z3r:bu pG Z7v:=oT (.cons XH (.cons Z4t (.cons Qju (.nil)))) Tryz.func39 Tryz.call39 [] [] 2
def Q9b(a b:List ep)(z:(Int)):Nat:=(a.length-z).toNat
def RG(a b:List ep):Tree Bool:=
.br ((a.length:Int) !=(b.length:Int)) (.lf false) (.lp inferInstance (Q9b a b 0+1) ((nR RK.ae 54 a/\nR RK.ae 54 b/\rE (0:Int)/\True)/\True) 0 λ(v0:Int)=>.br (decide (v0<(a.length:Int))) (let E1:=bX 54 54&&bN 0 54&&decide (0<=v0/\v0<(a.length:Int));.cn E1 (let E2:=bX 54 54&&bN 0 54&&decide (0<=v0/\v0<(b.length:Int));.cn E2 (let E3:=a.getD v0.toNat (RK.dk RK.ae);let E4:=b.getD v0.toNat (RK.dk RK.ae);.br (E3.C2 !=E4.C2) (.lf (Sum.inr false)) (.cn E1 (.cn E2 (.br (E3.B5 !=E4.B5) (.lf (Sum.inr false)) (.cn E1 (.cn E2 (.br (E3.Frame !=E4.Frame) (.lf (Sum.inr false)) (.cn E1 (.cn E2 (.br (!decide (E3.F0=E4.F0)) (.lf (Sum.inr false)) (.cn E1 (.cn E2 (.an (Kn E3.A0 E4.A0) (.lv (Nv E3.A0 E4.A0) λ(x0:Bool)=>.br (!x0) (.lf (Sum.inr false)) (.cn E1 (.cn E2 (.an (H6 E3.A3 E4.A3) (.lv (Np E3.A3 E4.A3) λ(x1:Bool)=>.br (!x1) (.lf (Sum.inr false)) (.nx ((nR RK.ae 54 a/\nR RK.ae 54 b/\rE ((wrap i64 (v0+1)):Int)/\True)/\True) (Sum.inl (wrap i64 (v0+1)))))))))))))))))))))))) (.lf (Sum.inr true)))
def Qcj a b:=(RG a b).m
abbrev Q7h a b:=(RG a b).p
def Qxt:bw:={
 α:=(Int)
 F:=λst a=>([(0,(lk st 0)),(1,(lk st 1)),(5,.int i64 a)],[])
 a0:=λst=>(lk st 5).toInt
 iU:=λst=>[]++[]}
def Qtv:List (Nat×bw):=[(4,Qxt)]
def Qzs:bd:=mT 40 [] true [.one (.ao .ae),.one (.ao .ae)] [] (λa r=>RG (ji .ae a 0) (ji .ae a 1)) (λX=>.bool X) (λX=>[])
theorem Qxl:bu pG Qzs:=oT (.cons XH (.cons Qju (.nil))) Tryz.func40 Tryz.call40 [] Qtv 3
def Nq(a b:cj):Tree Bool:=
.an (Qfl a.A1 b.A1) (.lv (Qp9 a.A1 b.A1) λ(x0:Bool)=>.br x0 (.an (Qfl a.A2 b.A2) (.lv (Qp9 a.A2 b.A2) λ(x1:Bool)=>.br x1 (.an (Q7h a.A7 b.A7) (.lv (Qcj a.A7 b.A7) λ(x2:Bool)=>.br x2 (.an (Q7h a.C0 b.C0) (.lv (Qcj a.C0 b.C0) λ(x3:Bool)=>.br x3 (.an (Qmg a.A9 b.A9) (.lv (Qvn a.A9 b.A9) λ(x4:Bool)=>.lf x4)) (.lf false))) (.lf false))) (.lf false))) (.lf false))
def Wr a b:=(Nq a b).m
abbrev Wq a b:=(Nq a b).p
def Qwi:bd:=mT 14 [] true [.agg cj.sig,.agg cj.sig] [] (λa r=>Nq (cj.of (aC a 0)) (cj.of (aC a 1))) (λX=>.bool X) (λX=>[])
theorem Qtu:bu pG Qwi:=oT (.cons Z3r (.cons Qxl (.cons Z2c (.nil)))) Tryz.func14 Tryz.call14 [] [] 2
end
noncomputable section
def Qo8(a b:List Int)(z:(Int)×(List Int)):Nat:=(a.length-z.1).toNat
def RS(a b:List Int):Tree (List Int):=
.br ((a.length:Int) !=(b.length:Int)) (.lf ([])) (.lp inferInstance (Qo8 a b (0,[])+1) ((((ag.Nil (ag.ints u32 a)\/rE (1:Nat))/\rE (a:List Int))/\((ag.Nil (ag.ints u32 b)\/rE (1:Nat))/\rE (b:List Int))/\True/\rE (0:Int)/\True)/\rE ([]:List Int)/\True) (0,[]) λ(v0:Int×List Int)=>.lv (oW a) λ(x0:Int)=>.br (decide (v0.1<x0)) (.cn (bX 1 1&&bN 0 1&&decide (0<=wrap i64 (v0.1*32)/\wrap i64 (v0.1*32)<=wrap i64 (wrap i64 (v0.1+1)*32)/\wrap i64 (wrap i64 (v0.1+1)*32)<=(a.length:Int))) (.cn (bX 1 1&&bN 0 1&&decide (0<=wrap i64 (v0.1*32)/\wrap i64 (v0.1*32)<=wrap i64 (wrap i64 (v0.1+1)*32)/\wrap i64 (wrap i64 (v0.1+1)*32)<=(b.length:Int))) (let E1:=dA (wrap i64 (wrap i64 (v0.1+1)*32))-dA (wrap i64 (v0.1*32));let E2:=dA (wrap i64 (v0.1*32));.an (TX (cU E1 (cV E2 a)) (cU E1 (cV E2 b))) (.lv (Nj (cU E1 (cV E2 a)) (cU E1 (cV E2 b))) λ(x1:Bool)=>.br (!x1) (.cn (decide (8*(v0.2.length+1)<=140737488355328)) (.nx ((((ag.Nil (ag.ints u32 a)\/rE (1:Nat))/\rE (a:List Int))/\((ag.Nil (ag.ints u32 b)\/rE (1:Nat))/\rE (b:List Int))/\True/\rE ((wrap i64 (v0.1+1)):Int)/\True)/\rE ((v0.2++[v0.1]):List Int)/\True) (Sum.inl (wrap i64 (v0.1+1),v0.2++[v0.1])))) (.nx ((((ag.Nil (ag.ints u32 a)\/rE (1:Nat))/\rE (a:List Int))/\((ag.Nil (ag.ints u32 b)\/rE (1:Nat))/\rE (b:List Int))/\True/\rE ((wrap i64 (v0.1+1)):Int)/\True)/\rE v0.2/\True) (Sum.inl (wrap i64 (v0.1+1),v0.2))))))) (.lf (Sum.inr v0.2)))
def Qv4 a b:=(RS a b).m
abbrev Qjw a b:=(RS a b).p
def Zcs:bw:={
 α:=(Int)×(List Int)
 F:=λst a=>([(0,(lk st 0)),(1,(lk st 1)),(5,.all 0),(6,.int i64 a.1)],[⟨false,3,1,.ints i64 a.2⟩])
 a0:=λst=>((lk st 6).toInt,(nS st.rows (rN st 5)))
 iU:=λst=>[]++[(rX st 5 0)]}
def Z4f:List (Nat×bw):=[(5,Zcs)]
def Zf3:bd:=mT 107 [] true [.one (.ints .u32),.one (.ints .u32)] [] (λa r=>RS (c9 .u32 a 0) (c9 .u32 a 1)) (λX=>.all 0) (λX=>[⟨false,3,1,.ints .i64 X⟩])
theorem Z9f:bu pG Zf3:=oT (.cons G3 (.cons Qr2 (.nil))) Tryz.func107 Tryz.call107 [.row 3 1 (.ints .i64)] Z4f 3
def Qqo(c:fc):Tree Bool:=
.br (decide ((c.A6.length:Int)>=(1:Int))) (.br (decide ((c.A6.length:Int)<=(32:Int))) (.br (decide (c.B5>=0)) (.br (decide (c.B5<=11)) (.br (decide (c.D6>=0)) (.lf (decide (c.D6<=352))) (.lf false)) (.lf false)) (.lf false)) (.lf false)) (.lf false)
def Qmz c:=(Qqo c).m
def Z5i:bd:=mS 110 [] true [.agg fc.sig] [] (λa r=>Qqo (fc.of (aC a 0))) (λX=>.bool X) (λX=>[])
theorem Qoq:bu pG Z5i:=oS (.nil) Tryz.func110 Tryz.call110 [] [] 2
def Ns(c:fc)(dd:List Int)(z:(Int)×(List Bool)):Nat:=(dd.length-z.1).toNat
def RQ(c:fc)(dd:List Int):Tree fc:=
.cn (decide (1*(0+c.A6.length)<=140737488355328)) (.lp inferInstance (Ns c dd (0,c.A6)+1) ((((ag.Nil (ag.ints i64 dd)\/rE (1:Nat))/\rE (dd:List Int))/\rZ/\rZ/\rE (0:Int)/\True)/\(True/\rE c.B5/\rE c.D6/\True)/\rE c.A6/\(True/\rE (0:Int)/\rE (0:Int)/\True)/\True) (0,c.A6) λ(v0:Int×List Bool)=>.br (decide (v0.1<(dd.length:Int))) (let E2:=bX 1 1&&bN 0 1&&decide (0<=v0.1/\v0.1<(dd.length:Int));.cn E2 (let T1:Tree ((Int×List Bool)⊕(fc)):=.nx ((((ag.Nil (ag.ints i64 dd)\/rE (1:Nat))/\rE (dd:List Int))/\rZ/\rZ/\rE ((wrap i64 (v0.1+1)):Int)/\True)/\(True/\rE c.B5/\rE c.D6/\True)/\rE v0.2/\(True/\rE (0:Int)/\rE (0:Int)/\True)/\True) (Sum.inl (wrap i64 (v0.1+1),v0.2));.br (decide (dd.getD v0.1.toNat (0:Int)>=(0:Int))) (.cn E2 (.br (decide (dd.getD v0.1.toNat 0<(v0.2.length:Int))) (.cn E2 (.cn (bX 1 1&&bN 0 1&&decide (0<=dd.getD v0.1.toNat 0/\dd.getD v0.1.toNat 0<(v0.2.length:Int))) (.nx ((((ag.Nil (ag.ints i64 dd)\/rE (1:Nat))/\rE (dd:List Int))/\rZ/\rZ/\rE ((wrap i64 (v0.1+1)):Int)/\True)/\(True/\rE c.B5/\rE c.D6/\True)/\rE ((dB v0.2 (dA (dd.getD v0.1.toNat 0)) true):List Bool)/\(True/\rE (0:Int)/\rE (0:Int)/\True)/\True) (Sum.inl (wrap i64 (v0.1+1),dB v0.2 (dA (dd.getD v0.1.toNat 0)) true))))) T1)) T1)) (.lf (Sum.inr {A6:=v0.2,B5:=c.B5,D6:=c.D6})))
def Qwx c dd:=(RQ c dd).m
abbrev Qpj c dd:=(RQ c dd).p
def Zlc:bw:={
 α:=(Int)×(List Bool)
 F:=λst a=>([(1,(lk st 1)),(2,.ptr 0 0 0),(4,.ptr 2 0 0),(5,.int i64 a.1)],[⟨true,46,3,.gen [[.all 1,(cT st 2 1),(cT st 2 2)]]⟩,⟨false,4,1,.ah a.2⟩,⟨true,46,3,.gen [[(cT st 4 0),(cT st 4 1),(cT st 4 2)]]⟩])
 a0:=λst=>((lk st 5).toInt,(UW st.rows (jq (cT st 2 0) 1000000)))
 iU:=λst=>[]++[(rX st 2 0),(jq (cT st 2 0) (st.rows.length+1)),(rX st 4 2)]}
def Zdg:List (Nat×bw):=[(3,Zlc)]
def Znd:bd:=mT 106 [] true [.agg fc.sig,.one (.ints .i64)] [] (λa r=>RQ (fc.of (aC a 0)) (c9 .i64 a 1)) (λX=>.agg (fc.cg X (.all 0))) (λX=>[⟨false,4,1,.ah X.A6⟩])
theorem Zj6:bu pG Znd:=oT (.nil) Tryz.func106 Tryz.call106 [.row 4 1 (.ah)] Zdg 3
def Wk(c:fc)(z:(Int)×(List Int)):Nat:=(c.A6.length-z.1).toNat
def RN(c:fc):Tree (List Int):=
.lp inferInstance (Wk c (0,[])+1) ((rZ/\True/\rE (0:Int)/\True)/\(((ag.Nil (ag.ah c.A6)\/rE (1:Nat))/\rE c.A6)/\rE c.B5/\rE c.D6/\True)/\rE ([]:List Int)/\True) (0,[]) λ(v0:Int×List Int)=>.br (decide (v0.1<(c.A6.length:Int))) (.cn (bX 1 1&&bN 0 1&&decide (0<=v0.1/\v0.1<(c.A6.length:Int))) (.br (c.A6.getD v0.1.toNat false) (.cn (decide (8*(v0.2.length+1)<=140737488355328)) (.nx ((rZ/\True/\rE ((wrap i64 (v0.1+1)):Int)/\True)/\(((ag.Nil (ag.ah c.A6)\/rE (1:Nat))/\rE c.A6)/\rE c.B5/\rE c.D6/\True)/\rE ((v0.2++[v0.1]):List Int)/\True) (Sum.inl (wrap i64 (v0.1+1),v0.2++[v0.1])))) (.nx ((rZ/\True/\rE ((wrap i64 (v0.1+1)):Int)/\True)/\(((ag.Nil (ag.ah c.A6)\/rE (1:Nat))/\rE c.A6)/\rE c.B5/\rE c.D6/\True)/\rE v0.2/\True) (Sum.inl (wrap i64 (v0.1+1),v0.2))))) (.lf (Sum.inr v0.2))
def RM c:=(RN c).m
abbrev Qcf c:=(RN c).p
def Z7l:bw:={
 α:=(Int)×(List Int)
 F:=λst a=>([(1,.ptr 0 0 0),(3,.all 1),(4,.int i64 a.1)],[⟨true,46,3,.gen [[(cT st 1 0),(cT st 1 1),(cT st 1 2)]]⟩,⟨false,3,1,.ints i64 a.2⟩])
 a0:=λst=>((lk st 4).toInt,(nS st.rows (rN st 3)))
 iU:=λst=>[]++[(rX st 1 0),(rX st 3 1)]}
def Z1p:List (Nat×bw):=[(3,Z7l)]
def Zdi:bd:=mT 111 [] true [.agg fc.sig] [] (λa r=>RN (fc.of (aC a 0))) (λX=>.all 0) (λX=>[⟨false,3,1,.ints .i64 X⟩])
theorem Qtd:bu pG Zdi:=oT (.nil) Tryz.func111 Tryz.call111 [.row 3 1 (.ints .i64)] Z1p 3
def Qqf(c:fc)(m:List Int)(z:(Int)×(List kz)):Nat:=(c.A6.length-z.1).toNat
def RO(c:fc)(m:List Int):Tree (fc×(List kz)):=
.lv (Qmz c) λ(x0:Bool)=>.br (!x0) (.lf (c,[])) (.br (decide (c.B5>10)) (.lf (c,[])) (.lv (oW m) λ(x1:Int)=>.br (x1 !=(c.A6.length:Int)) (.lf (c,[])) (.an (Qcf c) (.lv (RM c) λ(x2:List Int)=>.lp inferInstance (Qqf c m (0,[])+1) ((((ag.Nil (ag.ints u32 m)\/rE (1:Nat))/\rE (m:List Int))/\rZ/\rZ/\True/\True/\rE (0:Int)/\True)/\(((ag.Nil (ag.ah c.A6)\/rE (1:Nat))/\rE c.A6)/\rE c.B5/\rE c.D6/\True)/\(True/\rE (0:Int)/\rE (0:Int)/\True)/\rE (x2:List Int)/\rE ([]:List (RK.T RK.bh))/\True) (0,[]) λ(v0:Int×List kz)=>.br (decide (v0.1<(x2.length:Int))) (let E1:=bX 1 1&&bN 0 1&&decide (0<=v0.1/\v0.1<(x2.length:Int));.cn E1 (.an (TB m (x2.getD v0.1.toNat 0)) (.lv (EO m (x2.getD v0.1.toNat 0)) λ(x3:List UInt8×Bool)=>.cn E1 (.cn (decide (24*(v0.2.length+1)<=140737488355328)) (.nx ((((ag.Nil (ag.ints u32 m)\/rE (1:Nat))/\rE (m:List Int))/\rZ/\rZ/\True/\True/\rE ((wrap i64 (v0.1+1)):Int)/\True)/\(((ag.Nil (ag.ah c.A6)\/rE (1:Nat))/\rE c.A6)/\rE c.B5/\rE c.D6/\True)/\(True/\rE (0:Int)/\rE (0:Int)/\True)/\rE (x2:List Int)/\rE ((v0.2++[{Frame:=x2.getD v0.1.toNat 0,F0:=x3.1}]):List (RK.T RK.bh))/\True) (Sum.inl (wrap i64 (v0.1+1),v0.2++[{Frame:=x2.getD v0.1.toNat 0,F0:=x3.1}]))))))) (.cn (bN 0 1&&bX 1 1&&iP [D.bool false] D.plain&&decide (0<=(c.A6.length:Int)/\(c.A6.length:Int)<=(c.A6.length:Int)/\(c.A6.length:Int)<=(9223372036854775807:Int)/\(↑1:Int)*(c.A6.length:Int)<=(140737488355328:Int))) (.lf (Sum.inr ({A6:=cO (dA (c.A6.length:Int)) false,B5:=wrap i64 (c.B5+1),D6:=wrap i64 (c.D6+(v0.2.length:Int))},v0.2))))))))
def Qst c m:=(RO c m).m
abbrev Qnf c m:=(RO c m).p
def Zek:bw:={
 α:=(Int)×(List kz)
 F:=λst a=>([(1,(lk st 1)),(2,.ptr 0 0 0),(4,.ptr 1 0 0),(6,.all 3),(7,.all 2),(8,.int i64 a.1)],[⟨true,46,3,.gen [[(cT st 2 0),(cT st 2 1),(cT st 2 2)]]⟩,⟨true,46,3,.gen [[(cT st 4 0),(cT st 4 1),(cT st 4 2)]]⟩,⟨false,3,1,mu st.rows (rN st 7)⟩,⟨false,146,2,.ao RK.bh a.2⟩])
 a0:=λst=>((lk st 8).toInt,(rY RK.bh st.rows (rN st 6)))
 iU:=λst=>[]++[(rX st 2 0),(rX st 4 1),(rX st 7 2),(rX st 6 3)]}
def Z7h:List (Nat×bw):=[(6,Zek)]
def Zlb:bd:=mT 108 [] false [.agg fc.sig,.one (.ints .u32)] [] (λa r=>RO (fc.of (aC a 0)) (c9 .u32 a 1)) (λX=>.dw [.agg (fc.cells (X.1)),.all 0]) (λX=>[⟨false,146,2,.ao .bh (X.2)⟩])
theorem Zez:bu pG Zlb:=oT (.cons Qoq (.cons G3 (.cons Qtd (.cons X5 (.nil))))) Tryz.func108 Tryz.call108 [.sl (.ah) false,.row 146 2 (.ao .bh)] Z7h 3 (jc:=nofun)
def RP(c:fc)(ej:Int):Tree Bool:=
.lv (Qmz c) λ(x0:Bool)=>.br x0 (.an (Qcf c) (.lv (RM c) λ(x1:List Int)=>.br (decide ((x1.length:Int)<=ej)) (.lf true) (.lf (decide (c.B5>=10))))) (.lf false)
def Z38 c ej:=(RP c ej).m
abbrev Qp4 c ej:=(RP c ej).p
def Zoe:bd:=mT 57 [] true [.agg fc.sig,.one (.int .i64)] [] (λa r=>RP (fc.of (aC a 0)) (au a 1)) (λX=>.bool X) (λX=>[])
theorem Zk9:bu pG Zoe:=oT (.cons Qoq (.cons Qtd (.nil))) Tryz.func57 Tryz.call57 [] [] 2
def R9(m:List Int)(frame:Int)(s:List UInt8):Tree ((List Int)×Bool):=
.an (Ql7 m) (.lv (P3 m) λ(x0:List Int)=>.br (decide (frame<0)) (.lf (x0,false)) (.lv (oW m) λ(x1:Int)=>.br (decide (frame>=x1)) (.lf (x0,false)) (.br ((s.length:Int) !=(128:Int)) (.lf (x0,false)) (.an (Qku x0 frame s) (.lv (PB x0 frame s) λ(x2:List Int)=>.lf (x2,true))))))
def Z6p m frame s:=(R9 m frame s).m
abbrev Qtf m frame s:=(R9 m frame s).p
def Zfk:bd:=mT 150 [] true [.one (.ints .u32),.one (.int .i64),.one (.str)] [] (λa r=>R9 (c9 .u32 a 0) (au a 1) (jT a 2)) (λX=>.dw [.all 0,.bool (X.2)]) (λX=>[⟨false,25,1,.ints .u32 (X.1)⟩])
theorem Zab:bu pG Zfk:=oT (.cons Z6o (.cons G3 (.cons Qud (.nil)))) Tryz.func150 Tryz.call150 [.row 25 1 (.ints .u32)] [] 2
def Qnt(g:cj):Tree Int:=
.br (g.A1.A4==1) (.lf 0) (.br (g.A1.A4==3) (.lf 0) (.br (g.A2.A4==3) (.lf 1) (.lf (-1))))
def Ks g:=(Qnt g).m
def Zar:bd:=mS 21 [] true [.agg cj.sig] [] (λa r=>Qnt (cj.of (aC a 0))) (λX=>.int .i64 X) (λX=>[])
theorem Qk7:bu pG Zar:=oS (.nil) Tryz.func21 Tryz.call21 [] [] 2
def Wn(g:cj):Tree (bj×Bool):=
.lv (Ks g) λ(x0:Int)=>.br (x0==0) (.lf (g.A1.A0,true)) (.br (x0==1) (.lf (g.A2.A0,true)) (.lf (rk,false)))
def Wm g:=(Wn g).m
def Zjf:bd:=mS 19 [] false [.agg cj.sig] [] (λa r=>Wn (cj.of (aC a 0))) (λX=>.dw [.agg (bj.cells (X.1)),.bool (X.2)]) (λX=>[])
theorem Zgi:bu pG Zjf:=oS (.cons Qk7 (.nil)) Tryz.func19 Tryz.call19 [.sl (.ints .u32) false] [] 2 (λ_ _ _=>by kernel_rfl) (λ_ _=>Tree.mL (by kernel_rfl)) (λh=>by cases h)
def R6(g:cj):Tree Bool:=
.br (g.A2.A4==2) (.an (H6 g.A2.A3 g.A2.B7) (.lv (Np g.A2.A3 g.A2.B7) λ(x0:Bool)=>.lf x0)) (.lf false)
def Wv g:=(R6 g).m
abbrev Wu g:=(R6 g).p
def Z7z:bd:=mT 23 [] true [.agg cj.sig] [] (λa r=>R6 (cj.of (aC a 0))) (λX=>.bool X) (λX=>[])
theorem Qq2:bu pG Z7z:=oT (.cons Qju (.nil)) Tryz.func23 Tryz.call23 [] [] 2
def RU(l:List ep)(x:ep):Tree (List ep):=
.br (decide ((l.length:Int)>=(64:Int))) (.lf l) (.cn (decide (328*(0+l.length)<=140737488355328)) (.cn (decide (328*(l.length+1)<=140737488355328)) (.lf (l++[x]))))
def G4 l x:=(RU l x).m
abbrev G5 l x:=(RU l x).p
def Qve:bd:=mT 58 [] false [.one (.ao .ae),.agg ep.sig] [] (λa r=>RU (ji .ae a 0) (ep.of (aC a 1))) (λX=>.sl 54 (.ao .ae X) false) (λX=>[])
theorem Og:bu pG Qve:=oT (.nil) Tryz.func58 Tryz.call58 [.sl (.ao .ae) false] [] 2 (jc:=nofun)
def RV(l:List ep)(fw:Int):Tree (List ep):=
.cn (bX 54 54&&bN 0 54&&decide (0<=wrap i64 (fw+1)/\wrap i64 (fw+1)<=(l.length:Int)/\(l.length:Int)<=(l.length:Int))) (.cn (bX 54 54&&bN 0 54&&decide ((0:Int)<=(0:Int)/\0<=fw/\fw<=(l.length:Int))) (let E1:=cU (dA fw-dA 0) (cV (dA 0) l);.cn (decide (328*(0+dF E1)<=140737488355328)) (let E2:=dA (l.length:Int)-dA (wrap i64 (fw+1));let E3:=cV (dA (wrap i64 (fw+1))) l;.cn (decide (328*(dF E1+dF (cU E2 E3))<=140737488355328)) (.lf (cU (dA fw-dA 0) (cV (dA 0) l)++cU E2 E3)))))
def Qr9 l fw:=(RV l fw).m
abbrev Qhv l fw:=(RV l fw).p
def Qm1:bd:=mT 112 [] false [.one (.ao .ae),.one (.int .i64)] [] (λa r=>RV (ji .ae a 0) (au a 1)) (λX=>.sl 54 (.ao .ae X) true) (λX=>[])
theorem Z8f:bu pG Qm1:=oT (.nil) Tryz.func112 Tryz.call112 [.sl (.ao .ae) true] [] 2 (jc:=nofun)
def Qh5(m:bj)(n clock:Int)(z:(Int)×bj):Nat:=(n-z.1).toNat
def R4(m:bj)(n clock:Int):Tree bj:=
.lp inferInstance (Qh5 m n clock (0,m)+1) ((rE ((if(if 64<n then 64 else n)>0 then if 64<n then 64 else n else 0):Int)/\rE (clock:Int)/\rZ/\rZ/\rE (0:Int)/\True)/\(mE m (((ag.Nil (ag.ints u32 m.Mem)\/rE (1:Nat))/\rE m.Mem)) True)/\(mE zM True True)/\True) (0,m) λ(v0:Int×bj)=>.br (decide (v0.1<if(if 64<n then 64 else n)>0 then if 64<n then 64 else n else 0)) (.an (Qri v0.2 clock) (.lv (P4 v0.2 clock) λ(x0:bj×List ir)=>.nx ((rE ((if(if 64<n then 64 else n)>0 then if 64<n then 64 else n else 0):Int)/\rE (clock:Int)/\rZ/\rZ/\rE ((wrap i64 (v0.1+1)):Int)/\True)/\(mE x0.1 (rE x0.1.Mem) True)/\(mE zM True True)/\True) (Sum.inl (wrap i64 (v0.1+1),x0.1)))) (.lf (Sum.inr v0.2))
def Qzh m n clock:=(R4 m n clock).m
abbrev Qm4 m n clock:=(R4 m n clock).p
def Zg5:bw:={
 α:=(Int)×bj
 F:=λst a=>([(1,(lk st 1)),(2,(lk st 2)),(3,.ptr 0 0 0),(6,.ptr 1 0 0),(7,.int i64 a.1)],[⟨true,43,49,.gen [mD a.2 (.sl 1 (.ints u32 a.2.Mem) false)]⟩,⟨true,43,49,.gen [mB (cT st 6)]⟩])
 a0:=λst=>((lk st 7).toInt,(mR (cT st 3) (YT u32 st.rows (cT st 3 25))))
 iU:=λst=>[]++[(rX st 3 0),(rX st 6 1)]}
def Z7i:List (Nat×bw):=[(3,Zg5)]
def Zls:bd:=mT 105 [] false [.agg bj.sig,.one (.int .i64),.one (.int .u32)] [] (λa r=>R4 (bj.of (aC a 0)) (au a 1) (au a 2)) (λX=>.agg (bj.cells X)) (λX=>[])
theorem Zgh:bu pG Zls:=oT (.cons Zpz (.nil)) Tryz.func105 Tryz.call105 [.sl (.ints .u32) false] Z7i 3 (jc:=nofun)
def RW(s:fu)(frame:Int):Tree ep:=
.an (TB s.A0.Mem frame) (.lv (EO s.A0.Mem frame) λ(x0:List UInt8×Bool)=>.cn (bX 1 1&&bN 0 1&&decide (0<=frame/\frame<(s.A3.length:Int))) (.lf ({C2:=1,B5:=s.A3.getD frame.toNat 0,Frame:=frame,F0:=x0.1,A0:=rk,A3:=[]})))
def Qjz s frame:=(RW s frame).m
abbrev Qcv s frame:=(RW s frame).p
def Z2q:bd:=mT 109 [] true [.agg fu.sig,.one (.int .i64)] [] (λa r=>RW (fu.of (aC a 0)) (au a 1)) (λX=>.agg (ep.cg X (.sl 1 (.ints .u32 X.A0.Mem) true) (.sl 1 (.ints .i64 X.A3) true))) (λX=>[])
theorem Qnd:bu pG Z2q:=oT (.cons X5 (.nil)) Tryz.func109 Tryz.call109 [.sl (.ints .u32) true,.sl (.ints .i64) true] [] 2
def RX(s:fu):Tree ep:=
.cn (decide (8*(0+s.A3.length)<=140737488355328)) (.lf ({C2:=2,B5:=0,Frame:=0,F0:=[],A0:={B2:=s.A0.B2,Mem:=[],B3:=s.A0.B3,C1:=s.A0.C1,B6:=s.A0.B6,D4:=s.A0.D4,B0:=s.A0.B0,B9:=s.A0.B9,B4:=s.A0.B4,B8:=s.A0.B8},A3:=s.A3}))
def Qht s:=(RX s).m
abbrev Qaw s:=(RX s).p
def Qzd:bd:=mT 59 [] false [.agg fu.sig] [] (λa r=>RX (fu.of (aC a 0))) (λX=>.agg (ep.cells X)) (λX=>[])
theorem Qkh:bu pG Qzd:=oT (.nil) Tryz.func59 Tryz.call59 [.sl (.ints .u32) false,.sl (.ints .i64) false] [] 2 (jc:=nofun)
def Qpt(g:cj)(z:(Int)×cj):Nat:=(32-z.1).toNat
def R3(g:cj):Tree cj:=
.an (Qnf g.A1.B1 g.A1.A0.Mem) (.lv (Qst g.A1.B1 g.A1.A0.Mem) λ(x0:fc×List kz)=>.cn (decide (8*(0+g.A1.A3.length)<=140737488355328)) (let E3:=({A4:=g.A1.A4,A0:=g.A1.A0,B1:=x0.1,A3:=g.A1.A3,B7:=g.A1.B7,D3:=g.A1.D3}:fu);.lp inferInstance (Qpt g (0,{A1:=E3,A2:=g.A2,A7:=g.A7,C0:=g.C0,A9:=g.A9})+1) ((rZ/\rZ/\rZ/\True/\rE (0:Int)/\True)/\(rE g.A1.A4/\mE g.A1.A0 (((ag.Nil (ag.ints u32 g.A1.A0.Mem)\/rE (1:Nat))/\rE g.A1.A0.Mem)) (((ag.Nil (ag.ah x0.1.A6)\/rE (1:Nat))/\rE x0.1.A6)/\rE x0.1.B5/\rE x0.1.D6/\True/\((ag.Nil (ag.ints i64 g.A1.B7)\/rE (1:Nat))/\rE g.A1.B7)/\rE g.A1.D3/\rE g.A2.A4/\mE g.A2.A0 (((ag.Nil (ag.ints u32 g.A2.A0.Mem)\/rE (1:Nat))/\rE g.A2.A0.Mem)) (((ag.Nil (ag.ah g.A2.B1.A6)\/rE (1:Nat))/\rE g.A2.B1.A6)/\rE g.A2.B1.B5/\rE g.A2.B1.D6/\((ag.Nil (ag.ints i64 g.A2.A3)\/rE (1:Nat))/\rE g.A2.A3)/\((ag.Nil (ag.ints i64 g.A2.B7)\/rE (1:Nat))/\rE g.A2.B7)/\rE g.A2.D3/\((ag.Nil (ag.ao RK.ae g.A7)\/rE (54:Nat))/\rE g.A7)/\((ag.Nil (ag.ao RK.ae g.C0)\/rE (54:Nat))/\rE g.C0)/\((ag.Nil (ag.ao RK.str g.A9.ab)\/rE (1:Nat))/\rE g.A9.ab)/\rE g.A9.D3/\rE g.A9.D7/\True)))/\rE g.A1.A3/\(rE (0:Int)/\mE zM True (True/\rE (0:Int)/\rE (0:Int)/\True/\True/\rE (0:Int)/\rE (0:Int)/\mE zM True (True/\rE (0:Int)/\rE (0:Int)/\True/\True/\rE (0:Int)/\True/\True/\True/\rE (0:Int)/\rE (0:Int)/\True)))/\(((ag.Nil (ag.ah x0.1.A6)\/rE (1:Nat))/\rE x0.1.A6)/\rE x0.1.B5/\rE x0.1.D6/\True)/\rE x0.2/\True) (0,{A1:=E3,A2:=g.A2,A7:=g.A7,C0:=g.C0,A9:=g.A9}) λ(v0:Int×cj)=>.br (decide (v0.1<(x0.2.length:Int))) (let E4:=bX 2 2&&bN 0 2&&decide (0<=v0.1/\v0.1<(x0.2.length:Int));.cn E4 (let E2:=x0.2.getD v0.1.toNat (RK.dk RK.bh);.cn (bX 1 1&&bN 0 1&&decide (0<=E2.Frame/\E2.Frame<(v0.2.A1.A3.length:Int))) (.cn E4 (let E1:=({A4:=v0.2.A1.A4,A0:=v0.2.A1.A0,B1:=v0.2.A1.B1,A3:=dB v0.2.A1.A3 E2.Frame.toNat x0.1.B5,B7:=v0.2.A1.B7,D3:=v0.2.A1.D3}:fu);.an (Qcv E1 E2.Frame) (.lv (Qjz E1 E2.Frame) λ(x1:ep)=>.an (G5 v0.2.A7 x1) (.lv (G4 v0.2.A7 x1) λ(x2:List ep)=>.nx ((rZ/\rZ/\rZ/\True/\rE ((wrap i64 (v0.1+1)):Int)/\True)/\(rE v0.2.A1.A4/\mE v0.2.A1.A0 (((ag.Nil (ag.ints u32 v0.2.A1.A0.Mem)\/fp Nat 1 1)/\rE v0.2.A1.A0.Mem)) (((ag.Nil (ag.ah v0.2.A1.B1.A6)\/fp Nat 1 1)/\rE v0.2.A1.B1.A6)/\rE v0.2.A1.B1.B5/\rE v0.2.A1.B1.D6/\True/\((ag.Nil (ag.ints i64 v0.2.A1.B7)\/fp Nat 1 1)/\rE v0.2.A1.B7)/\rE v0.2.A1.D3/\rE v0.2.A2.A4/\mE v0.2.A2.A0 (((ag.Nil (ag.ints u32 v0.2.A2.A0.Mem)\/fp Nat 1 1)/\rE v0.2.A2.A0.Mem)) (((ag.Nil (ag.ah v0.2.A2.B1.A6)\/fp Nat 1 1)/\rE v0.2.A2.B1.A6)/\rE v0.2.A2.B1.B5/\rE v0.2.A2.B1.D6/\((ag.Nil (ag.ints i64 v0.2.A2.A3)\/fp Nat 1 1)/\rE v0.2.A2.A3)/\((ag.Nil (ag.ints i64 v0.2.A2.B7)\/fp Nat 1 1)/\rE v0.2.A2.B7)/\rE v0.2.A2.D3/\((ag.Nil (ag.ao RK.ae x2)\/fp Nat 54 54)/\rE (x2:List (RK.T RK.ae)))/\((ag.Nil (ag.ao RK.ae v0.2.C0)\/fp Nat 54 54)/\rE v0.2.C0)/\((ag.Nil (ag.ao RK.str v0.2.A9.ab)\/fp Nat 1 1)/\rE v0.2.A9.ab)/\rE v0.2.A9.D3/\rE v0.2.A9.D7/\True)))/\rE ((dB v0.2.A1.A3 (dA (x0.2.getD v0.1.toNat (RK.dk RK.bh)).Frame) x0.1.B5):List Int)/\(rE (0:Int)/\mE zM True (True/\rE (0:Int)/\rE (0:Int)/\True/\True/\rE (0:Int)/\rE (0:Int)/\mE zM True (True/\rE (0:Int)/\rE (0:Int)/\True/\True/\rE (0:Int)/\True/\True/\True/\rE (0:Int)/\rE (0:Int)/\True)))/\(((ag.Nil (ag.ah x0.1.A6)\/rE (1:Nat))/\rE x0.1.A6)/\rE x0.1.B5/\rE x0.1.D6/\True)/\rE x0.2/\True) (Sum.inl (wrap i64 (v0.1+1),{A1:=E1,A2:=v0.2.A2,A7:=x2,C0:=v0.2.C0,A9:=v0.2.A9})))))))) (.lf (Sum.inr v0.2))))
def Qzl g:=(R3 g).m
abbrev Qmp g:=(R3 g).p
def Zew:bw:={
 α:=(Int)×cj
 F:=λst a=>([(1,.ptr 0 0 0),(2,.ptr 2 0 0),(3,.ptr 3 0 0),(4,.all 4),(5,.int i64 a.1)],[⟨true,54,117,.gen [cj.cg a.2 (.sl 1 (.ints u32 a.2.A1.A0.Mem) false) (.sl 1 (.ah a.2.A1.B1.A6) false) (.all 1) (.sl 1 (.ints i64 a.2.A1.B7) false) (.sl 1 (.ints u32 a.2.A2.A0.Mem) false) (.sl 1 (.ah a.2.A2.B1.A6) false) (.sl 1 (.ints i64 a.2.A2.A3) false) (.sl 1 (.ints i64 a.2.A2.B7) false) (.sl 54 (.ao RK.ae a.2.A7) false) (.sl 54 (.ao RK.ae a.2.C0) false) (.sl 1 (.ao RK.str a.2.A9.ab) false)]⟩,⟨false,3,1,.ints i64 a.2.A1.A3⟩,⟨true,54,117,.gen [cN st 2 0 117]⟩,⟨true,46,3,.gen [[(cT st 3 0),(cT st 3 1),(cT st 3 2)]]⟩,⟨false,146,2,mu st.rows (rN st 4)⟩])
 a0:=λst=>((lk st 5).toInt,(cj.og (cN st 1 0 117) (iv u32 (cT st 1 26)) (mb (cT st 1 50)) (nS st.rows (jq (cT st 1 53) 1000000)) (iv i64 (cT st 1 54)) (iv u32 (cT st 1 82)) (mb (cT st 1 106)) (iv i64 (cT st 1 109)) (iv i64 (cT st 1 110)) (nN RK.ae (cT st 1 112)) (nN RK.ae (cT st 1 113)) (nN RK.str (cT st 1 114))))
 iU:=λst=>[]++[(rX st 1 0),(jq (cT st 1 53) (st.rows.length+1)),(rX st 2 2),(rX st 3 3),(rX st 4 4)]}
def Z8a:List (Nat×bw):=[(5,Zew)]
def Zjr:bd:=mT 56 [] false [.agg cj.sig] [] (λa r=>R3 (cj.of (aC a 0))) (λX=>.agg (cj.cg X (.sl 1 (.ints .u32 X.A1.A0.Mem) false) (.sl 1 (.ah X.A1.B1.A6) false) (.all 0) (.sl 1 (.ints .i64 X.A1.B7) false) (.sl 1 (.ints .u32 X.A2.A0.Mem) false) (.sl 1 (.ah X.A2.B1.A6) false) (.sl 1 (.ints .i64 X.A2.A3) false) (.sl 1 (.ints .i64 X.A2.B7) false) (.sl 54 (.ao .ae X.A7) false) (.sl 54 (.ao .ae X.C0) false) (.sl 1 (.ao .str X.A9.ab) false))) (λX=>[⟨false,3,1,.ints .i64 X.A1.A3⟩])
theorem Zg1:bu pG Zjr:=oT (.cons Zez (.cons Og (.cons Qnd (.nil)))) Tryz.func56 Tryz.call56 [.sl (.ints .u32) false,.sl (.ah) false,.row 3 1 (.ints .i64),.sl (.ints .i64) false,.sl (.ints .u32) false,.sl (.ah) false,.sl (.ints .i64) false,.sl (.ints .i64) false,.sl (.ao .ae) false,.sl (.ao .ae) false,.sl (.ao .str) false] Z8a 3 (jc:=nofun)
def Qok(g:cj)(z:(Int)×cj):Nat:=(32-z.1).toNat
def RY(g:cj):Tree cj:=
.lp inferInstance (Qok g (0,g)+1) ((rZ/\rZ/\rE (0:Int)/\True)/\gE4 g/\(rE (0:Int)/\mE zM True (True/\rE (0:Int)/\rE (0:Int)/\True/\True/\rE (0:Int)/\rE (0:Int)/\mE zM True (True/\rE (0:Int)/\rE (0:Int)/\True/\True/\rE (0:Int)/\True/\True/\True/\rE (0:Int)/\rE (0:Int)/\True)))/\True) (0,g) λ(v0:Int×cj)=>.br (decide (v0.1<(v0.2.A1.A3.length:Int))) (.an (Qcv v0.2.A1 v0.1) (.lv (Qjz v0.2.A1 v0.1) λ(x0:ep)=>.an (G5 v0.2.A7 x0) (.lv (G4 v0.2.A7 x0) λ(x1:List ep)=>.nx ((rZ/\rZ/\rE ((wrap i64 (v0.1+1)):Int)/\True)/\(rE v0.2.A1.A4/\mE v0.2.A1.A0 (((ag.Nil (ag.ints u32 v0.2.A1.A0.Mem)\/fp Nat 1 1)/\rE v0.2.A1.A0.Mem)) (((ag.Nil (ag.ah v0.2.A1.B1.A6)\/fp Nat 1 1)/\rE v0.2.A1.B1.A6)/\rE v0.2.A1.B1.B5/\rE v0.2.A1.B1.D6/\((ag.Nil (ag.ints i64 v0.2.A1.A3)\/fp Nat 1 1)/\rE v0.2.A1.A3)/\((ag.Nil (ag.ints i64 v0.2.A1.B7)\/fp Nat 1 1)/\rE v0.2.A1.B7)/\rE v0.2.A1.D3/\rE v0.2.A2.A4/\mE v0.2.A2.A0 (((ag.Nil (ag.ints u32 v0.2.A2.A0.Mem)\/fp Nat 1 1)/\rE v0.2.A2.A0.Mem)) (((ag.Nil (ag.ah v0.2.A2.B1.A6)\/fp Nat 1 1)/\rE v0.2.A2.B1.A6)/\rE v0.2.A2.B1.B5/\rE v0.2.A2.B1.D6/\((ag.Nil (ag.ints i64 v0.2.A2.A3)\/fp Nat 1 1)/\rE v0.2.A2.A3)/\((ag.Nil (ag.ints i64 v0.2.A2.B7)\/fp Nat 1 1)/\rE v0.2.A2.B7)/\rE v0.2.A2.D3/\((ag.Nil (ag.ao RK.ae x1)\/fp Nat 54 54)/\rE (x1:List (RK.T RK.ae)))/\((ag.Nil (ag.ao RK.ae v0.2.C0)\/fp Nat 54 54)/\rE v0.2.C0)/\((ag.Nil (ag.ao RK.str v0.2.A9.ab)\/fp Nat 1 1)/\rE v0.2.A9.ab)/\rE v0.2.A9.D3/\rE v0.2.A9.D7/\True)))/\(rE (0:Int)/\mE zM True (True/\rE (0:Int)/\rE (0:Int)/\True/\True/\rE (0:Int)/\rE (0:Int)/\mE zM True (True/\rE (0:Int)/\rE (0:Int)/\True/\True/\rE (0:Int)/\True/\True/\True/\rE (0:Int)/\rE (0:Int)/\True)))/\True) (Sum.inl (wrap i64 (v0.1+1),{A1:=v0.2.A1,A2:=v0.2.A2,A7:=x1,C0:=v0.2.C0,A9:=v0.2.A9}))))) (.an (Qaw v0.2.A1) (.lv (Qht v0.2.A1) λ(x2:ep)=>.an (G5 v0.2.A7 x2) (.lv (G4 v0.2.A7 x2) λ(x3:List ep)=>.lf (Sum.inr {A1:=v0.2.A1,A2:=v0.2.A2,A7:=x3,C0:=v0.2.C0,A9:=v0.2.A9}))))
def Z70 g:=(RY g).m
abbrev Qt5 g:=(RY g).p
def Zd4:bw:={
 α:=(Int)×cj
 F:=λst a=>([(1,.ptr 0 0 0),(2,.ptr 1 0 0),(3,.int i64 a.1)],[⟨true,54,117,.gen [cj.cg a.2 (.sl 1 (.ints u32 a.2.A1.A0.Mem) false) (.sl 1 (.ah a.2.A1.B1.A6) false) (.sl 1 (.ints i64 a.2.A1.A3) false) (.sl 1 (.ints i64 a.2.A1.B7) false) (.sl 1 (.ints u32 a.2.A2.A0.Mem) false) (.sl 1 (.ah a.2.A2.B1.A6) false) (.sl 1 (.ints i64 a.2.A2.A3) false) (.sl 1 (.ints i64 a.2.A2.B7) false) (.sl 54 (.ao RK.ae a.2.A7) false) (.sl 54 (.ao RK.ae a.2.C0) false) (.sl 1 (.ao RK.str a.2.A9.ab) false)]⟩,⟨true,54,117,.gen [cN st 2 0 117]⟩])
 a0:=λst=>((lk st 3).toInt,(cj.og (cN st 1 0 117) (iv u32 (cT st 1 26)) (mb (cT st 1 50)) (iv i64 (cT st 1 53)) (iv i64 (cT st 1 54)) (iv u32 (cT st 1 82)) (mb (cT st 1 106)) (iv i64 (cT st 1 109)) (iv i64 (cT st 1 110)) (nN RK.ae (cT st 1 112)) (nN RK.ae (cT st 1 113)) (nN RK.str (cT st 1 114))))
 iU:=λst=>[]++[(rX st 1 0),(rX st 2 1)]}
def Z41:List (Nat×bw):=[(2,Zd4)]
def Zfp:bd:=mT 60 [] false [.agg cj.sig] [] (λa r=>RY (cj.of (aC a 0))) (λX=>.agg (cj.cells X)) (λX=>[])
def ud:List nh:=[.sl (.ints .u32) false,.sl (.ah) false,.sl (.ints .i64) false,.sl (.ints .i64) false,.sl (.ints .u32) false,.sl (.ah) false,.sl (.ints .i64) false,.sl (.ints .i64) false,.sl (.ao .ae) false,.sl (.ao .ae) false,.sl (.ao .str) false]
theorem Zcu:bu pG Zfp:=oT (.cons Og (.cons Qnd (.cons Qkh (.nil)))) Tryz.func60 Tryz.call60 ud Z41 3 (jc:=nofun)
def Sa(t:fu)(x:ep):Tree fu:=
let T1:Tree (fu):=.br (x.C2==1) (.br (decide (x.Frame<0)) (.lf t) (.br (decide (x.Frame>=(t.A3.length:Int))) (.lf t) (let E3:=bX 1 1&&bN 0 1&&decide (0<=x.Frame/\x.Frame<(t.A3.length:Int));.cn E3 (.br (decide (x.B5<=t.A3.getD x.Frame.toNat 0)) (.lf t) (.an (Qtf t.A0.Mem x.Frame x.F0) (.lv (Z6p t.A0.Mem x.Frame x.F0) λ(x0:List Int×Bool)=>.br (!x0.2) (.lf t) (.cn (decide (8*(0+t.A3.length)<=140737488355328)) (.cn E3 (let E2:=({B2:=t.A0.B2,Mem:=x0.1,B3:=t.A0.B3,C1:=t.A0.C1,B6:=t.A0.B6,D4:=t.A0.D4,B0:=t.A0.B0,B9:=t.A0.B9,B4:=t.A0.B4,B8:=t.A0.B8}:bj);.br (t.A4==0) (.lf ({A4:=1,A0:=E2,B1:=t.B1,A3:=dB t.A3 x.Frame.toNat x.B5,B7:=t.B7,D3:=t.D3})) (.lf ({A4:=t.A4,A0:=E2,B1:=t.B1,A3:=dB t.A3 x.Frame.toNat x.B5,B7:=t.B7,D3:=t.D3}))))))))))) (.br (x.C2==2) (.br (t.A4 !=2) (.lf ({A4:=2,A0:={B2:=x.A0.B2,Mem:=t.A0.Mem,B3:=x.A0.B3,C1:=x.A0.C1,B6:=x.A0.B6,D4:=x.A0.D4,B0:=x.A0.B0,B9:=x.A0.B9,B4:=x.A0.B4,B8:=x.A0.B8},B1:=t.B1,A3:=t.A3,B7:=x.A3,D3:=t.D3})) (.lf t)) (.br (x.C2==4) (.lf ({A4:=4,A0:=t.A0,B1:=t.B1,A3:=t.A3,B7:=t.B7,D3:=t.D3})) (.lf t)));.br (t.A4 !=0) (.br (t.A4 !=1) (.br (t.A4 !=2) (.lf t) T1) T1) T1
def Qp2 t x:=(Sa t x).m
abbrev Qg8 t x:=(Sa t x).p
def Qk0:bd:=mT 113 [] false [.agg fu.sig,.agg ep.sig] [] (λa r=>Sa (fu.of (aC a 0)) (ep.of (aC a 1))) (λX=>.agg (fu.cells X)) (λX=>[])
theorem Z3f:bu pG Qk0:=oT (.cons Zab (.nil)) Tryz.func113 Tryz.call113 [.sl (.ints .u32) false,.sl (.ah) false,.sl (.ints .i64) false,.sl (.ints .i64) false] [] 2 (jc:=nofun)
def R7(g:cj):Tree cj:=
.an (Wu g) (.lv (Wv g) λ(x0:Bool)=>.br (!x0) (.lf g) (.an (Qgg g.A9 1 g.A2.D3) (.lv (Qrs g.A9 1 g.A2.D3) λ(x1:gu×Bool)=>.br (!x1.2) (.lf ({A1:=g.A1,A2:={A4:=4,A0:=g.A2.A0,B1:=g.A2.B1,A3:=g.A2.A3,B7:=g.A2.B7,D3:=g.A2.D3},A7:=g.A7,C0:=g.C0,A9:=g.A9})) (let E1:=(rk:bj);.an (G5 g.C0 {C2:=3,B5:=0,Frame:=0,F0:=[],A0:=E1,A3:=[]}) (.lv (G4 g.C0 {C2:=3,B5:=0,Frame:=0,F0:=[],A0:=E1,A3:=[]}) λ(x2:List ep)=>.lf ({A1:=g.A1,A2:={A4:=3,A0:=g.A2.A0,B1:=g.A2.B1,A3:=g.A2.A3,B7:=g.A2.B7,D3:=x1.1.D3},A7:=g.A7,C0:=x2,A9:=x1.1}))))))
def Z6 g:=(R7 g).m
abbrev Qtb g:=(R7 g).p
def Zf6:bd:=mT 62 [] false [.agg cj.sig] [] (λa r=>R7 (cj.of (aC a 0))) (λX=>.agg (cj.cells X)) (λX=>[])
theorem Zdw:bu pG Zf6:=oT (.cons Qq2 (.cons Qpo (.cons Og (.nil)))) Tryz.func62 Tryz.call62 ud [] 2 (jc:=nofun)
def R8(g:cj):Tree cj:=
let E1:=(rk:bj);.br (g.A1.A4==1) (.an (G5 g.A7 {C2:=4,B5:=0,Frame:=0,F0:=[],A0:=E1,A3:=[]}) (.lv (G4 g.A7 {C2:=4,B5:=0,Frame:=0,F0:=[],A0:=E1,A3:=[]}) λ(x0:List ep)=>.lf ({A1:={A4:=3,A0:=g.A1.A0,B1:=g.A1.B1,A3:=g.A1.A3,B7:=g.A1.B7,D3:=g.A1.D3},A2:=g.A2,A7:=x0,C0:=g.C0,A9:=g.A9}))) (.br (g.A1.A4==2) (.an (Qgg g.A9 0 g.A1.D3) (.lv (Qrs g.A9 0 g.A1.D3) λ(x1:gu×Bool)=>.br (!x1.2) (.lf ({A1:={A4:=4,A0:=g.A1.A0,B1:=g.A1.B1,A3:=g.A1.A3,B7:=g.A1.B7,D3:=g.A1.D3},A2:=g.A2,A7:=g.A7,C0:=g.C0,A9:=g.A9})) (.an (G5 g.A7 {C2:=4,B5:=0,Frame:=0,F0:=[],A0:=E1,A3:=[]}) (.lv (G4 g.A7 {C2:=4,B5:=0,Frame:=0,F0:=[],A0:=E1,A3:=[]}) λ(x2:List ep)=>.lf ({A1:={A4:=3,A0:=g.A1.A0,B1:=g.A1.B1,A3:=g.A1.A3,B7:=g.A1.B7,D3:=x1.1.D3},A2:=g.A2,A7:=x2,C0:=g.C0,A9:=x1.1}))))) (.lf g))
def Z71 g:=(R8 g).m
abbrev Qt6 g:=(R8 g).p
def Zfm:bd:=mT 63 [] false [.agg cj.sig] [] (λa r=>R8 (cj.of (aC a 0))) (λX=>.agg (cj.cells X)) (λX=>[])
theorem Z9e:bu pG Zfm:=oT (.cons Qpo (.cons Og (.nil))) Tryz.func63 Tryz.call63 ud [] 2 (jc:=nofun)
def R5(g:cj)(a:jd):Tree cj:=
.lv (Ks g) λ(x0:Int)=>.br (x0==0) (.an (Qm4 g.A1.A0 a.N a.F2) (.lv (Qzh g.A1.A0 a.N a.F2) λ(x1:bj)=>.br (g.A1.A4==1) (.an (Qjw g.A1.A0.Mem x1.Mem) (.lv (Qv4 g.A1.A0.Mem x1.Mem) λ(x2:List Int)=>.an (Qpj g.A1.B1 x2) (.lv (Qwx g.A1.B1 x2) λ(x3:fc)=>.lf ({A1:={A4:=g.A1.A4,A0:=x1,B1:=x3,A3:=g.A1.A3,B7:=g.A1.B7,D3:=g.A1.D3},A2:=g.A2,A7:=g.A7,C0:=g.C0,A9:=g.A9})))) (.lf ({A1:={A4:=g.A1.A4,A0:=x1,B1:=g.A1.B1,A3:=g.A1.A3,B7:=g.A1.B7,D3:=g.A1.D3},A2:=g.A2,A7:=g.A7,C0:=g.C0,A9:=g.A9})))) (.br (x0==1) (.an (Qm4 g.A2.A0 a.N a.F2) (.lv (Qzh g.A2.A0 a.N a.F2) λ(x4:bj)=>.lf ({A1:=g.A1,A2:={A4:=g.A2.A4,A0:=x4,B1:=g.A2.B1,A3:=g.A2.A3,B7:=g.A2.B7,D3:=g.A2.D3},A7:=g.A7,C0:=g.C0,A9:=g.A9}))) (.lf g))
def Z29 g a:=(R5 g a).m
abbrev Qqc g a:=(R5 g a).p
def Z9q:bd:=mT 55 [] false [.agg cj.sig,.agg jd.sig] [] (λa r=>R5 (cj.of (aC a 0)) (jd.of (aC a 1))) (λX=>.agg (cj.cells X)) (λX=>[])
theorem Z8:bu pG Z9q:=oT (.cons Qk7 (.cons Zgh (.cons Zj6 (.cons Z9f (.nil))))) Tryz.func55 Tryz.call55 ud [] 2 (jc:=nofun)
end
noncomputable section
def Nt(g:cj)(a:jd):Tree cj:=
.br a.C0 (.br (decide (a.N<0)) (.lf g) (.br (decide (a.N>=(g.C0.length:Int))) (.lf g) (.cn (bX 54 54&&bN 0 54&&decide (0<=a.N/\a.N<(g.C0.length:Int))) (let E8:=g.C0.getD a.N.toNat (RK.dk RK.ae);let E9:=({A4:=4,A0:=g.A1.A0,B1:=g.A1.B1,A3:=g.A1.A3,B7:=g.A1.B7,D3:=g.A1.D3}:fu);.br (a.C2==7) (.an (G5 g.C0 E8) (.lv (G4 g.C0 E8) λ(x0:List ep)=>let T1:Tree (cj):=.br (a.C2==5) (.lf ({A1:=g.A1,A2:=g.A2,A7:=g.A7,C0:=x0,A9:=g.A9})) (.lf ({A1:=g.A1,A2:=g.A2,A7:=g.A7,C0:=x0,A9:=g.A9}));.br (a.C2==5) (.br (E8.C2==3) (.br (g.A1.A4==2) (let T5:Tree (cj):=.lf ({A1:=E9,A2:=g.A2,A7:=g.A7,C0:=x0,A9:=g.A9});.br (a.C2==5) T5 T5) T1) T1) T1)) (.an (Qhv g.C0 a.N) (.lv (Qr9 g.C0 a.N) λ(kX:List ep)=>let T2:Tree (cj):=.br (a.C2==5) (.lf ({A1:=g.A1,A2:=g.A2,A7:=g.A7,C0:=kX,A9:=g.A9})) (.lf ({A1:=g.A1,A2:=g.A2,A7:=g.A7,C0:=kX,A9:=g.A9}));.br (a.C2==5) (.br (E8.C2==3) (.br (g.A1.A4==2) (let T6:Tree (cj):=.lf ({A1:=E9,A2:=g.A2,A7:=g.A7,C0:=kX,A9:=g.A9});.br (a.C2==5) T6 T6) T2) T2) T2)))))) (.br (decide (a.N<0)) (.lf g) (.br (decide (a.N>=(g.A7.length:Int))) (.lf g) (.cn (bX 54 54&&bN 0 54&&decide (0<=a.N/\a.N<(g.A7.length:Int))) (let E7:=g.A7.getD a.N.toNat (RK.dk RK.ae);.br (a.C2==7) (.an (G5 g.A7 E7) (.lv (G4 g.A7 E7) λ(IX:List ep)=>let T3:Tree (cj):=.br (a.C2==5) (.an (Qg8 g.A2 E7) (.lv (Qp2 g.A2 E7) λ(x31:fu)=>.lf ({A1:=g.A1,A2:=x31,A7:=IX,C0:=g.C0,A9:=g.A9}))) (.lf ({A1:=g.A1,A2:=g.A2,A7:=IX,C0:=g.C0,A9:=g.A9}));.br (a.C2==5) T3 T3)) (.an (Qhv g.A7 a.N) (.lv (Qr9 g.A7 a.N) λ(Ul:List ep)=>let T4:Tree (cj):=.br (a.C2==5) (.an (Qg8 g.A2 E7) (.lv (Qp2 g.A2 E7) λ(x42:fu)=>.lf ({A1:=g.A1,A2:=x42,A7:=Ul,C0:=g.C0,A9:=g.A9}))) (.lf ({A1:=g.A1,A2:=g.A2,A7:=Ul,C0:=g.C0,A9:=g.A9}));.br (a.C2==5) T4 T4))))))
def Qp1 g a:=(Nt g a).m
abbrev Qdz g a:=(Nt g a).p
def Zej:bd:=mT 61 [] false [.agg cj.sig,.agg jd.sig] [] (λa r=>Nt (cj.of (aC a 0)) (jd.of (aC a 1))) (λX=>.agg (cj.cells X)) (λX=>[])
theorem Z9w(g:cj)(k n c:Int)(b:Bool)(Q:D->List Row->Prop):(ky kb [Qve,Qm1,Qk0] (LL kb [Qve,Qm1,Qk0] Tryz.f61.ntmps 0 [] 2) Tryz.f61 [.agg (cj.cells g),.agg (jd.cells ⟨k,n,b,c⟩)] [] λd R=>ow 0 ud d R Q)=(Nt g ⟨k,n,b,c⟩).q (λX=>Q (.agg (cj.cells X)) []):=by
 cases b
 ·kernel_rfl
 ·kernel_rfl
theorem Zbw:bu pG Zej:=oT (.cons Og (.cons Z8f (.cons Z3f (.nil)))) Tryz.func61 Tryz.call61 ud [] 2 (by exact λargs rows Q=>Z9w (cj.of (aC args 0)) (jd.of (aC args 1)).C2 (jd.of (aC args 1)).N (jd.of (aC args 1)).F2 (jd.of (aC args 1)).C0 Q) (by exact λh=>by cases h)
end
noncomputable section
def Sc(g:cj)(a:jd):Tree (cj×Bool):=
.br (a.C2==1) (.an (Qqc g a) (.lv (Z29 g a) λ(x0:cj)=>.lf (x0,true))) (.br (a.C2==2) (.br (g.A1.A4==1) (.br (decide (g.A1.B1.B5<10)) (.an (Qmp g) (.lv (Qzl g) λ(x1:cj)=>.lf (x1,true))) (.lf (g,true))) (.lf (g,true))) (.br (a.C2==3) (.br (g.A1.A4==1) (.an (Qp4 g.A1.B1 a.N) (.lv (Z38 g.A1.B1 a.N) λ(x2:Bool)=>.br x2 (.an (Qmp g) (.lv (Qzl g) λ(x3:cj)=>let E1:=({A4:=2,A0:=x3.A1.A0,B1:=x3.A1.B1,A3:=x3.A1.A3,B7:=x3.A1.B7,D3:=x3.A1.D3}:fu);.an (Qaw E1) (.lv (Qht E1) λ(x4:ep)=>.an (G5 x3.A7 x4) (.lv (G4 x3.A7 x4) λ(x5:List ep)=>.lf ({A1:=E1,A2:=x3.A2,A7:=x5,C0:=x3.C0,A9:=x3.A9},true))))) (.lf (g,true)))) (.lf (g,true))) (.br (a.C2==4) (.br (g.A1.A4==2) (.an (Qt5 g) (.lv (Z70 g) λ(x6:cj)=>.lf (x6,true))) (.lf (g,true))) (.br (a.C2==5) (.an (Qdz g a) (.lv (Qp1 g a) λ(x7:cj)=>.lf (x7,true))) (.br (a.C2==6) (.an (Qdz g a) (.lv (Qp1 g a) λ(x8:cj)=>.lf (x8,true))) (.br (a.C2==7) (.an (Qdz g a) (.lv (Qp1 g a) λ(x9:cj)=>.lf (x9,true))) (.br (a.C2==8) (.an (Qtb g) (.lv (Z6 g) λ(kF:cj)=>.lf (kF,true))) (.br (a.C2==9) (.an (Qt6 g) (.lv (Z71 g) λ(kX:cj)=>.lf (kX,true))) (.br (a.C2==10) (.br a.C0 (.lf ({A1:=g.A1,A2:={A4:=4,A0:=g.A2.A0,B1:=g.A2.B1,A3:=g.A2.A3,B7:=g.A2.B7,D3:=g.A2.D3},A7:=g.A7,C0:=g.C0,A9:=g.A9},true)) (.lf ({A1:={A4:=4,A0:=g.A1.A0,B1:=g.A1.B1,A3:=g.A1.A3,B7:=g.A1.B7,D3:=g.A1.D3},A2:=g.A2,A7:=g.A7,C0:=g.C0,A9:=g.A9},true))) (.lf (g,false)))))))))))
def Qdu g a:=(Sc g a).m
abbrev Q88 g a:=(Sc g a).p
def Z19:bd:=mT 17 [] false [.agg cj.sig,.agg jd.sig] [] (λa r=>Sc (cj.of (aC a 0)) (jd.of (aC a 1))) (λX=>.dw [.agg (cj.cells (X.1)),.bool (X.2)]) (λX=>[])
theorem Z00:bu pG Z19:=oT (.cons Z8 (.cons Zg1 (.cons Zk9 (.cons Og (.cons Qkh (.cons Zcu (.cons Zbw (.cons Zdw (.cons Z9e (.nil)))))))))) Tryz.func17 Tryz.call17 ud [] 2 (jc:=nofun)
end
noncomputable section
def Sd(m:bj)(s:gu):Tree (cj×Bool):=
.lv (Ag m) λ(x0:Bool)=>let E3:=({X:={a0:=0,a1:=0,a2:=0,a3:=0,a4:=0,a5:=0,a6:=0,a7:=0,a8:=0,a9:=0,ug:=0,uh:=0,a12:=0,ui:=0,uj:=0,uk:=0},Pc:=0,C4:={a0:=0,a1:=0,a2:=0,a3:=0,a4:=0,a5:=0,a6:=0,a7:=0}}:cq);let T1:Tree ((cj×Bool)):=let E2:=({A4:=0,A0:={B2:=E3,Mem:=[],B3:={D9:=[]},C1:={E0:=false,D0:=0,D8:=false},B6:={ab:=0,C8:=0,Frame:=0,C9:=0,F5:=0,C5:=0,C6:=0,C7:=[]},D4:={Frame:=0,F7:=0,D2:=false,D5:=0,C3:=false,F8:=0},B0:={A2:=0,D1:=0},B9:=0,B4:=false,B8:=false},B1:={A6:=[],B5:=0,D6:=0},A3:=[],B7:=[],D3:=0}:fu);.lf ({A1:=E2,A2:=E2,A7:=[],C0:=[],A9:={ab:=[],D3:=0,D7:=0}},false);.br (!x0) T1 (.an (Q8b s) (.lv (Qds s) λ(x1:Bool)=>.br (!x1) T1 (.br (s.D3==0) T1 (.lv (oW m.Mem) λ(x2:Int)=>.an (Qmj x2) (.lv (Qyv x2) λ(x3:fc×Bool)=>let E4:=bN 0 1&&bX 1 1&&iP [D.int i64 0] D.plain&&decide (0<=x2/\x2<=x2/\x2<=9223372036854775807/\(↑8:Int)*x2<=140737488355328);.cn E4 (.cn E4 (.an (RL x2) (.lv (Mb x2) λ(x4:List Int)=>.lf ({A1:={A4:=1,A0:=m,B1:=x3.1,A3:=cO x2.toNat 0,B7:=[],D3:=s.D3},A2:={A4:=0,A0:={B2:=E3,Mem:=x4,B3:={D9:=[]},C1:={E0:=false,D0:=0,D8:=false},B6:={ab:=0,C8:=0,Frame:=0,C9:=0,F5:=0,C5:=0,C6:=0,C7:=[]},D4:={Frame:=0,F7:=0,D2:=false,D5:=0,C3:=false,F8:=0},B0:={A2:=0,D1:=0},B9:=0,B4:=false,B8:=false},B1:={A6:=[],B5:=0,D6:=0},A3:=cO x2.toNat 0,B7:=[],D3:=s.D3},A7:=[],C0:=[],A9:=s},true)))))))))
def Qkj m s:=(Sd m s).m
abbrev Qes m s:=(Sd m s).p
def Qu3:bd:=mT 13 [] false [.agg bj.sig,.agg gu.sig] [] (λa r=>Sd (bj.of (aC a 0)) (gu.of (aC a 1))) (λX=>.dw [.agg (cj.cells (X.1)),.bool (X.2)]) (λX=>[])
theorem Qsk:bu pG Qu3:=oT (.cons Qze (.cons Qe9 (.cons G3 (.cons Zei (.cons Za3 (.nil)))))) Tryz.func13 Tryz.call13 ud [] 2 (jc:=nofun)
def Si(kind:Int)(prog l:List Int)(raw:List jd)(z:(Int)×cj×cj):Nat:=(l.length+raw.length-z.1).toNat
def Sh(kind:Int)(prog l:List Int)(raw:List jd):Tree Bool:=
.br (decide ((prog.length:Int)>(60:Int))) (.an Nk (.lv Nl λ(x0:Bool)=>.lf x0)) (.br (decide ((l.length:Int)>(60:Int))) (.an Nk (.lv Nl λ(x1:Bool)=>.lf x1)) (.br (decide ((raw.length:Int)>(60:Int))) (.an Nk (.lv Nl λ(x2:Bool)=>.lf x2)) (.an (Qhu kind prog) (.lv (Qss kind prog) λ(x3:cj×bj×Bool)=>.an (Qes x3.2.1 x3.1.A9) (.lv (Qkj x3.2.1 x3.1.A9) λ(x4:cj×Bool)=>.br (!x3.2.2) (.lf false) (.br (!x4.2) (.lf false) (.an (Wq x3.1 x4.1) (.lv (Wr x3.1 x4.1) λ(x5:Bool)=>.br (!x5) (.lf false) (.lp inferInstance (Si kind prog l raw (0,x3.1,x4.1)+1) ((((ag.Nil (ag.ints i64 l)\/rE (1:Nat))/\rE (l:List Int))/\nR RK.ba 4 raw/\rZ/\rZ/\rE (0:Int)/\True)/\gE2 x3.1/\rE x3.1.A1.A3/\rE x3.1.A2.A3/\rE x3.1.A7/\rE x3.1.C0/\gE4 x4.1/\True) (0,x3.1,x4.1) λ(v0:Int×cj×cj)=>.br (decide (v0.1<wrap i64 ((l.length:Int)+(raw.length:Int)))) (.br (decide (v0.1<(l.length:Int))) (.cn (bX 1 1&&bN 0 1&&decide (0<=v0.1/\v0.1<(l.length:Int))) (.an (Z1a (l.getD v0.1.toNat 0)) (.lv (Zrn (l.getD v0.1.toNat 0)) λ(x6:jd)=>.an (Sf v0.2.1 x6) (.lv (Sg v0.2.1 x6) λ(x7:cj×Bool)=>.an (Q88 v0.2.2 x6) (.lv (Qdu v0.2.2 x6) λ(x8:cj×Bool)=>.an (Wo x7.1) (.lv (Wp x7.1) λ(x9:bj×Bool)=>.lv (Wm x8.1) λ(kF:bj×Bool)=>.br (!x7.2==x8.2) (.lf (Sum.inr false)) (.an (Wq x7.1 x8.1) (.lv (Wr x7.1 x8.1) λ(kX:Bool)=>.br (!kX) (.lf (Sum.inr false)) (.lv (Dt x7.1) λ(nW:Int)=>.lv (Ks x8.1) λ(r8:Int)=>.br (nW !=r8) (.lf (Sum.inr false)) (.an (Ws x7.1) (.lv (Wt x7.1) λ(Am:Bool)=>.an (Wu x8.1) (.lv (Wv x8.1) λ(Ku:Bool)=>.br (!Am==Ku) (.lf (Sum.inr false)) (.br (!x9.2==kF.2) (.lf (Sum.inr false)) (.an (Kn x9.1 kF.1) (.lv (Nv x9.1 kF.1) λ(An:Bool)=>.br (!An) (.lf (Sum.inr false)) (.nx ((((ag.Nil (ag.ints i64 l)\/rE (1:Nat))/\rE (l:List Int))/\nR RK.ba 4 raw/\rZ/\rZ/\rE ((wrap i64 (v0.1+1)):Int)/\True)/\gE3 x7.1/\rE x7.1.A1.A3/\rE x7.1.A2.A3/\rE x7.1.A7/\rE x7.1.C0/\gE5 x8.1/\True) (Sum.inl (wrap i64 (v0.1+1),x7.1,x8.1)))))))))))))))))) (.cn (bX 4 4&&bN 0 4&&decide (0<=wrap i64 (v0.1-(l.length:Int))/\wrap i64 (v0.1-(l.length:Int))<(raw.length:Int))) (let E1:=raw.getD (dA (wrap i64 (v0.1-(l.length:Int)))) (RK.dk RK.ba);.an (Sf v0.2.1 E1) (.lv (Sg v0.2.1 E1) λ(uc:cj×Bool)=>.an (Q88 v0.2.2 E1) (.lv (Qdu v0.2.2 E1) λ(Cl:cj×Bool)=>.an (Wo uc.1) (.lv (Wp uc.1) λ(x19:bj×Bool)=>.lv (Wm Cl.1) λ(x20:bj×Bool)=>.br (!uc.2==Cl.2) (.lf (Sum.inr false)) (.an (Wq uc.1 Cl.1) (.lv (Wr uc.1 Cl.1) λ(Ua:Bool)=>.br (!Ua) (.lf (Sum.inr false)) (.lv (Dt uc.1) λ(IX:Int)=>.lv (Ks Cl.1) λ(Lm:Int)=>.br (IX !=Lm) (.lf (Sum.inr false)) (.an (Ws uc.1) (.lv (Wt uc.1) λ(Cj:Bool)=>.an (Wu Cl.1) (.lv (Wv Cl.1) λ(x25:Bool)=>.br (!Cj==x25) (.lf (Sum.inr false)) (.br (!x19.2==x20.2) (.lf (Sum.inr false)) (.an (Kn x19.1 x20.1) (.lv (Nv x19.1 x20.1) λ(x26:Bool)=>.br (!x26) (.lf (Sum.inr false)) (.nx ((((ag.Nil (ag.ints i64 l)\/rE (1:Nat))/\rE (l:List Int))/\nR RK.ba 4 raw/\rZ/\rZ/\rE ((wrap i64 (v0.1+1)):Int)/\True)/\gE3 uc.1/\rE uc.1.A1.A3/\rE uc.1.A2.A3/\rE uc.1.A7/\rE uc.1.C0/\gE5 Cl.1/\True) (Sum.inl (wrap i64 (v0.1+1),uc.1,Cl.1)))))))))))))))))) (.an Nk (.lv Nl λ(T0:Bool)=>.lf (Sum.inr T0))))))))))))
def Qft kind prog l raw:=(Sh kind prog l raw).m
abbrev Qty kind prog l raw:=(Sh kind prog l raw).p
def Qwf:bw:={
 α:=(Int)×cj×cj
 F:=λst a=>([(2,(lk st 2)),(3,(lk st 3)),(9,.ptr 0 0 0),(12,.ptr 5 0 0),(14,.int i64 a.1)],[⟨true,54,117,.gen [cj.cg a.2.1 (.sl 1 (.ints u32 a.2.1.A1.A0.Mem) false) (.sl 1 (.ah a.2.1.A1.B1.A6) false) (.all 1) (.sl 1 (.ints i64 a.2.1.A1.B7) false) (.sl 1 (.ints u32 a.2.1.A2.A0.Mem) false) (.sl 1 (.ah a.2.1.A2.B1.A6) false) (.all 2) (.sl 1 (.ints i64 a.2.1.A2.B7) false) (.all 3) (.all 4) (.sl 1 (.ao RK.str a.2.1.A9.ab) false)]⟩,⟨false,3,1,.ints i64 a.2.1.A1.A3⟩,⟨false,3,1,.ints i64 a.2.1.A2.A3⟩,⟨false,80,54,.ao RK.ae a.2.1.A7⟩,⟨false,80,54,.ao RK.ae a.2.1.C0⟩,⟨true,54,117,.gen [cj.cg a.2.2 (.sl 1 (.ints u32 a.2.2.A1.A0.Mem) false) (.sl 1 (.ah a.2.2.A1.B1.A6) false) (.sl 1 (.ints i64 a.2.2.A1.A3) false) (.sl 1 (.ints i64 a.2.2.A1.B7) false) (.sl 1 (.ints u32 a.2.2.A2.A0.Mem) false) (.sl 1 (.ah a.2.2.A2.B1.A6) false) (.sl 1 (.ints i64 a.2.2.A2.A3) false) (.sl 1 (.ints i64 a.2.2.A2.B7) false) (.sl 54 (.ao RK.ae a.2.2.A7) false) (.sl 54 (.ao RK.ae a.2.2.C0) false) (.sl 1 (.ao RK.str a.2.2.A9.ab) false)]⟩])
 a0:=λst=>((lk st 14).toInt,(cj.og (cN st 9 0 117) (iv u32 (cT st 9 26)) (mb (cT st 9 50)) (nS st.rows (jq (cT st 9 53) 1000000)) (iv i64 (cT st 9 54)) (iv u32 (cT st 9 82)) (mb (cT st 9 106)) (nS st.rows (jq (cT st 9 109) 1000000)) (iv i64 (cT st 9 110)) (rY RK.ae st.rows (jq (cT st 9 112) 1000000)) (rY RK.ae st.rows (jq (cT st 9 113) 1000000)) (nN RK.str (cT st 9 114))),(cj.og (cN st 12 0 117) (iv u32 (cT st 12 26)) (mb (cT st 12 50)) (iv i64 (cT st 12 53)) (iv i64 (cT st 12 54)) (iv u32 (cT st 12 82)) (mb (cT st 12 106)) (iv i64 (cT st 12 109)) (iv i64 (cT st 12 110)) (nN RK.ae (cT st 12 112)) (nN RK.ae (cT st 12 113)) (nN RK.str (cT st 12 114))))
 iU:=λst=>[]++[(rX st 9 0),(jq (cT st 9 53) (st.rows.length+1)),(jq (cT st 9 109) (st.rows.length+2)),(jq (cT st 9 112) (st.rows.length+3)),(jq (cT st 9 113) (st.rows.length+4)),(rX st 12 5)]}
def Qsm:List (Nat×bw):=[(8,Qwf)]
def Qy:bd:=mT 3 [] true [.one (.int .i64),.one (.ints .i64),.one (.ints .i64),.one (.ao .ba)] [] (λa r=>Sh (au a 0) (c9 .i64 a 1) (c9 .i64 a 2) (ji .ba a 3)) (λX=>.bool X) (λX=>[])
theorem Qwc:bu pG Qy:=oT (.cons Zgj (.cons Qt9 (.cons Qsk (.cons Qtu (.cons Zr7 (.cons Qrz (.cons Z00 (.cons Qo3 (.cons Zgi (.cons XZ (.cons Qk7 (.cons Qn5 (.cons Qq2 (.cons XH (.nil))))))))))))))) Tryz.func3 Tryz.call3 [] Qsm 3

import Derived.Test.YthjfindbamdacaaGreatDoorAuditAcceptsZd
import Derived.Test.YthjfindbamdacaaGreatDoorAuditAcceptsZx
open Nat renaming beq->bT,blt->bJ,lt_succ_self->cO
open List renaming getD->aK,length->dK,append->cR,take->dB,drop->dC
open Int renaming toNat->dF
open UInt8 renaming toNat->eW
set_option maxRecDepth 100000
set_option linter.all false
namespace Go.Proofs.YthjfindbamdacaaGreatDoor
open Go Go.GD Go.IntKind
noncomputable section
instance Sx {α β:Type} [Inhabited β]:Inhabited (α⊕β):=⟨.inr default⟩
def Qu2(src:List UInt8)(z:(Int)×(List Int)):Nat:=((Z4 src).2.1.length-z.1).toNat
def Qug(src:List UInt8)(v0:Int×List Int)(z:(Int)×(List Int)):Nat:=(1024-z.1).toNat
def Oh(src:List UInt8):Tree ((List Int)×tL):=
.an (Qn2 src) (.lv (Z4 src) λ(x0:List oq×List kH×tL)=>.br (x0.2.2.Ay !=0) (.lf ([],x0.2.2)) (.lp inferInstance (Qu2 src (0,[])+1) ((True/\rZ/\True/\True/\True/\rE (0:Int)/\True)/\(rE (0:Int)/\rE (0:Int)/\True)/\rE x0.1/\rE x0.2.1/\rE ([]:List Int)/\True) (0,[]) λ(v0:Int×List Int)=>.br (decide (v0.1<(x0.2.1.length:Int))) (.cn (bT 6 6&&bJ 0 6&&decide (0<=v0.1/\v0.1<(x0.2.1.length:Int))) (let E4:=x0.2.1.getD v0.1.toNat (RK.cw RK.ai);let T1:Tree ((Int×List Int)⊕(((List Int)×tL))):=.lp inferInstance (Qug src v0 (0,v0.2)+1) ((True/\rZ/\True/\True/\True/\rE v0.1/\rZ/\rE (0:Int)/\True)/\(rE (0:Int)/\rE (0:Int)/\True)/\rE x0.1/\rE x0.2.1/\(rE ((x0.2.1.getD v0.1.toNat (RK.cw RK.ai)).ej:List UInt8)/\rE ((x0.2.1.getD v0.1.toNat (RK.cw RK.ai)).op:Int)/\((ak.Nil (D.toEs (aK (ak.get (ak.ax RK.ai x0.2.1) v0.1.toNat) ((0:Nat)+(1:Nat)+(1:Nat)) D.dead))\/rE (3:Nat))/\rE ((x0.2.1.getD v0.1.toNat (RK.cw RK.ai)).l:List (RK.T RK.bb)))/\rE ((x0.2.1.getD v0.1.toNat (RK.cw RK.ai)).D7:Int)/\rE ((x0.2.1.getD v0.1.toNat (RK.cw RK.ai)).at_:Int)/\rE ((x0.2.1.getD v0.1.toNat (RK.cw RK.ai)).size:Int)/\True)/\rE v0.2/\True) (0,v0.2) λ(v1:Int×List Int)=>.br (decide (v1.1<E4.size)) (.cn (decide (4*(v1.2.length+1)<=140737488355328)) (.nx ((True/\rZ/\True/\True/\True/\rE v0.1/\rZ/\rE ((wrap i64 (v1.1+1)):Int)/\True)/\(rE (0:Int)/\rE (0:Int)/\True)/\rE x0.1/\rE x0.2.1/\(rE ((x0.2.1.getD v0.1.toNat (RK.cw RK.ai)).ej:List UInt8)/\rE ((x0.2.1.getD v0.1.toNat (RK.cw RK.ai)).op:Int)/\((ak.Nil (ak.ax RK.bb (x0.2.1.getD v0.1.toNat (RK.cw RK.ai)).l)\/rE (3:Nat))/\rE ((x0.2.1.getD v0.1.toNat (RK.cw RK.ai)).l:List (RK.T RK.bb)))/\rE ((x0.2.1.getD v0.1.toNat (RK.cw RK.ai)).D7:Int)/\rE ((x0.2.1.getD v0.1.toNat (RK.cw RK.ai)).at_:Int)/\rE ((x0.2.1.getD v0.1.toNat (RK.cw RK.ai)).size:Int)/\True)/\rE ((v1.2++[0]):List Int)/\True) (Sum.inl (wrap i64 (v1.1+1),v1.2++[0])))) (.nx ((True/\rZ/\True/\True/\True/\rE ((wrap i64 (v0.1+1)):Int)/\True)/\(rE (0:Int)/\rE (0:Int)/\True)/\rE x0.1/\rE x0.2.1/\rE v1.2/\True) (Sum.inr (Sum.inl (wrap i64 (v0.1+1),v1.2))));let E5:=bT 3 3&&bJ 0 3&&decide ((0:Int)<=(0:Int)/\0<(↑(dK E4.l):Int));let E7:=aK E4.l (dF 0) (RK.cw RK.bb);let E8:=decide (4*(v0.2.length+1)<=140737488355328);let T2:Tree ((Int×List Int)⊕(((List Int)×tL))):=.cn E5 (.cn (bT 3 3&&bJ 0 3&&decide ((0:Int)<=(1:Int)/\1<(↑(dK E4.l):Int))) (.lv (o4 {Op:=16,A:=E7.kM,B:=(aK E4.l (dF 1) (RK.cw RK.bb)).kM,C:=0,bo:=0}) λ(x4:Int×Bool)=>.cn E8 (.nx ((True/\rZ/\True/\True/\True/\rE ((wrap i64 (v0.1+1)):Int)/\True)/\(rE (0:Int)/\rE (0:Int)/\True)/\rE x0.1/\rE x0.2.1/\rE ((v0.2++[x4.1]):List Int)/\True) (Sum.inl (wrap i64 (v0.1+1),v0.2++[x4.1])))));let T3:Tree ((Int×List Int)⊕(((List Int)×tL))):=.lv (o4 {Op:=16,A:=0,B:=0,C:=0,bo:=0}) λ(x5:Int×Bool)=>.cn E8 (.nx ((True/\rZ/\True/\True/\True/\rE ((wrap i64 (v0.1+1)):Int)/\True)/\(rE (0:Int)/\rE (0:Int)/\True)/\rE x0.1/\rE x0.2.1/\rE ((v0.2++[x5.1]):List Int)/\True) (Sum.inl (wrap i64 (v0.1+1),v0.2++[x5.1])));let E9:=decide (E4.ej=[(46:UInt8),115,112,97,99,101]);let mj:=decide (E4.ej=[(46:UInt8),119,111,114,100]);let pj:=decide (E4.ej=[(110:UInt8),111,112]);let BQ:=decide (4*(v0.2.length+2)<=140737488355328);let Il:=decide (E4.ej=[(108:UInt8),105]);let Im:=decide (E4.ej=[(109:UInt8),118]);.br (decide ((↑(dK E4.l):Int)>(0:Int))) (.cn (bT 3 3&&bJ 0 3&&decide (0<=wrap i64 ((↑(dK E4.l):Int)-(1:Int))/\wrap i64 ((↑(dK E4.l):Int)-(1:Int))<(↑(dK E4.l):Int))) (let E6:=aK E4.l (dF (wrap i64 ((↑(dK E4.l):Int)-(1:Int)))) (RK.cw RK.bb);.br (!decide (E6.label=[])) (.an (GV x0.1 E6.label) (.lv (Qp8 x0.1 E6.label) λ(x1:Int×Bool)=>.br (!x1.2) (.lf (Sum.inr ([],{Ay:=302,nG:=E4.D7}))) (.br (decide (E4.op>0)) (let og:=wrap i64 (wrap i64 (Int.tdiv (wrap i64 x1.1) 4)-E4.at_);.br mj (.cn E8 (.nx ((True/\rZ/\True/\True/\True/\rE ((wrap i64 (v0.1+1)):Int)/\True)/\(rE (0:Int)/\rE (0:Int)/\True)/\rE x0.1/\rE x0.2.1/\rE ((v0.2++[wrap u32 (wrap i64 (wrap i64 (Int.tdiv (wrap i64 x1.1) 4)-(x0.2.1.getD v0.1.toNat (RK.cw RK.ai)).at_))]):List Int)/\True) (Sum.inl (wrap i64 (v0.1+1),v0.2++[wrap u32 og])))) (.br E9 T1 (.br Il (.cn E5 (.lv (o4 {Op:=24,A:=E7.kM,B:=0,C:=0,bo:=wrap i32 (bg u32 (wrap u32 og) 16)}) λ(x2:Int×Bool)=>.cn E5 (.cn E5 (.lv (o4 {Op:=18,A:=E7.kM,B:=E7.kM,C:=0,bo:=wrap i32 (bd u32 (wrap u32 og) 65535)}) λ(x3:Int×Bool)=>.cn BQ (.nx ((True/\rZ/\True/\True/\True/\rE ((wrap i64 (v0.1+1)):Int)/\True)/\(rE (0:Int)/\rE (0:Int)/\True)/\rE x0.1/\rE x0.2.1/\rE ((v0.2++[x2.1,x3.1]):List Int)/\True) (Sum.inl (wrap i64 (v0.1+1),v0.2++[x2.1,x3.1]))))))) (.br Im T2 (.br pj T3 (.an (Qa E4 og) (.lv (V9 E4 og) λ(x6:Int×Bool)=>.br (!x6.2) (.lf (Sum.inr ([],{Ay:=304,nG:=E4.D7}))) (.cn E8 (.nx ((True/\rZ/\True/\True/\True/\rE ((wrap i64 (v0.1+1)):Int)/\True)/\(rE (0:Int)/\rE (0:Int)/\True)/\rE x0.1/\rE x0.2.1/\rE ((v0.2++[x6.1]):List Int)/\True) (Sum.inl (wrap i64 (v0.1+1),v0.2++[x6.1]))))))))))) (.br mj (.cn E8 (.nx ((True/\rZ/\True/\True/\True/\rE ((wrap i64 (v0.1+1)):Int)/\True)/\(rE (0:Int)/\rE (0:Int)/\True)/\rE x0.1/\rE x0.2.1/\rE ((v0.2++[wrap u32 (wrap i64 x1.1)]):List Int)/\True) (Sum.inl (wrap i64 (v0.1+1),v0.2++[wrap u32 (wrap i64 x1.1)])))) (.br E9 T1 (.br Il (.cn E5 (.lv (o4 {Op:=24,A:=E7.kM,B:=0,C:=0,bo:=wrap i32 (bg u32 (wrap u32 (wrap i64 x1.1)) 16)}) λ(x7:Int×Bool)=>.cn E5 (.cn E5 (.lv (o4 {Op:=18,A:=E7.kM,B:=E7.kM,C:=0,bo:=wrap i32 (bd u32 (wrap u32 (wrap i64 x1.1)) 65535)}) λ(x8:Int×Bool)=>.cn BQ (.nx ((True/\rZ/\True/\True/\True/\rE ((wrap i64 (v0.1+1)):Int)/\True)/\(rE (0:Int)/\rE (0:Int)/\True)/\rE x0.1/\rE x0.2.1/\rE ((v0.2++[x7.1,x8.1]):List Int)/\True) (Sum.inl (wrap i64 (v0.1+1),v0.2++[x7.1,x8.1]))))))) (.br Im T2 (.br pj T3 (.an (Qa E4 (wrap i64 x1.1)) (.lv (V9 E4 (wrap i64 x1.1)) λ(jM:Int×Bool)=>.br (!jM.2) (.lf (Sum.inr ([],{Ay:=304,nG:=E4.D7}))) (.cn E8 (.nx ((True/\rZ/\True/\True/\True/\rE ((wrap i64 (v0.1+1)):Int)/\True)/\(rE (0:Int)/\rE (0:Int)/\True)/\rE x0.1/\rE x0.2.1/\rE ((v0.2++[jM.1]):List Int)/\True) (Sum.inl (wrap i64 (v0.1+1),v0.2++[jM.1])))))))))))))) (.br mj (.cn E8 (.nx ((True/\rZ/\True/\True/\True/\rE ((wrap i64 (v0.1+1)):Int)/\True)/\(rE (0:Int)/\rE (0:Int)/\True)/\rE x0.1/\rE x0.2.1/\rE ((v0.2++[wrap u32 (aK (x0.2.1.getD v0.1.toNat (RK.cw RK.ai)).l (dF (wrap i64 ((↑(dK (x0.2.1.getD v0.1.toNat (RK.cw RK.ai)).l):Int)-(1:Int)))) (RK.cw RK.bb)).num]):List Int)/\True) (Sum.inl (wrap i64 (v0.1+1),v0.2++[wrap u32 E6.num])))) (.br E9 T1 (.br Il (.cn E5 (.lv (o4 {Op:=24,A:=E7.kM,B:=0,C:=0,bo:=wrap i32 (bg u32 (wrap u32 E6.num) 16)}) λ(jz:Int×Bool)=>.cn E5 (.cn E5 (.lv (o4 {Op:=18,A:=E7.kM,B:=E7.kM,C:=0,bo:=wrap i32 (bd u32 (wrap u32 E6.num) 65535)}) λ(jN:Int×Bool)=>.cn BQ (.nx ((True/\rZ/\True/\True/\True/\rE ((wrap i64 (v0.1+1)):Int)/\True)/\(rE (0:Int)/\rE (0:Int)/\True)/\rE x0.1/\rE x0.2.1/\rE ((v0.2++[jz.1,jN.1]):List Int)/\True) (Sum.inl (wrap i64 (v0.1+1),v0.2++[jz.1,jN.1]))))))) (.br Im T2 (.br pj T3 (.an (Qa E4 E6.num) (.lv (V9 E4 E6.num) λ(mK:Int×Bool)=>.br (!mK.2) (.lf (Sum.inr ([],{Ay:=304,nG:=E4.D7}))) (.cn E8 (.nx ((True/\rZ/\True/\True/\True/\rE ((wrap i64 (v0.1+1)):Int)/\True)/\(rE (0:Int)/\rE (0:Int)/\True)/\rE x0.1/\rE x0.2.1/\rE ((v0.2++[mK.1]):List Int)/\True) (Sum.inl (wrap i64 (v0.1+1),v0.2++[mK.1]))))))))))))) (.br mj (.cn E8 (.nx ((True/\rZ/\True/\True/\True/\rE ((wrap i64 (v0.1+1)):Int)/\True)/\(rE (0:Int)/\rE (0:Int)/\True)/\rE x0.1/\rE x0.2.1/\rE ((v0.2++[wrap u32 0]):List Int)/\True) (Sum.inl (wrap i64 (v0.1+1),v0.2++[wrap u32 0])))) (.br E9 T1 (.br Il (.cn E5 (.lv (o4 {Op:=24,A:=E7.kM,B:=0,C:=0,bo:=wrap i32 (bg u32 (wrap u32 0) 16)}) λ(pf:Int×Bool)=>.cn E5 (.cn E5 (.lv (o4 {Op:=18,A:=E7.kM,B:=E7.kM,C:=0,bo:=wrap i32 (bd u32 (wrap u32 0) 65535)}) λ(ri:Int×Bool)=>.cn BQ (.nx ((True/\rZ/\True/\True/\True/\rE ((wrap i64 (v0.1+1)):Int)/\True)/\(rE (0:Int)/\rE (0:Int)/\True)/\rE x0.1/\rE x0.2.1/\rE ((v0.2++[pf.1,ri.1]):List Int)/\True) (Sum.inl (wrap i64 (v0.1+1),v0.2++[pf.1,ri.1]))))))) (.br Im T2 (.br pj T3 (.an (Qa E4 0) (.lv (V9 E4 0) λ(sr:Int×Bool)=>.br (!sr.2) (.lf (Sum.inr ([],{Ay:=304,nG:=E4.D7}))) (.cn E8 (.nx ((True/\rZ/\True/\True/\True/\rE ((wrap i64 (v0.1+1)):Int)/\True)/\(rE (0:Int)/\rE (0:Int)/\True)/\rE x0.1/\rE x0.2.1/\rE ((v0.2++[sr.1]):List Int)/\True) (Sum.inl (wrap i64 (v0.1+1),v0.2++[sr.1]))))))))))))) (.lf (Sum.inr (v0.2,{Ay:=0,nG:=0})))))
def Lp src:=(Oh src).m
abbrev Xw src:=(Oh src).p
def Z2j:bn:={
 α:=(Int)×(List Int)
 F:=λst a=>([(2,(lk st 2)),(3,.ptr 0 0 0),(4,.all 1),(5,.all 2),(7,.all 3),(8,.int i64 a.1)],[⟨true,112,2,.gen [[(cT st 3 0),(cT st 3 1)]]⟩,⟨false,238,2,nL st.rows (rN st 4)⟩,⟨false,175,6,nL st.rows (rN st 5)⟩,⟨false,23,1,.ints u32 a.2⟩])
 a0:=λst=>((lk st 8).toInt,(mG st.rows (rN st 7)))
 iL:=λst=>[]++[(rX st 3 0),(rX st 4 1),(rX st 5 2),(rX st 7 3)]}
def Z2f:bn:={
 α:=(Int)×(List Int)
 F:=λst a=>([(2,(lk st 2)),(3,.ptr 0 0 0),(4,.all 1),(5,.all 2),(7,.all 4),(8,(lk st 8)),(9,.ptr 3 0 0),(14,.int i64 a.1)],[⟨true,112,2,.gen [[(cT st 3 0),(cT st 3 1)]]⟩,⟨false,238,2,nL st.rows (rN st 4)⟩,⟨false,175,6,nL st.rows (rN st 5)⟩,⟨true,175,6,.gen [[(cT st 9 0),(cT st 9 1),(cT st 9 2),(cT st 9 3),(cT st 9 4),(cT st 9 5)]]⟩,⟨false,23,1,.ints u32 a.2⟩])
 a0:=λst=>((lk st 14).toInt,(mG st.rows (rN st 7)))
 iL:=λst=>[]++[(rX st 3 0),(rX st 4 1),(rX st 5 2),(rX st 9 3),(rX st 7 4)]}
def Qwr:List (Nat×bn):=[(6,Z2j),(29,Z2f)]
def Z6d:bf:=mT 49 [] true [.one (.str)] [] (λa r=>Oh (gm a 0)) (λX=>.dt [.all 0,.agg (tL.cells (X.2))]) (λX=>[⟨false,23,1,.ints .u32 (X.1)⟩])
theorem Z1x:bj pG Z6d:=oT (.cons Zha (.cons Qr4 (.cons Qku (.cons Zj9 (.nil))))) Tryz.func49 Tryz.call49 [.row 23 1 (.ints .u32)] Qwr 3
end
noncomputable section
instance Sy {α β:Type} [Inhabited β]:Inhabited (α⊕β):=⟨.inr default⟩
def Lq(m:av):Tree dj:=
.an (Nn m) (.lv (Hv m) λ(x0:av)=>.lf ({A0:=x0,B4:=0,C8:=[],B1:=[]}))
def Mx m:=(Lq m).m
abbrev Qf9 m:=(Lq m).p
def Quc:bf:=mT 136 [] true [.agg av.sig] [] (λa r=>Lq (av.of (aC a 0))) (λX=>.agg (dj.ff X (.all 0) (.all 1) (.all 2))) (λX=>[⟨false,23,1,.ints .u32 X.A0.Mem⟩,⟨false,103,4,.ax .ab X.C8⟩,⟨false,72,3,.ax .bc X.B1⟩])
theorem Qse:bj pG Quc:=oT (.cons Wa (.nil)) Tryz.func136 Tryz.call136 [.row 23 1 (.ints .u32),.row 103 4 (.ax .ab),.row 72 3 (.ax .bc)] [] 2
def FD(r:dj)(n:Int):Tree (dj×(List dk)):=
.lv (Bd n 3) λ(x0:Int)=>.br (Int.tmod x0 (3:Int)==(0:Int)) (.an (Qtb n) (.lv (Ph n) λ(x1:ib)=>.an (Qo6 r x1) (.lv (EE r x1) λ(x2:dj×Bool)=>.lf (x2.1,[])))) (.an (Gt (bg i64 x0 4) 12) (.lv (w7 (bg i64 x0 4) 12) λ(x3:Int)=>let E1:=wrap u32 (bd i64 (bg i64 x0 12) 255);.an (Qlf r x3 E1) (.lv (UD r x3 E1) λ(x4:dj×List dk)=>.lf (x4.1,x4.2))))
def w6 r n:=(FD r n).m
abbrev Qvq r n:=(FD r n).p
def Zlq:bf:=mT 137 [] true [.agg dj.sig,.one (.int .i64)] [] (λa r=>FD (dj.of (aC a 0)) (ar a 1)) (λX=>.dt [.agg (dj.ff (X.1) (.all 0) (.all 1) (.all 2)),.all 3]) (λX=>[⟨false,23,1,.ints .u32 (X.1).A0.Mem⟩,⟨false,103,4,.ax .ab (X.1).C8⟩,⟨false,72,3,.ax .bc (X.1).B1⟩,⟨false,137,4,.ax .ay (X.2)⟩])
theorem Zjr:bj pG Zlq:=oT (.cons V2 (.cons Z6r (.cons Zfa (.cons Z2i (.cons Qh (.nil)))))) Tryz.func137 Tryz.call137 [.row 23 1 (.ints .u32),.row 103 4 (.ax .ab),.row 72 3 (.ax .bc),.row 137 4 (.ax .ay)] [] 2
def Xy(m:av)(l:List Int)(z:(Int)×dj×(List dk)):Nat:=(l.length-z.1).toNat
def I6(m:av)(l:List Int):Tree (dj×(List dk)):=
.an (Qf9 m) (.lv (Mx m) λ(x0:dj)=>.lp inferInstance (Xy m l (0,x0,[])+1) ((((ak.Nil (ak.ints i64 l)\/rE (1:Nat))/\rE (l:List Int))/\rZ/\rZ/\True/\rE (0:Int)/\True)/\(mE zM True (rE (0:Int)/\True/\True/\True))/\(mE x0.A0 True (rE x0.B4/\True/\True/\True))/\rE x0.A0.Mem/\rE x0.C8/\rE x0.B1/\rE ([]:List (RK.T RK.ay))/\True) (0,x0,[]) λ(v0:Int×dj×List dk)=>.br (decide (v0.1<(l.length:Int))) (.cn (bT 1 1&&bJ 0 1&&decide (0<=v0.1/\v0.1<(l.length:Int))) (.an (Qvq v0.2.1 (l.getD v0.1.toNat 0)) (.lv (w6 v0.2.1 (l.getD v0.1.toNat 0)) λ(x1:dj×List dk)=>.cn (decide (40*(v0.2.2.length+x1.2.length)<=140737488355328)) (.nx ((((ak.Nil (ak.ints i64 l)\/rE (1:Nat))/\rE (l:List Int))/\rZ/\rZ/\True/\rE ((wrap i64 (v0.1+1)):Int)/\True)/\(mE zM True (rE (0:Int)/\True/\True/\True))/\(mE x1.1.A0 True (rE x1.1.B4/\True/\True/\True))/\rE x1.1.A0.Mem/\rE x1.1.C8/\rE x1.1.B1/\rE ((v0.2.2++x1.2):List (RK.T RK.ay))/\True) (Sum.inl (wrap i64 (v0.1+1),x1.1,v0.2.2++x1.2)))))) (.lf (Sum.inr (v0.2.1,v0.2.2))))
def YW m l:=(I6 m l).m
abbrev Qmu m l:=(I6 m l).p
def Zku:bn:={
 α:=(Int)×dj×(List dk)
 F:=λst a=>([(1,(lk st 1)),(4,.ptr 0 0 0),(6,.ptr 1 0 0),(7,.all 5),(8,.int i64 a.1)],[⟨true,154,52,.gen [[(cT st 4 0),(cT st 4 1),(cT st 4 2),(cT st 4 3),(cT st 4 4),(cT st 4 5),(cT st 4 6),(cT st 4 7),(cT st 4 8),(cT st 4 9),(cT st 4 10),(cT st 4 11),(cT st 4 12),(cT st 4 13),(cT st 4 14),(cT st 4 15),(cT st 4 16),(cT st 4 17),(cT st 4 18),(cT st 4 19),(cT st 4 20),(cT st 4 21),(cT st 4 22),(cT st 4 23),(cT st 4 24),(cT st 4 25),(cT st 4 26),(cT st 4 27),(cT st 4 28),(cT st 4 29),(cT st 4 30),(cT st 4 31),(cT st 4 32),(cT st 4 33),(cT st 4 34),(cT st 4 35),(cT st 4 36),(cT st 4 37),(cT st 4 38),(cT st 4 39),(cT st 4 40),(cT st 4 41),(cT st 4 42),(cT st 4 43),(cT st 4 44),(cT st 4 45),(cT st 4 46),(cT st 4 47),(cT st 4 48),(cT st 4 49),(cT st 4 50),(cT st 4 51)]]⟩,⟨true,154,52,.gen [[.int u32 a.2.1.A0.B0.X.a0,.int u32 a.2.1.A0.B0.X.a1,.int u32 a.2.1.A0.B0.X.a2,.int u32 a.2.1.A0.B0.X.a3,.int u32 a.2.1.A0.B0.X.a4,.int u32 a.2.1.A0.B0.X.a5,.int u32 a.2.1.A0.B0.X.a6,.int u32 a.2.1.A0.B0.X.a7,.int u32 a.2.1.A0.B0.X.a8,.int u32 a.2.1.A0.B0.X.a9,.int u32 a.2.1.A0.B0.X.kv,.int u32 a.2.1.A0.B0.X.ky,.int u32 a.2.1.A0.B0.X.a12,.int u32 a.2.1.A0.B0.X.kz,.int u32 a.2.1.A0.B0.X.kA,.int u32 a.2.1.A0.B0.X.kB,.int u32 a.2.1.A0.B0.Pc,.int u32 a.2.1.A0.B0.B3.a0,.int u32 a.2.1.A0.B0.B3.a1,.int u32 a.2.1.A0.B0.B3.a2,.int u32 a.2.1.A0.B0.B3.a3,.int u32 a.2.1.A0.B0.B3.a4,.int u32 a.2.1.A0.B0.B3.a5,.int u32 a.2.1.A0.B0.B3.a6,.int u32 a.2.1.A0.B0.B3.a7,.all 2,.str a.2.1.A0.A3.C9,.bool a.2.1.A0.A9.D3,.int u32 a.2.1.A0.A9.C3,.bool a.2.1.A0.A9.D2,.int u32 a.2.1.A0.A7.ag,.int u32 a.2.1.A0.A7.C2,.int u32 a.2.1.A0.A7.Frame,.int i64 a.2.1.A0.A7.B8,.int i64 a.2.1.A0.A7.D5,.int u32 a.2.1.A0.A7.B6,.int u32 a.2.1.A0.A7.B2,.str a.2.1.A0.A7.B7,.int u32 a.2.1.A0.C1.Frame,.int u32 a.2.1.A0.C1.D9,.bool a.2.1.A0.C1.C5,.int u32 a.2.1.A0.C1.B9,.bool a.2.1.A0.C1.B5,.int u32 a.2.1.A0.C1.F0,.int u32 a.2.1.A0.A2.C7,.int u32 a.2.1.A0.A2.C4,.int u64 a.2.1.A0.A1,.bool a.2.1.A0.A4,.bool a.2.1.A0.A6,.int u32 a.2.1.B4,.all 3,.all 4]]⟩,⟨false,23,1,.ints u32 a.2.1.A0.Mem⟩,⟨false,103,4,.ax RK.ab a.2.1.C8⟩,⟨false,72,3,.ax RK.bc a.2.1.B1⟩,⟨false,137,4,.ax RK.ay a.2.2⟩])
 a0:=λst=>((lk st 8).toInt,(⟨(mR (cT st 6) (mG st.rows (kP (cT st 6 25) 1000000))),(cT st 6 49).toInt,(r9 RK.ab st.rows (kP (cT st 6 50) 1000000)),(r9 RK.bc st.rows (kP (cT st 6 51) 1000000))⟩:dj),(r9 RK.ay st.rows (rN st 7)))
 iL:=λst=>[]++[(rX st 4 0),(rX st 6 1),(kP (cT st 6 25) (st.rows.length+2)),(kP (cT st 6 50) (st.rows.length+3)),(kP (cT st 6 51) (st.rows.length+4)),(rX st 7 5)]}
def Z93:List (Nat×bn):=[(4,Zku)]
def Zny:bf:=mT 79 [] true [.agg av.sig,.one (.ints .i64)] [] (λa r=>I6 (av.of (aC a 0)) (eg .i64 a 1)) (λX=>.dt [.agg (dj.ff (X.1) (.all 0) (.all 1) (.all 2)),.all 3]) (λX=>[⟨false,23,1,.ints .u32 (X.1).A0.Mem⟩,⟨false,103,4,.ax .ab (X.1).C8⟩,⟨false,72,3,.ax .bc (X.1).B1⟩,⟨false,137,4,.ax .ay (X.2)⟩])
theorem Zji:bj pG Zny:=oT (.cons Qse (.cons Zjr (.nil))) Tryz.func79 Tryz.call79 [.row 23 1 (.ints .u32),.row 103 4 (.ax .ab),.row 72 3 (.ax .bc),.row 137 4 (.ax .ay)] Z93 3
end
noncomputable section
def Cw:List UInt8:=[(105:UInt8),32,114,49,44,32,104,97,110,100,108,101,114,10,99,115,114,119,32,114,49,44,32,49,10,108,105,32,114,49,44,32,51,49,10,99,115,114,119,32,114]
def Lb:List UInt8:=[(49:UInt8),44,32,55,10,108,105,32,114,49,44,32,52,10,99,115,114,119,32,114,49,44,32,54,10,108,105,32,114,50,44,32,53,49,50,10,108,105,32,114,51,44]
def Lc:List UInt8:=[(32:UInt8),48,10,108,105,32,114,52,44,32,56,10,109,97,112,58,32,115,104,108,105,32,114,53,44,32,114,51,44,32,56,10,111,114,105,32,114,53,44,32,114,53]
def Ld:List UInt8:=[(44:UInt8),32,55,10,115,104,108,105,32,114,54,44,32,114,51,44,32,50,10,97,100,100,32,114,54,44,32,114,54,44,32,114,50,10,115,119,32,114,53,44,32,48,40]
def Le:List UInt8:=[(114:UInt8),54,41,10,97,100,100,105,32,114,51,44,32,114,51,44,32,49,10,98,108,116,32,114,51,44,32,114,52,44,32,109,97,112,10,108,105,32,114,49,44,32]
def Lf:List UInt8:=[(54:UInt8),10,111,117,116,32,114,49,44,32,55,10,108,105,32,114,49,44,32,50,10,111,117,116,32,114,49,44,32,57,10,108,105,32,114,49,44,32,49,48,48,10,111]
def Lg:List UInt8:=[(117:UInt8),116,32,114,49,44,32,51,10,108,105,32,114,49,44,32,54,52,48,10,99,115,114,119,32,114,49,44,32,50,10,108,105,32,114,49,44,32,50,49,10,99]
def Lh:List UInt8:=[(115:UInt8),114,119,32,114,49,44,32,48,10,101,114,101,116,10,104,97,110,100,108,101,114,58,32,99,115,114,119,32,114,49,44,32,53,10,99,115,114,114,32,114,49,44]
def Li:List UInt8:=[(32:UInt8),51,10,115,108,116,105,32,114,49,44,32,114,49,44,32,49,54,10,98,101,113,32,114,49,44,32,114,48,44,32,105,114,113,10,99,115,114,114,32,114,49]
def Lj:List UInt8:=[(44:UInt8),32,50,10,97,100,100,105,32,114,49,44,32,114,49,44,32,52,10,99,115,114,119,32,114,49,44,32,50,10,105,110,32,114,51,44,32,50,10,111,117,116]
def Lk:List UInt8:=[(32:UInt8),114,51,44,32,48,10,108,105,32,114,49,44,32,49,10,111,117,116,32,114,49,44,32,52,10,108,105,32,114,49,44,32,55,10,111,117,116,32,114,49,44]
def Ll:List UInt8:=[(32:UInt8),53,10,97,110,100,105,32,114,49,44,32,114,50,44,32,49,10,97,100,100,105,32,114,49,44,32,114,49,44,32,49,10,111,117,116,32,114,49,44,32,54,10]
def Lm:List UInt8:=[(99:UInt8),115,114,114,32,114,49,44,32,53,10,101,114,101,116,10,105,114,113,58,32,105,110,32,114,49,44,32,48,10,111,117,116,32,114,49,44,32,48,10,111,117]
def Qy:List UInt8:=[(116:UInt8),32,114,48,44,32,54,10,111,117,116,32,114,48,44,32,57,10,108,105,32,114,49,44,32,54,10,111,117,116,32,114,49,44,32,55,10,108,105,32,114,49,44]
def Ln:List UInt8:=[(32:UInt8),50,10,111,117,116,32,114,49,44,32,57,10,105,110,32,114,49,44,32,50,10,97,100,100,105,32,114,49,44,32,114,49,44,32,50,48,10,111,117,116,32]
def Lo:List UInt8:=[(114:UInt8),49,44,32,51,10,105,110,32,114,49,44,32,49,48,10,111,117,116,32,114,49,44,32,49,48,10,99,115,114,114,32,114,49,44,32,53,10,101,114,101,116,10]
def TF:List UInt8:=[(108:UInt8),105,32,114,49,44,32,104,97,110,100,108,101,114,10,99,115,114,119,32,114,49,44,32,49,10,108,105,32,114,49,44,32,51,49,10,99,115,114,119,32,114]
instance Sz {α β:Type} [Inhabited β]:Inhabited (α⊕β):=⟨.inr default⟩
def Qmb(l:List ep)(z:(Int)):Prop:=1<=z/\(z<=l.length\/z=1)
def MD(l:List ep)(z:(Int)):Nat:=(l.length-z).toNat
def MC(l:List ep):Tree Bool:=
.lp inferInstance (MD l 1+1) ((nR RK.ab 4 l/\rE (1:Int)/\True)/\True) 1 λ(v0:Int)=>.br (decide (v0<(l.length:Int))) (let E4:=bT 4 4&&bJ 0 4&&decide (0<=v0/\v0<(l.length:Int));.cn E4 (let E2:=bT 4 4&&bJ 0 4&&decide (0<=wrap i64 (v0-1)/\wrap i64 (v0-1)<(l.length:Int));.cn E2 (let E3:=l.getD (dF (wrap i64 (v0-1))) (RK.cw RK.ab);let E5:=l.getD v0.toNat (RK.cw RK.ab);.br (decide (E5.At<E3.At)) (.lf (Sum.inr false)) (.cn E4 (.cn E2 (let T1:Tree ((Int)⊕(Bool)):=.nx ((nR RK.ab 4 l/\rE ((wrap i64 (v0+1)):Int)/\True)/\True) (Sum.inl (wrap i64 (v0+1)));.br (E5.At==E3.At) (.cn E2 (.br (E3.C6.C0==1) (.lf (Sum.inr false)) T1)) T1)))))) (.lf (Sum.inr true))
def Qpt l:=(MC l).m
def K9(l:List ep):Prop:=
l.length<=1000000000000
theorem Z1l(l:List ep)(hw:K9 l):(MC l).p:=by
 simp only[K9]at hw
 unfold Tree.p MC
 repeat'(first|refine fi (inv:=Qmb l) (μ:=MD l) ?_ (cO _) (λ_ _=>?_)|exact trivial|refine aa (λ_=>?_) (λ_=>?_)|refine au ?_ ?_|refine cj ?_ ?_|refine aq (λ_ _=>?_)|refine ea ?_|refine dc ?_|refine And.intro ?_ ?_)
 all_goals((try simp only[Qmb,MD]at*);exact nY)
def Z5g:bn:={
 α:=(Int)
 F:=λst a=>([(0,(lk st 0)),(3,.int i64 a)],[])
 a0:=λst=>(lk st 3).toInt
 iL:=λst=>[]++[]}
def Qxq:List (Nat×bn):=[(2,Z5g)]
def Z9m:bf:=mP 102 [] true [.one (.ax .ab)] [] (λa r=>K9 (iI .ab a 0)) (λa r=>Qpt (iI .ab a 0)) (λX=>.bool X) (λX=>[])
theorem Qpf:bj pG Z9m:=ue drawn mQ (.nil) Tryz.func102 Tryz.call102 (λa r=>MC (iI .ab a 0)) [] Qxq 3 (hp:=λa r h=>Z1l (iI .ab a 0) h)
def TA(m:av)(script:List ep)(bq:Int)(z:av×(List dk)):Nat:=(bq-z.1.A1).toNat
def TB(m:av)(script:List ep)(bq:Int)(v0:av×List dk)(z:Unit):Nat:=0
def FA(m:av)(script:List ep)(bq:Int):Tree (av×(List dk)×Int×Int):=
.lv (o9 m) λ(x0:Bool)=>let E2:=({B0:={X:={a0:=0,a1:=0,a2:=0,a3:=0,a4:=0,a5:=0,a6:=0,a7:=0,a8:=0,a9:=0,kv:=0,ky:=0,a12:=0,kz:=0,kA:=0,kB:=0},Pc:=0,B3:={a0:=0,a1:=0,a2:=0,a3:=0,a4:=0,a5:=0,a6:=0,a7:=0}},Mem:=[],A3:={C9:=[]},A9:={D3:=false,C3:=0,D2:=false},A7:={ag:=0,C2:=0,Frame:=0,B8:=0,D5:=0,B6:=0,B2:=0,B7:=[]},C1:={Frame:=0,D9:=0,C5:=false,B9:=0,B5:=false,F0:=0},A2:={C7:=0,C4:=0},A1:=0,A4:=false,A6:=false}:av);let T1:Tree ((av×(List dk)×Int×Int)):=.lf (E2,[],0,1300);.br (!x0) T1 (.br (decide (bq<m.A1)) T1 (.br (decide (wrap u64 (bq-m.A1)>4000)) T1 (.an (K9 []) (.lv (Qpt []) λ(x1:Bool)=>.br (!x1) (.lf (E2,[],0,1301)) (.an (Nn m) (.lv (Hv m) λ(x2:av)=>.lp inferInstance (TA m script bq (x2,[])+1) ((((ak.Nil (ak.gen [])\/rE (0:Nat))/\rE ([]:List (List D)))/\rE (bq:Int)/\rZ/\rZ/\True/\rE (0:Int)/\True)/\(mE x2 True True)/\rE x2.Mem/\(mE zM True True)/\rE ([]:List (RK.T RK.ay))/\True) (x2,[]) λ(v0:av×List dk)=>.br (decide (v0.1.A1<bq)) (.br (decide (v0.1.A1<1152921504606846976)) (.lp inferInstance (TB m script bq v0 ()+1) ((((ak.Nil (ak.gen [])\/rE (0:Nat))/\rE ([]:List (List D)))/\rE (bq:Int)/\rZ/\rZ/\True/\rE (0:Int)/\(rE (0:Nat)/\rE (46:Nat))/\rE v0.1.A1/\rE ((decide (v0.1.A1<1152921504606846976)):Bool)/\True)/\(mE v0.1 True True)/\rE v0.1.Mem/\(mE zM True True)/\rE v0.2/\True) () λ(v1:PUnit)=>.br v0.1.A6 (.lf (Sum.inr (Sum.inr (v0.1,v0.2,0,0)))) (.an (Qh7 v0.1) (.lv (pH v0.1) λ(x3:Bool)=>.br x3 (.lf (Sum.inr (Sum.inr (v0.1,v0.2,0,0)))) (.an (Wb v0.1) (.lv (lU v0.1) λ(x4:Bool)=>.br (!false==x4) (.lf (Sum.inr (Sum.inr (E2,[],0,1302)))) (.an (PI v0.1 0) (.lv (fe v0.1 0) λ(x5:List dk×av)=>.cn (decide (40*(v0.2.length+x5.1.length)<=140737488355328)) (.nx ((((ak.Nil (ak.gen [])\/rE (0:Nat))/\rE ([]:List (List D)))/\rE (bq:Int)/\rZ/\rZ/\True/\rE (0:Int)/\True)/\(mE x5.2 True True)/\rE x5.2.Mem/\(mE zM True True)/\rE ((v0.2++x5.1):List (RK.T RK.ay))/\True) (Sum.inr (Sum.inl (x5.2,v0.2++x5.1))))))))))) (.lf (Sum.inr (v0.1,v0.2,0,0)))) (.lf (Sum.inr (v0.1,v0.2,0,0)))))))))
def I7 m script bq:=(FA m script bq).m
abbrev Wc m script bq:=(FA m script bq).p
def Zgc:bn:={
 α:=av×(List dk)
 F:=λst a=>([(1,(lk st 1)),(2,(lk st 2)),(3,.ptr 0 0 0),(6,.ptr 2 0 0),(10,.all 3),(11,(lk st 11))],[⟨true,42,49,.gen [mD a.1 (.all 1)]⟩,⟨false,23,1,.ints u32 a.1.Mem⟩,⟨true,42,49,.gen [mB (cT st 6)]⟩,⟨false,137,4,.ax RK.ay a.2⟩])
 a0:=λst=>((mR (cT st 3) (mG st.rows (kP (cT st 3 25) 1000000))),(r9 RK.ay st.rows (rN st 10)))
 iL:=λst=>[]++[(rX st 3 0),(kP (cT st 3 25) (st.rows.length+1)),(rX st 6 2),(rX st 10 3)]}
def Zd6:bn:={
 α:=Unit
 F:=λst a=>([(1,(lk st 1)),(2,(lk st 2)),(3,.ptr 0 0 0),(6,.ptr 2 0 0),(10,.all 3),(11,(lk st 11)),(61,.ptr 0 0 46),(62,(lk st 62)),(63,(lk st 63))],[⟨true,42,49,.gen [[(cT st 3 0),(cT st 3 1),(cT st 3 2),(cT st 3 3),(cT st 3 4),(cT st 3 5),(cT st 3 6),(cT st 3 7),(cT st 3 8),(cT st 3 9),(cT st 3 10),(cT st 3 11),(cT st 3 12),(cT st 3 13),(cT st 3 14),(cT st 3 15),(cT st 3 16),(cT st 3 17),(cT st 3 18),(cT st 3 19),(cT st 3 20),(cT st 3 21),(cT st 3 22),(cT st 3 23),(cT st 3 24),.all 1,(cT st 3 26),(cT st 3 27),(cT st 3 28),(cT st 3 29),(cT st 3 30),(cT st 3 31),(cT st 3 32),(cT st 3 33),(cT st 3 34),(cT st 3 35),(cT st 3 36),(cT st 3 37),(cT st 3 38),(cT st 3 39),(cT st 3 40),(cT st 3 41),(cT st 3 42),(cT st 3 43),(cT st 3 44),(cT st 3 45),(cT st 3 46),(cT st 3 47),(cT st 3 48)]]⟩,⟨false,23,1,nL st.rows (kP (cT st 3 25) 1000000)⟩,⟨true,42,49,.gen [mB (cT st 6)]⟩,⟨false,137,4,nL st.rows (rN st 10)⟩])
 a0:=λst=>()
 iL:=λst=>[]++[(rX st 3 0),(kP (cT st 3 25) (st.rows.length+1)),(rX st 6 2),(rX st 10 3)]}
def Z68:List (Nat×bn):=[(8,Zgc),(9,Zd6)]
def Zht:bf:=mT 52 [] true [.agg av.sig,.one .nil,.one (.int .u64)] [] (λa r=>FA (av.of (aC a 0)) (iI .ab a 1) (ar a 2)) (λX=>.dt [.agg (av.ff (X.1) (.all 0)),.all 1,.int .i64 (X.2.2.1),.int .i64 (X.2.2.2)]) (λX=>[⟨false,23,1,.ints .u32 (X.1).Mem⟩,⟨false,137,4,.ax .ay (X.2.1)⟩])
theorem Zfr:bj pG Zht:=oT (.cons Wd (.cons Qpf (.cons Wa (.cons Qwu (.cons Qqh (.cons Qms (.cons Qqy (.nil)))))))) Tryz.func52 Tryz.call52 [.row 23 1 (.ints .u32),.row 137 4 (.ax .ay)] Z68 3
def TH(kind:Int)(l z:List Int):Nat:=160-z.length
def FC(kind:Int)(l:List Int):Tree av:=
.an (Gt kind 3) (.lv (w7 kind 3) λ(x0:Int)=>.br (decide (x0<2)) (.an (Xw ((108:UInt8)::(Cw++Lb++(Lc++Ld)++(Le++Lf++(Lg++Lh))++(Li++Lj++(Lk++Ll)++(Lm++Qy++(Ln++Lo)))))) (.lv (Lp (cR (cR (cR (cR TF Lb) (cR Lc Ld)) (cR (cR Le Lf) (cR Lg Lh))) (cR (cR (cR Li Lj) (cR Lk Ll)) (cR (cR Lm Qy) (cR Ln Lo))))) λ(x1:List Int×tL)=>.lp inferInstance (TH kind l x1.1+1) ((rE (x0:Int)/\((ak.Nil (ak.ints i64 l)\/rE (1:Nat))/\rE (l:List Int))/\rZ/\True/\True)/\(mE zM True True)/\rE x1.1/\True) x1.1 λ(v0:List Int)=>.br (decide ((v0.length:Int)<(160:Int))) (.cn (decide (4*(v0.length+1)<=140737488355328)) (.nx ((rE (x0:Int)/\((ak.Nil (ak.ints i64 l)\/rE (1:Nat))/\rE (l:List Int))/\rZ/\True/\True)/\(mE zM True True)/\rE ((v0++[0]):List Int)/\True) (Sum.inl (v0++[0])))) (.an (Qn l) (.lv (My l) λ(x2:List Int)=>.cn (decide (4*(v0.length+x2.length)<=140737488355328)) (.br (decide ((↑(dK (v0++x2)):Int)>(256:Int))) (.cn (bT 1 1&&bJ 0 1&&decide ((0:Int)<=(0:Int)/\(0:Int)<=(256:Int)/\256<=(↑(dK (v0++x2)):Int))) (let E1:=dB (dF 256-dF 0) (dC (dF 0) (v0++x2));.an (V3 8 4 E1) (.lv (lz 8 4 E1) λ(x3:av×Bool)=>.br (x0==1) (.an (Wc x3.1 [] 87) (.lv (I7 x3.1 [] 87) λ(x4:av×List dk×Int×Int)=>.lf (Sum.inr x4.1))) (.lf (Sum.inr x3.1))))) (.an (V3 8 4 (v0++x2)) (.lv (lz 8 4 (v0++x2)) λ(x5:av×Bool)=>.br (x0==1) (.an (Wc x5.1 [] 87) (.lv (I7 x5.1 [] 87) λ(x6:av×List dk×Int×Int)=>.lf (Sum.inr x6.1))) (.lf (Sum.inr x5.1))))))))) (.an (Qn l) (.lv (My l) λ(x7:List Int)=>.cn (decide (4*(0+x7.length)<=140737488355328)) (.br (decide ((x7.length:Int)>(256:Int))) (.cn (bT 1 1&&bJ 0 1&&decide ((0:Int)<=(0:Int)/\(0:Int)<=(256:Int)/\256<=(x7.length:Int))) (let E2:=dB (dF 256-dF 0) (dC (dF 0) x7);.an (V3 8 4 E2) (.lv (lz 8 4 E2) λ(x8:av×Bool)=>.br (x0==1) (.an (Wc x8.1 [] 87) (.lv (I7 x8.1 [] 87) λ(x9:av×List dk×Int×Int)=>.lf x9.1)) (.lf x8.1)))) (.an (V3 8 4 x7) (.lv (lz 8 4 x7) λ(jc:av×Bool)=>.br (x0==1) (.an (Wc jc.1 [] 87) (.lv (I7 jc.1 [] 87) λ(jM:av×List dk×Int×Int)=>.lf jM.1)) (.lf jc.1)))))))
def FV kind l:=(FC kind l).m
abbrev Y1 kind l:=(FC kind l).p
def Z69:bn:={
 α:=(List Int)
 F:=λst a=>([(0,(lk st 0)),(1,(lk st 1)),(4,.ptr 0 0 0),(5,.all 1)],[⟨true,42,49,.gen [mB (cT st 4)]⟩,⟨false,23,1,.ints u32 a⟩])
 a0:=λst=>(mG st.rows (rN st 5))
 iL:=λst=>[]++[(rX st 4 0),(rX st 5 1)]}
def Qyo:List (Nat×bn):=[(5,Z69)]
def Z8:bf:=mT 13 [] true [.one (.int .i64),.one (.ints .i64)] [] (λa r=>FC (ar a 0) (eg .i64 a 1)) (λX=>.agg (av.ff X (.all 0))) (λX=>[⟨false,23,1,.ints .u32 X.Mem⟩])
theorem Qpx:bj pG Z8:=oT (.cons Qh (.cons Z1x (.cons Zjy (.cons Zmh (.cons Zfr (.nil)))))) Tryz.func13 Tryz.call13 [.row 23 1 (.ints .u32)] Qyo 3
end
noncomputable section
def Z77(m:av)(clock:Int):Tree (av×(List dk)):=
.an (Nn m) (.lv (Hv m) λ(x0:av)=>.an (We x0) (.lv (mJ x0) λ(x1:Bool)=>.br x1 (.lf (x0,[])) (.an (PI x0 clock) (.lv (fe x0 clock) λ(x2:List dk×av)=>.lf (x2.2,x2.1)))))
def YJ m clock:=(Z77 m clock).m
def UA(m:av)(e:ib):Tree (av×Bool):=
.an (Nn m) (.lv (Hv m) λ(x0:av)=>.lv (o9 x0) λ(x1:Bool)=>.br (!x1) (.lf (x0,false)) (.an (Qkx x0 e) (.lv (Q1 x0 e) λ(x2:Bool×av)=>.lf (x2.2,x2.1))))
def Pd m e:=(UA m e).m
def XC(t:iZ):Tree (iZ×Bool):=
.br (!t.D3) (.lf (t,false)) (.lf ({D3:=false,C3:=t.C3,D2:=true},true))
def TM t:=(XC t).m
def Zhb:bf:=mS 74 [] true [.agg iZ.sig] [] (λa r=>XC (iZ.of (aC a 0))) (λX=>.dt [.agg (iZ.cells (X.1)),.bool (X.2)]) (λX=>[])
theorem Zcw:bj pG Zhb:=oS (.nil) Tryz.func74 Tryz.call74 [] [] 2
def Oq(c:iY)(b:Int):Tree (iY×Bool):=
.br (decide ((c.C9.length:Int)>=(16:Int))) (.lf (c,false)) (.cn (decide (c.C9.length+1<=maxLen)) (.lf ({C9:=c.C9++[(λ(n:Int)=>UInt8.ofNat n.toNat) b]},true)))
def Qps c b:=(Oq c b).m
abbrev Qo4 c b:=(Oq c b).p
def Z8f:bf:=mT 75 [] true [.agg iY.sig,.one (.int .u8)] [] (λa r=>Oq (iY.of (aC a 0)) (ar a 1)) (λX=>.dt [.agg (iY.cells (X.1)),.bool (X.2)]) (λX=>[])
theorem Z7g:bj pG Z8f:=oT (.nil) Tryz.func75 Tryz.call75 [] [] 2
def Lt(d0:fv)(m:List Int)(e:ib):Tree (fv×(List Int)×Bool):=
let T2:Tree ((fv×(List Int)×Bool)):=.an (mY m) (.lv (jH m) λ(x0:List Int)=>.lf (d0,x0,false));.br (d0.B8 !=1) T2 (.br (e.C0 !=4) T2 (.br (decide (e.N>1)) T2 (.an (mY m) (.lv (jH m) λ(x3:List Int)=>let E3:=({ag:=d0.ag,C2:=d0.C2,Frame:=d0.Frame,B8:=2,D5:=0,B6:=0,B2:=0,B7:=[]}:fv);let E4:=({ag:=d0.ag,C2:=d0.C2,Frame:=d0.Frame,B8:=3,D5:=0,B6:=0,B2:=0,B7:=[]}:fv);let T1:Tree ((fv×(List Int)×Bool)):=.br (!decide (e.D0=[])) (.lf (d0,x3,false)) (.br (e.N==1) (.lf (E3,x3,true)) (.lf (E4,x3,true)));.br (e.N==1) (.br (d0.D5==1) (.lv (Ja m d0.B2) λ(x4:Bool)=>.br (!x4) (.lf (d0,x3,false)) (.an (Q8s m (wrap i64 d0.B2) e.D0) (.lv (Ew m (wrap i64 d0.B2) e.D0) λ(x5:List Int×Bool)=>.br (!x5.2) (.lf (d0,x5.1,false)) (.br (e.N==1) (.lf (E3,x5.1,true)) (.lf (E4,x5.1,true)))))) T1) T1))))
def Yq d0 m e:=(Lt d0 m e).m
abbrev Ql2 d0 m e:=(Lt d0 m e).p
def Z40:bf:=mT 76 [] true [.agg fv.sig,.one (.ints .u32),.agg ib.sig] [] (λa r=>Lt (fv.of (aC a 0)) (eg .u32 a 1) (ib.of (aC a 2))) (λX=>.dt [.agg (fv.cells (X.1)),.all 0,.bool (X.2.2)]) (λX=>[⟨false,23,1,.ints .u32 (X.2.1)⟩])
theorem Z1g:bj pG Z40:=oT (.cons ET (.cons Qtl (.cons Qdr (.nil)))) Tryz.func76 Tryz.call76 [.row 23 1 (.ints .u32)] [] 2
def Lu(n:ik)(m:List Int)(frame:List UInt8):Tree (ik×(List Int)×Bool):=
let T1:Tree ((ik×(List Int)×Bool)):=.an (mY m) (.lv (jH m) λ(x0:List Int)=>.lf (n,x0,false));.br (!n.C5) T1 (.br (decide ((frame.length:Int)<(1:Int))) T1 (.br (decide ((frame.length:Int)>(128:Int))) T1 (.lv (G0 m n.B9) λ(x3:Bool)=>.br (!x3) T1 (.an (Qct m (wrap i64 n.B9)) (.lv (Ev m (wrap i64 n.B9)) λ(x5:List UInt8×Bool)=>.cn (decide (0<=(frame.length:Int)/\(frame.length:Int)<=(x5.1.length:Int)/\(x5.1.length:Int)<=(x5.1.length:Int))) (let E2:=dF (x5.1.length:Int)-dF (frame.length:Int);let E3:=dC (dF (frame.length:Int)) x5.1;.cn (decide (frame.length+dK (dB E2 E3)<=maxLen)) (.an (Q8s m (wrap i64 n.B9) (frame++dB E2 E3)) (.lv (Ew m (wrap i64 n.B9) (frame++dB E2 E3)) λ(x6:List Int×Bool)=>.lf ({Frame:=n.Frame,D9:=n.D9,C5:=false,B9:=0,B5:=true,F0:=wrap u32 (frame.length:Int)},x6.1,true)))))))))
def Yr n m frame:=(Lu n m frame).m
abbrev Qqp n m frame:=(Lu n m frame).p
def Zf6:bf:=mT 77 [] true [.agg ik.sig,.one (.ints .u32),.one (.str)] [] (λa r=>Lu (ik.of (aC a 0)) (eg .u32 a 1) (gm a 2)) (λX=>.dt [.agg (ik.cells (X.1)),.all 0,.bool (X.2.2)]) (λX=>[⟨false,23,1,.ints .u32 (X.2.1)⟩])
theorem Z8r:bj pG Zf6:=oT (.cons Qmr (.cons ET (.cons Qks (.cons Qdr (.nil))))) Tryz.func77 Tryz.call77 [.row 23 1 (.ints .u32)] [] 2
def Ha(m:av)(e:ib):Tree (av×Bool):=
.an (mY m.Mem) (.lv (jH m.Mem) λ(x0:List Int)=>let E2:=({B0:=m.B0,Mem:=x0,A3:=m.A3,A9:=m.A9,A7:=m.A7,C1:=m.C1,A2:=m.A2,A1:=m.A1,A4:=m.A4,A6:=m.A6}:av);.an (Si E2) (.lv (mX E2) λ(x1:Bool)=>let T1:Tree ((av×Bool)):=.lf (E2,false);.br (!x1) T1 (.br m.A6 T1 (.br (e.C0==2) (.br (e.N==0) (.br (decide (e.D0=[])) (.lv (TM m.A9) λ(x2:iZ×Bool)=>.lf ({B0:=m.B0,Mem:=x0,A3:=m.A3,A9:=x2.1,A7:=m.A7,C1:=m.C1,A2:=m.A2,A1:=m.A1,A4:=m.A4,A6:=m.A6},x2.2)) T1) T1) (.br (e.C0==3) (.br (decide (e.N<=255)) (.br (decide (e.D0=[])) (.an (Qo4 m.A3 (wrap u8 e.N)) (.lv (Qps m.A3 (wrap u8 e.N)) λ(x3:iY×Bool)=>.lf ({B0:=m.B0,Mem:=x0,A3:=x3.1,A9:=m.A9,A7:=m.A7,C1:=m.C1,A2:=m.A2,A1:=m.A1,A4:=m.A4,A6:=m.A6},x3.2))) T1) T1) (.br (e.C0==4) (.an (Ql2 m.A7 x0 e) (.lv (Yq m.A7 x0 e) λ(x4:fv×List Int×Bool)=>.lf ({B0:=m.B0,Mem:=x4.2.1,A3:=m.A3,A9:=m.A9,A7:=x4.1,C1:=m.C1,A2:=m.A2,A1:=m.A1,A4:=m.A4,A6:=m.A6},x4.2.2))) (.br (e.C0==5) (.br (e.N==0) (.an (Qqp m.C1 x0 e.D0) (.lv (Yr m.C1 x0 e.D0) λ(x5:ik×List Int×Bool)=>.lf ({B0:=m.B0,Mem:=x5.2.1,A3:=m.A3,A9:=m.A9,A7:=m.A7,C1:=x5.1,A2:=m.A2,A1:=m.A1,A4:=m.A4,A6:=m.A6},x5.2.2))) T1) (.br (e.C0==6) (.br (decide (e.D0=[])) (.lf ({B0:=m.B0,Mem:=x0,A3:=m.A3,A9:=m.A9,A7:=m.A7,C1:=m.C1,A2:={C7:=e.N,C4:=m.A2.C4},A1:=m.A1,A4:=m.A4,A6:=m.A6},true)) T1) T1))))))))
def Mo m e:=(Ha m e).m
abbrev Qe1 m e:=(Ha m e).p
def Z4p:bf:=mT 32 [] true [.agg av.sig,.agg ib.sig] [] (λa r=>Ha (av.of (aC a 0)) (ib.of (aC a 1))) (λX=>.dt [.agg (av.ff (X.1) (.all 0)),.bool (X.2)]) (λX=>[⟨false,23,1,.ints .u32 (X.1).Mem⟩])
theorem Z1h:bj pG Z4p:=oT (.cons ET (.cons Qkj (.cons Zcw (.cons Z7g (.cons Z1g (.cons Z8r (.nil))))))) Tryz.func32 Tryz.call32 [.row 23 1 (.ints .u32)] [] 2
end
noncomputable section
instance SA {α β:Type} [Inhabited β]:Inhabited (α⊕β):=⟨.inr default⟩
def Wf(b:List Int):(List Int):=
b
def Qcb(b:List Int):List D:=[.ptr 0 0 0]
def Qc6(b:List Int):List Row:=[⟨true,293,2,.gen [[.c9 0,.all 1]]⟩,⟨false,5,1,.ints .u8 b⟩]
def Q7d(X:List Int):D:=.dt []
def Q7n(X:List Int):List Row:=[⟨true,293,2,.gen [[.c9 0,.all 1]]⟩,⟨false,5,1,.ints .u8 X⟩]
def Qcz:List PT:=[.ptr 0]
def Qc5:List RT:=[.box 293 2 [.self 0,.row 1],.arr 5 1 (.ints .u8)]
def Qmy(args:List D)(rows:List Row):(List Int):=Wf (gj .u8 rows 1)
def Qpb:bf:=EZ 301 [true] true Qcz Qc5 Qmy Q7d Q7n
theorem Qkl(b:List Int):kr pG 301 (Qcb b) (Qc6 b) (Q7d (Wf b)) (Q7n (Wf b)):=by
 exact yJ (ρ:=Tryz.jX) {Tryz.rT with} Tryz.jg.toX72 (by kernel_rfl) _
set_option maxRecDepth 100000 in
theorem Qmc(args:List D)(rows:List Row):mw Qcz args 0=Qcb (gj .u8 rows 1):=by kernel_rfl
set_option maxRecDepth 100000 in
theorem Qkq(args:List D)(rows:List Row):lH Qc5 rows 0=Qc6 (gj .u8 rows 1):=by kernel_rfl
set_option maxRecDepth 100000 in
theorem Qor(X:List Int):(wA (Q7d X)&&jO (Q7n X))=true:=by kernel_rfl
theorem Qot:bj pG Qpb:=xae Tryz.call301 (λa r=>by rw[Qmc a r,Qkq a r];exact Qkl (gj .u8 r 1)) (λ_ X=>Qor X)
def Pp(b:List Int)(s:List UInt8):Tree (Int×Unit×(List Int)):=
.lv (Wf b) λ(x0:List Int)=>.cn (decide (1*(x0.length+dK (iW s))<=140737488355328)) (.lf ((s.length:Int),(),x0++iW s))
def Q9e b s:=(Pp b s).m
abbrev Q6d b s:=(Pp b s).p
def Qne:bf:=mi 1 258 [true,false] [.ptr 0,.one (.str)] [.box 293 2 [.self 0,.row 1],.arr 5 1 (.ints .u8)] (λa r=>Q6d (gj .u8 r 1) (gm a 1)) (λa r=>Q9e (gj .u8 r 1) (gm a 1)) (λX=>.dt [.int .i64 (X.1),.jP]) (λX=>[⟨true,293,2,.gen [[.c9 0,.all 1]]⟩,⟨false,5,1,.ints .u8 (X.2.2)⟩])
theorem Qc0:bj pG Qne:=ES drawn mQ (.cons Qot (.nil)) Tryz.func258 Tryz.call258 (λa r=>Pp (gj .u8 r 1) (gm a 1)) [.row 5 1 (.ints .u8)] [] 2 (λ_ _ _=>by kernel_rfl) (λ_ _=>rfl) (λ_ _ h=>h)
def Qfq(x:Int)(z:(Int)×(List Int)):Nat:=z.1.toNat
def Po(x:Int):Tree (List UInt8):=
.lp inferInstance (Qfq x (x,[])+1) ((rE (x:Int)/\True/\True)/\rE ([]:List Int)/\True) (x,[]) λ(v0:Int×List Int)=>let E1:=decide (1*(v0.2.length+1)<=140737488355328);.br (decide (v0.1>=128)) (.cn E1 (.nx ((rE ((bg u64 v0.1 7):Int)/\True/\True)/\rE ((v0.2++[ij u8 (wrap u8 v0.1) 128]):List Int)/\True) (Sum.inl (bg u64 v0.1 7,v0.2++[ij u8 (wrap u8 v0.1) 128])))) (.cn E1 (.lf (Sum.inr (bytesOf (v0.2++[wrap u8 v0.1])))))
def Qp4 x:=(Po x).m
abbrev Qjc x:=(Po x).p
def Qws:bn:={
 α:=(Int)×(List Int)
 F:=λst a=>([(0,.int u64 a.1),(3,.all 0)],[⟨false,5,1,.ints u8 a.2⟩])
 a0:=λst=>((lk st 0).toInt,(mG st.rows (rN st 3)))
 iL:=λst=>[]++[(rX st 3 0)]}
def Qs1:List (Nat×bn):=[(2,Qws)]
def Qzl:bf:=mT 286 [] true [.one (.int .u64)] [] (λa r=>Po (ar a 0)) (λX=>.str X) (λX=>[])
theorem Qx3:bj pG Qzl:=oT (.nil) Tryz.func286 Tryz.call286 [] Qs1 3
def Q91(c list:List Int)(z:(Int)×(List Int)):Nat:=(list.length-z.1).toNat
def Ps(c list:List Int):Tree (List Int):=
.lp inferInstance (Q91 c list (0,c)+1) ((rZ/\((ak.Nil (ak.ints u64 list)\/rE (1:Nat))/\rE (list:List Int))/\rE ((list.length:Int):Int)/\rE (0:Int)/\True)/\(True/\True/\True)/\rE (c:List Int)/\True) (0,c) λ(v0:Int×List Int)=>.br (decide (v0.1<(list.length:Int))) (.cn (bT 1 1&&bJ 0 1&&decide (0<=v0.1/\v0.1<(list.length:Int))) (.an (Qjc (list.getD v0.1.toNat 0)) (.lv (Qp4 (list.getD v0.1.toNat 0)) λ(x0:List UInt8)=>.an (Q6d v0.2 x0) (.lv (Q9e v0.2 x0) λ(x1:Int×Unit×List Int)=>.nx ((rZ/\((ak.Nil (ak.ints u64 list)\/rE (1:Nat))/\rE (list:List Int))/\rE ((list.length:Int):Int)/\rE ((wrap i64 (v0.1+1)):Int)/\True)/\(True/\True/\True)/\rE x1.2.2/\True) (Sum.inl (wrap i64 (v0.1+1),x1.2.2)))))) (.lf (Sum.inr v0.2))
def Io c list:=(Ps c list).m
abbrev Ip c list:=(Ps c list).p
def Qm1:bn:={
 α:=(Int)×(List Int)
 F:=λst a=>([(0,.ptr 0 0 0),(6,(lk st 6)),(7,(lk st 7)),(8,.int i64 a.1)],[⟨true,293,2,.gen [[.c9 0,.all 1]]⟩,⟨false,5,1,.ints u8 a.2⟩])
 a0:=λst=>((lk st 8).toInt,(mG st.rows (kP (iV st.rows 0 1) 1000000)))
 iL:=λst=>[0]++[(kP (iV st.rows 0 1) (st.rows.length+1))]}
def Qju:List (Nat×bn):=[(1,Qm1)]
def Qmn:bf:=mi 1 227 [true,false] [.ptr 0,.one (.ints .u64)] [.box 293 2 [.self 0,.row 1],.arr 5 1 (.ints .u8)] (λa r=>Ip (gj .u8 r 1) (eg .u64 a 1)) (λa r=>Io (gj .u8 r 1) (eg .u64 a 1)) (λX=>.dt []) (λX=>[⟨true,293,2,.gen [[.c9 0,.all 1]]⟩,⟨false,5,1,.ints .u8 X⟩])
theorem Wg:bj pG Qmn:=ES drawn mQ (.cons Qc0 (.cons Qx3 (.nil))) Tryz.func227 Tryz.call227 (λa r=>Ps (gj .u8 r 1) (eg .u64 a 1)) [.row 5 1 (.ints .u8)] Qju 3 (λ_ _ _=>by kernel_rfl) (λ_ _=>rfl) (λ_ _ h=>h)
def Qas(c list:List Int)(z:(Int)×(List Int)):Nat:=(list.length-z.1).toNat
def Pt(c list:List Int):Tree (List Int):=
.lp inferInstance (Qas c list (0,c)+1) ((rZ/\((ak.Nil (ak.ints u32 list)\/rE (1:Nat))/\rE (list:List Int))/\rE ((list.length:Int):Int)/\rE (0:Int)/\True)/\(True/\True/\True)/\rE (c:List Int)/\True) (0,c) λ(v0:Int×List Int)=>.br (decide (v0.1<(list.length:Int))) (.cn (bT 1 1&&bJ 0 1&&decide (0<=v0.1/\v0.1<(list.length:Int))) (.an (Ip v0.2 [wrap u64 (list.getD v0.1.toNat 0)]) (.lv (Io v0.2 [wrap u64 (list.getD v0.1.toNat 0)]) λ(x0:List Int)=>.nx ((rZ/\((ak.Nil (ak.ints u32 list)\/rE (1:Nat))/\rE (list:List Int))/\rE ((list.length:Int):Int)/\rE ((wrap i64 (v0.1+1)):Int)/\True)/\(True/\True/\True)/\rE (x0:List Int)/\True) (Sum.inl (wrap i64 (v0.1+1),x0))))) (.lf (Sum.inr v0.2))
def BR c list:=(Pt c list).m
abbrev BS c list:=(Pt c list).p
def Qoq:bn:={
 α:=(Int)×(List Int)
 F:=λst a=>([(0,.ptr 0 0 0),(6,(lk st 6)),(7,(lk st 7)),(8,.int i64 a.1)],[⟨true,293,2,.gen [[.c9 0,.all 1]]⟩,⟨false,5,1,.ints u8 a.2⟩])
 a0:=λst=>((lk st 8).toInt,(mG st.rows (kP (iV st.rows 0 1) 1000000)))
 iL:=λst=>[0]++[(kP (iV st.rows 0 1) (st.rows.length+1))]}
def Qlt:List (Nat×bn):=[(1,Qoq)]
def Qqm:bf:=mi 1 226 [true,false] [.ptr 0,.one (.ints .u32)] [.box 293 2 [.self 0,.row 1],.arr 5 1 (.ints .u8)] (λa r=>BS (gj .u8 r 1) (eg .u32 a 1)) (λa r=>BR (gj .u8 r 1) (eg .u32 a 1)) (λX=>.dt []) (λX=>[⟨true,293,2,.gen [[.c9 0,.all 1]]⟩,⟨false,5,1,.ints .u8 X⟩])
theorem Qon:bj pG Qqm:=ES drawn mQ (.cons Wg (.nil)) Tryz.func226 Tryz.call226 (λa r=>Pt (gj .u8 r 1) (eg .u32 a 1)) [.row 5 1 (.ints .u8)] Qlt 3 (λ_ _ _=>by kernel_rfl) (λ_ _=>rfl) (λ_ _ h=>h)
def Pv(c:List Int)(s:List UInt8):Tree (List Int):=
.an (Ip c [wrap u64 (s.length:Int)]) (.lv (Io c [wrap u64 (s.length:Int)]) λ(x0:List Int)=>.an (Q6d x0 s) (.lv (Q9e x0 s) λ(x1:Int×Unit×List Int)=>.lf x1.2.2))
def Qbq c s:=(Pv c s).m
abbrev Q7t c s:=(Pv c s).p
def Qpp:bf:=mi 1 228 [true,false] [.ptr 0,.one (.str)] [.box 293 2 [.self 0,.row 1],.arr 5 1 (.ints .u8)] (λa r=>Q7t (gj .u8 r 1) (gm a 1)) (λa r=>Qbq (gj .u8 r 1) (gm a 1)) (λX=>.dt []) (λX=>[⟨true,293,2,.gen [[.c9 0,.all 1]]⟩,⟨false,5,1,.ints .u8 X⟩])
theorem Qol:bj pG Qpp:=ES drawn mQ (.cons Wg (.cons Qc0 (.nil))) Tryz.func228 Tryz.call228 (λa r=>Pv (gj .u8 r 1) (gm a 1)) [.row 5 1 (.ints .u8)] [] 2 (λ_ _ _=>by kernel_rfl) (λ_ _=>rfl) (λ_ _ h=>h)
def Pu(c:List Int)(DX:Bool):Tree (List Int):=
.br DX (.an (Ip c [1]) (.lv (Io c [1]) λ(x0:List Int)=>.lf x0)) (.an (Ip c [0]) (.lv (Io c [0]) λ(x1:List Int)=>.lf x1))
def KJ c DX:=(Pu c DX).m
abbrev KK c DX:=(Pu c DX).p
def Qs8:bf:=mi 1 229 [true,false] [.ptr 0,.one (.bool)] [.box 293 2 [.self 0,.row 1],.arr 5 1 (.ints .u8)] (λa r=>KK (gj .u8 r 1) (tG a 1)) (λa r=>KJ (gj .u8 r 1) (tG a 1)) (λX=>.dt []) (λX=>[⟨true,293,2,.gen [[.c9 0,.all 1]]⟩,⟨false,5,1,.ints .u8 X⟩])
theorem Qqo:bj pG Qs8:=ES drawn mQ (.cons Wg (.nil)) Tryz.func229 Tryz.call229 (λa r=>Pu (gj .u8 r 1) (tG a 1)) [.row 5 1 (.ints .u8)] [] 2 (λ_ _ _=>by kernel_rfl) (λ_ _=>rfl) (λ_ _ h=>h)
def Wh(b:List Int):((List UInt8)×(List Int)):=
(bytesOf b,b)
def Qex(b:List Int):List D:=[.ptr 0 0 0]
def Qfr(b:List Int):List Row:=[⟨true,293,2,.gen [[.c9 0,.all 1]]⟩,⟨false,5,1,.ints .u8 b⟩]
def Qgf(X:((List UInt8)×(List Int))):D:=.str (X.1)
def Qgd(X:((List UInt8)×(List Int))):List Row:=[⟨true,293,2,.gen [[.c9 0,.sl 1 (.ints .u8 X.2) false]]⟩]
def Qgi:List PT:=[.ptr 0]
def Qf2:List RT:=[.box 293 2 [.self 0,.row 1],.arr 5 1 (.ints .u8)]
def Qs3(args:List D)(rows:List Row):((List UInt8)×(List Int)):=Wh (gj .u8 rows 1)
def Quw:bf:=VR 1 230 [true] Qgi Qf2 Qs3 Qgf Qgd
theorem Qou(b:List Int):sV pG 230 1 (Qex b) (Qfr b) (Qgf (Wh b)) (Qgd (Wh b)):=by
 exact qf (ρ:=Tryz.jX) (by decide) {Tryz.rT with} Tryz.jg _
set_option maxRecDepth 100000 in
theorem Qpy(args:List D)(rows:List Row):mw Qgi args 0=Qex (gj .u8 rows 1):=by kernel_rfl
set_option maxRecDepth 100000 in
theorem Qov(args:List D)(rows:List Row):lH Qf2 rows 0=Qfr (gj .u8 rows 1):=by kernel_rfl
theorem Qun:bj pG Quw:=qaT (λ_=>Tryz.call230) (λa r=>by rw[Qpy a r,Qov a r];exact Qou (gj .u8 r 1))
def Pw(m:av):Tree (List UInt8):=
.an (BS [] [m.B0.X.a0,m.B0.X.a1,m.B0.X.a2,m.B0.X.a3,m.B0.X.a4,m.B0.X.a5,m.B0.X.a6,m.B0.X.a7,m.B0.X.a8,m.B0.X.a9,m.B0.X.kv,m.B0.X.ky,m.B0.X.a12,m.B0.X.kz,m.B0.X.kA,m.B0.X.kB]) (.lv (BR [] [m.B0.X.a0,m.B0.X.a1,m.B0.X.a2,m.B0.X.a3,m.B0.X.a4,m.B0.X.a5,m.B0.X.a6,m.B0.X.a7,m.B0.X.a8,m.B0.X.a9,m.B0.X.kv,m.B0.X.ky,m.B0.X.a12,m.B0.X.kz,m.B0.X.kA,m.B0.X.kB]) λ(x0:List Int)=>.an (BS x0 [m.B0.Pc]) (.lv (BR x0 [m.B0.Pc]) λ(x1:List Int)=>.an (BS x1 [m.B0.B3.a0,m.B0.B3.a1,m.B0.B3.a2,m.B0.B3.a3,m.B0.B3.a4,m.B0.B3.a5,m.B0.B3.a6,m.B0.B3.a7]) (.lv (BR x1 [m.B0.B3.a0,m.B0.B3.a1,m.B0.B3.a2,m.B0.B3.a3,m.B0.B3.a4,m.B0.B3.a5,m.B0.B3.a6,m.B0.B3.a7]) λ(x2:List Int)=>.an (Ip x2 [wrap u64 (m.Mem.length:Int)]) (.lv (Io x2 [wrap u64 (m.Mem.length:Int)]) λ(x3:List Int)=>.an (BS x3 m.Mem) (.lv (BR x3 m.Mem) λ(x4:List Int)=>.an (Q7t x4 m.A3.C9) (.lv (Qbq x4 m.A3.C9) λ(x5:List Int)=>.an (KK x5 m.A9.D3) (.lv (KJ x5 m.A9.D3) λ(x6:List Int)=>.an (BS x6 [m.A9.C3]) (.lv (BR x6 [m.A9.C3]) λ(x7:List Int)=>.an (KK x7 m.A9.D2) (.lv (KJ x7 m.A9.D2) λ(x8:List Int)=>.an (BS x8 [m.A7.ag,m.A7.C2,m.A7.Frame]) (.lv (BR x8 [m.A7.ag,m.A7.C2,m.A7.Frame]) λ(x9:List Int)=>.an (Ip x9 [wrap u64 m.A7.B8,wrap u64 m.A7.D5]) (.lv (Io x9 [wrap u64 m.A7.B8,wrap u64 m.A7.D5]) λ(jc:List Int)=>.an (BS jc [m.A7.B6,m.A7.B2]) (.lv (BR jc [m.A7.B6,m.A7.B2]) λ(jM:List Int)=>.an (Q7t jM m.A7.B7) (.lv (Qbq jM m.A7.B7) λ(jz:List Int)=>.an (BS jz [m.C1.Frame,m.C1.D9]) (.lv (BR jz [m.C1.Frame,m.C1.D9]) λ(jN:List Int)=>.an (KK jN m.C1.C5) (.lv (KJ jN m.C1.C5) λ(mg:List Int)=>.an (BS mg [m.C1.B9]) (.lv (BR mg [m.C1.B9]) λ(oI:List Int)=>.an (KK oI m.C1.B5) (.lv (KJ oI m.C1.B5) λ(mK:List Int)=>.an (BS mK [m.C1.F0]) (.lv (BR mK [m.C1.F0]) λ(pf:List Int)=>.an (BS pf [m.A2.C7,m.A2.C4]) (.lv (BR pf [m.A2.C7,m.A2.C4]) λ(ri:List Int)=>.an (Ip ri [m.A1]) (.lv (Io ri [m.A1]) λ(uU:List Int)=>.an (KK uU m.A4) (.lv (KJ uU m.A4) λ(w9:List Int)=>.an (KK w9 m.A6) (.lv (KJ w9 m.A6) λ(sr:List Int)=>.lv (Wh sr) λ(ss:List UInt8×List Int)=>.lf ss.1))))))))))))))))))))))
def ZA m:=(Pw m).m
abbrev Qki m:=(Pw m).p
def Z1a:bf:=mT 150 [] true [.agg av.sig] [] (λa r=>Pw (av.of (aC a 0))) (λX=>.str X) (λX=>[])
theorem Qzk:bj pG Z1a:=oT (.cons Qon (.cons Wg (.cons Qol (.cons Qqo (.cons Qun (.nil)))))) Tryz.func150 Tryz.call150 [] [] 2
def Qsm(h0:Int)(s:List UInt8)(z:(Int)×(Int)):Prop:=0<=z.2/\z.2<=s.length
def Qiy(h0:Int)(s:List UInt8)(z:(Int)×(Int)):Nat:=(s.length-z.2).toNat
def Wi(h0:Int)(s:List UInt8):Tree Int:=
.lp inferInstance (Qiy h0 s (h0,0)+1) ((rE (h0:Int)/\rE (s:List UInt8)/\rE ((s.length:Int):Int)/\rE (0:Int)/\True)/\True) (h0,0) λ(v0:Int×Int)=>.br (decide (v0.2<(s.length:Int))) (.cn (decide (0<=v0.2/\v0.2<(s.length:Int))) (.nx ((rE ((wrap u64 (nu u64 v0.1 (wrap u64 (↑(eW (s.getD v0.2.toNat (0:UInt8))):Int))*1099511628211)):Int)/\rE (s:List UInt8)/\rE ((s.length:Int):Int)/\rE ((wrap i64 (v0.2+1)):Int)/\True)/\True) (Sum.inl (wrap u64 (nu u64 v0.1 (wrap u64 (↑(eW (s.getD v0.2.toNat (0:UInt8))):Int))*1099511628211),wrap i64 (v0.2+1))))) (.lf (Sum.inr v0.1))
def PC h0 s:=(Wi h0 s).m
def Wj(h0:Int)(s:List UInt8):Prop:=
s.length<=1000000000000
theorem Zer(h0:Int)(s:List UInt8)(hw:Wj h0 s):(Wi h0 s).p:=by
 simp only[Wj]at hw
 unfold Tree.p Wi
 repeat'(first|refine fi (inv:=Qsm h0 s) (μ:=Qiy h0 s) ?_ (cO _) (λ_ _=>?_)|exact trivial|refine aa (λ_=>?_) (λ_=>?_)|refine au ?_ ?_|refine cj ?_ ?_|refine aq (λ_ _=>?_)|refine ea ?_|refine dc ?_|refine And.intro ?_ ?_)
 all_goals((try simp only[Qsm,Qiy]at*);exact nY)
def Zid:bn:={
 α:=(Int)×(Int)
 F:=λst a=>([(0,.int u64 a.1),(1,(lk st 1)),(7,(lk st 7)),(8,.int i64 a.2)],[])
 a0:=λst=>((lk st 0).toInt,(lk st 8).toInt)
 iL:=λst=>[]++[]}
def Z7p:List (Nat×bn):=[(2,Zid)]
def Zo8:bf:=mP 149 [] true [.one (.int .u64),.one (.str)] [] (λa r=>Wj (ar a 0) (gm a 1)) (λa r=>PC (ar a 0) (gm a 1)) (λX=>.int .u64 X) (λX=>[])
theorem Zhz:bj pG Zo8:=ue drawn mQ (.nil) Tryz.func149 Tryz.call149 (λa r=>Wi (ar a 0) (gm a 1)) [] Z7p 3 (hp:=λa r h=>Zer (ar a 0) (gm a 1) h)
def PE(m:av):Tree Int:=
.an (Qki m) (.lv (ZA m) λ(x0:List UInt8)=>.an (Wj 14695981039346656037 x0) (.lv (PC 14695981039346656037 x0) λ(x1:Int)=>.lf x1))
def UJ m:=(PE m).m
abbrev UI m:=(PE m).p
def Z9t:bf:=mT 93 [] true [.agg av.sig] [] (λa r=>PE (av.of (aC a 0))) (λX=>.int .u64 X) (λX=>[])
theorem Qpv:bj pG Z9t:=oT (.cons Zhz (.cons Qzk (.nil))) Tryz.func93 Tryz.call93 [] [] 2
end
noncomputable section
instance SB {α β:Type} [Inhabited β]:Inhabited (α⊕β):=⟨.inr default⟩
def Qeu(x:Int)(z:(Int)×(List Int)):Nat:=z.1.toNat
def Py(x:Int):Tree (List UInt8):=
.lp inferInstance (Qeu x (x,[])+1) ((rE (x:Int)/\True/\True)/\rE ([]:List Int)/\True) (x,[]) λ(v0:Int×List Int)=>let E1:=decide (1*(v0.2.length+1)<=140737488355328);.br (decide (v0.1>=128)) (.cn E1 (.nx ((rE ((bg u64 v0.1 7):Int)/\True/\True)/\rE ((v0.2++[ij u8 (wrap u8 (bd u64 v0.1 127)) 128]):List Int)/\True) (Sum.inl (bg u64 v0.1 7,v0.2++[ij u8 (wrap u8 (bd u64 v0.1 127)) 128])))) (.cn E1 (.lf (Sum.inr (bytesOf (v0.2++[wrap u8 v0.1])))))
def Qcw x:=(Py x).m
abbrev Q7m x:=(Py x).p
def Qxg:bn:={
 α:=(Int)×(List Int)
 F:=λst a=>([(0,.int u64 a.1),(3,.all 0)],[⟨false,5,1,.ints u8 a.2⟩])
 a0:=λst=>((lk st 0).toInt,(mG st.rows (rN st 3)))
 iL:=λst=>[]++[(rX st 3 0)]}
def Qsg:List (Nat×bn):=[(2,Qxg)]
def Qxs:bf:=mT 204 [] true [.one (.int .u64)] [] (λa r=>Py (ar a 0)) (λX=>.str X) (λX=>[])
theorem Qd8:bj pG Qxs:=oT (.nil) Tryz.func204 Tryz.call204 [] Qsg 3
def PA(s:List UInt8):Tree (List UInt8):=
.an (Q7m (wrap u64 (s.length:Int))) (.lv (Qcw (wrap u64 (s.length:Int))) λ(x0:List UInt8)=>.cn (decide (x0.length+s.length<=maxLen)) (.lf (x0++s)))
def Z5f s:=(PA s).m
abbrev Qnl s:=(PA s).p
def Zls:bf:=mT 205 [] true [.one (.str)] [] (λa r=>PA (gm a 0)) (λX=>.str X) (λX=>[])
theorem Zgu:bj pG Zls:=oT (.cons Qd8 (.nil)) Tryz.func205 Tryz.call205 [] [] 2
def Z3h(b:Bool):Tree (List UInt8):=
.br b (.lf ([(1:UInt8)])) (.lf ([(0:UInt8)]))
def JP b:=(Z3h b).m
def Zmu:bf:=mS 206 [] true [.one (.bool)] [] (λa r=>Z3h (tG a 0)) (λX=>.str X) (λX=>[])
theorem Zkp:bj pG Zmu:=oS (.nil) Tryz.func206 Tryz.call206 [] [] 2
def Pz(x:Int):Tree (List UInt8):=
.an (Q7m x) (.lv (Qcw x) λ(x0:List UInt8)=>.lf x0)
def wy x:=(Pz x).m
abbrev wz x:=(Pz x).p
def vW:bf:=mT 207 [] true [.one (.int .u64)] [] (λa r=>Pz (ar a 0)) (λX=>.str X) (λX=>[])
theorem zF:bj pG vW:=oT (.cons Qd8 (.nil)) Tryz.func207 Tryz.call207 [] [] 2
def Qlz(m:av)(z:(Int)×(List Int)):Nat:=(16-z.1).toNat
def Ql6(m:av)(z:(Int)×(List Int)):Nat:=(8-z.1).toNat
def Qlh(m:av)(z:(Int)×(List Int)):Nat:=(m.Mem.length-z.1).toNat
def Ql4(m:av)(z:(Int)×(List Int)):Nat:=(1000000000000-z.1).toNat
def PB(m:av):Tree (List UInt8):=
.lp inferInstance (Qlz m (0,[])+1) ((rZ/\True/\True/\rE (0:Int)/\True)/\(mE m (((ak.Nil (ak.ints u32 m.Mem)\/rE (1:Nat))/\rE m.Mem)) True)/\rE ([]:List Int)/\True) (0,[]) λ(v0:Int×List Int)=>let E1:=decide (8*(v0.2.length+1)<=140737488355328);.br (decide (v0.1<16)) (.cn (bJ 0 1&&decide (0<=v0.1/\v0.1<(↑16:Int))) (.cn E1 (.nx ((rZ/\True/\True/\rE ((wrap i64 (v0.1+1)):Int)/\True)/\(mE m (((ak.Nil (ak.ints u32 m.Mem)\/rE (1:Nat))/\rE m.Mem)) True)/\rE ((v0.2++[wrap u64 (aK (gn.l m.B0.X) v0.1.toNat 0)]):List Int)/\True) (Sum.inl (wrap i64 (v0.1+1),v0.2++[wrap u64 (aK (gn.l m.B0.X) v0.1.toNat 0)]))))) (.cn E1 (.lp inferInstance (Ql6 m (0,v0.2++[wrap u64 m.B0.Pc])+1) ((rZ/\True/\True/\rE (0:Int)/\True)/\(mE m (((ak.Nil (ak.ints u32 m.Mem)\/rE (1:Nat))/\rE m.Mem)) True)/\rE ((v0.2++[wrap u64 m.B0.Pc]):List Int)/\True) (0,v0.2++[wrap u64 m.B0.Pc]) λ(v1:Int×List Int)=>let E2:=decide (8*(v1.2.length+1)<=140737488355328);.br (decide (v1.1<8)) (.cn (bJ 0 1&&decide (0<=v1.1/\v1.1<(↑8:Int))) (.cn E2 (.nx ((rZ/\True/\True/\rE ((wrap i64 (v1.1+1)):Int)/\True)/\(mE m (((ak.Nil (ak.ints u32 m.Mem)\/rE (1:Nat))/\rE m.Mem)) True)/\rE ((v1.2++[wrap u64 (aK (A8.l m.B0.B3) v1.1.toNat 0)]):List Int)/\True) (Sum.inl (wrap i64 (v1.1+1),v1.2++[wrap u64 (aK (A8.l m.B0.B3) v1.1.toNat 0)]))))) (.cn E2 (.lp inferInstance (Qlh m (0,v1.2++[wrap u64 (m.Mem.length:Int)])+1) ((rZ/\True/\True/\rE (0:Int)/\True)/\(mE m (((ak.Nil (ak.ints u32 m.Mem)\/rE (1:Nat))/\rE m.Mem)) True)/\rE ((v1.2++[wrap u64 (m.Mem.length:Int)]):List Int)/\True) (0,v1.2++[wrap u64 (m.Mem.length:Int)]) λ(v2:Int×List Int)=>.br (decide (v2.1<(m.Mem.length:Int))) (.cn (bT 1 1&&bJ 0 1&&decide (0<=v2.1/\v2.1<(m.Mem.length:Int))) (.cn (decide (8*(v2.2.length+1)<=140737488355328)) (.nx ((rZ/\True/\True/\rE ((wrap i64 (v2.1+1)):Int)/\True)/\(mE m (((ak.Nil (ak.ints u32 m.Mem)\/rE (1:Nat))/\rE m.Mem)) True)/\rE ((v2.2++[wrap u64 (m.Mem.getD v2.1.toNat 0)]):List Int)/\True) (Sum.inl (wrap i64 (v2.1+1),v2.2++[wrap u64 (m.Mem.getD v2.1.toNat 0)]))))) (.lp inferInstance (Ql4 m (0,[])+1) ((rZ/\True/\True/\rE (0:Int)/\True)/\(mE m (((ak.Nil (ak.ints u32 m.Mem)\/rE (1:Nat))/\rE m.Mem)) True)/\rE v2.2/\rE ([]:List Int)/\True) (0,[]) λ(v3:Int×List Int)=>.br (decide (v3.1<(v2.2.length:Int))) (.cn (bT 1 1&&bJ 0 1&&decide (0<=v3.1/\v3.1<(v2.2.length:Int))) (let E3:=v2.2.getD v3.1.toNat 0;.an (Q7m E3) (.lv (Qcw E3) λ(x0:List UInt8)=>.cn (decide (1*(v3.2.length+dK (iW x0))<=140737488355328)) (.nx ((rZ/\True/\True/\rE ((wrap i64 (v3.1+1)):Int)/\True)/\(mE m (((ak.Nil (ak.ints u32 m.Mem)\/rE (1:Nat))/\rE m.Mem)) True)/\rE v2.2/\rE ((v3.2++iW x0):List Int)/\True) (Sum.inl (wrap i64 (v3.1+1),v3.2++iW x0)))))) (.an (Qnl m.A3.C9) (.lv (Z5f m.A3.C9) λ(x1:List UInt8)=>.lv (JP m.A9.D3) λ(x2:List UInt8)=>.cn (decide (x1.length+x2.length<=maxLen)) (.an (wz (wrap u64 m.A9.C3)) (.lv (wy (wrap u64 m.A9.C3)) λ(x3:List UInt8)=>.cn (decide (dK (x1++x2)+x3.length<=maxLen)) (.lv (JP m.A9.D2) λ(x4:List UInt8)=>.cn (decide (dK (x1++x2++x3)+x4.length<=maxLen)) (.an (wz (wrap u64 m.A7.ag)) (.lv (wy (wrap u64 m.A7.ag)) λ(x5:List UInt8)=>.cn (decide (dK (x1++x2++x3++x4)+x5.length<=maxLen)) (.an (wz (wrap u64 m.A7.C2)) (.lv (wy (wrap u64 m.A7.C2)) λ(x6:List UInt8)=>.cn (decide (dK (x1++x2++x3++x4++x5)+x6.length<=maxLen)) (.an (wz (wrap u64 m.A7.Frame)) (.lv (wy (wrap u64 m.A7.Frame)) λ(x7:List UInt8)=>.cn (decide (dK (x1++x2++x3++x4++x5++x6)+x7.length<=maxLen)) (.an (wz (wrap u64 m.A7.B8)) (.lv (wy (wrap u64 m.A7.B8)) λ(x8:List UInt8)=>.cn (decide (dK (x1++x2++x3++x4++x5++x6++x7)+x8.length<=maxLen)) (.an (wz (wrap u64 m.A7.D5)) (.lv (wy (wrap u64 m.A7.D5)) λ(x9:List UInt8)=>.cn (decide (dK (x1++x2++x3++x4++x5++x6++x7++x8)+x9.length<=maxLen)) (.an (wz (wrap u64 m.A7.B6)) (.lv (wy (wrap u64 m.A7.B6)) λ(jc:List UInt8)=>.cn (decide (dK (x1++x2++x3++x4++x5++x6++x7++x8++x9)+jc.length<=maxLen)) (.an (wz (wrap u64 m.A7.B2)) (.lv (wy (wrap u64 m.A7.B2)) λ(jM:List UInt8)=>.cn (decide (dK (x1++x2++x3++x4++x5++x6++x7++x8++x9++jc)+jM.length<=maxLen)) (.an (Qnl m.A7.B7) (.lv (Z5f m.A7.B7) λ(jz:List UInt8)=>.cn (decide (dK (x1++x2++x3++x4++x5++x6++x7++x8++x9++jc++jM)+jz.length<=maxLen)) (.an (wz (wrap u64 m.C1.Frame)) (.lv (wy (wrap u64 m.C1.Frame)) λ(jN:List UInt8)=>.cn (decide (dK (x1++x2++x3++x4++x5++x6++x7++x8++x9++jc++jM++jz)+jN.length<=maxLen)) (.an (wz (wrap u64 m.C1.D9)) (.lv (wy (wrap u64 m.C1.D9)) λ(mg:List UInt8)=>.cn (decide (dK (x1++x2++x3++x4++x5++x6++x7++x8++x9++jc++jM++jz++jN)+mg.length<=maxLen)) (.lv (JP m.C1.C5) λ(oI:List UInt8)=>.cn (decide (dK (x1++x2++x3++x4++x5++x6++x7++x8++x9++jc++jM++jz++jN++mg)+oI.length<=maxLen)) (.an (wz (wrap u64 m.C1.B9)) (.lv (wy (wrap u64 m.C1.B9)) λ(mK:List UInt8)=>.cn (decide (dK (x1++x2++x3++x4++x5++x6++x7++x8++x9++jc++jM++jz++jN++mg++oI)+mK.length<=maxLen)) (.lv (JP m.C1.B5) λ(pf:List UInt8)=>.cn (decide (dK (x1++x2++x3++x4++x5++x6++x7++x8++x9++jc++jM++jz++jN++mg++oI++mK)+pf.length<=maxLen)) (.an (wz (wrap u64 m.C1.F0)) (.lv (wy (wrap u64 m.C1.F0)) λ(ri:List UInt8)=>.cn (decide (dK (x1++x2++x3++x4++x5++x6++x7++x8++x9++jc++jM++jz++jN++mg++oI++mK++pf)+ri.length<=maxLen)) (.an (wz (wrap u64 m.A2.C7)) (.lv (wy (wrap u64 m.A2.C7)) λ(uU:List UInt8)=>.cn (decide (dK (x1++x2++x3++x4++x5++x6++x7++x8++x9++jc++jM++jz++jN++mg++oI++mK++pf++ri)+uU.length<=maxLen)) (.an (wz (wrap u64 m.A2.C4)) (.lv (wy (wrap u64 m.A2.C4)) λ(w9:List UInt8)=>.cn (decide (dK (x1++x2++x3++x4++x5++x6++x7++x8++x9++jc++jM++jz++jN++mg++oI++mK++pf++ri++uU)+w9.length<=maxLen)) (.an (wz m.A1) (.lv (wy m.A1) λ(sr:List UInt8)=>.cn (decide (dK (x1++x2++x3++x4++x5++x6++x7++x8++x9++jc++jM++jz++jN++mg++oI++mK++pf++ri++uU++w9)+sr.length<=maxLen)) (.lv (JP m.A4) λ(ss:List UInt8)=>.cn (decide (dK (x1++x2++x3++x4++x5++x6++x7++x8++x9++jc++jM++jz++jN++mg++oI++mK++pf++ri++uU++w9++sr)+ss.length<=maxLen)) (.lv (JP m.A6) λ(Bf:List UInt8)=>.cn (decide (dK (x1++x2++x3++x4++x5++x6++x7++x8++x9++jc++jM++jz++jN++mg++oI++mK++pf++ri++uU++w9++sr++ss)+Bf.length<=maxLen)) (.cn (decide (dK (bytesOf v3.2)+dK (x1++x2++x3++x4++x5++x6++x7++x8++x9++jc++jM++jz++jN++mg++oI++mK++pf++ri++uU++w9++sr++ss++Bf)<=maxLen)) (.lf (Sum.inr (Sum.inr (Sum.inr (Sum.inr (bytesOf v3.2++(x1++x2++x3++x4++x5++x6++x7++x8++x9++jc++jM++jz++jN++mg++oI++mK++pf++ri++uU++w9++sr++ss++Bf))))))))))))))))))))))))))))))))))))))))))))))))))))
def Z62 m:=(PB m).m
abbrev Qq5 m:=(PB m).p
def Z81:bn:={
 α:=(Int)×(List Int)
 F:=λst a=>([(1,.ptr 0 0 0),(3,(lk st 3)),(4,.all 1),(5,.int i64 a.1)],[⟨true,42,49,.gen [mB (cT st 1)]⟩,⟨false,40,1,.ints u64 a.2⟩])
 a0:=λst=>((lk st 5).toInt,(mG st.rows (rN st 4)))
 iL:=λst=>[]++[(rX st 1 0),(rX st 4 1)]}
def Z8p:bn:={
 α:=(Int)×(List Int)
 F:=λst a=>([(1,.ptr 0 0 0),(3,(lk st 3)),(4,.all 1),(6,.int i64 a.1)],[⟨true,42,49,.gen [mB (cT st 1)]⟩,⟨false,40,1,.ints u64 a.2⟩])
 a0:=λst=>((lk st 6).toInt,(mG st.rows (rN st 4)))
 iL:=λst=>[]++[(rX st 1 0),(rX st 4 1)]}
def Z92:bn:={
 α:=(Int)×(List Int)
 F:=λst a=>([(1,.ptr 0 0 0),(3,(lk st 3)),(4,.all 1),(7,.int i64 a.1)],[⟨true,42,49,.gen [mB (cT st 1)]⟩,⟨false,40,1,.ints u64 a.2⟩])
 a0:=λst=>((lk st 7).toInt,(mG st.rows (rN st 4)))
 iL:=λst=>[]++[(rX st 1 0),(rX st 4 1)]}
def Z9j:bn:={
 α:=(Int)×(List Int)
 F:=λst a=>([(1,.ptr 0 0 0),(3,.all 2),(4,.all 1),(8,.int i64 a.1)],[⟨true,42,49,.gen [mB (cT st 1)]⟩,⟨false,40,1,nL st.rows (rN st 4)⟩,⟨false,5,1,.ints u8 a.2⟩])
 a0:=λst=>((lk st 8).toInt,(mG st.rows (rN st 3)))
 iL:=λst=>[]++[(rX st 1 0),(rX st 4 1),(rX st 3 2)]}
def Z2o:List (Nat×bn):=[(4,Z81),(9,Z8p),(14,Z92),(18,Z9j)]
def Zf0:bf:=mT 140 [] true [.agg av.sig] [] (λa r=>PB (av.of (aC a 0))) (λX=>.str X) (λX=>[])
theorem Z90:bj pG Zf0:=oT (.cons Qd8 (.cons Zgu (.cons Zkp (.cons zF (.nil))))) Tryz.func140 Tryz.call140 [] Z2o 3
def Qte(h0:Int)(s:List UInt8)(z:(Int)×(Int)):Prop:=0<=z.2/\z.2<=s.length
def UN(h0:Int)(s:List UInt8)(z:(Int)×(Int)):Nat:=(s.length-z.2).toNat
def MG(h0:Int)(s:List UInt8):Tree Int:=
.lp inferInstance (UN h0 s (h0,0)+1) ((rE (h0:Int)/\rE (s:List UInt8)/\rE (0:Int)/\True)/\True) (h0,0) λ(v0:Int×Int)=>.br (decide (v0.2<(s.length:Int))) (.cn (decide (0<=v0.2/\v0.2<(s.length:Int))) (.nx ((rE ((wrap u64 (nu u64 v0.1 (wrap u64 (↑(eW (s.getD v0.2.toNat (0:UInt8))):Int))*1099511628211)):Int)/\rE (s:List UInt8)/\rE ((wrap i64 (v0.2+1)):Int)/\True)/\True) (Sum.inl (wrap u64 (nu u64 v0.1 (wrap u64 (↑(eW (s.getD v0.2.toNat (0:UInt8))):Int))*1099511628211),wrap i64 (v0.2+1))))) (.lf (Sum.inr v0.1))
def FY h0 s:=(MG h0 s).m
def Wk(h0:Int)(s:List UInt8):Prop:=
s.length<=1000000000000
theorem Zfu(h0:Int)(s:List UInt8)(hw:Wk h0 s):(MG h0 s).p:=by
 simp only[Wk]at hw
 unfold Tree.p MG
 repeat'(first|refine fi (inv:=Qte h0 s) (μ:=UN h0 s) ?_ (cO _) (λ_ _=>?_)|exact trivial|refine aa (λ_=>?_) (λ_=>?_)|refine au ?_ ?_|refine cj ?_ ?_|refine aq (λ_ _=>?_)|refine ea ?_|refine dc ?_|refine And.intro ?_ ?_)
 all_goals((try simp only[Qte,UN]at*);exact nY)
def Zi7:bn:={
 α:=(Int)×(Int)
 F:=λst a=>([(0,.int u64 a.1),(1,(lk st 1)),(5,.int i64 a.2)],[])
 a0:=λst=>((lk st 0).toInt,(lk st 5).toInt)
 iL:=λst=>[]++[]}
def Z89:List (Nat×bn):=[(2,Zi7)]
def Zn2:bf:=mP 139 [] true [.one (.int .u64),.one (.str)] [] (λa r=>Wk (ar a 0) (gm a 1)) (λa r=>FY (ar a 0) (gm a 1)) (λX=>.int .u64 X) (λX=>[])
theorem Zh:bj pG Zn2:=ue drawn mQ (.nil) Tryz.func139 Tryz.call139 (λa r=>MG (ar a 0) (gm a 1)) [] Z89 3 (hp:=λa r h=>Zfu (ar a 0) (gm a 1) h)
def PD(m:av):Tree Int:=
.an (Qq5 m) (.lv (Z62 m) λ(x0:List UInt8)=>.an (Wk 14695981039346656037 x0) (.lv (FY 14695981039346656037 x0) λ(x1:Int)=>.lf x1))
def Y8 m:=(PD m).m
abbrev Y7 m:=(PD m).p
def Zmg:bf:=mT 85 [] true [.agg av.sig] [] (λa r=>PD (av.of (aC a 0))) (λX=>.int .u64 X) (λX=>[])
theorem Zjm:bj pG Zmg:=oT (.cons Zh (.cons Z90 (.nil))) Tryz.func85 Tryz.call85 [] [] 2
end
noncomputable section
instance SC {α β:Type} [Inhabited β]:Inhabited (α⊕β):=⟨.inr default⟩
def Qlg(script:List ep)(z:(Int)):Prop:=1<=z/\(z<=script.length\/z=1)
def MF(script:List ep)(z:(Int)):Nat:=(script.length-z).toNat
def ME(script:List ep):Tree Bool:=
.lp inferInstance (MF script 1+1) ((nR RK.ab 4 script/\rE (1:Int)/\True)/\True) 1 λ(v0:Int)=>.br (decide (v0<(script.length:Int))) (.cn (bT 4 4&&bJ 0 4&&decide (0<=wrap i64 (v0-1)/\wrap i64 (v0-1)<(script.length:Int))) (.cn (bT 4 4&&bJ 0 4&&decide (0<=v0/\v0<(script.length:Int))) (let E2:=script.getD (dF (wrap i64 (v0-1))) (RK.cw RK.ab);let E3:=script.getD v0.toNat (RK.cw RK.ab);.br (decide (E3.At<E2.At)) (.lf (Sum.inr false)) (let T1:Tree ((Int)⊕(Bool)):=.nx ((nR RK.ab 4 script/\rE ((wrap i64 (v0+1)):Int)/\True)/\True) (Sum.inl (wrap i64 (v0+1)));.br (E3.At==E2.At) (.br (E2.C6.C0==1) (.lf (Sum.inr false)) T1) T1)))) (.lf (Sum.inr true))
def Z0j script:=(ME script).m
def Wl(script:List ep):Prop:=
script.length<=1000000000000
theorem Z2g(script:List ep)(hw:Wl script):(ME script).p:=by
 simp only[Wl]at hw
 unfold Tree.p ME
 repeat'(first|refine fi (inv:=Qlg script) (μ:=MF script) ?_ (cO _) (λ_ _=>?_)|exact trivial|refine aa (λ_=>?_) (λ_=>?_)|refine au ?_ ?_|refine cj ?_ ?_|refine aq (λ_ _=>?_)|refine ea ?_|refine dc ?_|refine And.intro ?_ ?_)
 all_goals((try simp only[Qlg,MF]at*);exact nY)
def Z5z:bn:={
 α:=(Int)
 F:=λst a=>([(0,(lk st 0)),(3,.int i64 a)],[])
 a0:=λst=>(lk st 3).toInt
 iL:=λst=>[]++[]}
def Qzq:List (Nat×bn):=[(2,Z5z)]
def Z9c:bf:=mP 268 [] true [.one (.ax .ab)] [] (λa r=>Wl (iI .ab a 0)) (λa r=>Z0j (iI .ab a 0)) (λX=>.bool X) (λX=>[])
theorem Z5q:bj pG Z9c:=ue drawn mQ (.nil) Tryz.func268 Tryz.call268 (λa r=>ME (iI .ab a 0)) [] Qzq 3 (hp:=λa r h=>Z2g (iI .ab a 0) h)
def Qnz(m:av)(script:List ep)(bq:Int)(z:(Int)):Nat:=(script.length-z).toNat
def PK(m:av)(script:List ep)(bq:Int):Tree Int:=
.an (Si m) (.lv (mX m) λ(x0:Bool)=>.br (!x0) (.lf 1300) (.br (decide (bq<m.A1)) (.lf 1300) (.br (decide (wrap u64 (bq-m.A1)>4000)) (.lf 1300) (.br (decide ((script.length:Int)>(400:Int))) (.lf 1300) (.an (Wl script) (.lv (Z0j script) λ(x1:Bool)=>.br (!x1) (.lf 1301) (.lp inferInstance (Qnz m script bq 0+1) ((rZ/\nR RK.ab 4 script/\rE ((script.length:Int):Int)/\rE (0:Int)/\True)/\(mE m (((ak.Nil (ak.ints u32 m.Mem)\/rE (1:Nat))/\rE m.Mem)) True)/\True) 0 λ(v0:Int)=>.br (decide (v0<(script.length:Int))) (.cn (bT 4 4&&bJ 0 4&&decide (0<=v0/\v0<(script.length:Int))) (.br (decide ((script.getD v0.toNat (RK.cw RK.ab)).At<m.A1)) (.lf (Sum.inr 1301)) (.nx ((rZ/\nR RK.ab 4 script/\rE ((script.length:Int):Int)/\rE ((wrap i64 (v0+1)):Int)/\True)/\(mE m (((ak.Nil (ak.ints u32 m.Mem)\/rE (1:Nat))/\rE m.Mem)) True)/\True) (Sum.inl (wrap i64 (v0+1)))))) (.lf (Sum.inr 0)))))))))
def Za7 m script bq:=(PK m script bq).m
abbrev Qsw m script bq:=(PK m script bq).p
def Zd5:bn:={
 α:=(Int)
 F:=λst a=>([(3,.ptr 0 0 0),(33,(lk st 33)),(34,(lk st 34)),(35,.int i64 a)],[⟨true,42,49,.gen [mB (cT st 3)]⟩])
 a0:=λst=>(lk st 35).toInt
 iL:=λst=>[]++[(rX st 3 0)]}
def Z67:List (Nat×bn):=[(6,Zd5)]
def Zkn:bf:=mT 202 [] true [.agg av.sig,.one (.ax .ab),.one (.int .u64)] [] (λa r=>PK (av.of (aC a 0)) (iI .ab a 1) (ar a 2)) (λX=>.int .i64 X) (λX=>[])
theorem Ze1:bj pG Zkn:=oT (.cons Qkj (.cons Z5q (.nil))) Tryz.func202 Tryz.call202 [] Z67 3
def Qt0(m:av)(script:List ep)(bq:Int)(z:(Int)×av×(List dk)):Nat:=(bq-z.2.1.A1).toNat
def Qt7(m:av)(script:List ep)(bq:Int)(v0:Int×av×List dk)(z:(Int)×av):Nat:=(script.length-z.1).toNat
def PL(m:av)(script:List ep)(bq:Int):Tree (av×(List dk)×Int×Int):=
.an (Qsw m script bq) (.lv (Za7 m script bq) λ(x0:Int)=>let E4:=({B0:={X:={a0:=0,a1:=0,a2:=0,a3:=0,a4:=0,a5:=0,a6:=0,a7:=0,a8:=0,a9:=0,kv:=0,ky:=0,a12:=0,kz:=0,kA:=0,kB:=0},Pc:=0,B3:={a0:=0,a1:=0,a2:=0,a3:=0,a4:=0,a5:=0,a6:=0,a7:=0}},Mem:=[],A3:={C9:=[]},A9:={D3:=false,C3:=0,D2:=false},A7:={ag:=0,C2:=0,Frame:=0,B8:=0,D5:=0,B6:=0,B2:=0,B7:=[]},C1:={Frame:=0,D9:=0,C5:=false,B9:=0,B5:=false,F0:=0},A2:={C7:=0,C4:=0},A1:=0,A4:=false,A6:=false}:av);.br (x0 !=0) (.lf (E4,[],0,x0)) (.an (mY m.Mem) (.lv (jH m.Mem) λ(x1:List Int)=>let E7:=({B0:=m.B0,Mem:=x1,A3:=m.A3,A9:=m.A9,A7:=m.A7,C1:=m.C1,A2:=m.A2,A1:=m.A1,A4:=m.A4,A6:=m.A6}:av);.lp inferInstance (Qt0 m script bq (0,E7,[])+1) ((nR RK.ab 4 script/\rE (bq:Int)/\rZ/\rZ/\True/\rE (0:Int)/\rE (0:Int)/\True)/\(mE m (rE (x1:List Int)) True)/\(mE zM True True)/\rE ([]:List (RK.T RK.ay))/\True) (0,E7,[]) λ(v0:Int×av×List dk)=>.br (decide (v0.2.1.A1<bq)) (.br (decide (v0.2.1.A1<1152921504606846976)) (.lp inferInstance (Qt7 m script bq v0 (v0.1,v0.2.1)+1) ((nR RK.ab 4 script/\rE (bq:Int)/\rZ/\rZ/\True/\rE (0:Int)/\rE v0.1/\(rE (0:Nat)/\rE (46:Nat))/\rE v0.2.1.A1/\rE ((decide (v0.2.1.A1<1152921504606846976)):Bool)/\True)/\(mE v0.2.1 (((ak.Nil (ak.ints u32 v0.2.1.Mem)\/nX Nat 1 1)/\rE v0.2.1.Mem)) True)/\(mE zM True True)/\rE v0.2.2/\True) (v0.1,v0.2.1) λ(v1:Int×av)=>let E5:=bT 4 4&&bJ 0 4&&decide (0<=v1.1/\v1.1<(script.length:Int));let E6:=script.getD v1.1.toNat (RK.cw RK.ab);let E8:=decide (v1.1<(script.length:Int));let T1:Tree ((Int×av)⊕((Int×av×List dk)⊕((av×(List dk)×Int×Int)))):=.br v1.2.A6 (.lf (Sum.inr (Sum.inr (v1.2,v0.2.2,v1.1,0)))) (.an (YZ v1.2) (.lv (LK v1.2) λ(x3:Bool)=>.br x3 (.br E8 (.lf (Sum.inr (Sum.inr (E4,[],0,1303)))) (.lf (Sum.inr (Sum.inr (v1.2,v0.2.2,v1.1,0))))) (let T2:Tree ((Int×av)⊕((Int×av×List dk)⊕((av×(List dk)×Int×Int)))):=.an (Pe v1.2 0) (.lv (Bb v1.2 0) λ(x6:av×List dk)=>.cn (decide (40*(v0.2.2.length+x6.2.length)<=140737488355328)) (.nx ((nR RK.ab 4 script/\rE (bq:Int)/\rZ/\rZ/\True/\rE (0:Int)/\rE v1.1/\True)/\(mE x6.1 (((ak.Nil (ak.ints u32 x6.1.Mem)\/rE (1:Nat))/\rE x6.1.Mem)) True)/\(mE zM True True)/\rE ((v0.2.2++x6.2):List (RK.T RK.ay))/\True) (Sum.inr (Sum.inl (v1.1,x6.1,v0.2.2++x6.2)))));let T3:Tree ((Int×av)⊕((Int×av×List dk)⊕((av×(List dk)×Int×Int)))):=.lf (Sum.inr (Sum.inr (E4,[],0,1302)));.br E8 (.cn E5 (.an (Q8l v1.2) (.lv (Pj v1.2) λ(x4:Bool)=>.br (!x4==(E6.At==v1.2.A1)) T3 (.br (E6.At==v1.2.A1) (.cn E5 (.an (Pe v1.2 E6.C6.N) (.lv (Bb v1.2 E6.C6.N) λ(x5:av×List dk)=>.cn (decide (40*(v0.2.2.length+x5.2.length)<=140737488355328)) (.nx ((nR RK.ab 4 script/\rE (bq:Int)/\rZ/\rZ/\True/\rE (0:Int)/\rE ((wrap i64 (v1.1+1)):Int)/\True)/\(mE x5.1 (((ak.Nil (ak.ints u32 x5.1.Mem)\/rE (1:Nat))/\rE x5.1.Mem)) True)/\(mE zM True True)/\rE ((v0.2.2++x5.2):List (RK.T RK.ay))/\True) (Sum.inr (Sum.inl (wrap i64 (v1.1+1),x5.1,v0.2.2++x5.2))))))) T2)))) (.an (Q8l v1.2) (.lv (Pj v1.2) λ(x7:Bool)=>.br (!x7==false) T3 T2)))));.br E8 (.cn E5 (.br (E6.At==v1.2.A1) (.cn E5 (.br (E6.C6.C0 !=1) (.cn E5 (.an (Qe1 v1.2 E6.C6) (.lv (Mo v1.2 E6.C6) λ(x2:av×Bool)=>.nx ((nR RK.ab 4 script/\rE (bq:Int)/\rZ/\rZ/\True/\rE (0:Int)/\rE ((wrap i64 (v1.1+1)):Int)/\(rE (0:Nat)/\rE (46:Nat))/\rE v0.2.1.A1/\rE ((decide (v0.2.1.A1<1152921504606846976)):Bool)/\True)/\(mE x2.1 (rE x2.1.Mem) True)/\(mE zM True True)/\rE v0.2.2/\True) (Sum.inl (wrap i64 (v1.1+1),x2.1))))) T1)) T1)) T1) (.lf (Sum.inr (v0.2.1,v0.2.2,v0.1,0)))) (.lf (Sum.inr (v0.2.1,v0.2.2,v0.1,0))))))
def Wm m script bq:=(PL m script bq).m
abbrev P2 m script bq:=(PL m script bq).p
def Zmp:bn:={
 α:=(Int)×av×(List dk)
 F:=λst a=>([(1,(lk st 1)),(2,(lk st 2)),(3,.ptr 0 0 0),(6,.ptr 1 0 0),(11,.all 2),(12,(lk st 12)),(13,.int i64 a.1)],[⟨true,42,49,.gen [mD a.2.1 (.sl 1 (.ints u32 a.2.1.Mem) false)]⟩,⟨true,42,49,.gen [mB (cT st 6)]⟩,⟨false,137,4,.ax RK.ay a.2.2⟩])
 a0:=λst=>((lk st 13).toInt,(mR (cT st 3) (IV u32 st.rows (cT st 3 25))),(r9 RK.ay st.rows (rN st 11)))
 iL:=λst=>[]++[(rX st 3 0),(rX st 6 1),(rX st 11 2)]}
def Zm9:bn:={
 α:=(Int)×av
 F:=λst a=>([(1,(lk st 1)),(2,(lk st 2)),(3,.ptr 0 0 0),(6,.ptr 1 0 0),(11,.all 2),(12,(lk st 12)),(13,.int i64 a.1),(34,.ptr 0 0 46),(35,(lk st 35)),(36,(lk st 36))],[⟨true,42,49,.gen [mD a.2 (.sl 1 (.ints u32 a.2.Mem) false)]⟩,⟨true,42,49,.gen [mB (cT st 6)]⟩,⟨false,137,4,nL st.rows (rN st 11)⟩])
 a0:=λst=>((lk st 13).toInt,(mR (cT st 3) (IV u32 st.rows (cT st 3 25))))
 iL:=λst=>[]++[(rX st 3 0),(rX st 6 1),(rX st 11 2)]}
def Zeo:List (Nat×bn):=[(8,Zmp),(9,Zm9)]
def Zt:bf:=bf.fz<|mP 138 [] false [.agg av.sig,.one (.ax .ab),.one (.int .u64)] [] (λa r=>P2 (av.of (aC a 0)) (iI .ab a 1) (ar a 2)) (λa r=>Wm (av.of (aC a 0)) (iI .ab a 1) (ar a 2)) (λX=>.dt [.agg (av.cells (X.1)),.all 0,.int .i64 (X.2.2.1),.int .i64 (X.2.2.2)]) (λX=>[⟨false,137,4,.ax .ay (X.2.1)⟩])
theorem Qtw:bj pG Zt:=Nb<|ue drawn mQ (.cons Ze1 (.cons ET (.cons Z1h (.cons Qp3 (.cons Qph (.cons Z60 (.nil))))))) Tryz.func138 Tryz.call138 (λa r=>PL (av.of (aC a 0)) (iI .ab a 1) (ar a 2)) [.sl (.ints .u32) false,.row 137 4 (.ax .ay)] Zeo 3 (λ_ _ _=>by kernel_rfl) (λ_ _=>rfl) (λ_ _ h=>h) (λh=>by cases h)
end
noncomputable section
def Qme(m:av)(script:List ep)(cr:List Int)(z:(Int)×(Int)):Nat:=(cr.length-z.2).toNat
def PS(m:av)(script:List ep)(cr:List Int):Tree Int:=
.br (decide ((cr.length:Int)>(400:Int))) (.lf 4300) (.lp inferInstance (Qme m script cr (m.A1,0)+1) ((nR RK.ab 4 script/\rZ/\rE m.A1/\((ak.Nil (ak.ints u64 cr)\/rE (1:Nat))/\rE (cr:List Int))/\rE ((cr.length:Int):Int)/\rE (0:Int)/\True)/\(mE m (((ak.Nil (ak.ints u32 m.Mem)\/rE (1:Nat))/\rE m.Mem)) True)/\True) (m.A1,0) λ(v0:Int×Int)=>.br (decide (v0.2<(cr.length:Int))) (.cn (bT 1 1&&bJ 0 1&&decide (0<=v0.2/\v0.2<(cr.length:Int))) (.br (decide (cr.getD v0.2.toNat 0<v0.1)) (.lf (Sum.inr 4300)) (.br (decide (wrap u64 (cr.getD v0.2.toNat 0-v0.1)>4000)) (.lf (Sum.inr 4300)) (.nx ((nR RK.ab 4 script/\rZ/\rE ((cr.getD v0.2.toNat 0):Int)/\((ak.Nil (ak.ints u64 cr)\/rE (1:Nat))/\rE (cr:List Int))/\rE ((cr.length:Int):Int)/\rE ((wrap i64 (v0.2+1)):Int)/\True)/\(mE m (((ak.Nil (ak.ints u32 m.Mem)\/rE (1:Nat))/\rE m.Mem)) True)/\True) (Sum.inl (cr.getD v0.2.toNat 0,wrap i64 (v0.2+1))))))) (.an (P2 m script m.A1) (.lv (Wm m script m.A1) λ(x0:av×List dk×Int×Int)=>.lf (Sum.inr x0.2.2.2))))
def Quj m script cr:=(PS m script cr).m
abbrev Qhw m script cr:=(PS m script cr).p
def Z7v:bn:={
 α:=(Int)×(Int)
 F:=λst a=>([(1,(lk st 1)),(3,.ptr 0 0 0),(7,.int u64 a.1),(19,(lk st 19)),(20,(lk st 20)),(21,.int i64 a.2)],[⟨true,42,49,.gen [mB (cT st 3)]⟩])
 a0:=λst=>((lk st 7).toInt,(lk st 21).toInt)
 iL:=λst=>[]++[(rX st 3 0)]}
def Z2c:List (Nat×bn):=[(5,Z7v)]
def Zew:bf:=mT 80 [] true [.agg av.sig,.one (.ax .ab),.one (.ints .u64)] [] (λa r=>PS (av.of (aC a 0)) (iI .ab a 1) (eg .u64 a 2)) (λX=>.int .i64 X) (λX=>[])
theorem Qtd:bj pG Zew:=oT (.cons Qtw (.nil)) Tryz.func80 Tryz.call80 [] Z2c 3
def Qfl(m:av)(cr:List Int)(z:(Int)×(Int)):Nat:=(cr.length-z.2).toNat
def Q7(m:av)(cr:List Int):Tree Bool:=
.br (decide ((cr.length:Int)>(400:Int))) (.lf false) (.lp inferInstance (Qfl m cr (m.A1,0)+1) ((((ak.Nil (ak.ints u64 cr)\/rE (1:Nat))/\rE (cr:List Int))/\rE m.A1/\rE (0:Int)/\True)/\True) (m.A1,0) λ(v0:Int×Int)=>.br (decide (v0.2<(cr.length:Int))) (let E1:=bT 1 1&&bJ 0 1&&decide (0<=v0.2/\v0.2<(cr.length:Int));.cn E1 (.br (decide (cr.getD v0.2.toNat 0<v0.1)) (.lf (Sum.inr false)) (.cn E1 (.br (decide (wrap u64 (cr.getD v0.2.toNat 0-v0.1)>4000)) (.lf (Sum.inr false)) (.cn E1 (.nx ((((ak.Nil (ak.ints u64 cr)\/rE (1:Nat))/\rE (cr:List Int))/\rE ((cr.getD v0.2.toNat 0):Int)/\rE ((wrap i64 (v0.2+1)):Int)/\True)/\True) (Sum.inl (cr.getD v0.2.toNat 0,wrap i64 (v0.2+1))))))))) (.lf (Sum.inr true)))
def Qp9 m cr:=(Q7 m cr).m
abbrev Qiq m cr:=(Q7 m cr).p
def Qux:bn:={
 α:=(Int)×(Int)
 F:=λst a=>([(1,(lk st 1)),(5,.int u64 a.1),(6,.int i64 a.2)],[])
 a0:=λst=>((lk st 5).toInt,(lk st 6).toInt)
 iL:=λst=>[]++[]}
def Qs6:List (Nat×bn):=[(5,Qux)]
def Qxz:bf:=mT 83 [] true [.agg av.sig,.one (.ints .u64)] [] (λa r=>Q7 (av.of (aC a 0)) (eg .u64 a 1)) (λX=>.bool X) (λX=>[])
theorem Qvs:bj pG Qxz:=oT (.nil) Tryz.func83 Tryz.call83 [] Qs6 3
def Qo5(a b:List fx)(z:(Int)):Nat:=(a.length-z).toNat
def P6(a b:List fx):Tree Bool:=
.br ((a.length:Int) !=(b.length:Int)) (.lf false) (.lp inferInstance (Qo5 a b 0+1) ((nR RK.ae 2 a/\nR RK.ae 2 b/\rE (0:Int)/\True)/\True) 0 λ(v0:Int)=>.br (decide (v0<(a.length:Int))) (.cn (bT 2 2&&bJ 0 2&&decide (0<=v0/\v0<(a.length:Int))) (.cn (bT 2 2&&bJ 0 2&&decide (0<=v0/\v0<(b.length:Int))) (let E1:=a.getD v0.toNat (RK.cw RK.ae);let E2:=b.getD v0.toNat (RK.cw RK.ae);.br (!eqs [D.int u64 E1.At,D.int u64 E1.D4] [D.int u64 E2.At,D.int u64 E2.D4]) (.lf (Sum.inr false)) (.nx ((nR RK.ae 2 a/\nR RK.ae 2 b/\rE ((wrap i64 (v0+1)):Int)/\True)/\True) (Sum.inl (wrap i64 (v0+1))))))) (.lf (Sum.inr true)))
def Zbx a b:=(P6 a b).m
abbrev Qtj a b:=(P6 a b).p
def Zfn:bn:={
 α:=(Int)
 F:=λst a=>([(0,(lk st 0)),(1,(lk st 1)),(5,.int i64 a)],[])
 a0:=λst=>(lk st 5).toInt
 iL:=λst=>[]++[]}
def Z50:List (Nat×bn):=[(4,Zfn)]
def Zjx:bf:=mT 40 [] true [.one (.ax .ae),.one (.ax .ae)] [] (λa r=>P6 (iI .ae a 0) (iI .ae a 1)) (λX=>.bool X) (λX=>[])
theorem Zep:bj pG Zjx:=oT (.nil) Tryz.func40 Tryz.call40 [] Z50 3
def P4(kind:Int)(prog events:List Int):Tree (av×(List ep)):=
.an (Y1 kind prog) (.lv (FV kind prog) λ(x0:av)=>.an (Qmu x0 events) (.lv (YW x0 events) λ(x1:dj×List dk)=>.lf (x0,x1.1.C8)))
def Qss kind prog events:=(P4 kind prog events).m
abbrev Qkg kind prog events:=(P4 kind prog events).p
def Z2k:bf:=mT 36 [] true [.one (.int .i64),.one (.ints .i64),.one (.ints .i64)] [] (λa r=>P4 (ar a 0) (eg .i64 a 1) (eg .i64 a 2)) (λX=>.dt [.agg (av.ff (X.1) (.all 0)),.all 1]) (λX=>[⟨false,23,1,.ints .u32 (X.1).Mem⟩,⟨false,103,4,.ax .ab (X.2)⟩])
theorem Qy8:bj pG Z2k:=oT (.cons Qpx (.cons Zji (.nil))) Tryz.func36 Tryz.call36 [.row 23 1 (.ints .u32),.row 103 4 (.ax .ab)] [] 2
def Qfn(m:av)(l:List Int)(z:(Int)×(Int)×(List Int)):Nat:=(l.length-z.2.1).toNat
def P5(m:av)(l:List Int):Tree (List Int):=
.lp inferInstance (Qfn m l (m.A1,0,[])+1) ((((ak.Nil (ak.ints i64 l)\/rE (1:Nat))/\rE (l:List Int))/\True/\rE m.A1/\rE (0:Int)/\True)/\rE ([]:List Int)/\True) (m.A1,0,[]) λ(v0:Int×Int×List Int)=>.br (decide (v0.2.1<(l.length:Int))) (.cn (bT 1 1&&bJ 0 1&&decide (0<=v0.2.1/\v0.2.1<(l.length:Int))) (.an (Gt (l.getD v0.2.1.toNat 0) 20) (.lv (w7 (l.getD v0.2.1.toNat 0) 20) λ(x0:Int)=>.cn (decide (8*(v0.2.2.length+1)<=140737488355328)) (.nx ((((ak.Nil (ak.ints i64 l)\/rE (1:Nat))/\rE (l:List Int))/\True/\rE ((wrap u64 (v0.1+wrap u64 x0)):Int)/\rE ((wrap i64 (v0.2.1+1)):Int)/\True)/\rE ((v0.2.2++[wrap u64 (v0.1+wrap u64 x0)]):List Int)/\True) (Sum.inl (wrap u64 (v0.1+wrap u64 x0),wrap i64 (v0.2.1+1),v0.2.2++[wrap u64 (v0.1+wrap u64 x0)])))))) (.lf (Sum.inr v0.2.2))
def QF m l:=(P5 m l).m
abbrev Qbk m l:=(P5 m l).p
def Qx4:bn:={
 α:=(Int)×(Int)×(List Int)
 F:=λst a=>([(1,(lk st 1)),(5,.all 0),(6,.int u64 a.1),(7,.int i64 a.2.1)],[⟨false,40,1,.ints u64 a.2.2⟩])
 a0:=λst=>((lk st 6).toInt,(lk st 7).toInt,(mG st.rows (rN st 5)))
 iL:=λst=>[]++[(rX st 5 0)]}
def Qsc:List (Nat×bn):=[(4,Qx4)]
def Qzn:bf:=mT 38 [] true [.agg av.sig,.one (.ints .i64)] [] (λa r=>P5 (av.of (aC a 0)) (eg .i64 a 1)) (λX=>.all 0) (λX=>[⟨false,40,1,.ints .u64 X⟩])
theorem Qvj:bj pG Qzn:=oT (.cons Qh (.nil)) Tryz.func38 Tryz.call38 [.row 40 1 (.ints .u64)] Qsc 3
end
noncomputable section
def Qsx(m:av)(script:List ep)(bq:Int)(z:(Int)×av×(List dk)):Nat:=(bq-z.2.1.A1).toNat
def Qt(m:av)(script:List ep)(bq:Int)(v0:Int×av×List dk)(z:(Int)×av):Nat:=(script.length-z.1).toNat
def PH(m:av)(script:List ep)(bq:Int):Tree (av×(List dk)×Int×Int):=
.lv (o9 m) λ(x0:Bool)=>let E7:=({B0:={X:={a0:=0,a1:=0,a2:=0,a3:=0,a4:=0,a5:=0,a6:=0,a7:=0,a8:=0,a9:=0,kv:=0,ky:=0,a12:=0,kz:=0,kA:=0,kB:=0},Pc:=0,B3:={a0:=0,a1:=0,a2:=0,a3:=0,a4:=0,a5:=0,a6:=0,a7:=0}},Mem:=[],A3:={C9:=[]},A9:={D3:=false,C3:=0,D2:=false},A7:={ag:=0,C2:=0,Frame:=0,B8:=0,D5:=0,B6:=0,B2:=0,B7:=[]},C1:={Frame:=0,D9:=0,C5:=false,B9:=0,B5:=false,F0:=0},A2:={C7:=0,C4:=0},A1:=0,A4:=false,A6:=false}:av);let T4:Tree ((av×(List dk)×Int×Int)):=.lf (E7,[],0,1300);.br (!x0) T4 (.br (decide (bq<m.A1)) T4 (.br (decide (wrap u64 (bq-m.A1)>4000)) T4 (.br (decide ((script.length:Int)>(400:Int))) T4 (.an (K9 script) (.lv (Qpt script) λ(x1:Bool)=>let T5:Tree ((av×(List dk)×Int×Int)):=.lf (E7,[],0,1301);.br (!x1) T5 (let T1:Tree ((av×(List dk)×Int×Int)):=.an (Nn m) (.lv (Hv m) λ(x2:av)=>.lp inferInstance (Qsx m script bq (0,x2,[])+1) ((nR RK.ab 4 script/\rE (bq:Int)/\rZ/\rZ/\True/\rE (0:Int)/\True)/\(mE x2 True True)/\rE x2.Mem/\(mE zM True True)/\rE ([]:List (RK.T RK.ay))/\True) (0,x2,[]) λ(v0:Int×av×List dk)=>.br (decide (v0.2.1.A1<bq)) (.br (decide (v0.2.1.A1<1152921504606846976)) (.lp inferInstance (Qt m script bq v0 (v0.1,v0.2.1)+1) ((nR RK.ab 4 script/\rE (bq:Int)/\rZ/\rZ/\True/\rE v0.1/\(rE (0:Nat)/\rE (46:Nat))/\rE v0.2.1.A1/\rE ((decide (v0.2.1.A1<1152921504606846976)):Bool)/\True)/\(mE v0.2.1 True True)/\rE v0.2.1.Mem/\(mE zM True True)/\rE v0.2.2/\True) (v0.1,v0.2.1) λ(v1:Int×av)=>let E8:=bT 4 4&&bJ 0 4&&decide (0<=v1.1/\v1.1<(script.length:Int));let E9:=script.getD v1.1.toNat (RK.cw RK.ab);let mj:=decide (v1.1<(script.length:Int));let T2:Tree ((Int×av)⊕((Int×av×List dk)⊕((av×(List dk)×Int×Int)))):=.br v1.2.A6 (.lf (Sum.inr (Sum.inr (v1.2,v0.2.2,v1.1,0)))) (.an (Qh7 v1.2) (.lv (pH v1.2) λ(x4:Bool)=>.br x4 (.br mj (.lf (Sum.inr (Sum.inr (E7,[],0,1303)))) (.lf (Sum.inr (Sum.inr (v1.2,v0.2.2,v1.1,0))))) (let T3:Tree ((Int×av)⊕((Int×av×List dk)⊕((av×(List dk)×Int×Int)))):=.an (PI v1.2 0) (.lv (fe v1.2 0) λ(x7:List dk×av)=>.cn (decide (40*(v0.2.2.length+x7.1.length)<=140737488355328)) (.nx ((nR RK.ab 4 script/\rE (bq:Int)/\rZ/\rZ/\True/\rE v1.1/\True)/\(mE x7.2 True True)/\rE x7.2.Mem/\(mE zM True True)/\rE ((v0.2.2++x7.1):List (RK.T RK.ay))/\True) (Sum.inr (Sum.inl (v1.1,x7.2,v0.2.2++x7.1)))));let T6:Tree ((Int×av)⊕((Int×av×List dk)⊕((av×(List dk)×Int×Int)))):=.lf (Sum.inr (Sum.inr (E7,[],0,1302)));.br mj (.cn E8 (.an (Wb v1.2) (.lv (lU v1.2) λ(x5:Bool)=>.br (!(E9.At==v1.2.A1)==x5) T6 (.br (E9.At==v1.2.A1) (.cn E8 (.an (PI v1.2 E9.C6.N) (.lv (fe v1.2 E9.C6.N) λ(x6:List dk×av)=>.cn (decide (40*(v0.2.2.length+x6.1.length)<=140737488355328)) (.nx ((nR RK.ab 4 script/\rE (bq:Int)/\rZ/\rZ/\True/\rE ((wrap i64 (v1.1+1)):Int)/\True)/\(mE x6.2 True True)/\rE x6.2.Mem/\(mE zM True True)/\rE ((v0.2.2++x6.1):List (RK.T RK.ay))/\True) (Sum.inr (Sum.inl (wrap i64 (v1.1+1),x6.2,v0.2.2++x6.1))))))) T3)))) (.an (Wb v1.2) (.lv (lU v1.2) λ(x8:Bool)=>.br (!false==x8) T6 T3)))));.br mj (.cn E8 (.br (E9.At==v1.2.A1) (.cn E8 (.br (E9.C6.C0 !=1) (.cn E8 (.an (Qkx v1.2 E9.C6) (.lv (Q1 v1.2 E9.C6) λ(x3:Bool×av)=>.nx ((nR RK.ab 4 script/\rE (bq:Int)/\rZ/\rZ/\True/\rE ((wrap i64 (v1.1+1)):Int)/\(rE (0:Nat)/\rE (46:Nat))/\rE v0.2.1.A1/\rE ((decide (v0.2.1.A1<1152921504606846976)):Bool)/\True)/\(mE x3.2 True True)/\rE x3.2.Mem/\(mE zM True True)/\rE v0.2.2/\True) (Sum.inl (wrap i64 (v1.1+1),x3.2))))) T2)) T2)) T2) (.lf (Sum.inr (v0.2.1,v0.2.2,v0.1,0)))) (.lf (Sum.inr (v0.2.1,v0.2.2,v0.1,0))));.br (decide ((script.length:Int)>(0:Int))) (.cn (bT 4 4&&bJ 0 4&&decide ((0:Int)<=(0:Int)/\0<(script.length:Int))) (.br (decide ((script.getD (dF 0) (RK.cw RK.ab)).At<m.A1)) T5 T1)) T1))))))
def Zfi m script bq:=(PH m script bq).m
abbrev Qq7 m script bq:=(PH m script bq).p
def Zmy:bn:={
 α:=(Int)×av×(List dk)
 F:=λst a=>([(1,(lk st 1)),(2,(lk st 2)),(3,.ptr 0 0 0),(6,.ptr 2 0 0),(10,.all 3),(11,.int i64 a.1)],[⟨true,42,49,.gen [mD a.2.1 (.all 1)]⟩,⟨false,23,1,.ints u32 a.2.1.Mem⟩,⟨true,42,49,.gen [mB (cT st 6)]⟩,⟨false,137,4,.ax RK.ay a.2.2⟩])
 a0:=λst=>((lk st 11).toInt,(mR (cT st 3) (mG st.rows (kP (cT st 3 25) 1000000))),(r9 RK.ay st.rows (rN st 10)))
 iL:=λst=>[]++[(rX st 3 0),(kP (cT st 3 25) (st.rows.length+1)),(rX st 6 2),(rX st 10 3)]}
def Znd:bn:={
 α:=(Int)×av
 F:=λst a=>([(1,(lk st 1)),(2,(lk st 2)),(3,.ptr 0 0 0),(6,.ptr 2 0 0),(10,.all 3),(11,.int i64 a.1),(61,.ptr 0 0 46),(62,(lk st 62)),(63,(lk st 63))],[⟨true,42,49,.gen [mD a.2 (.all 1)]⟩,⟨false,23,1,.ints u32 a.2.Mem⟩,⟨true,42,49,.gen [mB (cT st 6)]⟩,⟨false,137,4,nL st.rows (rN st 10)⟩])
 a0:=λst=>((lk st 11).toInt,(mR (cT st 3) (mG st.rows (kP (cT st 3 25) 1000000))))
 iL:=λst=>[]++[(rX st 3 0),(kP (cT st 3 25) (st.rows.length+1)),(rX st 6 2),(rX st 10 3)]}
def Zch:List (Nat×bn):=[(8,Zmy),(9,Znd)]
def Zsb:bf:=mT 52 [] true [.agg av.sig,.one (.ax .ab),.one (.int .u64)] [] (λa r=>PH (av.of (aC a 0)) (iI .ab a 1) (ar a 2)) (λX=>.dt [.agg (av.ff (X.1) (.all 0)),.all 1,.int .i64 (X.2.2.1),.int .i64 (X.2.2.2)]) (λX=>[⟨false,23,1,.ints .u32 (X.1).Mem⟩,⟨false,137,4,.ax .ay (X.2.1)⟩])
theorem Z6u:bj pG Zsb:=oT (.cons Wd (.cons Qpf (.cons Wa (.cons Qwu (.cons Qqh (.cons Qms (.cons Qqy (.nil)))))))) Tryz.func52 Tryz.call52 [.row 23 1 (.ints .u32),.row 137 4 (.ax .ay)] Zch 3
end
noncomputable section
def PY(m:av)(script:List ep)(cr:Int):Tree (av×Int×Int):=
.an (Qq7 m script cr) (.lv (Zfi m script cr) λ(x0:av×List dk×Int×Int)=>.lf (x0.1,x0.2.2.1,x0.2.2.2))
def Qxb m script cr:=(PY m script cr).m
abbrev Ql9 m script cr:=(PY m script cr).p
def Z58:bf:=mT 84 [] true [.agg av.sig,.one (.ax .ab),.one (.int .u64)] [] (λa r=>PY (av.of (aC a 0)) (iI .ab a 1) (ar a 2)) (λX=>.dt [.agg (av.ff (X.1) (.all 0)),.int .i64 (X.2.1),.int .i64 (X.2.2)]) (λX=>[⟨false,23,1,.ints .u32 (X.1).Mem⟩])
theorem Z1t:bj pG Z58:=oT (.cons Z6u (.nil)) Tryz.func84 Tryz.call84 [.row 23 1 (.ints .u32)] [] 2
def Qj(m:av)(script:List ep)(cr:List Int)(z:(List ep)×(Int)×av×(List fx)):Nat:=(cr.length-z.2.1).toNat
def PZ(m:av)(script:List ep)(cr:List Int):Tree ((List fx)×Int):=
.an (Qiq m cr) (.lv (Qp9 m cr) λ(x0:Bool)=>.br (!x0) (.lf ([],4300)) (.an (Qq7 m script m.A1) (.lv (Zfi m script m.A1) λ(x1:av×List dk×Int×Int)=>.br (x1.2.2.2 !=0) (.lf ([],x1.2.2.2)) (.lp inferInstance (Qj m script cr (script,0,m,[])+1) ((nR RK.ab 4 script/\((ak.Nil (ak.ints u64 cr)\/rE (1:Nat))/\rE (cr:List Int))/\rZ/\True/\rE (0:Int)/\True)/\(mE m (((ak.Nil (ak.ints u32 m.Mem)\/rE (1:Nat))/\rE m.Mem)) True)/\rE ([]:List (RK.T RK.ae))/\True) (script,0,m,[]) λ(v0:List ep×Int×av×List fx)=>.br (decide (v0.2.1<(cr.length:Int))) (let E1:=bT 1 1&&bJ 0 1&&decide (0<=v0.2.1/\v0.2.1<(cr.length:Int));.cn E1 (let E2:=cr.getD v0.2.1.toNat 0;.an (Ql9 v0.2.2.1 v0.1 E2) (.lv (Qxb v0.2.2.1 v0.1 E2) λ(x2:av×Int×Int)=>.br (x2.2.2 !=0) (.lf (Sum.inr ([],x2.2.2))) (.cn (bT 4 4&&bJ 0 4&&decide (0<=x2.2.1/\x2.2.1<=(v0.1.length:Int)/\(v0.1.length:Int)<=(v0.1.length:Int))) (.cn E1 (.an (Y7 x2.1) (.lv (Y8 x2.1) λ(x3:Int)=>.cn (decide (16*(v0.2.2.2.length+1)<=140737488355328)) (.nx ((((ak.Nil (ak.ax RK.ab (dB (dF (v0.1.length:Int)-dF x2.2.1) (dC x2.2.1.toNat v0.1)))\/nX Nat 4 4)/\rE ((dB (dF (v0.1.length:Int)-dF x2.2.1) (dC x2.2.1.toNat v0.1)):List (RK.T RK.ab)))/\((ak.Nil (ak.ints u64 cr)\/rE (1:Nat))/\rE (cr:List Int))/\rZ/\True/\rE ((wrap i64 (v0.2.1+1)):Int)/\True)/\(mE x2.1 (rE x2.1.Mem) True)/\rE ((v0.2.2.2++[{At:=cr.getD v0.2.1.toNat 0,D4:=x3}]):List (RK.T RK.ae))/\True) (Sum.inl (dB (dF (v0.1.length:Int)-dF x2.2.1) (dC x2.2.1.toNat v0.1),wrap i64 (v0.2.1+1),x2.1,v0.2.2.2++[{At:=cr.getD v0.2.1.toNat 0,D4:=x3}])))))))))) (.lf (Sum.inr (v0.2.2.2,0)))))))
def Qw4 m script cr:=(PZ m script cr).m
abbrev Qlq m script cr:=(PZ m script cr).p
def Z1y:bn:={
 α:=(List ep)×(Int)×av×(List fx)
 F:=λst a=>([(1,.sl 4 (.ax RK.ab a.1) false),(2,(lk st 2)),(3,.ptr 0 0 0),(12,.all 1),(13,.int i64 a.2.1)],[⟨true,42,49,.gen [mD a.2.2.1 (.sl 1 (.ints u32 a.2.2.1.Mem) false)]⟩,⟨false,100,2,.ax RK.ae a.2.2.2⟩])
 a0:=λst=>((sJ RK.ab (lk st 1)),(lk st 13).toInt,(mR (cT st 3) (IV u32 st.rows (cT st 3 25))),(r9 RK.ae st.rows (rN st 12)))
 iL:=λst=>[]++[(rX st 3 0),(rX st 12 1)]}
def Quz:List (Nat×bn):=[(8,Z1y)]
def Z4o:bf:=mT 39 [] true [.agg av.sig,.one (.ax .ab),.one (.ints .u64)] [] (λa r=>PZ (av.of (aC a 0)) (iI .ab a 1) (eg .u64 a 2)) (λX=>.dt [.all 0,.int .i64 (X.2)]) (λX=>[⟨false,100,2,.ax .ae (X.1)⟩])
theorem Z2h:bj pG Z4o:=oT (.cons Qvs (.cons Z6u (.cons Z1t (.cons Zjm (.nil))))) Tryz.func39 Tryz.call39 [.row 100 2 (.ax .ae)] Quz 3
end
noncomputable section
def PV(i hash err:Int)(lB:List fx)(lC:List Int)(ua:Int):Tree (Bool×(List fx)×(List Int)×Int):=
.cn (bT 1 1&&bJ 0 1&&decide (0<=i/\i<(lC.length:Int))) (.cn (decide (16*(lB.length+1)<=140737488355328)) (.lf (true,lB++[{At:=lC.getD i.toNat 0,D4:=hash}],lC,err)))
def Qnd i hash err lB lC ua:=(PV i hash err lB lC ua).m
abbrev Qee i hash err lB lC ua:=(PV i hash err lB lC ua).p
def Z5r:bf:=mi 3 82 [false,false,false,true,true,true] [.one (.int .i64),.one (.int .u64),.one (.int .i64),.ptr 0,.ptr 1,.ptr 2] [.box 87 1 [.row 3],.box 91 1 [.ints .u64],.box 88 1 [.int .i64],.arr 100 2 (.ax .ae)] (λa r=>Qee (ar a 0) (ar a 1) (ar a 2) (jV .ae r 3) (nI .u64 (oe r 1 0)) (oe r 2 0).toInt) (λa r=>Qnd (ar a 0) (ar a 1) (ar a 2) (jV .ae r 3) (nI .u64 (oe r 1 0)) (oe r 2 0).toInt) (λX=>.bool (X.1)) (λX=>[⟨true,87,1,.gen [[.all 3]]⟩,⟨true,91,1,.gen [[.sl 1 (.ints .u64 X.2.2.1) false]]⟩,⟨true,88,1,.gen [[.int .i64 X.2.2.2]]⟩,⟨false,100,2,.ax .ae (X.2.1)⟩])
theorem Qog:bj pG Z5r:=ES drawn mQ (.nil) Tryz.func82 Tryz.call82 (λa r=>PV (ar a 0) (ar a 1) (ar a 2) (jV .ae r 3) (nI .u64 (oe r 1 0)) (oe r 2 0).toInt) [.row 100 2 (.ax .ae),.sl (.ints .u64) false] [] 2 (λ_ _ _=>by kernel_rfl) (λ_ _=>rfl) (λ_ _ h=>h)
def Qgk(m:av)(script:List ep)(cr:List Int)(vl:List fx)(va:List Int)(vf:Int)(z:(List ep)×(Int)×(List Int)×(Int)×(List fx)×av):Nat:=(cr.length-z.2.1).toNat
def PW(m:av)(script:List ep)(cr:List Int)(vl:List fx)(va:List Int)(vf:Int):Tree ((List fx)×(List Int)×Int):=
.lp inferInstance (Qgk m script cr vl va vf (script,0,va,vf,vl,m)+1) ((nR RK.ab 4 script/\True/\rZ/\((ak.Nil (ak.ints u64 cr)\/rE (1:Nat))/\rE (cr:List Int))/\rE ((cr.length:Int):Int)/\rE (0:Int)/\True)/\(True/\True)/\(((ak.Nil (ak.ints u64 va)\/rE (1:Nat))/\rE (va:List Int))/\True)/\(rE (vf:Int)/\True)/\rE (vl:List (RK.T RK.ae))/\(mE m (((ak.Nil (ak.ints u32 m.Mem)\/rE (1:Nat))/\rE m.Mem)) True)/\True) (script,0,va,vf,vl,m) λ(v0:List ep×Int×List Int×Int×List fx×av)=>.br (decide (v0.2.1<(cr.length:Int))) (.cn (bT 1 1&&bJ 0 1&&decide (0<=v0.2.1/\v0.2.1<(cr.length:Int))) (let E1:=cr.getD v0.2.1.toNat 0;.an (P2 v0.2.2.2.2.2 v0.1 E1) (.lv (Wm v0.2.2.2.2.2 v0.1 E1) λ(x0:av×List dk×Int×Int)=>.br (x0.2.2.2 !=0) (.an (Qee v0.2.1 0 x0.2.2.2 v0.2.2.2.2.1 v0.2.2.1 v0.2.2.2.1) (.lv (Qnd v0.2.1 0 x0.2.2.2 v0.2.2.2.2.1 v0.2.2.1 v0.2.2.2.1) λ(x1:Bool×List fx×List Int×Int)=>.lf (Sum.inr (x1.2.1,x1.2.2.1,x1.2.2.2)))) (.cn (bT 4 4&&bJ 0 4&&decide (0<=x0.2.2.1/\x0.2.2.1<=(v0.1.length:Int)/\(v0.1.length:Int)<=(v0.1.length:Int))) (.an (UI x0.1) (.lv (UJ x0.1) λ(x2:Int)=>.an (Qee v0.2.1 x2 0 v0.2.2.2.2.1 v0.2.2.1 v0.2.2.2.1) (.lv (Qnd v0.2.1 x2 0 v0.2.2.2.2.1 v0.2.2.1 v0.2.2.2.1) λ(x3:Bool×List fx×List Int×Int)=>.br (!x3.1) (.lf (Sum.inr (x3.2.1,x3.2.2.1,x3.2.2.2))) (.nx ((((ak.Nil (ak.ax RK.ab (dB (dF (v0.1.length:Int)-dF x0.2.2.1) (dC x0.2.2.1.toNat v0.1)))\/nX Nat 4 4)/\rE ((dB (dF (v0.1.length:Int)-dF x0.2.2.1) (dC x0.2.2.1.toNat v0.1)):List (RK.T RK.ab)))/\True/\rZ/\((ak.Nil (ak.ints u64 cr)\/rE (1:Nat))/\rE (cr:List Int))/\rE ((cr.length:Int):Int)/\rE ((wrap i64 (v0.2.1+1)):Int)/\True)/\(True/\True)/\(((ak.Nil (ak.ints u64 x3.2.2.1)\/nX Nat 1 1)/\rE x3.2.2.1)/\True)/\(rE x3.2.2.2/\True)/\rE x3.2.1/\(mE x0.1 (((ak.Nil (ak.ints u32 x0.1.Mem)\/nX Nat 1 1)/\rE x0.1.Mem)) True)/\True) (Sum.inl (dB (dF (v0.1.length:Int)-dF x0.2.2.1) (dC x0.2.2.1.toNat v0.1),wrap i64 (v0.2.1+1),x3.2.2.1,x3.2.2.2,x3.2.1,x0.1)))))))))) (.lf (Sum.inr (v0.2.2.2.2.1,v0.2.2.1,v0.2.2.2.1)))
def Qt2 m script cr vl va vf:=(PW m script cr vl va vf).m
abbrev Qk8 m script cr vl va vf:=(PW m script cr vl va vf).p
def Qxp:bn:={
 α:=(List ep)×(Int)×(List Int)×(Int)×(List fx)×av
 F:=λst a=>([(1,.sl 4 (.ax RK.ab a.1) false),(3,.gq 82 [.ptr 0 0 0,.ptr 1 0 0,.ptr 2 0 0]),(4,.ptr 4 0 0),(14,(lk st 14)),(15,(lk st 15)),(16,.int i64 a.2.1)],[⟨true,87,1,.gen [[.all 3]]⟩,⟨true,91,1,.gen [[.sl 1 (.ints u64 a.2.2.1) false]]⟩,⟨true,88,1,.gen [[.int i64 a.2.2.2.1]]⟩,⟨false,100,2,.ax RK.ae a.2.2.2.2.1⟩,⟨true,42,49,.gen [mD a.2.2.2.2.2 (.sl 1 (.ints u32 a.2.2.2.2.2.Mem) false)]⟩])
 a0:=λst=>((sJ RK.ab (lk st 1)),(lk st 16).toInt,(nI u64 (iV st.rows 1 0)),(iV st.rows 2 0).toInt,(r9 RK.ae st.rows (kP (iV st.rows 0 0) 1000000)),(mR (cT st 4) (nI u32 (cT st 4 25))))
 iL:=λst=>[0,1,2]++[(kP (iV st.rows 0 0) (st.rows.length+3)),(rX st 4 4)]}
def Qu8:List (Nat×bn):=[(2,Qxp)]
def Z1o:bf:=mi 3 81 [false,false,false,true] [.agg av.sig,.one (.ax .ab),.one (.ints .u64),.gq 82 [.ptr 0 0 0,.ptr 1 0 0,.ptr 2 0 0]] [.box 87 1 [.row 3],.box 91 1 [.ints .u64],.box 88 1 [.int .i64],.arr 100 2 (.ax .ae)] (λa r=>Qk8 (av.of (aC a 0)) (iI .ab a 1) (eg .u64 a 2) (jV .ae r 3) (nI .u64 (oe r 1 0)) (oe r 2 0).toInt) (λa r=>Qt2 (av.of (aC a 0)) (iI .ab a 1) (eg .u64 a 2) (jV .ae r 3) (nI .u64 (oe r 1 0)) (oe r 2 0).toInt) (λX=>.dt []) (λX=>[⟨true,87,1,.gen [[.all 3]]⟩,⟨true,91,1,.gen [[.sl 1 (.ints .u64 X.2.1) false]]⟩,⟨true,88,1,.gen [[.int .i64 X.2.2]]⟩,⟨false,100,2,.ax .ae (X.1)⟩])
theorem Qmd:bj pG Z1o:=ES drawn mQ (.cons Qtw (.cons Qpv (.cons Qog (.nil)))) Tryz.func81 Tryz.call81 (λa r=>PW (av.of (aC a 0)) (iI .ab a 1) (eg .u64 a 2) (jV .ae r 3) (nI .u64 (oe r 1 0)) (oe r 2 0).toInt) [.row 100 2 (.ax .ae),.sl (.ints .u64) false] Qu8 3 (λ_ _ _=>by kernel_rfl) (λ_ _=>rfl) (λ_ _ h=>h)
def PX(m:av)(script:List ep)(cr:List Int):Tree ((List fx)×Int):=
.an (Qhw m script cr) (.lv (Quj m script cr) λ(x0:Int)=>.br (x0 !=0) (.lf ([],x0)) (.an (Qk8 m script cr [] cr 0) (.lv (Qt2 m script cr [] cr 0) λ(x1:List fx×List Int×Int)=>.br (x1.2.2 !=0) (.lf ([],x1.2.2)) (.lf (x1.1,0)))))
def Qu4 m script cr:=(PX m script cr).m
abbrev Qji m script cr:=(PX m script cr).p
def Zdj:bf:=mT 37 [] true [.agg av.sig,.one (.ax .ab),.one (.ints .u64)] [] (λa r=>PX (av.of (aC a 0)) (iI .ab a 1) (eg .u64 a 2)) (λX=>.dt [.all 0,.int .i64 (X.2)]) (λX=>[⟨false,100,2,.ax .ae (X.1)⟩])
theorem Qsr:bj pG Zdj:=oT (.cons Qtd (.cons Qmd (.cons Qog (.cons Qmd (.nil))))) Tryz.func37 Tryz.call37 [.row 100 2 (.ax .ae)] [] 2
def P0(i hash err:Int)(lB:List fx)(lC:av)(ua:jW)(oc:List Int):Tree (Bool×(List fx)×av×jW×(List Int)):=
let T1:Tree ((Bool×(List fx)×av×jW×(List Int))):=.br (decide (i>0)) (.cn (bT 1 1&&bJ 0 1&&decide (0<=wrap i64 (i-1)/\wrap i64 (i-1)<(oc.length:Int))) (.lf (false,lB,lC,{Good:=false,D8:=i,At:=oc.getD (dF (wrap i64 (i-1))) 0},oc))) (.lf (false,lB,lC,{Good:=false,D8:=i,At:=lC.A1},oc));.br (err==0) (.cn (bT 2 2&&bJ 0 2&&decide (0<=i/\i<(lB.length:Int))) (.br (hash==(lB.getD i.toNat (RK.cw RK.ae)).D4) (.lf (true,lB,lC,ua,oc)) T1)) T1
def Qmv i hash err lB lC ua oc:=(P0 i hash err lB lC ua oc).m
abbrev Qef i hash err lB lC ua oc:=(P0 i hash err lB lC ua oc).p
def Z5p:bf:=mi 4 86 [false,false,false,true,true,true,true] [.one (.int .i64),.one (.int .u64),.one (.int .i64),.ptr 0,.ptr 1,.ptr 2,.ptr 3] [.box 87 1 [.ax .ae],.box 42 49 av.sig,.box 95 3 jW.sig,.box 91 1 [.ints .u64]] (λa r=>Qef (ar a 0) (ar a 1) (ar a 2) (sJ .ae (oe r 0 0)) (av.of (r.getD 1 default).cs) (jW.of (r.getD 2 default).cs) (nI .u64 (oe r 3 0))) (λa r=>Qmv (ar a 0) (ar a 1) (ar a 2) (sJ .ae (oe r 0 0)) (av.of (r.getD 1 default).cs) (jW.of (r.getD 2 default).cs) (nI .u64 (oe r 3 0))) (λX=>.bool (X.1)) (λX=>[⟨true,87,1,.gen [[.sl 2 (.ax .ae X.2.1) false]]⟩,⟨true,42,49,.gen [(av.cells (X.2.2.1))]⟩,⟨true,95,3,.gen [(jW.cells (X.2.2.2.1))]⟩,⟨true,91,1,.gen [[.sl 1 (.ints .u64 X.2.2.2.2) false]]⟩])
theorem Qo7:bj pG Z5p:=ES drawn mQ (.nil) Tryz.func86 Tryz.call86 (λa r=>P0 (ar a 0) (ar a 1) (ar a 2) (sJ .ae (oe r 0 0)) (av.of (r.getD 1 default).cs) (jW.of (r.getD 2 default).cs) (nI .u64 (oe r 3 0))) [.sl (.ax .ae) false,.sl (.ints .u32) false,.sl (.ints .u64) false] [] 2 (λ_ _ _=>by kernel_rfl) (λ_ _=>rfl) (λ_ _ h=>h)
def Qgh(m:av)(script:List ep)(cr:List Int)(vl:List fx)(vm:av)(vv:jW)(va:List Int)(z:(List ep)×(Int)×(List fx)×av×jW×(List Int)×av):Nat:=(cr.length-z.2.1).toNat
def P1(m:av)(script:List ep)(cr:List Int)(vl:List fx)(vm:av)(vv:jW)(va:List Int):Tree ((List fx)×av×jW×(List Int)):=
.lp inferInstance (Qgh m script cr vl vm vv va (script,0,vl,vm,vv,va,m)+1) ((nR RK.ab 4 script/\True/\rZ/\((ak.Nil (ak.ints u64 cr)\/rE (1:Nat))/\rE (cr:List Int))/\rE ((cr.length:Int):Int)/\rE (0:Int)/\True)/\(nR RK.ae 2 vl/\True)/\(mE vm (((ak.Nil (ak.ints u32 vm.Mem)\/rE (1:Nat))/\rE vm.Mem)) True)/\(rE vv.Good/\rE vv.D8/\rE vv.At/\True)/\(((ak.Nil (ak.ints u64 va)\/rE (1:Nat))/\rE (va:List Int))/\True)/\(mE m (((ak.Nil (ak.ints u32 m.Mem)\/rE (1:Nat))/\rE m.Mem)) True)/\True) (script,0,vl,vm,vv,va,m) λ(v0:List ep×Int×List fx×av×jW×List Int×av)=>.br (decide (v0.2.1<(cr.length:Int))) (.cn (bT 1 1&&bJ 0 1&&decide (0<=v0.2.1/\v0.2.1<(cr.length:Int))) (let E1:=cr.getD v0.2.1.toNat 0;.an (P2 v0.2.2.2.2.2.2 v0.1 E1) (.lv (Wm v0.2.2.2.2.2.2 v0.1 E1) λ(x0:av×List dk×Int×Int)=>.br (x0.2.2.2 !=0) (.an (Qef v0.2.1 0 x0.2.2.2 v0.2.2.1 v0.2.2.2.1 v0.2.2.2.2.1 v0.2.2.2.2.2.1) (.lv (Qmv v0.2.1 0 x0.2.2.2 v0.2.2.1 v0.2.2.2.1 v0.2.2.2.2.1 v0.2.2.2.2.2.1) λ(x1:Bool×List fx×av×jW×List Int)=>.lf (Sum.inr (x1.2.1,x1.2.2.1,x1.2.2.2.1,x1.2.2.2.2)))) (.cn (bT 4 4&&bJ 0 4&&decide (0<=x0.2.2.1/\x0.2.2.1<=(v0.1.length:Int)/\(v0.1.length:Int)<=(v0.1.length:Int))) (.an (UI x0.1) (.lv (UJ x0.1) λ(x2:Int)=>.an (Qef v0.2.1 x2 0 v0.2.2.1 v0.2.2.2.1 v0.2.2.2.2.1 v0.2.2.2.2.2.1) (.lv (Qmv v0.2.1 x2 0 v0.2.2.1 v0.2.2.2.1 v0.2.2.2.2.1 v0.2.2.2.2.2.1) λ(x3:Bool×List fx×av×jW×List Int)=>.br (!x3.1) (.lf (Sum.inr (x3.2.1,x3.2.2.1,x3.2.2.2.1,x3.2.2.2.2))) (.nx ((((ak.Nil (ak.ax RK.ab (dB (dF (v0.1.length:Int)-dF x0.2.2.1) (dC x0.2.2.1.toNat v0.1)))\/nX Nat 4 4)/\rE ((dB (dF (v0.1.length:Int)-dF x0.2.2.1) (dC x0.2.2.1.toNat v0.1)):List (RK.T RK.ab)))/\True/\rZ/\((ak.Nil (ak.ints u64 cr)\/rE (1:Nat))/\rE (cr:List Int))/\rE ((cr.length:Int):Int)/\rE ((wrap i64 (v0.2.1+1)):Int)/\True)/\(((ak.Nil (ak.ax RK.ae x3.2.1)\/nX Nat 2 2)/\rE x3.2.1)/\True)/\(mE x3.2.2.1 (((ak.Nil (ak.ints u32 x3.2.2.1.Mem)\/nX Nat 1 1)/\rE x3.2.2.1.Mem)) True)/\(rE x3.2.2.2.1.Good/\rE x3.2.2.2.1.D8/\rE x3.2.2.2.1.At/\True)/\(((ak.Nil (ak.ints u64 x3.2.2.2.2)\/nX Nat 1 1)/\rE x3.2.2.2.2)/\True)/\(mE x0.1 (((ak.Nil (ak.ints u32 x0.1.Mem)\/nX Nat 1 1)/\rE x0.1.Mem)) True)/\True) (Sum.inl (dB (dF (v0.1.length:Int)-dF x0.2.2.1) (dC x0.2.2.1.toNat v0.1),wrap i64 (v0.2.1+1),x3.2.1,x3.2.2.1,x3.2.2.2.1,x3.2.2.2.2,x0.1)))))))))) (.lf (Sum.inr (v0.2.2.1,v0.2.2.2.1,v0.2.2.2.2.1,v0.2.2.2.2.2.1)))
def Qt4 m script cr vl vm vv va:=(P1 m script cr vl vm vv va).m
abbrev Qjz m script cr vl vm vv va:=(P1 m script cr vl vm vv va).p
def Qz:bn:={
 α:=(List ep)×(Int)×(List fx)×av×jW×(List Int)×av
 F:=λst a=>([(1,.sl 4 (.ax RK.ab a.1) false),(3,.gq 86 [.ptr 0 0 0,.ptr 1 0 0,.ptr 2 0 0,.ptr 3 0 0]),(4,.ptr 4 0 0),(14,(lk st 14)),(15,(lk st 15)),(16,.int i64 a.2.1)],[⟨true,87,1,.gen [[.sl 2 (.ax RK.ae a.2.2.1) false]]⟩,⟨true,42,49,.gen [mD a.2.2.2.1 (.sl 1 (.ints u32 a.2.2.2.1.Mem) false)]⟩,⟨true,95,3,.gen [[.bool a.2.2.2.2.1.Good,.int i64 a.2.2.2.2.1.D8,.int u64 a.2.2.2.2.1.At]]⟩,⟨true,91,1,.gen [[.sl 1 (.ints u64 a.2.2.2.2.2.1) false]]⟩,⟨true,42,49,.gen [mD a.2.2.2.2.2.2 (.sl 1 (.ints u32 a.2.2.2.2.2.2.Mem) false)]⟩])
 a0:=λst=>((sJ RK.ab (lk st 1)),(lk st 16).toInt,(sJ RK.ae (iV st.rows 0 0)),(⟨(⟨(⟨(iV st.rows 1 0).toInt,(iV st.rows 1 1).toInt,(iV st.rows 1 2).toInt,(iV st.rows 1 3).toInt,(iV st.rows 1 4).toInt,(iV st.rows 1 5).toInt,(iV st.rows 1 6).toInt,(iV st.rows 1 7).toInt,(iV st.rows 1 8).toInt,(iV st.rows 1 9).toInt,(iV st.rows 1 10).toInt,(iV st.rows 1 11).toInt,(iV st.rows 1 12).toInt,(iV st.rows 1 13).toInt,(iV st.rows 1 14).toInt,(iV st.rows 1 15).toInt⟩:(gn Int)),(iV st.rows 1 16).toInt,(⟨(iV st.rows 1 17).toInt,(iV st.rows 1 18).toInt,(iV st.rows 1 19).toInt,(iV st.rows 1 20).toInt,(iV st.rows 1 21).toInt,(iV st.rows 1 22).toInt,(iV st.rows 1 23).toInt,(iV st.rows 1 24).toInt⟩:(A8 Int))⟩:bm),(nI u32 (iV st.rows 1 25)),(⟨(iV st.rows 1 26).toStr⟩:iY),(⟨(iV st.rows 1 27).toBool,(iV st.rows 1 28).toInt,(iV st.rows 1 29).toBool⟩:iZ),(⟨(iV st.rows 1 30).toInt,(iV st.rows 1 31).toInt,(iV st.rows 1 32).toInt,(iV st.rows 1 33).toInt,(iV st.rows 1 34).toInt,(iV st.rows 1 35).toInt,(iV st.rows 1 36).toInt,(iV st.rows 1 37).toStr⟩:fv),(⟨(iV st.rows 1 38).toInt,(iV st.rows 1 39).toInt,(iV st.rows 1 40).toBool,(iV st.rows 1 41).toInt,(iV st.rows 1 42).toBool,(iV st.rows 1 43).toInt⟩:ik),(⟨(iV st.rows 1 44).toInt,(iV st.rows 1 45).toInt⟩:iu),(iV st.rows 1 46).toInt,(iV st.rows 1 47).toBool,(iV st.rows 1 48).toBool⟩:av),(⟨(iV st.rows 2 0).toBool,(iV st.rows 2 1).toInt,(iV st.rows 2 2).toInt⟩:jW),(nI u64 (iV st.rows 3 0)),(mR (cT st 4) (nI u32 (cT st 4 25))))
 iL:=λst=>[0,1,2,3]++[(rX st 4 4)]}
def Qtv:List (Nat×bn):=[(2,Qz)]
def Z20:bf:=bf.fz<|mi 4 81 [false,false,false,true] [.agg av.sig,.one (.ax .ab),.one (.ints .u64),.gq 86 [.ptr 0 0 0,.ptr 1 0 0,.ptr 2 0 0,.ptr 3 0 0]] [.box 87 1 [.ax .ae],.box 42 49 av.sig,.box 95 3 jW.sig,.box 91 1 [.ints .u64]] (λa r=>Qjz (av.of (aC a 0)) (iI .ab a 1) (eg .u64 a 2) (sJ .ae (oe r 0 0)) (av.of (r.getD 1 default).cs) (jW.of (r.getD 2 default).cs) (nI .u64 (oe r 3 0))) (λa r=>Qt4 (av.of (aC a 0)) (iI .ab a 1) (eg .u64 a 2) (sJ .ae (oe r 0 0)) (av.of (r.getD 1 default).cs) (jW.of (r.getD 2 default).cs) (nI .u64 (oe r 3 0))) (λX=>.dt []) (λX=>[⟨true,87,1,.gen [[.sl 2 (.ax .ae X.1) false]]⟩,⟨true,42,49,.gen [(av.cells (X.2.1))]⟩,⟨true,95,3,.gen [(jW.cells (X.2.2.1))]⟩,⟨true,91,1,.gen [[.sl 1 (.ints .u64 X.2.2.2) false]]⟩])
theorem Qy2:bj pG Z20:=Nb<|ES drawn mQ (.cons Qtw (.cons Qpv (.cons Qo7 (.nil)))) Tryz.func81 Tryz.call81 (λa r=>P1 (av.of (aC a 0)) (iI .ab a 1) (eg .u64 a 2) (sJ .ae (oe r 0 0)) (av.of (r.getD 1 default).cs) (jW.of (r.getD 2 default).cs) (nI .u64 (oe r 3 0))) [.sl (.ax .ae) false,.sl (.ints .u32) false,.sl (.ints .u64) false] Qtv 3 (λ_ _ _=>by kernel_rfl) (λ_ _=>rfl) (λ_ _ h=>h)
def Qlu(m:av)(script:List ep)(l:List fx)(z:(Int)×(List Int)):Nat:=(l.length-z.1).toNat
def P3(m:av)(script:List ep)(l:List fx):Tree (jW×Int):=
.lp inferInstance (Qlu m script l (0,[])+1) ((nR RK.ab 4 script/\rZ/\rZ/\rZ/\rZ/\nR RK.ae 2 l/\rE ((l.length:Int):Int)/\rE (0:Int)/\True)/\(mE m (((ak.Nil (ak.ints u32 m.Mem)\/rE (1:Nat))/\rE m.Mem)) True)/\(nR RK.ae 2 l/\True)/\(rE (false:Bool)/\rE (0:Int)/\rE (0:Int)/\True)/\(True/\True)/\rE ([]:List Int)/\True) (0,[]) λ(v0:Int×List Int)=>.br (decide (v0.1<(l.length:Int))) (.cn (bT 2 2&&bJ 0 2&&decide (0<=v0.1/\v0.1<(l.length:Int))) (.cn (decide (8*(v0.2.length+1)<=140737488355328)) (.nx ((nR RK.ab 4 script/\rZ/\rZ/\rZ/\rZ/\nR RK.ae 2 l/\rE ((l.length:Int):Int)/\rE ((wrap i64 (v0.1+1)):Int)/\True)/\(mE m (((ak.Nil (ak.ints u32 m.Mem)\/rE (1:Nat))/\rE m.Mem)) True)/\(nR RK.ae 2 l/\True)/\(rE (false:Bool)/\rE (0:Int)/\rE (0:Int)/\True)/\(True/\True)/\rE ((v0.2++[(l.getD v0.1.toNat (RK.cw RK.ae)).At]):List Int)/\True) (Sum.inl (wrap i64 (v0.1+1),v0.2++[(l.getD v0.1.toNat (RK.cw RK.ae)).At]))))) (.an (Qhw m script v0.2) (.lv (Quj m script v0.2) λ(x0:Int)=>.br (x0 !=0) (.lf (Sum.inr ({Good:=false,D8:=0,At:=0},x0))) (.an (Qjz m script v0.2 l m {Good:=true,D8:=0,At:=0} v0.2) (.lv (Qt4 m script v0.2 l m {Good:=true,D8:=0,At:=0} v0.2) λ(x1:List fx×av×jW×List Int)=>.lf (Sum.inr (x1.2.2.1,0))))))
def Qnj m script l:=(P3 m script l).m
abbrev Qd3 m script l:=(P3 m script l).p
def Z7r:bn:={
 α:=(Int)×(List Int)
 F:=λst a=>([(1,(lk st 1)),(3,.ptr 0 0 0),(5,.ptr 1 0 0),(6,.ptr 2 0 0),(8,.ptr 3 0 0),(13,(lk st 13)),(14,(lk st 14)),(15,.int i64 a.1)],[⟨true,42,49,.gen [mB (cT st 3)]⟩,⟨true,87,1,.gen [[(cT st 5 0)]]⟩,⟨true,95,3,.gen [[(cT st 6 0),(cT st 6 1),(cT st 6 2)]]⟩,⟨true,91,1,.gen [[.all 4]]⟩,⟨false,40,1,.ints u64 a.2⟩])
 a0:=λst=>((lk st 15).toInt,(mG st.rows (kP (cT st 8 0) 1000000)))
 iL:=λst=>[]++[(rX st 3 0),(rX st 5 1),(rX st 6 2),(rX st 8 3),(kP (cT st 8 0) (st.rows.length+4))]}
def Z2n:List (Nat×bn):=[(3,Z7r)]
def Zck:bf:=mT 41 [] true [.agg av.sig,.one (.ax .ab),.one (.ax .ae)] [] (λa r=>P3 (av.of (aC a 0)) (iI .ab a 1) (iI .ae a 2)) (λX=>.dt [.agg (jW.cells (X.1)),.int .i64 (X.2)]) (λX=>[])
theorem Qtn:bj pG Zck:=oT (.cons Qtd (.cons Qo7 (.cons Qy2 (.nil)))) Tryz.func41 Tryz.call41 [] Z2n 3
end
noncomputable section
def strconv_Itoa(i:Int):(List UInt8):=
Lib.decDigits i.toNat
def HC(i:Int):Prop:=
0<=i/\i<=9223372036854775807
def Qm8(i:Int):List D:=[.int .i64 i]
def Qm(i:Int):List Row:=[]
def Qg0(X:List UInt8):D:=.str X
def Qg2(X:List UInt8):List Row:=[]
def Qo9:List PT:=[.one (.int .i64)]
def Ql0:List RT:=[]
def Z2(args:List D)(rows:List Row):(List UInt8):=strconv_Itoa (ar args 0)
def Z1p(args:List D)(rows:List Row):Prop:=HC (ar args 0)
def Z9d:bf:=mP 147 [] true Qo9 Ql0 Z1p Z2 Qg0 Qg2
theorem Qv2(i:Int)(hw:HC i):kr pG 147 (Qm8 i) (Qm i) (Qg0 (strconv_Itoa i)) (Qg2 (strconv_Itoa i)):=by
 exact xaj Tryz.strconv_Itoa (by kernel_rfl) Zqr hw.1 hw.2
set_option maxRecDepth 100000 in
theorem Qzi(args:List D)(rows:List Row):mw Qo9 args 0=Qm8 (ar args 0):=by kernel_rfl
set_option maxRecDepth 100000 in
theorem Qvx(args:List D)(rows:List Row):lH Ql0 rows 0=Qm (ar args 0):=by kernel_rfl
set_option maxRecDepth 100000 in
theorem Z5v(X:List UInt8):(wA (Qg0 X)&&jO (Qg2 X))=true:=by kernel_rfl
theorem Qq3:bj pG Z9d:=Nc Tryz.call147 (λargs rows hp=>by rw[Qzi args rows,Qvx args rows];exact Qv2 (ar args 0) hp) (λ_ X=>Z5v X)
def Qop(a b:bm)(z:(Int)):Nat:=(16-z).toNat
def Qoo(a b:bm)(z:(Int)):Nat:=(8-z).toNat
def P8(a b:bm):Tree (List UInt8):=
.lp inferInstance (Qop a b 0+1) ((rZ/\rZ/\rE (0:Int)/\True)/\(rE a.X.a0/\rE a.X.a1/\rE a.X.a2/\rE a.X.a3/\rE a.X.a4/\rE a.X.a5/\rE a.X.a6/\rE a.X.a7/\rE a.X.a8/\rE a.X.a9/\rE a.X.kv/\rE a.X.ky/\rE a.X.a12/\rE a.X.kz/\rE a.X.kA/\rE a.X.kB/\rE a.Pc/\rE a.B3.a0/\rE a.B3.a1/\rE a.B3.a2/\rE a.B3.a3/\rE a.B3.a4/\rE a.B3.a5/\rE a.B3.a6/\rE a.B3.a7/\True)/\(rE b.X.a0/\rE b.X.a1/\rE b.X.a2/\rE b.X.a3/\rE b.X.a4/\rE b.X.a5/\rE b.X.a6/\rE b.X.a7/\rE b.X.a8/\rE b.X.a9/\rE b.X.kv/\rE b.X.ky/\rE b.X.a12/\rE b.X.kz/\rE b.X.kA/\rE b.X.kB/\rE b.Pc/\rE b.B3.a0/\rE b.B3.a1/\rE b.B3.a2/\rE b.B3.a3/\rE b.B3.a4/\rE b.B3.a5/\rE b.B3.a6/\rE b.B3.a7/\True)/\True) 0 λ(v0:Int)=>.br (decide (v0<16)) (let E1:=bJ 0 1&&decide (0<=v0/\v0<(↑16:Int));.cn E1 (.cn E1 (.br (aK (gn.l a.X) v0.toNat 0 !=aK (gn.l b.X) v0.toNat 0) (.an (HC v0) (.lv (strconv_Itoa v0) λ(x0:List UInt8)=>.cn (decide (2+x0.length<=maxLen)) (.lf (Sum.inr ((120:UInt8)::([(32:UInt8)]++x0)))))) (.nx ((rZ/\rZ/\rE ((wrap i64 (v0+1)):Int)/\True)/\(rE a.X.a0/\rE a.X.a1/\rE a.X.a2/\rE a.X.a3/\rE a.X.a4/\rE a.X.a5/\rE a.X.a6/\rE a.X.a7/\rE a.X.a8/\rE a.X.a9/\rE a.X.kv/\rE a.X.ky/\rE a.X.a12/\rE a.X.kz/\rE a.X.kA/\rE a.X.kB/\rE a.Pc/\rE a.B3.a0/\rE a.B3.a1/\rE a.B3.a2/\rE a.B3.a3/\rE a.B3.a4/\rE a.B3.a5/\rE a.B3.a6/\rE a.B3.a7/\True)/\(rE b.X.a0/\rE b.X.a1/\rE b.X.a2/\rE b.X.a3/\rE b.X.a4/\rE b.X.a5/\rE b.X.a6/\rE b.X.a7/\rE b.X.a8/\rE b.X.a9/\rE b.X.kv/\rE b.X.ky/\rE b.X.a12/\rE b.X.kz/\rE b.X.kA/\rE b.X.kB/\rE b.Pc/\rE b.B3.a0/\rE b.B3.a1/\rE b.B3.a2/\rE b.B3.a3/\rE b.B3.a4/\rE b.B3.a5/\rE b.B3.a6/\rE b.B3.a7/\True)/\True) (Sum.inl (wrap i64 (v0+1))))))) (.br (a.Pc !=b.Pc) (.lf (Sum.inr [(112:UInt8),99])) (.lp inferInstance (Qoo a b 0+1) ((rZ/\rZ/\rE (0:Int)/\True)/\(rE a.X.a0/\rE a.X.a1/\rE a.X.a2/\rE a.X.a3/\rE a.X.a4/\rE a.X.a5/\rE a.X.a6/\rE a.X.a7/\rE a.X.a8/\rE a.X.a9/\rE a.X.kv/\rE a.X.ky/\rE a.X.a12/\rE a.X.kz/\rE a.X.kA/\rE a.X.kB/\rE a.Pc/\rE a.B3.a0/\rE a.B3.a1/\rE a.B3.a2/\rE a.B3.a3/\rE a.B3.a4/\rE a.B3.a5/\rE a.B3.a6/\rE a.B3.a7/\True)/\(rE b.X.a0/\rE b.X.a1/\rE b.X.a2/\rE b.X.a3/\rE b.X.a4/\rE b.X.a5/\rE b.X.a6/\rE b.X.a7/\rE b.X.a8/\rE b.X.a9/\rE b.X.kv/\rE b.X.ky/\rE b.X.a12/\rE b.X.kz/\rE b.X.kA/\rE b.X.kB/\rE b.Pc/\rE b.B3.a0/\rE b.B3.a1/\rE b.B3.a2/\rE b.B3.a3/\rE b.B3.a4/\rE b.B3.a5/\rE b.B3.a6/\rE b.B3.a7/\True)/\True) 0 λ(v1:Int)=>.br (decide (v1<8)) (let E2:=bJ 0 1&&decide (0<=v1/\v1<(↑8:Int));.cn E2 (.cn E2 (.br (aK (A8.l a.B3) v1.toNat 0 !=aK (A8.l b.B3) v1.toNat 0) (.an (HC v1) (.lv (strconv_Itoa v1) λ(x1:List UInt8)=>.cn (decide (4+x1.length<=maxLen)) (.lf (Sum.inr (Sum.inr ((99:UInt8)::([(115:UInt8),114,32]++x1))))))) (.nx ((rZ/\rZ/\rE ((wrap i64 (v1+1)):Int)/\True)/\(rE a.X.a0/\rE a.X.a1/\rE a.X.a2/\rE a.X.a3/\rE a.X.a4/\rE a.X.a5/\rE a.X.a6/\rE a.X.a7/\rE a.X.a8/\rE a.X.a9/\rE a.X.kv/\rE a.X.ky/\rE a.X.a12/\rE a.X.kz/\rE a.X.kA/\rE a.X.kB/\rE a.Pc/\rE a.B3.a0/\rE a.B3.a1/\rE a.B3.a2/\rE a.B3.a3/\rE a.B3.a4/\rE a.B3.a5/\rE a.B3.a6/\rE a.B3.a7/\True)/\(rE b.X.a0/\rE b.X.a1/\rE b.X.a2/\rE b.X.a3/\rE b.X.a4/\rE b.X.a5/\rE b.X.a6/\rE b.X.a7/\rE b.X.a8/\rE b.X.a9/\rE b.X.kv/\rE b.X.ky/\rE b.X.a12/\rE b.X.kz/\rE b.X.kA/\rE b.X.kB/\rE b.Pc/\rE b.B3.a0/\rE b.B3.a1/\rE b.B3.a2/\rE b.B3.a3/\rE b.B3.a4/\rE b.B3.a5/\rE b.B3.a6/\rE b.B3.a7/\True)/\True) (Sum.inl (wrap i64 (v1+1))))))) (.lf (Sum.inr (Sum.inr [])))))
def Qoj a b:=(P8 a b).m
abbrev Qak a b:=(P8 a b).p
def Qui:bn:={
 α:=(Int)
 F:=λst a=>([(2,.ptr 0 0 0),(3,.ptr 1 0 0),(7,.int i64 a)],[⟨true,28,25,.gen [[(cT st 2 0),(cT st 2 1),(cT st 2 2),(cT st 2 3),(cT st 2 4),(cT st 2 5),(cT st 2 6),(cT st 2 7),(cT st 2 8),(cT st 2 9),(cT st 2 10),(cT st 2 11),(cT st 2 12),(cT st 2 13),(cT st 2 14),(cT st 2 15),(cT st 2 16),(cT st 2 17),(cT st 2 18),(cT st 2 19),(cT st 2 20),(cT st 2 21),(cT st 2 22),(cT st 2 23),(cT st 2 24)]]⟩,⟨true,28,25,.gen [[(cT st 3 0),(cT st 3 1),(cT st 3 2),(cT st 3 3),(cT st 3 4),(cT st 3 5),(cT st 3 6),(cT st 3 7),(cT st 3 8),(cT st 3 9),(cT st 3 10),(cT st 3 11),(cT st 3 12),(cT st 3 13),(cT st 3 14),(cT st 3 15),(cT st 3 16),(cT st 3 17),(cT st 3 18),(cT st 3 19),(cT st 3 20),(cT st 3 21),(cT st 3 22),(cT st 3 23),(cT st 3 24)]]⟩])
 a0:=λst=>(lk st 7).toInt
 iL:=λst=>[]++[(rX st 2 0),(rX st 3 1)]}
def Qub:bn:={
 α:=(Int)
 F:=λst a=>([(2,.ptr 0 0 0),(3,.ptr 1 0 0),(28,.int i64 a)],[⟨true,28,25,.gen [[(cT st 2 0),(cT st 2 1),(cT st 2 2),(cT st 2 3),(cT st 2 4),(cT st 2 5),(cT st 2 6),(cT st 2 7),(cT st 2 8),(cT st 2 9),(cT st 2 10),(cT st 2 11),(cT st 2 12),(cT st 2 13),(cT st 2 14),(cT st 2 15),(cT st 2 16),(cT st 2 17),(cT st 2 18),(cT st 2 19),(cT st 2 20),(cT st 2 21),(cT st 2 22),(cT st 2 23),(cT st 2 24)]]⟩,⟨true,28,25,.gen [[(cT st 3 0),(cT st 3 1),(cT st 3 2),(cT st 3 3),(cT st 3 4),(cT st 3 5),(cT st 3 6),(cT st 3 7),(cT st 3 8),(cT st 3 9),(cT st 3 10),(cT st 3 11),(cT st 3 12),(cT st 3 13),(cT st 3 14),(cT st 3 15),(cT st 3 16),(cT st 3 17),(cT st 3 18),(cT st 3 19),(cT st 3 20),(cT st 3 21),(cT st 3 22),(cT st 3 23),(cT st 3 24)]]⟩])
 a0:=λst=>(lk st 28).toInt
 iL:=λst=>[]++[(rX st 2 0),(rX st 3 1)]}
def Qpr:List (Nat×bn):=[(2,Qui),(10,Qub)]
def Qvn:bf:=mT 90 [] true [.agg bm.sig,.agg bm.sig] [] (λa r=>P8 (bm.of (aC a 0)) (bm.of (aC a 1))) (λX=>.str X) (λX=>[])
theorem Qul:bj pG Qvn:=oT (.cons Qq3 (.nil)) Tryz.func90 Tryz.call90 [] Qpr 3
def Qos(a b:List Int)(z:(Int)):Nat:=(a.length-z).toNat
def P9(a b:List Int):Tree (List UInt8):=
.br ((a.length:Int) !=(b.length:Int)) (.lf ([(109:UInt8),101,109])) (.lp inferInstance (Qos a b 0+1) ((((ak.Nil (ak.ints u32 a)\/rE (1:Nat))/\rE (a:List Int))/\((ak.Nil (ak.ints u32 b)\/rE (1:Nat))/\rE (b:List Int))/\rE ((a.length:Int):Int)/\rE (0:Int)/\True)/\True) 0 λ(v0:Int)=>.br (decide (v0<(a.length:Int))) (.cn (bT 1 1&&bJ 0 1&&decide (0<=v0/\v0<(a.length:Int))) (.cn (bT 1 1&&bJ 0 1&&decide (0<=v0/\v0<(b.length:Int))) (.br (a.getD v0.toNat 0 !=b.getD v0.toNat 0) (.an (HC v0) (.lv (strconv_Itoa v0) λ(x0:List UInt8)=>.cn (decide (4+x0.length<=maxLen)) (.lf (Sum.inr ((109:UInt8)::([(101:UInt8),109,32]++x0)))))) (.nx ((((ak.Nil (ak.ints u32 a)\/rE (1:Nat))/\rE (a:List Int))/\((ak.Nil (ak.ints u32 b)\/rE (1:Nat))/\rE (b:List Int))/\rE ((a.length:Int):Int)/\rE ((wrap i64 (v0+1)):Int)/\True)/\True) (Sum.inl (wrap i64 (v0+1))))))) (.lf (Sum.inr [])))
def Qoh a b:=(P9 a b).m
abbrev Qal a b:=(P9 a b).p
def Qtr:bn:={
 α:=(Int)
 F:=λst a=>([(0,(lk st 0)),(1,(lk st 1)),(12,(lk st 12)),(13,.int i64 a)],[])
 a0:=λst=>(lk st 13).toInt
 iL:=λst=>[]++[]}
def Qr:List (Nat×bn):=[(4,Qtr)]
def Qwm:bf:=mT 91 [] true [.one (.ints .u32),.one (.ints .u32)] [] (λa r=>P9 (eg .u32 a 0) (eg .u32 a 1)) (λX=>.str X) (λX=>[])
theorem Qup:bj pG Qwm:=oT (.cons Qq3 (.nil)) Tryz.func91 Tryz.call91 [] Qr 3
def QB(a b:av):Tree (List UInt8):=
.an (Qak a.B0 b.B0) (.lv (Qoj a.B0 b.B0) λ(x0:List UInt8)=>.br (!decide (x0=[])) (.lf x0) (.an (Qal a.Mem b.Mem) (.lv (Qoh a.Mem b.Mem) λ(x1:List UInt8)=>.br (!decide (x1=[])) (.lf x1) (.br (!eqs [D.str a.A3.C9] [D.str b.A3.C9]) (.lf ([(99:UInt8),111,110,115,111,108,101])) (.br (!eqs [D.bool a.A9.D3,D.int u32 a.A9.C3,D.bool a.A9.D2] [D.bool b.A9.D3,D.int u32 b.A9.C3,D.bool b.A9.D2]) (.lf ([(116:UInt8),105,109,101,114])) (.br (!eqs [D.int u32 a.A7.ag,D.int u32 a.A7.C2,D.int u32 a.A7.Frame,D.int i64 a.A7.B8,D.int i64 a.A7.D5,D.int u32 a.A7.B6,D.int u32 a.A7.B2,D.str a.A7.B7] [D.int u32 b.A7.ag,D.int u32 b.A7.C2,D.int u32 b.A7.Frame,D.int i64 b.A7.B8,D.int i64 b.A7.D5,D.int u32 b.A7.B6,D.int u32 b.A7.B2,D.str b.A7.B7]) (.lf ([(100:UInt8),105,115,107])) (.br (!eqs [D.int u32 a.C1.Frame,D.int u32 a.C1.D9,D.bool a.C1.C5,D.int u32 a.C1.B9,D.bool a.C1.B5,D.int u32 a.C1.F0] [D.int u32 b.C1.Frame,D.int u32 b.C1.D9,D.bool b.C1.C5,D.int u32 b.C1.B9,D.bool b.C1.B5,D.int u32 b.C1.F0]) (.lf ([(110:UInt8),105,99])) (.br (!eqs [D.int u32 a.A2.C7,D.int u32 a.A2.C4] [D.int u32 b.A2.C7,D.int u32 b.A2.C4]) (.lf ([(98:UInt8),97,108,108,111,111,110])) (.br (a.A1 !=b.A1) (.lf ([(99:UInt8),111,117,110,116])) (.br (!a.A4==b.A4) (.lf ([(119:UInt8),97,105,116,105,110,103])) (.br (!a.A6==b.A6) (.lf ([(104:UInt8),97,108,116,101,100])) (.lf ([])))))))))))))
def UP a b:=(QB a b).m
abbrev QA a b:=(QB a b).p
def Z76:bf:=mT 43 [] true [.agg av.sig,.agg av.sig] [] (λa r=>QB (av.of (aC a 0)) (av.of (aC a 1))) (λX=>.str X) (λX=>[])
theorem Z1e:bj pG Z76:=oT (.cons Qul (.cons Qup (.nil))) Tryz.func43 Tryz.call43 [] [] 2
def QD:Tree Bool:=
.an (Y1 2 [0]) (.lv (FV 2 [0]) λ(x0:av)=>.an (Qji x0 [] [1,3]) (.lv (Qu4 x0 [] [1,3]) λ(x1:List fx×Int)=>.br (x1.2 !=0) (.lf false) (.br ((x1.1.length:Int) !=(2:Int)) (.lf false) (.an (Qd3 x0 [] x1.1) (.lv (Qnj x0 [] x1.1) λ(x2:jW×Int)=>let E3:=bT 2 2&&bJ 0 2&&decide ((0:Int)<=(1:Int)/\1<(x1.1.length:Int));.cn E3 (.cn E3 (let E2:=x1.1.getD (dF 1) (RK.cw RK.ae);.an (Qd3 x0 [] (List.set x1.1 (dF 1) {At:=E2.At,D4:=wrap u64 (E2.D4+1)})) (.lv (Qnj x0 [] (List.set x1.1 (dF 1) {At:=E2.At,D4:=wrap u64 (E2.D4+1)})) λ(x3:jW×Int)=>.br (x2.2==0) (.br x2.1.Good (.br (x3.2==0) (.br (!x3.1.Good) (.br (x3.1.D8==1) (.br (x3.1.At==1) (let E1:=({B0:={X:={a0:=x0.B0.X.a0,a1:=x0.B0.X.a1,a2:=x0.B0.X.a2,a3:=x0.B0.X.a3,a4:=x0.B0.X.a4,a5:=7,a6:=x0.B0.X.a6,a7:=x0.B0.X.a7,a8:=x0.B0.X.a8,a9:=x0.B0.X.a9,kv:=x0.B0.X.kv,ky:=x0.B0.X.ky,a12:=x0.B0.X.a12,kz:=x0.B0.X.kz,kA:=x0.B0.X.kA,kB:=x0.B0.X.kB},Pc:=x0.B0.Pc,B3:=x0.B0.B3},Mem:=x0.Mem,A3:=x0.A3,A9:=x0.A9,A7:=x0.A7,C1:=x0.C1,A2:=x0.A2,A1:=x0.A1,A4:=x0.A4,A6:=x0.A6}:av);.an (QA x0 E1) (.lv (UP x0 E1) λ(x4:List UInt8)=>.br (decide (x4=[(120:UInt8),32,53])) (.an (QA x0 x0) (.lv (UP x0 x0) λ(x5:List UInt8)=>.lf (decide (x5=[])))) (.lf false))) (.lf false)) (.lf false)) (.lf false)) (.lf false)) (.lf false)) (.lf false)))))))))
def JT:Bool:=(QD).m
abbrev MH:Prop:=(QD).p
def Zg2:bf:=mT 35 [] true [] [] (λa r=>QD) (λX=>.bool X) (λX=>[])
theorem Z8n:bj pG Zg2:=oT (.cons Qpx (.cons Qsr (.cons Qtn (.cons Z1e (.nil))))) Tryz.func35 Tryz.call35 [] [] 2
end
noncomputable section
def UQ(kind:Int)(prog events l:List Int):Tree Bool:=
.br (decide ((prog.length:Int)>(60:Int))) (.an MH (.lv JT λ(x0:Bool)=>.lf x0)) (.br (decide ((events.length:Int)>(20:Int))) (.an MH (.lv JT λ(x1:Bool)=>.lf x1)) (.br (decide ((l.length:Int)>(10:Int))) (.an MH (.lv JT λ(x2:Bool)=>.lf x2)) (.an (Qkg kind prog events) (.lv (Qss kind prog events) λ(x3:av×List ep)=>.an (Qbk x3.1 l) (.lv (QF x3.1 l) λ(x4:List Int)=>.an (Qji x3.1 x3.2 x4) (.lv (Qu4 x3.1 x3.2 x4) λ(x5:List fx×Int)=>.an (Qbk x3.1 l) (.lv (QF x3.1 l) λ(x6:List Int)=>.an (Qlq x3.1 x3.2 x6) (.lv (Qw4 x3.1 x3.2 x6) λ(x7:List fx×Int)=>.br (x5.2 !=x7.2) (.lf false) (.an (Qtj x5.1 x7.1) (.lv (Zbx x5.1 x7.1) λ(x8:Bool)=>.br (!x8) (.lf false) (.br (x5.2 !=0) (.an MH (.lv JT λ(x9:Bool)=>.lf x9)) (.an (Qd3 x3.1 x3.2 x5.1) (.lv (Qnj x3.1 x3.2 x5.1) λ(jc:jW×Int)=>.br (jc.2==0) (.br jc.1.Good (.br (jc.1.D8==0) (.br (jc.1.At==0) (.an MH (.lv JT λ(jM:Bool)=>.lf jM)) (.lf false)) (.lf false)) (.lf false)) (.lf false))))))))))))))
def Qdc kind prog events l:=(UQ kind prog events l).m
abbrev Qdm kind prog events l:=(UQ kind prog events l).p
def Qsj:bf:=mT 6 [] true [.one (.int .i64),.one (.ints .i64),.one (.ints .i64),.one (.ints .i64)] [] (λa r=>UQ (ar a 0) (eg .i64 a 1) (eg .i64 a 2) (eg .i64 a 3)) (λX=>.bool X) (λX=>[])
theorem Qqr:bj pG Qsj:=oT (.cons Z8n (.cons Qy8 (.cons Qsr (.cons Qvj (.cons Z2h (.cons Zep (.cons Qtn (.nil)))))))) Tryz.func6 Tryz.call6 [] [] 2
